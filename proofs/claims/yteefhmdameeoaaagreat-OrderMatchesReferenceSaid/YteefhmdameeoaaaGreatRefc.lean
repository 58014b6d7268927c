/-
  Contracts of the reference's integers, on lists of words: guess, lessen, restore.
-/
import Derived.Test.YteefhmdameeoaaaGreatRefb
import Derived.Test.YteefhmdameeoaaaGreatP2
set_option linter.unusedSimpArgs false
set_option linter.unusedVariables false
namespace Go.Proofs.YteefhmdameeoaaaGreat
open Go.RowKit

theorem Win.ext {w w' : World} {b : Nat} {pre x post : List Nat} (h : Win w b pre x post) (he : Ext w w') : Win w' b pre x post := Blk.ext h he
theorem Only.ext {b : Nat} {w w1 w2 : World} (h : Only b w w1) (he : Ext w1 w2) : Only b w w2 := ⟨he.os.trans h.os, he.tape.trans h.tape, he.output.trans h.output, Nat.le_trans h.size he.size, fun k hk hne => (he.block (Nat.lt_of_lt_of_le hk h.size)).trans (h.block k hk hne)⟩
/-- What guess returns: the digit, or one more. -/
def RetGuess (w : World) (u v : List Nat) (e : Ending) (w' : World) : Prop := ∃ q : Nat, e = .returned (.int .u64 q) ∧ q < BB ∧ val u / val v ≤ q ∧ q * val v < val u + val v ∧ Ext w w'
def GsLoop (w : World) (V1 U0 U1 : Nat) (u v : List Nat) (q r : Value) (wx : World) : Prop :=
  ∃ qn rn : Nat, q = .int .u64 qn ∧ r = .int .u64 rn ∧ rn < 4294967296 ∧ qn ≤ 8589934592 ∧ Hid (qn * V1 + rn = U1 + BB * U0 ∧ val u / val v ≤ qn) ∧ Hid (Ext w wx)
set_option maxRecDepth 1000000 in
set_option maxHeartbeats 2000000 in
theorem Rguess_any (b bv ov n cu cv : Nat) (pre post u v : List Nat) (w : World) (hW : Win w b pre u post) (hu : u.length = n + 1) (hv : v.length = n) (hn2 : 2 ≤ n) (hn : n ≤ 4398046511104) (su : Small u) (sv : Small v)
    (hvc : ∀ i, i < n → w.cell? ⟨bv, ov + i, none⟩ = some (.int .u32 (v.getD i 0 : Nat))) (hcu : n + 1 ≤ cu) (hcv : n ≤ cv) (htop : 2147483648 ≤ v.getD (n - 1) 0) (hlt : val u < BB * val v) :
    Calls Tryz.prog 132 #[.slice (some ⟨b, pre.length, none⟩) (n + 1) cu, .slice (some ⟨bv, ov, none⟩) n cv] w (RetGuess w u v) := by
  obtain ⟨m, rfl⟩ : ∃ m, n = m + 2 := ⟨n - 2, by omega⟩
  have hK := hide (KN.of hu hv su sv (by show 0 < v.getD (m + 1) 0; have : v.getD (m + 2 - 1) 0 = v.getD (m + 1) 0 := rfl; omega) hlt)
  have hc0 := hW.cell (k := m + 2) (by omega)
  have hc1 := hW.cell (k := m + 1) (by omega)
  have hc2 := hW.cell (k := m) (by omega)
  have hd1 := hvc (m + 1) (by omega)
  have hd2 := hvc m (by omega)
  have hu0 := small_getD su (m + 2)
  have hu1 := small_getD su (m + 1)
  have hu2 := small_getD su m
  have hv1 := small_getD sv (m + 1)
  have hv2 := small_getD sv m
  have htop' : 2147483648 ≤ v.getD (m + 1) 0 := htop
  generalize hU0 : u.getD (m + 2) 0 = U0 at *
  generalize hU1 : u.getD (m + 1) 0 = U1 at *
  generalize hU2 : u.getD m 0 = U2 at *
  generalize hV1 : v.getD (m + 1) 0 = V1 at *
  generalize hV2 : v.getD m 0 = V2 at *
  replace hU0 := hide hU0
  replace hU1 := hide hU1
  replace hU2 := hide hU2
  replace hV1 := hide hV1
  replace hV2 := hide hV2
  unfold BB at hu0 hu1 hu2 hv1 hv2
  replace hW := hide hW
  replace hu := hide hu
  replace hv := hide hv
  replace su := hide su
  replace sv := hide sv
  replace hvc := hide hvc
  replace hlt := hide hlt
  clear htop
  generalize hP : pre.length = P at *
  replace hP := hide hP
  have hm : m ≤ 4398046511102 := by omega
  clear hn hn2
  go_enter Tryz.func132, Tryz.ntmps132
  go_wp2
  go_quiet (fail)
  have hT : Hid (((U0 : Int) * 4294967296 + U1) / V1 = ((U1 + BB * U0) / V1 : Nat) ∧ ((U0 : Int) * 4294967296 + U1) % V1 = ((U1 + BB * U0) % V1 : Nat)) := by
    have e : (U0 : Int) * 4294967296 + U1 = ((U1 + BB * U0 : Nat) : Int) := by rw [BB_eq]; omega
    rw [e]
    exact ⟨(Int.natCast_ediv _ _).symm, (Int.natCast_emod _ _).symm⟩
  go_upto_block 0 with (fail)
  rw [hT.out.1, hT.out.2]
  go_cut [7, 8] (fun q r wx => ∃ qn : Nat, q = .int .u64 qn ∧ qn < 4294967296 ∧ Hid (val u / val v ≤ qn ∧ qn * val v < val u + val v) ∧ Hid (Ext w wx))
  case first =>
    go_wp2
    go_loopw [7, 8] (fun q r wx => GsLoop w V1 U0 U1 u v q r wx) (fun q _ _ => (intOf q).toNat)
    case atStart =>
      have hpos : 0 < V1 := by omega
      refine ⟨_, _, rfl, rfl, ?_, ?_, ⟨?_, ?_⟩, ?_⟩
      · have := Nat.mod_lt (U1 + BB * U0) hpos; omega
      · refine Nat.le_of_lt (Nat.div_lt_of_lt_mul ?_)
        have : 2147483648 * 8589934592 ≤ V1 * 8589934592 := Nat.mul_le_mul_right _ htop'
        rw [BB_eq]; omega
      · rw [Nat.mul_comm]; exact Nat.div_add_mod _ _
      · exact hK.out.start
      · exact (Ext.refl _).drewN _
    case round =>
      obtain ⟨q, r, rfl, rfl, hr, hq, hR, hM⟩ := hrel
      have g2 := hM.out.cellv hc2
      have g1 : wr.cell? ⟨bv, ov + (m + 1), none⟩ = some (.int .u32 (V1 : Nat)) := hM.out.cellv hd1
      have g3 : wr.cell? ⟨bv, ov + m, none⟩ = some (.int .u32 (V2 : Nat)) := hM.out.cellv hd2
      clear hc0 hc1 hc2 hd1 hd2
      have hdown := hide (fun ht => hK.out.down hR.out.1 hR.out.2 (q := q) (r := r) ht)
      have hdone : Hid (∀ q' r', q' * V1 + r' = U1 + BB * U0 → val u / val v ≤ q' → q' < BB → q' * V2 ≤ r' * BB + U2 → val u / val v ≤ q' ∧ q' * val v < val u + val v) := fun q' r' h1 h2 h3 h4 => ⟨h2, hK.out.after h1 h3 h4⟩
      have hgreat : Hid (∀ q' r', q' * V1 + r' = U1 + BB * U0 → BB ≤ r' → q' < BB ∧ q' * V2 ≤ r' * BB + U2) := fun q' r' h1 h2 => hK.out.great h1 h2
      by_cases hqB : 4294967296 ≤ q
      · have hdec : decide ((4294967296 : Int) ≤ q) = true := by simp; omega
        replace hqB := hide hqB
        replace hq := hide hq
        have hd := hide (hdown.out (.inl (by rw [BB_eq]; exact hqB.out)))
        by_cases hrB : 4294967296 ≤ r + V1
        · have hrI : (4294967296 : Int) ≤ (r : Int) + V1 := by omega
          replace hrB := hide hrB
          go_wp2
          go_quiet (fail)
          have hq1 : (1 : Int) ≤ q := by have := hqB.out; omega
          have hq2 : (q : Int) ≤ 8589934592 := by have := hq.out; omega
          clear hdec
          go_wp2
          go_meet
          case rel =>
            have h1 := hgreat.out _ _ hd.out.2.2 (by rw [BB_eq]; exact hrB.out)
            exact ⟨q - 1, by go_num, by have := h1.1; rw [BB_eq] at this; exact this, hdone.out _ _ hd.out.2.2 hd.out.2.1 h1.1 h1.2, hM.out.drewN _⟩
        · have hrI : decide ((4294967296 : Int) ≤ (r : Int) + V1) = false := by simp; omega
          replace hrB := hide hrB
          go_wp2
          go_quiet (fail)
          have hq1 : (1 : Int) ≤ q := by have := hqB.out; omega
          have hq2 : (q : Int) ≤ 8589934592 := by have := hq.out; omega
          clear hdec
          go_wp2
          exact ⟨⟨q - 1, r + V1, by go_num, by go_num, by have := hrB.out; omega, by have := hq.out; omega, ⟨hd.out.2.2, hd.out.2.1⟩, hM.out.drewN _⟩, by simp [intOf]; omega⟩
      · have hdec : decide ((4294967296 : Int) ≤ q) = false := by simp; omega
        have hqI : q < 4294967296 := by omega
        replace hqB := hide hqB
        replace hq := hide hq
        have hp : (q : Int) * V2 ≤ 18446744065119617025 := by have := mul_bound hqI hv2; omega
        have hp0 : (0 : Int) ≤ (q : Int) * V2 := Int.mul_nonneg (by omega) (by omega)
        by_cases hT2 : r * 4294967296 + U2 < q * V2
        · have hTd : decide ((r : Int) * 4294967296 + U2 < (q : Int) * V2) = true := by simp; omega
          have hd := hide (hdown.out (.inr (by rw [BB_eq]; exact hT2)))
          replace hT2 := hide hT2
          have hq1 : (1 : Int) ≤ q := by have := hd.out.1; omega
          by_cases hrB : 4294967296 ≤ r + V1
          · have hrI : decide ((4294967296 : Int) ≤ (r : Int) + V1) = true := by simp; omega
            replace hrB := hide hrB
            go_wp2
            go_quiet (fail)
            clear hp hp0 hTd hdec
            go_wp2
            go_meet
            case rel =>
              have h1 := hgreat.out _ _ hd.out.2.2 (by rw [BB_eq]; exact hrB.out)
              exact ⟨q - 1, by go_num, by have := h1.1; rw [BB_eq] at this; exact this, hdone.out _ _ hd.out.2.2 hd.out.2.1 h1.1 h1.2, hM.out.drewN _⟩
          · have hrI : decide ((4294967296 : Int) ≤ (r : Int) + V1) = false := by simp; omega
            replace hrB := hide hrB
            go_wp2
            go_quiet (fail)
            clear hp hp0 hTd hdec
            go_wp2
            exact ⟨⟨q - 1, r + V1, by go_num, by go_num, by have := hrB.out; omega, by have := hq.out; omega, ⟨hd.out.2.2, hd.out.2.1⟩, hM.out.drewN _⟩, by simp [intOf]; omega⟩
        · have hTd : decide ((r : Int) * 4294967296 + U2 < (q : Int) * V2) = false := by simp; omega
          replace hT2 := hide hT2
          go_wp2
          go_quiet (fail)
          go_wp2
          go_meet
          case rel => exact ⟨q, rfl, hqI, hdone.out _ _ hR.out.1 hR.out.2 (by rw [BB_eq]; exact hqI) (by have := hT2.out; rw [BB_eq]; omega), hM.out.drewN _⟩
  case rest =>
    obtain ⟨q, rfl, hq, hR, hM⟩ := hcut
    clear hc0 hc1 hc2 hd1 hd2
    go_wp2
    go_ret
    exact ⟨q, rfl, by rw [BB_eq]; exact hq, hR.out.1, hR.out.2, hM.out⟩

/-- The loop of lessen: q times v is taken away. -/
def LsRel (w wr : World) (b : Nat) (pre post u v x : List Nat) (n q k cy bw : Nat) : Prop :=
  x.length = n ∧ Small x ∧ Win wr b pre x post ∧ Only b w wr ∧ val (x.take k) + q * val (v.take k) = val (u.take k) + BB ^ k * (cy + bw) ∧ (∀ i, k ≤ i → x.getD i 0 = u.getD i 0) ∧ (v.length < k → cy = 0)
theorem LsRel.step {w wr : World} {b : Nat} {pre post u v x : List Nat} {n q k cy bw y z : Nat} (h : LsRel w wr b pre post u v x n q k cy bw) (hk : k < n) (hy : v.getD k 0 = y) (hz : x.getD k 0 = z) (hzB : z < BB) (hb : bw ≤ 1) (hcB : cy < BB) {e : Int}
    (he : e = (z + BB * (if z < (q * y + cy) % BB + bw then 1 else 0) - (q * y + cy) % BB - bw : Nat)) :
    LsRel w (wr.setCell ⟨b, pre.length + k, none⟩ (.int .u32 e)) b pre post u v (x.set k (z + BB * (if z < (q * y + cy) % BB + bw then 1 else 0) - (q * y + cy) % BB - bw)) n q (k + 1) ((q * y + cy) / BB) (if z < (q * y + cy) % BB + bw then 1 else 0) := by
  obtain ⟨h1, h2, h3, h4, h5, h6, h7⟩ := h
  have hm := Nat.mod_lt (q * y + cy) BB_pos
  have hub : z + BB * (if z < (q * y + cy) % BB + bw then 1 else 0) - (q * y + cy) % BB - bw < BB := by split <;> omega
  have hue : z + BB * (if z < (q * y + cy) % BB + bw then 1 else 0) - (q * y + cy) % BB - bw + ((q * y + cy) % BB + bw) = z + BB * (if z < (q * y + cy) % BB + bw then 1 else 0) := by split <;> omega
  generalize (if z < (q * y + cy) % BB + bw then 1 else 0 : Nat) = c1 at *
  generalize hX : z + BB * c1 - (q * y + cy) % BB - bw = X at *
  refine ⟨by simpa using h1, small_set h2 k hub, by rw [he]; exact h3.set (by omega) X, h4.set _ _, ?_, fun i hi => ?_, fun hl => ?_⟩
  · rw [take_val_any, take_set_lt, getD_set_self (by omega), take_val_any u, take_val_any v, hy, ← h6 k (Nat.le_refl _), hz]
    have e2 := Nat.mod_add_div (q * y + cy) BB
    have e3 : BB ^ (k + 1) * ((q * y + cy) / BB + c1) + BB ^ k * z = BB ^ k * X + q * (BB ^ k * y) + BB ^ k * (cy + bw) := by
      have e4 : BB * ((q * y + cy) / BB + c1) + z = X + q * y + (cy + bw) := by rw [Nat.mul_add]; omega
      rw [Nat.pow_succ, Nat.mul_assoc, ← Nat.mul_add, e4, Nat.mul_add, Nat.mul_add, Nat.mul_left_comm q]
    rw [Nat.mul_add q]
    omega
  · rw [← h6 i (by omega)]
    have : k ≠ i := by omega
    simp [List.getElem?_set_ne this]
  · have hy0 : y = 0 := by rw [← hy]; simp [show v.length ≤ k by omega]
    rw [hy0, Nat.mul_zero, Nat.zero_add]
    exact Nat.div_eq_of_lt hcB
theorem ls_num {q y c z d : Nat} (hz : z < 4294967296) (hd : d ≤ 1) :
    (4294967296 + (z : Int) - ((q : Int) * y + c) % 4294967296 - d) % 4294967296 = ((z + BB * (if z < (q * y + c) % BB + d then 1 else 0) - (q * y + c) % BB - d : Nat) : Int) ∧
    1 - (4294967296 + (z : Int) - ((q : Int) * y + c) % 4294967296 - d) / 4294967296 = ((if z < (q * y + c) % BB + d then 1 else 0 : Nat) : Int) ∧
    ((q : Int) * y + c) / 4294967296 = (((q * y + c) / BB : Nat) : Int) ∧ 0 ≤ 4294967296 + (z : Int) - ((q : Int) * y + c) % 4294967296 - d ∧ 4294967296 + (z : Int) - ((q : Int) * y + c) % 4294967296 - d ≤ 8589934591 := by
  have e : (q : Int) * y + c = ((q * y + c : Nat) : Int) := by simp [Int.natCast_add, Int.natCast_mul]
  have hm := Nat.mod_lt (q * y + c) BB_pos
  have e2 : ((q : Int) * y + c) % 4294967296 = (((q * y + c) % BB : Nat) : Int) := by rw [e, BB_eq, Int.natCast_emod]; rfl
  have e3 : ((q : Int) * y + c) / 4294967296 = (((q * y + c) / BB : Nat) : Int) := by rw [e, BB_eq, Int.natCast_ediv]; rfl
  rw [e2, e3]
  generalize (q * y + c) % BB = p at *
  rw [BB_eq] at hm ⊢
  refine ⟨?_, ?_, rfl, by omega, by omega⟩ <;> (split <;> omega)
/-- What lessen leaves. -/
def RetLess (w : World) (b : Nat) (pre post u v : List Nat) (q : Nat) (e : Ending) (w' : World) : Prop :=
  ∃ x : List Nat, e = .returned (.bool (decide (val u < q * val v))) ∧ x.length = u.length ∧ Small x ∧ Win w' b pre x post ∧ Only b w w' ∧ val x + q * val v = val u + BB ^ u.length * (if val u < q * val v then 1 else 0)
theorem LsRel.close {w wr : World} {b : Nat} {pre post u v x : List Nat} {n q cy bw : Nat} (h : LsRel w wr b pre post u v x n q n cy bw) (hu : u.length = n) (hv : v.length < n) (hb : bw ≤ 1) : bw = (if val u < q * val v then 1 else 0) ∧ val x + q * val v = val u + BB ^ n * (if val u < q * val v then 1 else 0) := by
  obtain ⟨h1, h2, h3, h4, h5, h6, h7⟩ := h
  rw [List.take_of_length_le (by omega), List.take_of_length_le (by omega), List.take_of_length_le (by omega), h7 hv, Nat.zero_add] at h5
  have hxl := val_lt h2
  rw [h1] at hxl
  have key : bw = (if val u < q * val v then 1 else 0) := by
    rcases Nat.eq_zero_or_pos bw with h0 | h0
    · subst h0; rw [if_neg (by omega)]
    · have : bw = 1 := by omega
      subst this; rw [if_pos (by omega)]
  exact ⟨key, by rw [← key]; exact h5⟩
set_option maxRecDepth 100000 in
set_option maxHeartbeats 1600000 in
theorem Rlessen_any (b n cu : Nat) (vv : Value) (pre post u v : List Nat) (q P : Nat) (w : World) (hP : pre.length = P) (hW : Win w b pre u post) (hu : u.length = n) (hv : v.length < n) (hn : n ≤ 4398046511105) (su : Small u) (sv : Small v)
    (hVo : ∀ wr, Only b w wr → Words wr vv v) (hcu : n ≤ cu) (hq : q < BB) :
    Calls Tryz.prog 133 #[.slice (some ⟨b, P, none⟩) n cu, vv, .int .u64 q] w (RetLess w b pre post u v q) := by
  replace hW := hide hW
  replace hu := hide hu
  replace su := hide su
  replace sv := hide sv
  replace hVo := hide hVo
  replace hP := hide hP
  replace hv := hide hv
  unfold BB at hq
  go_enter Tryz.func133, Tryz.ntmps133
  go_wp2
  go_loopw [7, 8, 9] (fun cy bw i wr => ∃ (k c d : Nat) (x : List Nat), k ≤ n ∧ i = .int .i64 k ∧ cy = .int .u64 c ∧ bw = .int .u64 d ∧ c < 4294967296 ∧ d ≤ 1 ∧ Hid (LsRel w wr b pre post u v x n q k c d)) (fun _ _ i _ => n - (intOf i).toNat)
  case atStart => exact ⟨0, 0, 0, u, Nat.zero_le _, rfl, rfl, rfl, by omega, by omega, hu.out, su.out, hW.out, Only.refl _ _, by simp [val], fun _ _ => rfl, fun h => by omega⟩
  case round =>
    obtain ⟨k, c, d, x, hk, rfl, rfl, rfl, hcB, hdB, hS⟩ := hrel
    by_cases hlt : k < n
    · have hdk : decide ((k : Int) < n) = true := by simpa using hlt
      have g2 : wr.cell? ⟨b, P + k, none⟩ = some (.int .u32 (x.getD k 0 : Nat)) := by
        have := hS.out.2.2.1.cell (k := k) (by rw [hS.out.1]; omega)
        rw [hP.out] at this
        exact this
      have g3 := hS.out.2.2.1.frozen (P + k)
      have hyB := small_getD sv.out k
      have hzB := small_getD hS.out.2.1 k
      generalize hy : v.getD k 0 = y at *
      generalize hz : x.getD k 0 = z at *
      replace hy := hide hy
      replace hz := hide hz
      unfold BB at hyB hzB
      have hp : (q : Int) * y ≤ 18446744065119617025 := by have := mul_bound hq hyB; omega
      have hp0 : (0 : Int) ≤ (q : Int) * y := Int.mul_nonneg (by omega) (by omega)
      have hnum := hide (ls_num (q := q) (y := y) (c := c) (z := z) (d := d) hzB hdB)
      have hcy : Hid ((q * y + c) / BB < 4294967296) := by
        have := mul_bound hq hyB
        show _ / BB < 4294967296
        rw [BB_eq]; omega
      have hst := hide (hS.out.step hlt hy.out hz.out (by rw [BB_eq]; exact hzB) hdB (cy := c) (by rw [BB_eq]; exact hcB) rfl)
      rw [hP.out] at hst
      go_wp2_with fail
      refine (Rword_x vv v k y _ (hVo.out _ hS.out.2.2.2.1) hy.out).mono ?_
      rintro e w1 ⟨rfl, rfl⟩
      clear hS
      obtain ⟨T, hT⟩ : ∃ T : Int, T = (q : Int) * y + c := ⟨_, rfl⟩
      have hT1 : T ≤ 18446744073709551615 := by omega
      have hT0 : 0 ≤ T := by omega
      rw [← hT] at hnum
      replace hT := hide hT
      have hN0 : 0 ≤ 4294967296 + (z : Int) - T % 4294967296 - d := hnum.out.2.2.2.1
      have hN1 : 4294967296 + (z : Int) - T % 4294967296 - d ≤ 8589934591 := hnum.out.2.2.2.2
      go_upto_region 7 with (fail)
      rw [← hT.out]
      clear hp hp0
      go_wp2
      rw [hnum.out.1, hnum.out.2.1, hnum.out.2.2.1]
      exact ⟨⟨k + 1, _, _, _, hlt, by simp, rfl, rfl, hcy.out, by split <;> omega, hst.out⟩, by simp [intOf]; omega⟩
    · obtain rfl : k = n := by omega
      have hdk : decide ((k : Int) < k) = false := by simp
      obtain ⟨h1, h2⟩ := hS.out.close hu.out hv.out hdB
      replace h1 := hide h1
      replace h2 := hide h2
      rcases (show d = 0 ∨ d = 1 by omega) with rfl | rfl
      · go_wp2
        go_ret
        have hnl : ¬ val u < q * val v := fun h => by have := h1.out; rw [if_pos h] at this; omega
        exact ⟨x, by simp [hnl], hS.out.1.trans hu.out.symm, hS.out.2.1, hS.out.2.2.1, hS.out.2.2.2.1, by rw [hu.out]; exact h2.out⟩
      · go_wp2
        go_ret
        have hnl : val u < q * val v := by
          rcases Nat.lt_or_ge (val u) (q * val v) with h | h
          · exact h
          · have := h1.out; rw [if_neg (by omega)] at this; omega
        exact ⟨x, by simp [hnl], hS.out.1.trans hu.out.symm, hS.out.2.1, hS.out.2.2.1, hS.out.2.2.2.1, by rw [hu.out]; exact h2.out⟩

/-- The loop of restore: v is added. -/
def RsRel (w wr : World) (b : Nat) (pre post x0 v x : List Nat) (n k cc : Nat) : Prop :=
  x.length = n ∧ Small x ∧ Win wr b pre x post ∧ Only b w wr ∧ val (x.take k) + BB ^ k * cc = val (x0.take k) + val (v.take k) ∧ ∀ i, k ≤ i → x.getD i 0 = x0.getD i 0
theorem RsRel.step {w wr : World} {b : Nat} {pre post x0 v x : List Nat} {n k cc y z : Nat} (h : RsRel w wr b pre post x0 v x n k cc) (hk : k < n) (hy : v.getD k 0 = y) (hz : x.getD k 0 = z) (hyB : y < BB) (hzB : z < BB) (hc : cc ≤ 1) {e : Int} (he : e = ((z + y + cc) % BB : Nat)) :
    RsRel w (wr.setCell ⟨b, pre.length + k, none⟩ (.int .u32 e)) b pre post x0 v (x.set k ((z + y + cc) % BB)) n (k + 1) ((z + y + cc) / BB) ∧ (z + y + cc) / BB ≤ 1 := by
  obtain ⟨h1, h2, h3, h4, h5, h6⟩ := h
  refine ⟨⟨by simpa using h1, small_set h2 k (Nat.mod_lt _ BB_pos), by rw [he]; exact h3.set (by omega) _, h4.set _ _, ?_, fun i hi => ?_⟩, ?_⟩
  · rw [take_val_any, take_set_lt, getD_set_self (by omega), take_val_any x0, take_val_any v, hy, ← h6 k (Nat.le_refl _), hz]
    have e := Nat.mod_add_div (z + y + cc) BB
    have e2 : BB ^ k * ((z + y + cc) % BB) + BB ^ (k + 1) * ((z + y + cc) / BB) = BB ^ k * (z + y + cc) := by
      rw [Nat.pow_succ, Nat.mul_assoc, ← Nat.mul_add, e]
    rw [Nat.mul_add, Nat.mul_add] at e2
    omega
  · rw [← h6 i (by omega)]
    have : k ≠ i := by omega
    simp [List.getElem?_set_ne this]
  · have := Nat.div_lt_of_lt_mul (show z + y + cc < BB * 2 by omega)
    omega
/-- What restore leaves. -/
def RetRest (w : World) (b : Nat) (pre post u v : List Nat) (e : Ending) (w' : World) : Prop :=
  ∃ (x : List Nat) (c : Nat), e = .returned (.tuple #[]) ∧ x.length = u.length ∧ Small x ∧ Win w' b pre x post ∧ Only b w w' ∧ val x + BB ^ u.length * c = val u + val v ∧ c ≤ 1
set_option maxRecDepth 100000 in
set_option maxHeartbeats 1600000 in
theorem Rrestore_any (b n cu : Nat) (vv : Value) (pre post u v : List Nat) (P : Nat) (w : World) (hP : pre.length = P) (hW : Win w b pre u post) (hu : u.length = n) (hv : v.length ≤ n) (hn : n ≤ 4398046511105) (su : Small u) (sv : Small v)
    (hVo : ∀ wr, Only b w wr → Words wr vv v) (hcu : n ≤ cu) :
    Calls Tryz.prog 134 #[.slice (some ⟨b, P, none⟩) n cu, vv] w (RetRest w b pre post u v) := by
  replace hW := hide hW
  replace hu := hide hu
  replace su := hide su
  replace sv := hide sv
  replace hVo := hide hVo
  replace hP := hide hP
  replace hv := hide hv
  go_enter Tryz.func134, Tryz.ntmps134
  go_wp2
  go_loopw [4, 5] (fun cy i wr => ∃ (k c : Nat) (x : List Nat), k ≤ n ∧ i = .int .i64 k ∧ cy = .int .u64 c ∧ c ≤ 1 ∧ Hid (RsRel w wr b pre post u v x n k c)) (fun _ i _ => n - (intOf i).toNat)
  case atStart => exact ⟨0, 0, u, Nat.zero_le _, rfl, rfl, by omega, hu.out, su.out, hW.out, Only.refl _ _, by simp [val], fun _ _ => rfl⟩
  case round =>
    obtain ⟨k, c, x, hk, rfl, rfl, hcB, hS⟩ := hrel
    by_cases hlt : k < n
    · have hdk : decide ((k : Int) < n) = true := by simpa using hlt
      have g2 : wr.cell? ⟨b, P + k, none⟩ = some (.int .u32 (x.getD k 0 : Nat)) := by
        have := hS.out.2.2.1.cell (k := k) (by rw [hS.out.1]; omega)
        rw [hP.out] at this
        exact this
      have hyB := small_getD sv.out k
      have hzB := small_getD hS.out.2.1 k
      generalize hy : v.getD k 0 = y at *
      generalize hz : x.getD k 0 = z at *
      replace hy := hide hy
      replace hz := hide hz
      unfold BB at hyB hzB
      have hVw := hide (hVo.out _ hS.out.2.2.2.1)
      have hi : ¬ n ≤ k := by omega
      have hcv : Hid (IntKind.u64.wrap (z : Int) = z) := hide (IntWalk.u64_in _ (by omega))
      have hs1 : Hid (IntKind.u64.wrap ((z : Int) + y) = (z : Int) + y) := hide (IntWalk.u64_in _ (by omega))
      have hs2 : Hid (IntKind.u64.wrap ((z : Int) + y + c) = (z : Int) + y + c) := hide (IntWalk.u64_in _ (by omega))
      go_upto_region 4 with (fail)
      refine wp_region_v (by kernel_rfl) [[], [], [(13, 0), (14, 1)], [(15, 2)], [(16, 3)], [], [], [(18, 5), (19, 6)], [(17, 4), (20, 7)], [], [(21, 8), (22, 9)]] [[], [], [0, 1], [0, 1, 2], [0, 1, 2, 3], [], [], [5, 6], [0, 1, 2, 3, 4, 5, 6, 7], [], [0, 1, 2, 3, 4, 5, 6, 7, 8, 9]]
        [fun v _ => v = .slice (some ⟨b, P, none⟩) n cu, fun v _ => v = .int .i64 (k : Int), fun v _ => v = .pointer (some ⟨b, P + k, none⟩), fun v _ => v = .int .u32 (z : Int), fun v _ => v = .int .u64 (z : Int), fun v _ => v = vv, fun v _ => v = .int .i64 (k : Int), fun v _ => v = .int .u64 (y : Int), fun v _ => v = .int .u64 ((z : Int) + y), fun v _ => v = .int .u64 (c : Int), fun v _ => v = .int .u64 ((z : Int) + y + c)]
        rfl (by kernel_rfl) (by kernel_rfl) ?stab ?steps ?fin
      case stab => exact .cons (Stab.eq _) (.cons (Stab.eq _) (.cons (Stab.eq _) (.cons (Stab.eq _) (.cons (Stab.eq _) (.cons (Stab.eq _) (.cons (Stab.eq _) (.cons (Stab.eq _) (.cons (Stab.eq _) (.cons (Stab.eq _) (.cons (Stab.eq _) .nil))))))))))
      case steps =>
        refine .cons ?s0 (.cons ?s1 (.cons ?s2 (.cons ?s3 (.cons ?s4 (.cons ?s5 (.cons ?s6 (.cons ?s7 (.cons ?s8 (.cons ?s9 (.cons ?s10 .nil))))))))))
        case s0 =>
          intro w' ev hE hk ha hc hf
          have e0 : ev (.tmp 0) = .slice (some ⟨b, P, none⟩) n cu := ha 0 (by decide)
          exact opStep_val (by simp [execOp, e0, go_sem]) rfl
        case s1 =>
          intro w' ev hE hk ha hc hf
          have e5 : ev (.tmp 5) = .int .i64 (k : Int) := ha 5 (by decide)
          exact opStep_val (by simp [execOp, e5, go_sem]) rfl
        case s2 =>
          intro w' ev hE hk ha hc hf
          have e13 : ev (.tmp 13) = .slice (some ⟨b, P, none⟩) n cu := hk.1 _ rfl
          have e14 : ev (.tmp 14) = .int .i64 (k : Int) := hk.2.1 _ rfl
          exact opStep_val (by simp [execOp, e13, e14, hi, go_sem]) rfl
        case s3 =>
          intro w' ev hE hk ha hc hf
          have e15 : ev (.tmp 15) = .pointer (some ⟨b, P + k, none⟩) := hk.1 _ rfl
          have c0 : w'.cell? ⟨b, P + k, none⟩ = some (.int .u32 (z : Int)) := hE.cellv g2
          exact opStep_val (by simp [execOp, e15, c0, go_sem]) rfl
        case s4 =>
          intro w' ev hE hk ha hc hf
          have e16 : ev (.tmp 16) = .int .u32 (z : Int) := hk.1 _ rfl
          exact opStep_val (by simp [execOp, e16, hcv.out, go_sem]) rfl
        case s5 =>
          intro w' ev hE hk ha hc hf
          have e1 : ev (.tmp 1) = vv := ha 1 (by decide)
          exact opStep_val (by simp [execOp, e1, go_sem]) rfl
        case s6 =>
          intro w' ev hE hk ha hc hf
          have e5 : ev (.tmp 5) = .int .i64 (k : Int) := ha 5 (by decide)
          exact opStep_val (by simp [execOp, e5, go_sem]) rfl
        case s7 =>
          intro w' ev hE hk ha hc hf
          have e18 : ev (.tmp 18) = vv := hk.1 _ rfl
          have e19 : ev (.tmp 19) = .int .i64 (k : Int) := hk.2.1 _ rfl
          refine opStep_call (by simp [execOp, resolve, invoke, hf, e18, e19, go_sem]) (Rword_x _ v k y _ (hVw.out.ext ((Ext.refl _).drew.trans hE)) hy.out) ?_
          rintro e w1 ⟨rfl, rfl⟩
          exact ⟨_, rfl, Ext.refl _, rfl⟩
        case s8 =>
          intro w' ev hE hk ha hc hf
          have e17 : ev (.tmp 17) = .int .u64 (z : Int) := hk.1 _ rfl
          have e20 : ev (.tmp 20) = .int .u64 (y : Int) := hk.2.1 _ rfl
          exact opStep_val (by simp [execOp, e17, e20, hs1.out, go_sem]) rfl
        case s9 =>
          intro w' ev hE hk ha hc hf
          have e4 : ev (.tmp 4) = .int .u64 (c : Int) := ha 4 (by decide)
          exact opStep_val (by simp [execOp, e4, go_sem]) rfl
        case s10 =>
          intro w' ev hE hk ha hc hf
          have e21 : ev (.tmp 21) = .int .u64 ((z : Int) + y) := hk.1 _ rfl
          have e22 : ev (.tmp 22) = .int .u64 (c : Int) := hk.2.1 _ rfl
          exact opStep_val (by simp [execOp, e21, e22, hs2.out, go_sem]) rfl
      case fin =>
        intro gf w' hE hF
        have e10 := hF 10 _ rfl
        simp only [List.length_cons, List.length_nil, Nat.reduceAdd, List.drop_succ_cons, List.drop_zero, List.take_succ_cons, List.take_zero, putG, Act.put, List.setIfInBounds_toArray, List.set_cons_succ, List.set_cons_zero, e10]
        replace hE := (Ext.refl wr).drew.trans hE
        have hS' : RsRel w w' b pre post u v x n k c := ⟨hS.out.1, hS.out.2.1, hS.out.2.2.1.ext hE, hS.out.2.2.2.1.ext hE, hS.out.2.2.2.2.1, hS.out.2.2.2.2.2⟩
        have g2' := hE.cellv g2
        have g3 := hS'.2.2.1.frozen (P + k)
        have hst := hide (hS'.step hlt hy.out hz.out (by rw [BB_eq]; exact hyB) (by rw [BB_eq]; exact hzB) hcB (e := ((z : Int) + y + c) % 4294967296) (by rw [BB_eq]; omega))
        rw [hP.out] at hst
        clear hF e10 hE hS hS' g2 hVw hs1 hs2 hcv
        go_wp2
        exact ⟨⟨k + 1, (z + y + c) / BB, _, hlt, by simp, by rw [BB_eq]; congr 1, hst.out.2, hst.out.1⟩, by simp [intOf]; omega⟩
    · obtain rfl : k = n := by omega
      have hdk : decide ((k : Int) < k) = false := by simp
      have h5 := hS.out.2.2.2.2.1
      rw [List.take_of_length_le (by rw [hS.out.1]; omega), List.take_of_length_le (by rw [hu.out]; omega), List.take_of_length_le hv.out] at h5
      replace h5 := hide h5
      go_wp2
      refine bodyPost_ret (v := .tuple #[]) (by simp [results, Tryz.results134, go_sem]) rfl ?_
      exact ⟨x, c, rfl, hS.out.1.trans hu.out.symm, hS.out.2.1, hS.out.2.2.1, hS.out.2.2.2.1, by rw [hu.out]; exact h5.out, hcB⟩
end Go.Proofs.YteefhmdameeoaaaGreat
