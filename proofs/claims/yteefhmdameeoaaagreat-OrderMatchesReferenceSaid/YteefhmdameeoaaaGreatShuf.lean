/-
  The reference's Shuffle returns a permutation.
-/
import Derived.Test.YteefhmdameeoaaaGreatPerm1
set_option linter.unusedSimpArgs false
set_option linter.unusedVariables false
namespace Go.Proofs.YteefhmdameeoaaaGreat
open Go.RowKit

/-- The cells of numbers. -/
def il (L : List Nat) : List Value := L.map fun (x : Nat) => Value.int .i64 (x : Int)
def OwnInts (base : Nat) (w : World) (v : Value) (L : List Nat) : Prop := w.ownsRow base 3 1 v L.length (il L)
theorem OwnInts.ext {base : Nat} {w w' : World} {v : Value} {L : List Nat} (h : OwnInts base w v L) (he : Ext w w') : OwnInts base w' v L := by
  obtain ⟨h1, h2⟩ := h
  refine ⟨h1, ?_⟩
  rcases h2 with h2 | ⟨g, cap, cur, h3, h4, hg, h5⟩
  · exact .inl h2
  · exact .inr ⟨g, cap, cur, h3, h4, (he.block (lt_of_heap hg)).trans hg, h5⟩
theorem OwnInts.base_le {base : Nat} {w : World} {v : Value} {L : List Nat} (h : OwnInts base w v L) : ∀ k, v.ownBlock = some k → base ≤ k := by
  intro k hk
  obtain ⟨h1, h2⟩ := h
  rcases h2 with ⟨rfl, _⟩ | ⟨g, cap, cur, rfl, h4, hg, h5⟩
  · cases hk
  · cases hk; exact h4
theorem OwnInts.cell {base : Nat} {w : World} {g o n c : Nat} {L : List Nat} (h : OwnInts base w (.slice (some ⟨g, o, none⟩) n c) L) : n = L.length ∧ o = 0 ∧ n ≤ c ∧ c ≤ 9223372036854775807 ∧ base ≤ g ∧ ∀ i, (hi : i < L.length) → w.cell? ⟨g, i, none⟩ = some (.int .i64 (L[i] : Nat)) := by
  obtain ⟨h1, h2⟩ := h
  rcases h2 with ⟨h3, _⟩ | ⟨g', cap, cur, h3, h4, hg, hc, hm, hsz, ht⟩
  · cases h3
  · cases h3
    refine ⟨rfl, rfl, hc, by simpa [maxLen] using hm, h4, fun i hi => ?_⟩
    have e1 : (cur.toList.take (L.length * 1))[i]? = (il L)[i]? := by rw [ht]
    rw [List.getElem?_take, if_pos (by omega)] at e1
    rw [cell_of_block hg]
    simpa [il, hi] using e1
theorem OwnInts.setR {base B : Nat} {w : World} {v : Value} {L : List Nat} {cs : Array Value} (h : OwnInts base w v L) (hB : Blk w B 35 cs) (k : Nat) (u : Value) : OwnInts base (w.setCell ⟨B, k, none⟩ u) v L := by
  obtain ⟨h1, h2⟩ := h
  refine ⟨h1, ?_⟩
  rcases h2 with h2 | ⟨g, cap, cur, h3, h4, hg, h5⟩
  · exact .inl h2
  · have hne : g ≠ B := fun e => by subst e; rw [show w.heap[g]? = _ from hB] at hg; cases hg
    exact .inr ⟨g, cap, cur, h3, h4, (Below.heap_setCell w ⟨B, k, none⟩ u g hne).trans hg, h5⟩
theorem OwnInts.some {base : Nat} {w : World} {A : Option Addr} {n c : Nat} {L : List Nat} (h : OwnInts base w (.slice A n c) L) (h0 : 0 < n) : ∃ g, A = Option.some ⟨g, 0, none⟩ := by
  obtain ⟨h1, h2⟩ := h
  rcases h2 with ⟨h3, h4⟩ | ⟨g, cap, cur, h3, _⟩
  · cases h3; omega
  · cases h3; exact ⟨g, rfl⟩
theorem OwnInts.base_mono {base base' : Nat} {w : World} {v : Value} {L : List Nat} (h : OwnInts base w v L) (hb : base' ≤ base) : OwnInts base' w v L := by
  obtain ⟨h1, h2⟩ := h
  refine ⟨h1, ?_⟩
  rcases h2 with h2 | ⟨g, cap, cur, h3, h4, h5⟩
  · exact .inl h2
  · exact .inr ⟨g, cap, cur, h3, by omega, h5⟩
theorem OwnInts.form {base : Nat} {w : World} {v : Value} {L : List Nat} (h : OwnInts base w v L) : ∃ A c, v = .slice A L.length c := by
  obtain ⟨_, h2⟩ := h
  rcases h2 with ⟨rfl, h0⟩ | ⟨g, cap, cur, rfl, _⟩
  · exact ⟨none, 0, by rw [h0]⟩
  · exact ⟨_, _, rfl⟩
/-- An empty slice of one's own. -/
def Mt (base : Nat) (v : Value) (w : World) : Prop := ∃ g, v = .slice (some ⟨g, 0, none⟩) 0 0 ∧ base ≤ g ∧ Blk w g 3 #[]
theorem Mt.ext {base : Nat} {v : Value} {w w' : World} (h : Mt base v w) (he : Ext w w') : Mt base v w' := by
  obtain ⟨g, h1, h2, h3⟩ := h
  exact ⟨g, h1, h2, h3.ext he⟩
theorem il_one {L : List Nat} {u : Value} (h : u ∈ il L) : u.oneCell' = true := by
  obtain ⟨x, _, rfl⟩ := List.mem_map.1 h
  rfl
theorem append_empty {base b : Nat} {v : Value} {w : World} {g n c : Nat} {L : List Nat} (h : Mt base v w) (hO : OwnInts b w (.slice (some ⟨g, 0, none⟩) n c) L) (a : Nat) (ha : a ≤ n) (hb : base ≤ w.heap.size) (h8 : n ≤ 8) :
    ∃ v' w', (Builtin.append_ #[59, 59] 59 #[v, .slice (some ⟨g, 0, none⟩) a c]).run Tryz.prog w = .ok v' w' ∧ Ext w w' ∧ OwnInts base w' v' (L.take a) := by
  obtain ⟨g0, rfl, hg0, hB⟩ := h
  obtain ⟨hn, _, _, _, _, hcell⟩ := hO.cell
  obtain ⟨i, hi, hz0, hz1, hz2⟩ := info_parts (show (Tryz.prog.info? 3).map (fun i => (i.zero, i.size, i.bytes)) = some (some (.int .i64 0), 1, 8) by kernel_rfl)
  have hl : (il (L.take a)).length = a * i.size := by rw [hz1]; simp [il]; omega
  have hnews : ∀ (j : Nat) (u : Value), (il (L.take a))[j]? = some u → w.cell? ((⟨g, 0, none⟩ : Addr).add j) = some u := by
    intro j u hu
    have hj : j < a := by have := (List.getElem?_eq_some_iff.1 hu).1; rw [hl, hz1] at this; omega
    have hu' : (il (L.take a))[j]? = some (.int .i64 (L[j]'(by omega) : Nat)) := by simp [il, List.getElem?_take, hj, List.getElem?_eq_getElem (show j < L.length by omega)]
    rw [hu'] at hu
    cases hu
    rw [add_mk, Nat.zero_add]
    exact hcell j (by omega)
  rcases Nat.eq_zero_or_pos a with rfl | h0
  · exact ⟨_, w, run_append_nothing w _ _ _ _ i Tryz.underlying59 hi _ _ _ (Nat.le_refl _) _ (Src.ofSlice w Tryz.underlying59 _ _ _ [] (by simp) (by simp) (by simp)), Ext.refl _, rfl, .inr ⟨g0, 0, #[], rfl, hg0, hB, by simp, by simp, by simp, by simp [il]⟩⟩
  · obtain ⟨v', w1, hrun, hown, _, _⟩ := run_append_own (P := Tryz.prog) w base 59 59 3 i _ 1 8 Tryz.underlying59 hi hz0 hz1 hz2 rfl (by omega)
      (.slice (some ⟨g0, 0, none⟩) 0 0) 0 [] ⟨rfl, .inr ⟨g0, 0, #[], rfl, hg0, hB, by simp, by simp, by simp, by simp⟩⟩ ⟨g, 0, none⟩ a c (il (L.take a)) (by rw [hl, hz1]) hnews (fun u hu => il_one hu) (by simp only [maxLen]; omega) (by omega) hb
    have hgr := run_append_grow (P := Tryz.prog) w 59 59 3 i _ Tryz.underlying59 hi hz0 ⟨g0, 0, none⟩ 0 0 [] (by simp) (by simp) ⟨g, 0, none⟩ a c (il (L.take a)) hl hnews (by omega) (by omega) (by rw [hz2]; simp only [Nat.zero_add]; rw [nextslicecap_zero h0]; omega)
    rw [hrun] at hgr
    injection hgr with e1 e2
    refine ⟨v', w1, hrun, by rw [e2]; exact (Ext.refl _).drew.alloc _, ?_⟩
    unfold OwnInts
    rw [Nat.zero_add, List.nil_append] at hown
    rw [show (L.take a).length = a by simp; omega]
    exact hown
theorem append_tail {base : Nat} {v : Value} {w : World} {R S : List Nat} (h : OwnInts base w v R) (g o c : Nat) (hcell : ∀ i, (hi : i < S.length) → w.cell? ⟨g, o + i, none⟩ = some (.int .i64 (S[i] : Nat))) (hb : base ≤ w.heap.size) (h8 : R.length + S.length ≤ 8) :
    ∃ v' w', (Builtin.append_ #[59, 59] 59 #[v, .slice (some ⟨g, o, none⟩) S.length c]).run Tryz.prog w = .ok v' w' ∧ OwnInts base w' v' (R ++ S) ∧ w.grownBy w' v.ownBlock := by
  obtain ⟨i, hi, hz0, hz1, hz2⟩ := info_parts (show (Tryz.prog.info? 3).map (fun i => (i.zero, i.size, i.bytes)) = some (some (.int .i64 0), 1, 8) by kernel_rfl)
  obtain ⟨v', w1, hrun, hown, hg, _⟩ := run_append_own (P := Tryz.prog) w base 59 59 3 i _ 1 8 Tryz.underlying59 hi hz0 hz1 hz2 rfl (by omega)
      v R.length (il R) h ⟨g, o, none⟩ S.length c (il S) (by simp [il]) (fun j u hu => by
        have hj : j < S.length := by have := (List.getElem?_eq_some_iff.1 hu).1; simpa [il] using this
        have hu' : (il S)[j]? = some (.int .i64 (S[j] : Nat)) := by simp [il, List.getElem?_eq_getElem hj]
        rw [hu'] at hu
        cases hu
        rw [add_mk]
        exact hcell j hj) (fun u hu => il_one hu) (by simp only [maxLen]; omega) (by omega) hb
  refine ⟨v', w1, hrun, ?_, hg⟩
  unfold OwnInts
  rw [List.length_append, show il (R ++ S) = il R ++ il S by simp [il]]
  exact hown
/-- A slice from a place on. -/
def TailOf (g n c k : Nat) (v : Value) : Prop := ∃ o, v = .slice (some ⟨g, o, none⟩) (n - k) (c - k) ∧ (k < c → o = k)

def RetPerm (w : World) (e : Ending) (w' : World) : Prop := ∃ p : Nat → Nat, (∀ i, i < 8 → p i < 8) ∧ (∀ i j, i < 8 → j < 8 → p i = p j → i = j) ∧ e = .returned (.agg #[.int .i64 (castP p 0), .int .i64 (castP p 1), .int .i64 (castP p 2), .int .i64 (castP p 3), .int .i64 (castP p 4), .int .i64 (castP p 5), .int .i64 (castP p 6), .int .i64 (castP p 7)]) ∧ Ext w w'
/-- The first i places are filled, L is left. -/
def PermInv (P : Nat → Nat) (i : Nat) (L : List Nat) : Prop := L.Nodup ∧ (∀ x ∈ L, x < 8) ∧ (∀ j, j < i → P j < 8 ∧ P j ∉ L) ∧ ∀ j k, j < i → k < i → P j = P k → j = k

theorem PermInv.step {P : Nat → Nat} {i a : Nat} {L : List Nat} (h : PermInv P i L) (ha : a < L.length) : PermInv (fun j => if j = i then L.getD a 0 else P j) (i + 1) (L.take a ++ L.drop (a + 1)) := by
  obtain ⟨h1, h2, h3, h4⟩ := h
  rw [show L.getD a 0 = L[a] by simp [ha]]
  have hsp : L = L.take a ++ L[a] :: L.drop (a + 1) := by simp
  have hnd : (L.take a ++ L[a] :: L.drop (a + 1)).Nodup := by rw [← hsp]; exact h1
  have hsub : ∀ x ∈ L.take a ++ L.drop (a + 1), x ∈ L := fun x hx => by
    rcases List.mem_append.1 hx with h | h
    · exact List.mem_of_mem_take h
    · exact List.mem_of_mem_drop h
  have hni : L[a] ∉ L.take a ++ L.drop (a + 1) := fun hx => by
    rw [List.nodup_append] at hnd
    obtain ⟨n1, n2, n3⟩ := hnd
    rcases List.mem_append.1 hx with h | h
    · exact n3 _ h _ List.mem_cons_self rfl
    · exact (List.nodup_cons.1 n2).1 h
  have hla : L[a] ∈ L := List.getElem_mem ha
  refine ⟨?_, fun x hx => h2 x (hsub x hx), fun j hj => ?_, fun j k hj hk he => ?_⟩
  · exact hnd.sublist (List.Sublist.append (List.Sublist.refl _) (List.sublist_cons_self _ _))
  · by_cases e : j = i
    · simp only [e, if_true]; exact ⟨h2 _ hla, hni⟩
    · simp only [e, if_false]; exact ⟨(h3 j (by omega)).1, fun hx => (h3 j (by omega)).2 (hsub _ hx)⟩
  · by_cases e : j = i
    · by_cases e2 : k = i
      · omega
      · simp only [e, e2, if_true, if_false] at he
        exact absurd (he ▸ hla) (h3 k (by omega)).2
    · by_cases e2 : k = i
      · simp only [e, e2, if_true, if_false] at he
        exact absurd (he ▸ hla) (h3 j (by omega)).2
      · simp only [e, e2, if_false] at he
        exact h4 j k (by omega) (by omega) he

set_option maxRecDepth 100000 in
set_option maxHeartbeats 3200000 in
theorem Shuffle_any (N : Nat) (w : World) (hN : N < 65536) : Calls Tryz.prog 10 #[.int .u16 N] w (RetPerm w) := by
  go_enter Tryz.func10, Tryz.ntmps10
  go_wp2
  go_loopw [3, 5, 6] (fun l kk i wr => ∃ (q k n c : Nat) (A : Option Addr) (L : List Nat) (P : Nat → Nat), q ≤ 8 ∧ n = 8 - q ∧ k < 65536 ∧ i = .int .i64 q ∧ kk = .int .i64 k ∧ l = .slice A n c ∧ Hid (OwnInts w.heap.size wr (.slice A n c) L ∧ PermInv P q L ∧ Blk wr w.heap.size 35 (c8 fun _ => 0) ∧ Blk wr (w.heap.size + 2) 35 (c8 (upTo (castP P) q)) ∧ Ext w wr)) (fun _ _ i _ => 8 - (intOf i).toNat)
  case atStart =>
    refine ⟨0, N, 8, 8, some ⟨w.heap.size + 1, 0, none⟩, [0, 1, 2, 3, 4, 5, 6, 7], fun _ => 0, by omega, rfl, hN, rfl, rfl, rfl, ⟨rfl, .inr ⟨w.heap.size + 1, 8, _, rfl, by omega, (Blk.new' _ _ (by simp)).alloc _, by simp, by simp [maxLen], by simp, by simp [il]⟩⟩, ⟨by decide, by decide, by omega, by omega⟩, ((Blk.new _ _ _).alloc _).alloc _, Blk.new' _ _ (by simp), (((Ext.refl _).alloc _).alloc _).alloc _⟩
  case round =>
    obtain ⟨q, k, n, c, A, L, P, hq, hn, hk, rfl, rfl, rfl, hI⟩ := hrel
    replace hn := hide hn
    by_cases hlt : q < 8
    · have hd1 : decide ((q : Int) < 8) = true := by simp; omega
      have hn0 : 0 < n := by have := hn.out; omega
      have hn8 : n ≤ 8 := by have := hn.out; omega
      obtain ⟨g, rfl⟩ := hI.out.1.some hn0
      obtain ⟨hLn, _, hnc, hcm, hgb, hcell⟩ := hI.out.1.cell
      obtain ⟨a, ha⟩ : ∃ a, a = k % n := ⟨_, rfl⟩
      have han : a < n := by rw [ha]; exact Nat.mod_lt _ hn0
      have hrem : (k : Int) % (n : Int) = (a : Int) := by rw [ha]; rfl
      obtain ⟨k1, hk1⟩ : ∃ k1, k1 = k / n := ⟨_, rfl⟩
      have hquo : (k : Int) / (n : Int) = (k1 : Int) := by rw [hk1]; rfl
      have hkq : k1 < 65536 := by rw [hk1]; exact Nat.lt_of_le_of_lt (Nat.div_le_self _ _) hk
      replace hk1 := hide hk1
      have xc : wr.cell? ⟨g, a, none⟩ = some (.int .i64 ((L.getD a 0 : Nat) : Int)) := by rw [hcell a (by omega)]; simp [show a < L.length by omega]
      have xo := hI.out.2.2.2.1.at8 hlt
      have xz := hI.out.2.2.2.1.frozen q
      have hst := hide (hI.out.2.1.step (a := a) (by omega))
      have hset : Hid (Blk (wr.setCell ⟨w.heap.size + 2, q, none⟩ (.int .i64 ((L.getD a 0 : Nat) : Int))) (w.heap.size + 2) 35 (c8 (upTo (castP fun j => if j = q then L.getD a 0 else P j) (q + 1)))) :=
        hI.out.2.2.2.1.set8' hlt _ (by simp [upTo, castP]) fun i hi hne => by
          by_cases e : i < q
          · simp [upTo, castP, e, hne, show i < q + 1 by omega]
          · simp [upTo, e, show ¬ i < q + 1 by omega]
      have hO : Hid (OwnInts w.heap.size (wr.setCell ⟨w.heap.size + 2, q, none⟩ (.int .i64 ((L.getD a 0 : Nat) : Int))) (.slice (some ⟨g, 0, none⟩) n c) L) := hI.out.1.setR hI.out.2.2.2.1 _ _
      have hb2 : Hid (Blk (wr.setCell ⟨w.heap.size + 2, q, none⟩ (.int .i64 ((L.getD a 0 : Nat) : Int))) w.heap.size 35 (c8 fun _ => 0)) := hI.out.2.2.1.far (by dsimp only; omega) _
      have hEz : Hid (Ext w (wr.setCell ⟨w.heap.size + 2, q, none⟩ (.int .i64 ((L.getD a 0 : Nat) : Int)))) := hI.out.2.2.2.2.set (p := ⟨w.heap.size + 2, q, none⟩) (by dsimp only; omega) _
      replace hLn := hide hLn
      replace ha := hide ha
      clear hcell hI
      generalize L.getD a 0 = x at *
      generalize upTo (castP P) q q = old at *
      go_upto_region 8 with (fail)
      rw [hrem]
      clear xc xo xz hrem hquo
      generalize (wr.setCell ⟨w.heap.size + 2, q, none⟩ (.int .i64 ((x : Nat) : Int))) = wz at *
      have i1 : a ≤ c := by omega
      have i2 : (a : Int) ≤ c := by omega
      have i3 : a ≤ n := by omega
      have i4 : IntKind.i64.wrap ((a : Int) + 1) = (a : Int) + 1 := IntWalk.i64_in _ (by omega)
      have j1 : a + 1 ≤ n := by omega
      have j2 : (a : Int) + 1 ≤ n := by omega
      have j3 : ((a : Int) + 1).toNat = a + 1 := by omega
      have j4 : (0 : Int) ≤ (a : Int) + 1 := by omega
      refine wp_region_v (by kernel_rfl) [[], [], [], [(31, 1), (32, 2)], [(30, 0), (33, 3)], [], [], [(36, 6)], [(35, 5), (37, 7)]] [[], [], [], [1, 2], [0, 1, 2, 3], [], [], [6], [5, 6, 7]]
        [Mt wz.heap.size, fun v _ => v = .slice (some ⟨g, 0, none⟩) n c, fun v _ => v = .int .i64 (a : Int), fun v _ => v = .slice (some ⟨g, 0, none⟩) a c, fun v w' => OwnInts wz.heap.size w' v (L.take a), fun v _ => v = .slice (some ⟨g, 0, none⟩) n c, fun v _ => v = .int .i64 (a : Int), fun v _ => v = .int .i64 ((a : Int) + 1), fun v _ => TailOf g n c (a + 1) v]
        rfl (by kernel_rfl) (by kernel_rfl) ?stab ?steps ?fin
      case stab => exact .cons (fun _ _ _ he h => h.ext he) (.cons (Stab.eq _) (.cons (Stab.eq _) (.cons (Stab.eq _) (.cons (fun _ _ _ he h => h.ext he) (.cons (Stab.eq _) (.cons (Stab.eq _) (.cons (Stab.eq _) (.cons (fun _ _ _ _ h => h) .nil))))))))
      case steps =>
        refine .cons ?s0 (.cons ?s1 (.cons ?s2 (.cons ?s3 (.cons ?s4 (.cons ?s5 (.cons ?s6 (.cons ?s7 (.cons ?s8 .nil))))))))
        case s0 =>
          intro w' ev hE hk ha hc hf
          exact opStep_grow (by simp [execOp, go_sem]) ((Ext.refl _).alloc _) ⟨_, rfl, hE.size, Blk.new _ _ _⟩
        case s1 =>
          intro w' ev hE hk ha hc hf
          have e3 : ev (.tmp 3) = .slice (some ⟨g, 0, none⟩) n c := ha 3 (by decide)
          exact opStep_val (by simp [execOp, e3, go_sem]) rfl
        case s2 =>
          intro w' ev hE hk ha hc hf
          have e7 : ev (.tmp 7) = .int .i64 (a : Int) := ha 7 (by decide)
          exact opStep_val (by simp [execOp, e7, go_sem]) rfl
        case s3 =>
          intro w' ev hE hk ha hc hf
          have e31 : ev (.tmp 31) = .slice (some ⟨g, 0, none⟩) n c := hk.1 _ rfl
          have e32 : ev (.tmp 32) = .int .i64 (a : Int) := hk.2.1 _ rfl
          exact opStep_val (by simp [execOp, e31, e32, i1, i2, i3, go_sem]) rfl
        case s4 =>
          intro w' ev hE hk ha hc hf
          have f30 := hk.1 _ rfl
          have e33 : ev (.tmp 33) = .slice (some ⟨g, 0, none⟩) a c := hk.2.1 _ rfl
          obtain ⟨v', w1, h1, h2, h3⟩ := append_empty f30 (hO.out.ext ((Ext.refl _).drew.trans hE)) a (by omega) ((Ext.refl _).drew.trans hE).size hn8
          exact opStep_grow (by simp [execOp, resolve, invoke, builtin, e33, h1, Result.andThen]) h2 h3
        case s5 =>
          intro w' ev hE hk ha hc hf
          have e3 : ev (.tmp 3) = .slice (some ⟨g, 0, none⟩) n c := ha 3 (by decide)
          exact opStep_val (by simp [execOp, e3, go_sem]) rfl
        case s6 =>
          intro w' ev hE hk ha hc hf
          have e7 : ev (.tmp 7) = .int .i64 (a : Int) := ha 7 (by decide)
          exact opStep_val (by simp [execOp, e7, go_sem]) rfl
        case s7 =>
          intro w' ev hE hk ha hc hf
          have e36 : ev (.tmp 36) = .int .i64 (a : Int) := hk.1 _ rfl
          exact opStep_val (by simp [execOp, e36, hc, i4, go_sem]) rfl
        case s8 =>
          intro w' ev hE hk ha hc hf
          have e35 : ev (.tmp 35) = .slice (some ⟨g, 0, none⟩) n c := hk.1 _ rfl
          have e37 : ev (.tmp 37) = .int .i64 ((a : Int) + 1) := hk.2.1 _ rfl
          by_cases hce : c = a + 1
          · exact opStep_val (v := .slice (some ⟨g, 0, none⟩) (n - (a + 1)) (c - (a + 1))) (by simp [execOp, e35, e37, j1, j2, j3, j4, hce, go_sem]) ⟨0, rfl, fun h => by omega⟩
          · exact opStep_val (v := .slice (some ⟨g, a + 1, none⟩) (n - (a + 1)) (c - (a + 1))) (by simp [execOp, e35, e37, j1, j2, j3, j4, hce, go_sem]) ⟨a + 1, rfl, fun h => rfl⟩
      case fin =>
        intro gf w' hE hF
        have f4 := hF 4 _ rfl
        obtain ⟨o, e8, ho⟩ := hF 8 _ rfl
        have hEd := (Ext.refl wz).drew.trans hE
        have hdl : (L.drop (a + 1)).length = n - (a + 1) := by rw [List.length_drop, ← hLn.out]
        have hcl := (hO.out.ext hEd).cell
        obtain ⟨v', w9, hrun, hown, hgr⟩ := append_tail (S := L.drop (a + 1)) f4 g o (c - (a + 1)) (fun i hi => by
          have e := ho (by omega)
          subst e
          rw [hcl.2.2.2.2.2 (a + 1 + i) (by rw [← hLn.out]; omega)]
          simp) hEd.size (by rw [hdl, List.length_take]; omega)
        have hE9 := hide (hEd.grown' hgr f4.base_le)
        rw [hdl] at hrun
        obtain ⟨A', c', rfl⟩ := hown.form
        have hl9 : (L.take a ++ L.drop (a + 1)).length = n - 1 := by rw [List.length_append, hdl, List.length_take, ← hLn.out]; omega
        rw [hl9] at hrun hown
        simp only [List.length_cons, List.length_nil, Nat.reduceAdd, List.drop_succ_cons, List.drop_zero, List.take_succ_cons, List.take_zero, putG, Act.put, List.setIfInBounds_toArray, List.set_cons_succ, List.set_cons_zero, e8]
        generalize gf 4 = v4 at *
        replace hrun := hide hrun
        replace hown := hide hown
        clear hF f4 e8 ho hEd hcl hE i1 i2 i3 i4 j1 j2 j3 j4
        go_wp2_with (at_builtin; go_loud (refine wpList_append_run rfl _ _ _ rfl _ _ rfl rfl hrun.out ?_))
        exact ⟨⟨q + 1, k1, n - 1, c', A', _, _, by omega, by have := hn.out; omega, hkq, by simp, rfl, rfl, hown.out.base_mono hEz.out.size, hst.out, hb2.out.ext hE9.out, hset.out.ext hE9.out, hEz.out.trans hE9.out⟩, by simp [intOf]; omega⟩
    · obtain rfl : q = 8 := by omega
      have hd1 : decide (((8 : Nat) : Int) < 8) = false := by simp
      have hf := hI.out.2.2.2.1.full8
      have x0 : (wr).cell? ⟨w.heap.size + 2, 0, none⟩ = some (.int .i64 (castP P 0)) := (hf).cell 0
      have x1 : (wr).cell? ⟨w.heap.size + 2, 1, none⟩ = some (.int .i64 (castP P 1)) := (hf).cell 1
      have x2 : (wr).cell? ⟨w.heap.size + 2, 2, none⟩ = some (.int .i64 (castP P 2)) := (hf).cell 2
      have x3 : (wr).cell? ⟨w.heap.size + 2, 3, none⟩ = some (.int .i64 (castP P 3)) := (hf).cell 3
      have x4 : (wr).cell? ⟨w.heap.size + 2, 4, none⟩ = some (.int .i64 (castP P 4)) := (hf).cell 4
      have x5 : (wr).cell? ⟨w.heap.size + 2, 5, none⟩ = some (.int .i64 (castP P 5)) := (hf).cell 5
      have x6 : (wr).cell? ⟨w.heap.size + 2, 6, none⟩ = some (.int .i64 (castP P 6)) := (hf).cell 6
      have x7 : (wr).cell? ⟨w.heap.size + 2, 7, none⟩ = some (.int .i64 (castP P 7)) := (hf).cell 7
      have hd := hI.out.2.2.1
      have y0 : (wr).cell? ⟨w.heap.size, 0, none⟩ = some (.int .i64 0) := (hd).cell 0
      have y1 : (wr).cell? ⟨w.heap.size, 1, none⟩ = some (.int .i64 0) := (hd).cell 1
      have y2 : (wr).cell? ⟨w.heap.size, 2, none⟩ = some (.int .i64 0) := (hd).cell 2
      have y3 : (wr).cell? ⟨w.heap.size, 3, none⟩ = some (.int .i64 0) := (hd).cell 3
      have y4 : (wr).cell? ⟨w.heap.size, 4, none⟩ = some (.int .i64 0) := (hd).cell 4
      have y5 : (wr).cell? ⟨w.heap.size, 5, none⟩ = some (.int .i64 0) := (hd).cell 5
      have y6 : (wr).cell? ⟨w.heap.size, 6, none⟩ = some (.int .i64 0) := (hd).cell 6
      have y7 : (wr).cell? ⟨w.heap.size, 7, none⟩ = some (.int .i64 0) := (hd).cell 7
      have z0 := (hd).frozen 0
      have z1 := (hd).frozen 1
      have z2 := (hd).frozen 2
      have z3 := (hd).frozen 3
      have z4 := (hd).frozen 4
      have z5 := (hd).frozen 5
      have z6 := (hd).frozen 6
      have z7 := (hd).frozen 7
      replace hd := hide hd
      replace hf := hide hf
      go_wp2
      refine bodyPost_ret (v := .agg #[.int .i64 (castP P 0), .int .i64 (castP P 1), .int .i64 (castP P 2), .int .i64 (castP P 3), .int .i64 (castP P 4), .int .i64 (castP P 5), .int .i64 (castP P 6), .int .i64 (castP P 7)]) (by simp [results, Tryz.results10, go_sem, y0, y1, y2, y3, y4, y5, y6, y7]) rfl ⟨P, fun i hi => (hI.out.2.1.2.2.1 i hi).1, fun i j hi hj he => hI.out.2.1.2.2.2 i j hi hj he, rfl, ?_⟩
      exact hI.out.2.2.2.2.put8 (b := w.heap.size) (by omega) (castP P)

end Go.Proofs.YteefhmdameeoaaaGreat
