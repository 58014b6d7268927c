/-
  Part 4 of the proof that polynomialRing_holds holds; the statement is the last theorem of the last part. No condition.
-/
import Derived.Deep.Upon
import Derived.Great.BuildSlice
import Derived.Maps.OwnOps
import Derived.Maps.RangeRun
import Derived.Maps.RangeWalk
import Derived.Shelf.SlSortCmp.WholeK
import Derived.Test.YteicdddphdomkaaGreatProg
import Derived.WideKeyRuns
import Derived.Test.YteicdddphdomkaaGreatRi3
set_option linter.unusedSimpArgs false
set_option linter.unusedVariables false
namespace Go.Proofs.YteicdddphdomkaaGreat
open Go.RowKit
def RatV (w : World) (v : Value) (q : Rat) : Prop := ∃ (b b' : Bool) (A A' : Option Addr) (m c m' c' : Nat), v = .agg #[.bool b, .slice A m c, .bool b', .slice A' m' c'] ∧ IsRat w (.bool b) (.slice A m c) (.bool b') (.slice A' m' c') q
theorem RatV.ext {w w' : World} {v : Value} {q : Rat} (h : RatV w v q) (he : Ext w w') : RatV w' v q := by
 obtain ⟨b, b', A, A', m, c, m', c', h1, h2⟩ := h
 exact ⟨b, b', A, A', m, c, m', c', h1, h2.ext he⟩
theorem IsRat.kept {w w' : World} {row : Option Nat} {c0 c1 c2 c3 : Value} {q : Rat} (h : IsRat w c0 c1 c2 c3 q) (hg : w.grownBy w' row) (ht : ∀ b, row = some b → ¬ Ty w b 137) : IsRat w' c0 c1 c2 c3 q := by
 have key : ∀ v l, Words w v l → Words w' v l := fun v l hv => by
  obtain ⟨A, c, h1, h2, h3, h4, h5⟩ := hv
  refine ⟨A, c, h1, h2, h3, h4, fun hp => ?_⟩
  obtain ⟨b, o, cs, fz, h6, h7, h8⟩ := h5 hp
  exact ⟨b, o, cs, fz, h6, (hg.block b (lt_of_heap h7) fun e => ht b e.symm ⟨cs, fz, h7⟩).trans h7, h8⟩
 exact ⟨⟨h.1.1, key _ _ h.1.2⟩, ⟨h.2.1, key _ _ h.2.2⟩⟩
theorem RatV.kept {w w' : World} {row : Option Nat} {v : Value} {q : Rat} (h : RatV w v q) (hg : w.grownBy w' row) (ht : ∀ b, row = some b → ¬ Ty w b 137) : RatV w' v q := by
 obtain ⟨b, b', A, A', m, c, m', c', h1, h2⟩ := h
 exact ⟨b, b', A, A', m, c, m', c', h1, h2.kept hg ht⟩
def tmc (b b' : Bool) (A A' : Option Addr) (n c n' c' : Nat) (a : Nat → Int) : Array Value := #[.bool b, .slice A n c, .bool b', .slice A' n' c', .int .i64 (a 0), .int .i64 (a 1), .int .i64 (a 2), .int .i64 (a 3), .int .i64 (a 4), .int .i64 (a 5), .int .i64 (a 6), .int .i64 (a 7)]
def TmV (w : World) (cs : Array Value) (t : Tm) : Prop := ∃ (b b' : Bool) (A A' : Option Addr) (n c n' c' : Nat), cs = tmc b b' A A' n c n' c' t.m ∧ IsRat w (.bool b) (.slice A n c) (.bool b') (.slice A' n' c') t.c
theorem TmV.ext {w w' : World} {cs : Array Value} {t : Tm} (h : TmV w cs t) (he : Ext w w') : TmV w' cs t := by
 obtain ⟨b, b', A, A', m, c, m', c', h1, h2⟩ := h
 exact ⟨b, b', A, A', m, c, m', c', h1, h2.ext he⟩
theorem TmV.kept {w w' : World} {row : Option Nat} {cs : Array Value} {t : Tm} (h : TmV w cs t) (hg : w.grownBy w' row) (ht : ∀ b, row = some b → ¬ Ty w b 137) : TmV w' cs t := by
 obtain ⟨b, b', A, A', m, c, m', c', h1, h2⟩ := h
 exact ⟨b, b', A, A', m, c, m', c', h1, h2.kept hg ht⟩
theorem TmV.size {w : World} {cs : Array Value} {t : Tm} (h : TmV w cs t) : cs.size = 12 := by
 obtain ⟨b, b', A, A', m, c, m', c', rfl, _⟩ := h
 rfl
theorem TmV.one {w : World} {cs : Array Value} {t : Tm} (h : TmV w cs t) : ∀ u ∈ cs.toList, u.oneCell' = true := by
 obtain ⟨b, b', A, A', m, c, m', c', rfl, _⟩ := h
 intro u hu
 simp [tmc] at hu
 rcases hu with rfl | rfl | rfl | rfl | rfl | rfl | rfl | rfl | rfl | rfl | rfl | rfl <;> rfl
def tAt (P : List Tm) (k : Nat) : Tm := P.getD k default
theorem tAt_mem {P : List Tm} {k : Nat} (h : k < P.length) : tAt P k ∈ P := by
 unfold tAt
 rw [List.getD_eq_getElem?_getD, List.getElem?_eq_getElem h]
 exact List.getElem_mem h
theorem drop_tAt {P : List Tm} {k : Nat} (h : k < P.length) : P.drop k = tAt P k :: P.drop (k + 1) := by
 unfold tAt
 rw [List.getD_eq_getElem?_getD, List.getElem?_eq_getElem h, List.drop_eq_getElem_cons h]
 rfl
theorem take_tAt {P : List Tm} {k : Nat} (h : k < P.length) : P.take k ++ [tAt P k] = P.take (k + 1) := by
 rw [List.take_succ_eq_append_getElem h]
 simp [tAt, List.getD_eq_getElem?_getD, List.getElem?_eq_getElem h]
def PolAt (w : World) (v : Value) (P : List Tm) : Prop :=
 ∃ (A : Option Addr) (c : Nat), v = .slice A P.length c ∧ P.length ≤ c ∧ c ≤ 9223372036854775807 ∧
  (0 < P.length → ∃ (b o : Nat) (cs : Array Value) (fz : Nat × Nat), A = some ⟨b, o, none⟩ ∧ w.heap[b]? = some (.cells cs 33 fz) ∧ ∀ k, k < P.length → ∃ ts, TmV w ts (tAt P k) ∧ ∀ j, j < 12 → cs[o + k * 12 + j]? = ts[j]?)
theorem PolAt.ext {w w' : World} {v : Value} {P : List Tm} (h : PolAt w v P) (he : Ext w w') : PolAt w' v P := by
 obtain ⟨A, c, h1, h2, h3, h4⟩ := h
 refine ⟨A, c, h1, h2, h3, fun hp => ?_⟩
 obtain ⟨b, o, cs, fz, h5, h6, h7⟩ := h4 hp
 refine ⟨b, o, cs, fz, h5, (he.block (lt_of_heap h6)).trans h6, fun k hk => ?_⟩
 obtain ⟨ts, h8, h9⟩ := h7 k hk
 exact ⟨ts, h8.ext he, h9⟩
theorem PolAt.term {w : World} {A : Option Addr} {n c : Nat} {P : List Tm} (h : PolAt w (.slice A n c) P) {k : Nat} (hk : k < P.length) :
  n = P.length ∧ n ≤ c ∧ c ≤ 9223372036854775807 ∧ ∃ (g o : Nat) (b b' : Bool) (X X' : Option Addr) (n1 c1 n2 c2 : Nat), A = some ⟨g, o, none⟩ ∧ g < w.heap.size ∧ (∀ j, j < 12 → w.cell? ⟨g, o + k * 12 + j, none⟩ = (tmc b b' X X' n1 c1 n2 c2 (tAt P k).m)[j]?) ∧ IsRat w (.bool b) (.slice X n1 c1) (.bool b') (.slice X' n2 c2) (tAt P k).c := by
 obtain ⟨A', c', h1, h2, h3, h4⟩ := h
 injection h1 with e1 e2 e3
 subst e1; subst e2; subst e3
 obtain ⟨b, o, cs, fz, h5, h6, h7⟩ := h4 (by omega)
 obtain ⟨ts, ⟨b1, b1', X, X', n1, c1, n2, c2, rfl, h8⟩, h9⟩ := h7 k hk
 exact ⟨rfl, h2, h3, b, o, b1, b1', X, X', n1, c1, n2, c2, h5, lt_of_heap h6, fun j hj => (cell_of_block h6).trans (h9 j hj), h8⟩
theorem fl_length : ∀ {cl : List (Array Value)}, (∀ i, i < cl.length → (cl.getD i #[]).size = 12) → (cl.flatMap Array.toList).length = cl.length * 12
 | [], _ => rfl
 | a :: cl, h => by
  have h0 := h 0 (by simp)
  have := fl_length (cl := cl) fun i hi => by have := h (i + 1) (by simp; omega); simpa using this
  simp at h0 this ⊢
  omega
theorem fl_get : ∀ {cl : List (Array Value)}, (∀ i, i < cl.length → (cl.getD i #[]).size = 12) → ∀ i j, i < cl.length → j < 12 → (cl.flatMap Array.toList)[i * 12 + j]? = (cl.getD i #[])[j]?
 | [], _, i, j, hi, _ => by simp at hi
 | a :: cl, h, i, j, hi, hj => by
  have h0 : a.size = 12 := h 0 (by simp)
  rw [List.flatMap_cons]
  match i with
  | 0 =>
   rw [Nat.zero_mul, Nat.zero_add, List.getElem?_append_left (by simpa [h0] using hj)]
   simp
  | i + 1 =>
   rw [List.getElem?_append_right (by simp [h0]; omega)]
   have := fl_get (cl := cl) (fun i hi => by have := h (i + 1) (by simp; omega); simpa using this) i j (by simpa using hi) hj
   rw [show (i + 1) * 12 + j - a.toList.length = i * 12 + j by simp [h0]; omega, this]
   simp
def OwnP (base : Nat) (w : World) (v : Value) (P : List Tm) : Prop := ∃ cl : List (Array Value), cl.length = P.length ∧ w.ownsRow base 33 12 v P.length (cl.flatMap Array.toList) ∧ ∀ i, i < P.length → TmV w (cl.getD i #[]) (tAt P i)
theorem OwnP.ext {base : Nat} {w w' : World} {v : Value} {P : List Tm} (h : OwnP base w v P) (he : Ext w w') : OwnP base w' v P := by
 obtain ⟨cl, h1, ⟨h2, h3⟩, h4⟩ := h
 refine ⟨cl, h1, ⟨h2, ?_⟩, fun i hi => (h4 i hi).ext he⟩
 rcases h3 with h3 | ⟨g, cap, cur, h5, h6, hg, h7⟩
 ·exact .inl h3
 ·exact .inr ⟨g, cap, cur, h5, h6, (he.block (lt_of_heap hg)).trans hg, h7⟩
theorem OwnP.form {base : Nat} {w : World} {v : Value} {P : List Tm} (h : OwnP base w v P) : ∃ A c, v = .slice A P.length c := by
 obtain ⟨_, _, ⟨_, h2⟩, _⟩ := h
 rcases h2 with ⟨rfl, h0⟩ | ⟨g, cap, cur, rfl, _⟩
 ·exact ⟨none, 0, by rw [h0]⟩
 ·exact ⟨_, _, rfl⟩
theorem OwnP.base_le {base : Nat} {w : World} {v : Value} {P : List Tm} (h : OwnP base w v P) : ∀ k, v.ownBlock = some k → base ≤ k := by
 intro k hk
 obtain ⟨_, _, ⟨_, h2⟩, _⟩ := h
 rcases h2 with ⟨rfl, _⟩ | ⟨g, cap, cur, rfl, h4, _⟩
 ·cases hk
 ·cases hk; exact h4
theorem OwnP.base_mono {base base' : Nat} {w : World} {v : Value} {P : List Tm} (h : OwnP base w v P) (hb : base' ≤ base) : OwnP base' w v P := by
 obtain ⟨cl, h1, ⟨h2, h3⟩, h4⟩ := h
 refine ⟨cl, h1, ⟨h2, ?_⟩, h4⟩
 rcases h3 with h3 | ⟨g, cap, cur, h5, h6, hg, h7⟩
 ·exact .inl h3
 ·exact .inr ⟨g, cap, cur, h5, Nat.le_trans hb h6, hg, h7⟩
theorem OwnP.ty {base : Nat} {w : World} {v : Value} {P : List Tm} (h : OwnP base w v P) : ∀ k, v.ownBlock = some k → Ty w k 33 := by
 intro k hk
 obtain ⟨_, _, ⟨_, h2⟩, _⟩ := h
 rcases h2 with ⟨rfl, _⟩ | ⟨g, cap, cur, rfl, h4, hg, _⟩
 ·cases hk
 ·cases hk; exact ⟨_, _, hg⟩
theorem OwnP.notU {base : Nat} {w : World} {v : Value} {P : List Tm} (h : OwnP base w v P) : ∀ k, v.ownBlock = some k → ¬ Ty w k 137 := fun k hk hu => by
 obtain ⟨_, _, h1⟩ := h.ty k hk
 obtain ⟨_, _, h2⟩ := hu
 rw [h1] at h2
 cases h2
theorem OwnP.pol {base : Nat} {w : World} {v : Value} {P : List Tm} (h : OwnP base w v P) : PolAt w v P := by
 obtain ⟨cl, h1, ⟨h2, h3⟩, h4⟩ := h
 have hsz : ∀ i, i < cl.length → (cl.getD i #[]).size = 12 := fun i hi => (h4 i (by omega)).size
 rcases h3 with ⟨rfl, h0⟩ | ⟨g, cap, cur, rfl, _, hg, hc, hm, hsz', ht⟩
 ·exact ⟨none, 0, by rw [h0], by omega, by omega, fun hp => by omega⟩
 ·refine ⟨_, _, rfl, hc, by simpa [maxLen] using hm, fun _ => ⟨g, 0, cur, _, rfl, hg, fun k hk => ⟨_, h4 k hk, fun j hj => ?_⟩⟩⟩
  rw [Nat.zero_add, ← fl_get hsz k j (by omega) hj, ← ht, List.getElem?_take, if_pos (by omega)]
  simp
theorem append_term {base : Nat} {w : World} {v : Value} {P : List Tm} {g : Nat} {cs : Array Value} {t : Tm} (h : OwnP base w v P) (hb : Blk w g 33 cs) (hr : TmV w cs t) (hbs : base ≤ w.heap.size) (hl : P.length ≤ 1000000) :
  ∃ A c w', (Builtin.append_ #[23, 23] 23 #[v, .slice (some ⟨g, 0, none⟩) 1 1]).run Tryz.prog w = .ok (.slice A (P.length + 1) c) w' ∧ OwnP base w' (.slice A (P.length + 1) c) (P ++ [t]) ∧ w.grownBy w' v.ownBlock := by
 obtain ⟨i, hi, hz0, hz1, hz2⟩ := info_parts (show (Tryz.prog.info? 33).map (fun i => (i.zero, i.size, i.bytes)) = some (some (.agg #[.bool false, .slice none 0 0, .bool false, .slice none 0 0, .int .i64 0, .int .i64 0, .int .i64 0, .int .i64 0, .int .i64 0, .int .i64 0, .int .i64 0, .int .i64 0]), 12, 128) by kernel_rfl)
 have hk := h.notU
 obtain ⟨cl, h1, h2, h3⟩ := h
 obtain ⟨v', w', hrun, hown, hg, _⟩ := run_append_own (P := Tryz.prog) w base 23 23 33 i _ 12 128 Tryz.underlying23 hi hz0 hz1 hz2 rfl (by omega)
  v P.length (cl.flatMap Array.toList) h2 ⟨g, 0, none⟩ 1 1 cs.toList (by simp [hr.size]) (fun j u hu => by rw [add_mk, Nat.zero_add, hb.cell, ← Array.getElem?_toList]; exact hu) hr.one (by simp only [maxLen]; omega) (by omega) hbs
 have hO : OwnP base w' v' (P ++ [t]) := by
  refine ⟨cl ++ [cs], by simp [h1], ?_, fun j hj => ?_⟩
  ·rw [List.flatMap_append, List.length_append]
   simpa using hown
  ·simp only [List.length_append, List.length_cons, List.length_nil] at hj
   by_cases e : j = P.length
   ·have e1 : tAt (P ++ [t]) j = t := by unfold tAt; rw [e]; simp
    have e2 : (cl ++ [cs]).getD j #[] = cs := by rw [e, ← h1]; simp
    rw [e1, e2]
    exact hr.kept hg hk
   ·have e1 : tAt (P ++ [t]) j = tAt P j := by
     unfold tAt
     rw [List.getD_eq_getElem?_getD, List.getElem?_append_left (by omega), ← List.getD_eq_getElem?_getD]
    have e2 : (cl ++ [cs]).getD j #[] = cl.getD j #[] := by rw [List.getD_eq_getElem?_getD, List.getElem?_append_left (by omega), ← List.getD_eq_getElem?_getD]
    rw [e1, e2]
    exact (h3 j (by omega)).kept hg hk
 obtain ⟨A, c, rfl⟩ := hO.form
 have el : (P ++ [t]).length = P.length + 1 := by simp
 rw [el] at hrun hO
 exact ⟨A, c, w', hrun, hO, hg⟩
def RetPolO (P : List Tm) (w : World) (e : Ending) (w' : World) : Prop := ∃ (A : Option Addr) (c : Nat), e = .returned (.slice A P.length c) ∧ OwnP w.heap.size w' (.slice A P.length c) P ∧ Ext w w'
def RetPolEO (n : Int) (P : List Tm) (w : World) (e : Ending) (w' : World) : Prop := ∃ (A : Option Addr) (c : Nat), e = .returned (.tuple #[.slice A P.length c, .int .i64 n]) ∧ OwnP w.heap.size w' (.slice A P.length c) P ∧ Ext w w'
def PSz (P : List Tm) (N : Nat) : Prop := ∀ t ∈ P, RSz t.c N
theorem PSz.mono {P : List Tm} {N M : Nat} (h : PSz P N) (hm : N ≤ M) : PSz P M := fun t ht => (h t ht).mono hm
def PIn (P : List Tm) (lo hi : Int) : Prop := ∀ t ∈ P, In8 t.m lo hi
theorem PIn.mono {P : List Tm} {a b c d : Int} (h : PIn P a b) (h1 : c ≤ a) (h2 : b ≤ d) : PIn P c d := fun t ht => (h t ht).mono h1 h2
end Go.Proofs.YteicdddphdomkaaGreat
namespace Go.Proofs.YteicdddphdomkaaGreat
open Go.RowKit
theorem digs_inj {x y : Nat} (h : digs x = digs y) : x = y := by rw [← val_digs x, ← val_digs y, h]
set_option maxRecDepth 100000 in
set_option maxHeartbeats 1600000 in
theorem Rsame_any (b b' : Bool) (A A' : Option Addr) (n c n' c' : Nat) (x y : Int) (w : World) (h : IsInt w (.bool b) (.slice A n c) x) (h' : IsInt w (.bool b') (.slice A' n' c') y) :
  Calls Tryz.prog 91 #[.agg #[.bool b, .slice A n c], .agg #[.bool b', .slice A' n' c']] w fun e w' => e = .returned (.bool (decide (x = y))) ∧ Ext w w' := by
 have hb2 : Hid (Blk ((w.alloc (.cells #[.bool b, .slice A n c] 27)).alloc (.cells #[.bool b', .slice A' n' c'] 27)) w.heap.size 27 #[.bool b, .slice A n c]) := (Blk.new _ _ _).alloc _
 have hb3 : Hid (Blk ((w.alloc (.cells #[.bool b, .slice A n c] 27)).alloc (.cells #[.bool b', .slice A' n' c'] 27)) (w.heap.size + 1) 27 #[.bool b', .slice A' n' c']) := Blk.new' _ _ (by simp)
 have hE : Hid (Ext w ((w.alloc (.cells #[.bool b, .slice A n c] 27)).alloc (.cells #[.bool b', .slice A' n' c'] 27))) := ((Ext.refl _).alloc _).alloc _
 obtain ⟨B, d, hv1, hc1, hm1, hx⟩ := h.2.open_
 obtain ⟨B', d', hv2, hc2, hm2, hy⟩ := h'.2.open_
 injection hv1 with e1 e2 e3
 subst e1; subst e3
 injection hv2 with e4 e5 e6
 subst e4; subst e6
 have hb : b = decide (x < 0) := by have := h.1; injection this
 have hb' : b' = decide (y < 0) := by have := h'.1; injection this
 replace hx := hide hx
 replace hy := hide hy
 replace e2 := hide e2
 replace e5 := hide e5
 have hnb : n ≤ 9223372036854775807 := by have := e2.out; omega
 clear h h' hc1 hc2
 by_cases hbb : b = b'
 ·by_cases hnn : n = n'
  ·subst hbb; subst hnn
   have hsg : Hid (x.natAbs = y.natAbs → x = y) := hide fun h => by
    rw [hb] at hb'
    by_cases h1 : x < 0 <;> by_cases h2 : y < 0 <;> simp [h1, h2] at hb' <;> omega
   clear hb hb'
   go_enter Tryz.func91, Tryz.ntmps91
   go_wp2
   generalize ((w.alloc (.cells #[.bool b, .slice A n c] 27)).alloc (.cells #[.bool b, .slice A' n c'] 27)) = wa at *
   generalize w.heap.size = B2 at *
   go_loopw [5] (fun i wr => ∃ k : Nat, k ≤ n ∧ i = .int .i64 k ∧ Hid (Ext wa wr ∧ ∀ i, i < k → (digs x.natAbs).getD i 0 = (digs y.natAbs).getD i 0)) (fun i _ => n - (intOf i).toNat)
   case atStart => exact ⟨0, by omega, rfl, Ext.refl _, fun i hi => absurd hi (Nat.not_lt_zero _)⟩
   case round =>
    obtain ⟨k, hk, rfl, hI⟩ := hrel
    have q1 : wr.cell? ⟨B2, 1, none⟩ = some (.slice A n c) := hI.out.1.cellv (hb2.out.cell 1)
    have q2 : wr.cell? ⟨B2 + 1, 1, none⟩ = some (.slice A' n c') := hI.out.1.cellv (hb3.out.cell 1)
    by_cases hlt : k < n
    ·have hd : decide (k < n) = true := by simpa using hlt
     obtain ⟨gx, ox, rfl, hgx, hcx⟩ := hx.out (by rw [← e2.out]; omega)
     obtain ⟨gy, oy, rfl, hgy, hcy⟩ := hy.out (by rw [← e5.out]; omega)
     replace hcx : wr.cell? ⟨gx, ox + k, none⟩ = some (.int .u32 ((digs x.natAbs).getD k 0 : Nat)) := (hE.out.trans hI.out.1).cellv (hcx k (by rw [← e2.out]; omega))
     replace hcy : wr.cell? ⟨gy, oy + k, none⟩ = some (.int .u32 ((digs y.natAbs).getD k 0 : Nat)) := (hE.out.trans hI.out.1).cellv (hcy k (by rw [← e5.out]; omega))
     generalize hX : (digs x.natAbs).getD k 0 = X at *
     generalize hY : (digs y.natAbs).getD k 0 = Y at *
     replace hX := hide hX
     replace hY := hide hY
     by_cases hXY : X = Y
     ·subst hXY
      have hwr : IntKind.i64.wrap ((k : Int) + 1) = (k : Int) + 1 := IntWalk.i64_in _ (by omega)
      go_wp2
      go_quiet (fail)
      go_wp2
      refine ⟨⟨k + 1, hlt, by simp, hI.out.1.drewN _, fun i hi => ?_⟩, by simp [intOf]; omega⟩
      by_cases e : i = k
      ·rw [e, hX.out, hY.out]
      ·exact hI.out.2 i (by omega)
     ·have hne : ¬ x = y := fun e => hXY (by rw [← hX.out, ← hY.out, e])
      have hXi : ¬ ((X : Int) = Y) := by omega
      replace hXY := hide hXY
      go_wp2
      go_quiet (fail)
      go_wp2
      go_ret
      exact ⟨by simp [hne], hE.out.trans (hI.out.1.drewN _)⟩
    ·obtain rfl : k = n := by omega
     have hd : decide (k < k) = false := by simp
     have hxy : x = y := hsg.out (digs_inj (List.ext_getElem (by rw [← e2.out, ← e5.out]) fun i h1 h2 => by
      have := hI.out.2 i (by rw [e2.out]; exact h1)
      simpa [List.getD_eq_getElem?_getD, List.getElem?_eq_getElem h1, List.getElem?_eq_getElem h2] using this))
     replace hxy := hide hxy
     go_wp2
     go_ret
     exact ⟨by simp [hxy.out], hE.out.trans hI.out.1⟩
  ·subst hbb
   have hne : ¬ x = y := fun e => hnn (by rw [e2.out, e5.out, e])
   have hnni : ¬ ((n : Int) = n') := by omega
   replace hnn := hide hnn
   replace hne := hide hne
   clear hb hb'
   go_enter Tryz.func91, Tryz.ntmps91
   go_wp2
   go_ret
   exact ⟨by simp [hne.out], hE.out⟩
 ·have hne : ¬ x = y := fun e => hbb (by rw [hb, hb', e])
  replace hne := hide hne
  clear hb hb'
  cases b <;> cases b'
  ·exact absurd rfl hbb
  ·go_enter Tryz.func91, Tryz.ntmps91
   go_wp2
   go_ret
   exact ⟨by simp [hne.out], hE.out⟩
  ·go_enter Tryz.func91, Tryz.ntmps91
   go_wp2
   go_ret
   exact ⟨by simp [hne.out], hE.out⟩
  ·exact absurd rfl hbb
end Go.Proofs.YteicdddphdomkaaGreat
namespace Go.Proofs.YteicdddphdomkaaGreat
open Go.RowKit
set_option maxRecDepth 100000 in
set_option maxHeartbeats 1600000 in
theorem RSameQ_any (bx bx' : Bool) (Ax Ax' : Option Addr) (nx cx nx' cx' : Nat) (bz bz' : Bool) (Ay Ay' : Option Addr) (ny cy ny' cy' : Nat) (p q : Rat) (w : World) (h : IsRat w (.bool bx) (.slice Ax nx cx) (.bool bx') (.slice Ax' nx' cx') p) (h' : IsRat w (.bool bz) (.slice Ay ny cy) (.bool bz') (.slice Ay' ny' cy') q) :
  Calls Tryz.prog 29 #[.agg #[.bool bx, .slice Ax nx cx, .bool bx', .slice Ax' nx' cx'], .agg #[.bool bz, .slice Ay ny cy, .bool bz', .slice Ay' ny' cy']] w fun e w' => e = .returned (.bool (decide (p = q))) ∧ Ext w w' := by
 have hb2 : Hid (Blk ((w.alloc (.cells #[.bool bx, .slice Ax nx cx, .bool bx', .slice Ax' nx' cx'] 29)).alloc (.cells #[.bool bz, .slice Ay ny cy, .bool bz', .slice Ay' ny' cy'] 29)) w.heap.size 29 #[.bool bx, .slice Ax nx cx, .bool bx', .slice Ax' nx' cx']) := (Blk.new _ _ _).alloc _
 have hb3 : Hid (Blk ((w.alloc (.cells #[.bool bx, .slice Ax nx cx, .bool bx', .slice Ax' nx' cx'] 29)).alloc (.cells #[.bool bz, .slice Ay ny cy, .bool bz', .slice Ay' ny' cy'] 29)) (w.heap.size + 1) 29 #[.bool bz, .slice Ay ny cy, .bool bz', .slice Ay' ny' cy']) := Blk.new' _ _ (by simp)
 have hE : Hid (Ext w ((w.alloc (.cells #[.bool bx, .slice Ax nx cx, .bool bx', .slice Ax' nx' cx'] 29)).alloc (.cells #[.bool bz, .slice Ay ny cy, .bool bz', .slice Ay' ny' cy'] 29))) := ((Ext.refl _).alloc _).alloc _
 replace h := hide (h.ext hE.out)
 replace h' := hide (h'.ext hE.out)
 go_enter Tryz.func29, Tryz.ntmps29
 go_wp2_with fail
 generalize ((w.alloc (.cells #[.bool bx, .slice Ax nx cx, .bool bx', .slice Ax' nx' cx'] 29)).alloc (.cells #[.bool bz, .slice Ay ny cy, .bool bz', .slice Ay' ny' cy'] 29)) = wa at *
 generalize w.heap.size = B2 at *
 refine (Rsame_any _ _ _ _ _ _ _ _ p.num q.num _ h.out.1 h'.out.1).mono ?_
 rintro e w1 ⟨rfl, hE1⟩
 have q2 : w1.cell? ⟨B2, 2, none⟩ = some (.bool bx') := hE1.cellv (hb2.out.cell 2)
 have q3 : w1.cell? ⟨B2, 3, none⟩ = some (.slice Ax' nx' cx') := hE1.cellv (hb2.out.cell 3)
 have q4 : w1.cell? ⟨B2 + 1, 2, none⟩ = some (.bool bz') := hE1.cellv (hb3.out.cell 2)
 have q5 : w1.cell? ⟨B2 + 1, 3, none⟩ = some (.slice Ay' ny' cy') := hE1.cellv (hb3.out.cell 3)
 replace hE1 := hide hE1
 by_cases hnum : p.num = q.num
 ·have hd : decide (p.num = q.num) = true := by simpa using hnum
  rw [hd]
  replace hnum := hide hnum
  clear hd
  go_wp2_with fail
  refine (Rsame_any _ _ _ _ _ _ _ _ (p.den : Int) (q.den : Int) _ (h.out.2.ext hE1.out) (h'.out.2.ext hE1.out)).mono ?_
  rintro e w2 ⟨rfl, hE2⟩
  have hr : decide ((p.den : Int) = q.den) = decide (p = q) := by
   by_cases hpq : p = q
   ·subst hpq; simp
   ·have : ¬ ((p.den : Int) = q.den) := fun e => hpq (Rat.ext hnum.out (by omega))
    simp [this, hpq]
  obtain ⟨bb, hbb⟩ : ∃ bb, decide (p = q) = bb := ⟨_, rfl⟩
  rw [hr, hbb]
  replace hbb := hide hbb
  replace hE2 := hide hE2
  clear hr
  cases bb
  ·go_wp2
   go_ret
   exact ⟨by rw [hbb.out]; rfl, hE.out.trans (hE1.out.trans hE2.out)⟩
  ·go_wp2
   go_ret
   exact ⟨by rw [hbb.out]; rfl, hE.out.trans (hE1.out.trans hE2.out)⟩
 ·have hd : decide (p.num = q.num) = false := by simpa using hnum
  rw [hd]
  have hr : decide (p = q) = false := by
   simp only [decide_eq_false_iff_not]
   exact fun e => hnum (by rw [e])
  replace hr := hide hr
  clear hd hnum
  go_wp2
  go_ret
  exact ⟨by rw [hr.out]; rfl, hE.out.trans hE1.out⟩
noncomputable def tmB (s t : Tm) : Bool := eqB s.m t.m && decide (s.c = t.c)
theorem tmB_true {s t : Tm} : tmB s t = true ↔ Eqv s.m t.m ∧ s.c = t.c := by
 unfold tmB
 rw [Bool.and_eq_true, eqB_true, decide_eq_true_eq]
 exact Iff.rfl
set_option maxRecDepth 100000 in
set_option maxHeartbeats 1600000 in
theorem RSameTerm_any (bx bx' : Bool) (Ax Ax' : Option Addr) (nx cx nx' cx' : Nat) (bz bz' : Bool) (Ay Ay' : Option Addr) (ny cy ny' cy' : Nat) (s t : Tm) (w : World) (h : IsRat w (.bool bx) (.slice Ax nx cx) (.bool bx') (.slice Ax' nx' cx') s.c) (h' : IsRat w (.bool bz) (.slice Ay ny cy) (.bool bz') (.slice Ay' ny' cy') t.c) :
  Calls Tryz.prog 78 #[.agg #[.bool bx, .slice Ax nx cx, .bool bx', .slice Ax' nx' cx', .int .i64 (s.m 0), .int .i64 (s.m 1), .int .i64 (s.m 2), .int .i64 (s.m 3), .int .i64 (s.m 4), .int .i64 (s.m 5), .int .i64 (s.m 6), .int .i64 (s.m 7)], .agg #[.bool bz, .slice Ay ny cy, .bool bz', .slice Ay' ny' cy', .int .i64 (t.m 0), .int .i64 (t.m 1), .int .i64 (t.m 2), .int .i64 (t.m 3), .int .i64 (t.m 4), .int .i64 (t.m 5), .int .i64 (t.m 6), .int .i64 (t.m 7)]] w fun e w' => e = .returned (.bool (tmB s t)) ∧ Ext w w' := by
 have hb2 : Hid (Blk ((w.alloc (.cells #[.bool bx, .slice Ax nx cx, .bool bx', .slice Ax' nx' cx', .int .i64 (s.m 0), .int .i64 (s.m 1), .int .i64 (s.m 2), .int .i64 (s.m 3), .int .i64 (s.m 4), .int .i64 (s.m 5), .int .i64 (s.m 6), .int .i64 (s.m 7)] 33)).alloc (.cells #[.bool bz, .slice Ay ny cy, .bool bz', .slice Ay' ny' cy', .int .i64 (t.m 0), .int .i64 (t.m 1), .int .i64 (t.m 2), .int .i64 (t.m 3), .int .i64 (t.m 4), .int .i64 (t.m 5), .int .i64 (t.m 6), .int .i64 (t.m 7)] 33)) w.heap.size 33 #[.bool bx, .slice Ax nx cx, .bool bx', .slice Ax' nx' cx', .int .i64 (s.m 0), .int .i64 (s.m 1), .int .i64 (s.m 2), .int .i64 (s.m 3), .int .i64 (s.m 4), .int .i64 (s.m 5), .int .i64 (s.m 6), .int .i64 (s.m 7)]) := (Blk.new _ _ _).alloc _
 have hb3 : Hid (Blk ((w.alloc (.cells #[.bool bx, .slice Ax nx cx, .bool bx', .slice Ax' nx' cx', .int .i64 (s.m 0), .int .i64 (s.m 1), .int .i64 (s.m 2), .int .i64 (s.m 3), .int .i64 (s.m 4), .int .i64 (s.m 5), .int .i64 (s.m 6), .int .i64 (s.m 7)] 33)).alloc (.cells #[.bool bz, .slice Ay ny cy, .bool bz', .slice Ay' ny' cy', .int .i64 (t.m 0), .int .i64 (t.m 1), .int .i64 (t.m 2), .int .i64 (t.m 3), .int .i64 (t.m 4), .int .i64 (t.m 5), .int .i64 (t.m 6), .int .i64 (t.m 7)] 33)) (w.heap.size + 1) 33 #[.bool bz, .slice Ay ny cy, .bool bz', .slice Ay' ny' cy', .int .i64 (t.m 0), .int .i64 (t.m 1), .int .i64 (t.m 2), .int .i64 (t.m 3), .int .i64 (t.m 4), .int .i64 (t.m 5), .int .i64 (t.m 6), .int .i64 (t.m 7)]) := Blk.new' _ _ (by simp)
 have hE : Hid (Ext w ((w.alloc (.cells #[.bool bx, .slice Ax nx cx, .bool bx', .slice Ax' nx' cx', .int .i64 (s.m 0), .int .i64 (s.m 1), .int .i64 (s.m 2), .int .i64 (s.m 3), .int .i64 (s.m 4), .int .i64 (s.m 5), .int .i64 (s.m 6), .int .i64 (s.m 7)] 33)).alloc (.cells #[.bool bz, .slice Ay ny cy, .bool bz', .slice Ay' ny' cy', .int .i64 (t.m 0), .int .i64 (t.m 1), .int .i64 (t.m 2), .int .i64 (t.m 3), .int .i64 (t.m 4), .int .i64 (t.m 5), .int .i64 (t.m 6), .int .i64 (t.m 7)] 33))) := ((Ext.refl _).alloc _).alloc _
 replace h := hide (h.ext hE.out)
 replace h' := hide (h'.ext hE.out)
 have heq : ∀ W, _ := fun W => run_eq_mono s.m t.m W
 by_cases hm : eqB s.m t.m = true
 ·rw [hm] at heq
  have hr : tmB s t = decide (s.c = t.c) := by unfold tmB; rw [hm, Bool.true_and]
  rw [hr]
  clear hr hm
  obtain ⟨bb, hbb⟩ : ∃ bb, decide (s.c = t.c) = bb := ⟨_, rfl⟩
  replace hbb := hide hbb
  go_enter Tryz.func78, Tryz.ntmps78
  go_wp2_with fail
  generalize ((w.alloc (.cells #[.bool bx, .slice Ax nx cx, .bool bx', .slice Ax' nx' cx', .int .i64 (s.m 0), .int .i64 (s.m 1), .int .i64 (s.m 2), .int .i64 (s.m 3), .int .i64 (s.m 4), .int .i64 (s.m 5), .int .i64 (s.m 6), .int .i64 (s.m 7)] 33)).alloc (.cells #[.bool bz, .slice Ay ny cy, .bool bz', .slice Ay' ny' cy', .int .i64 (t.m 0), .int .i64 (t.m 1), .int .i64 (t.m 2), .int .i64 (t.m 3), .int .i64 (t.m 4), .int .i64 (t.m 5), .int .i64 (t.m 6), .int .i64 (t.m 7)] 33)) = wa at *
  refine (RSameQ_any bx bx' Ax Ax' nx cx nx' cx' bz bz' Ay Ay' ny cy ny' cy' s.c t.c _ h.out h'.out).mono ?_
  rintro e w1 ⟨rfl, hE1⟩
  rw [hbb.out]
  replace hE1 := hide hE1
  clear heq
  cases bb
  ·go_wp2
   go_ret
   exact ⟨by rw [hbb.out]; rfl, hE.out.trans hE1.out⟩
  ·go_wp2
   go_ret
   exact ⟨by rw [hbb.out]; rfl, hE.out.trans hE1.out⟩
 ·have hm' : eqB s.m t.m = false := by simpa using hm
  rw [hm'] at heq
  have hr : tmB s t = false := by unfold tmB; rw [hm', Bool.false_and]
  rw [hr]
  clear hr hm hm'
  go_enter Tryz.func78, Tryz.ntmps78
  go_wp2
  go_ret
  exact ⟨rfl, hE.out⟩
noncomputable def sameB (P Q : List Tm) : Bool := @decide (SameL P Q) (Classical.propDecidable _)
theorem sameB_true {P Q : List Tm} : sameB P Q = true ↔ SameL P Q := by
 unfold sameB
 exact @decide_eq_true_iff _ (Classical.propDecidable _)
theorem sameB_false {P Q : List Tm} (h : ¬ SameL P Q) : sameB P Q = false := by
 rw [Bool.eq_false_iff]
 exact fun h' => h (sameB_true.1 h')
theorem sameL_iff : ∀ {P Q : List Tm}, SameL P Q ↔ P.length = Q.length ∧ ∀ k, k < P.length → tmB (tAt P k) (tAt Q k) = true
 | [], [] => by simp [SameL]
 | [], t :: Q => by simp [SameL]
 | s :: P, [] => by simp [SameL]
 | s :: P, t :: Q => by
  have ih := sameL_iff (P := P) (Q := Q)
  constructor
  ·rintro ⟨h1, h2, h3⟩
   obtain ⟨h4, h5⟩ := ih.1 h3
   refine ⟨by simp [h4], fun k hk => ?_⟩
   match k with
   | 0 => exact tmB_true.2 ⟨h2, h1⟩
   | k + 1 => exact h5 k (by simpa using hk)
  ·rintro ⟨h1, h2⟩
   have h0 := tmB_true.1 (h2 0 (by simp))
   exact ⟨h0.2, h0.1, ih.2 ⟨by simpa using h1, fun k hk => h2 (k + 1) (by simpa using hk)⟩⟩
theorem PolAt.form {w : World} {v : Value} {P : List Tm} (h : PolAt w v P) : ∃ A c, v = .slice A P.length c := by
 obtain ⟨A, c, h1, _⟩ := h
 exact ⟨A, c, h1⟩
set_option maxRecDepth 100000 in
set_option maxHeartbeats 1600000 in
theorem RSame_any (v u : Value) (P Q : List Tm) (w : World) (h : PolAt w v P) (h' : PolAt w u Q) :
  Calls Tryz.prog 19 #[v, u] w fun e w' => e = .returned (.bool (sameB P Q)) ∧ Ext w w' := by
 obtain ⟨A, cP, rfl⟩ := h.form
 obtain ⟨A', cQ, rfl⟩ := h'.form
 replace h := hide h
 replace h' := hide h'
 obtain ⟨N, hN⟩ : ∃ N, N = P.length := ⟨_, rfl⟩
 obtain ⟨M, hM⟩ : ∃ M, M = Q.length := ⟨_, rfl⟩
 rw [← hN] at h ⊢
 rw [← hM] at h' ⊢
 by_cases hlen : N = M
 ·subst hlen
  replace hN := hide hN
  replace hM := hide hM
  go_enter Tryz.func19, Tryz.ntmps19
  go_wp2
  go_loopw [5] (fun i wr => ∃ k : Nat, k ≤ N ∧ i = .int .i64 k ∧ Hid ((∀ i, i < k → tmB (tAt P i) (tAt Q i) = true) ∧ Ext w wr)) (fun i _ => N - (intOf i).toNat)
  case atStart => exact ⟨0, by omega, rfl, fun i hi => absurd hi (Nat.not_lt_zero _), Ext.refl _⟩
  case round =>
   obtain ⟨k, hk, rfl, hI⟩ := hrel
   by_cases hlt : k < N
   ·have hd : decide (k < N) = true := by simpa using hlt
    obtain ⟨_, _, _, gx, ox, bx, bx', Ax, Ax', nx, cx, nx', cx', rfl, hgx, hcx, hsx⟩ := h.out.term (k := k) (by rw [← hN.out]; exact hlt)
    obtain ⟨_, _, _, gy, oy, bz, bz', Ay, Ay', ny, cy, ny', cy', rfl, hgy, hcy, hsy⟩ := h'.out.term (k := k) (by rw [← hM.out]; exact hlt)
    replace hsx := hide hsx
    replace hsy := hide hsy
    have x0 : Hid (wr.cell? ⟨gx, ox + k * 12, none⟩ = some (.bool bx)) := hI.out.2.cellv (hcx 0 (by omega))
    have x1 : Hid (wr.cell? ⟨gx, ox + k * 12 + 1, none⟩ = some (.slice Ax nx cx)) := hI.out.2.cellv (hcx 1 (by omega))
    have x2 : Hid (wr.cell? ⟨gx, ox + k * 12 + 2, none⟩ = some (.bool bx')) := hI.out.2.cellv (hcx 2 (by omega))
    have x3 : Hid (wr.cell? ⟨gx, ox + k * 12 + 3, none⟩ = some (.slice Ax' nx' cx')) := hI.out.2.cellv (hcx 3 (by omega))
    have x4 : Hid (wr.cell? ⟨gx, ox + k * 12 + 4, none⟩ = some (.int .i64 ((tAt P k).m 0))) := hI.out.2.cellv (hcx 4 (by omega))
    have x5 : Hid (wr.cell? ⟨gx, ox + k * 12 + 5, none⟩ = some (.int .i64 ((tAt P k).m 1))) := hI.out.2.cellv (hcx 5 (by omega))
    have x6 : Hid (wr.cell? ⟨gx, ox + k * 12 + 6, none⟩ = some (.int .i64 ((tAt P k).m 2))) := hI.out.2.cellv (hcx 6 (by omega))
    have x7 : Hid (wr.cell? ⟨gx, ox + k * 12 + 7, none⟩ = some (.int .i64 ((tAt P k).m 3))) := hI.out.2.cellv (hcx 7 (by omega))
    have x8 : Hid (wr.cell? ⟨gx, ox + k * 12 + 8, none⟩ = some (.int .i64 ((tAt P k).m 4))) := hI.out.2.cellv (hcx 8 (by omega))
    have x9 : Hid (wr.cell? ⟨gx, ox + k * 12 + 9, none⟩ = some (.int .i64 ((tAt P k).m 5))) := hI.out.2.cellv (hcx 9 (by omega))
    have x10 : Hid (wr.cell? ⟨gx, ox + k * 12 + 10, none⟩ = some (.int .i64 ((tAt P k).m 6))) := hI.out.2.cellv (hcx 10 (by omega))
    have x11 : Hid (wr.cell? ⟨gx, ox + k * 12 + 11, none⟩ = some (.int .i64 ((tAt P k).m 7))) := hI.out.2.cellv (hcx 11 (by omega))
    have y0 : Hid (wr.cell? ⟨gy, oy + k * 12, none⟩ = some (.bool bz)) := hI.out.2.cellv (hcy 0 (by omega))
    have y1 : Hid (wr.cell? ⟨gy, oy + k * 12 + 1, none⟩ = some (.slice Ay ny cy)) := hI.out.2.cellv (hcy 1 (by omega))
    have y2 : Hid (wr.cell? ⟨gy, oy + k * 12 + 2, none⟩ = some (.bool bz')) := hI.out.2.cellv (hcy 2 (by omega))
    have y3 : Hid (wr.cell? ⟨gy, oy + k * 12 + 3, none⟩ = some (.slice Ay' ny' cy')) := hI.out.2.cellv (hcy 3 (by omega))
    have y4 : Hid (wr.cell? ⟨gy, oy + k * 12 + 4, none⟩ = some (.int .i64 ((tAt Q k).m 0))) := hI.out.2.cellv (hcy 4 (by omega))
    have y5 : Hid (wr.cell? ⟨gy, oy + k * 12 + 5, none⟩ = some (.int .i64 ((tAt Q k).m 1))) := hI.out.2.cellv (hcy 5 (by omega))
    have y6 : Hid (wr.cell? ⟨gy, oy + k * 12 + 6, none⟩ = some (.int .i64 ((tAt Q k).m 2))) := hI.out.2.cellv (hcy 6 (by omega))
    have y7 : Hid (wr.cell? ⟨gy, oy + k * 12 + 7, none⟩ = some (.int .i64 ((tAt Q k).m 3))) := hI.out.2.cellv (hcy 7 (by omega))
    have y8 : Hid (wr.cell? ⟨gy, oy + k * 12 + 8, none⟩ = some (.int .i64 ((tAt Q k).m 4))) := hI.out.2.cellv (hcy 8 (by omega))
    have y9 : Hid (wr.cell? ⟨gy, oy + k * 12 + 9, none⟩ = some (.int .i64 ((tAt Q k).m 5))) := hI.out.2.cellv (hcy 9 (by omega))
    have y10 : Hid (wr.cell? ⟨gy, oy + k * 12 + 10, none⟩ = some (.int .i64 ((tAt Q k).m 6))) := hI.out.2.cellv (hcy 10 (by omega))
    have y11 : Hid (wr.cell? ⟨gy, oy + k * 12 + 11, none⟩ = some (.int .i64 ((tAt Q k).m 7))) := hI.out.2.cellv (hcy 11 (by omega))
    clear hcx hcy hgx hgy
    have hup : Hid (tmB (tAt P k) (tAt Q k) = true → ∀ i, i < k + 1 → tmB (tAt P i) (tAt Q i) = true) := hide fun hk i hi => by
     by_cases e : i = k
     ·rw [e]; exact hk
     ·exact hI.out.1 i (by omega)
    have hdn : Hid (tmB (tAt P k) (tAt Q k) = false → sameB P Q = false) := hide fun hk => sameB_false fun hs => by
     have := (sameL_iff.1 hs).2 k (by rw [← hN.out]; exact hlt)
     rw [hk] at this; cases this
    obtain ⟨bb, hbb⟩ : ∃ bb, tmB (tAt P k) (tAt Q k) = bb := ⟨_, rfl⟩
    rw [hbb] at hup hdn
    replace hbb := hide hbb
    replace hI := hide hI.out
    generalize tAt P k = s at *
    generalize tAt Q k = t at *
    go_upto_region 6 with (fail)
    have i1 : (k : Int) < N := by omega
    refine wp_region_v (by kernel_rfl) [[], [], [(17, 0), (18, 1)], [(19, 2)], [], [], [(21, 4), (22, 5)], [(23, 6)], [(20, 3), (24, 7)], [(25, 8)]] [[], [], [0, 1], [0, 1, 2], [], [], [4, 5], [4, 5, 6], [0, 1, 2, 3, 4, 5, 6, 7], [0, 1, 2, 3, 4, 5, 6, 7, 8]]
     [fun v _ => v = .slice (some ⟨gx, ox, none⟩) N cP, fun v _ => v = .int .i64 (k : Int), fun v _ => v = .pointer (some ⟨gx, ox + k * 12, none⟩), fun v _ => v = .agg #[.bool bx, .slice Ax nx cx, .bool bx', .slice Ax' nx' cx', .int .i64 (s.m 0), .int .i64 (s.m 1), .int .i64 (s.m 2), .int .i64 (s.m 3), .int .i64 (s.m 4), .int .i64 (s.m 5), .int .i64 (s.m 6), .int .i64 (s.m 7)], fun v _ => v = .slice (some ⟨gy, oy, none⟩) N cQ, fun v _ => v = .int .i64 (k : Int), fun v _ => v = .pointer (some ⟨gy, oy + k * 12, none⟩), fun v _ => v = .agg #[.bool bz, .slice Ay ny cy, .bool bz', .slice Ay' ny' cy', .int .i64 (t.m 0), .int .i64 (t.m 1), .int .i64 (t.m 2), .int .i64 (t.m 3), .int .i64 (t.m 4), .int .i64 (t.m 5), .int .i64 (t.m 6), .int .i64 (t.m 7)], fun v _ => v = .bool bb, fun v _ => v = .bool (!bb)]
     rfl (by kernel_rfl) (by kernel_rfl) ?stab ?steps ?fin
    case stab => exact .cons (Stab.eq _) (.cons (Stab.eq _) (.cons (Stab.eq _) (.cons (Stab.eq _) (.cons (Stab.eq _) (.cons (Stab.eq _) (.cons (Stab.eq _) (.cons (Stab.eq _) (.cons (Stab.eq _) (.cons (Stab.eq _) .nil)))))))))
    case steps =>
     refine .cons ?s0 (.cons ?s1 (.cons ?s2 (.cons ?s3 (.cons ?s4 (.cons ?s5 (.cons ?s6 (.cons ?s7 (.cons ?s8 (.cons ?s9 .nil)))))))))
     case s0 =>
      intro w' ev hE hk ha hc hf
      have e0 : ev (.tmp 0) = .slice (some ⟨gx, ox, none⟩) N cP := ha 0 (by decide)
      exact opStep_val (by simp [execOp, e0, go_sem]) rfl
     case s1 =>
      intro w' ev hE hk ha hc hf
      have e5 : ev (.tmp 5) = .int .i64 (k : Int) := ha 5 (by decide)
      exact opStep_val (by simp [execOp, e5, go_sem]) rfl
     case s2 =>
      intro w' ev hE hk ha hc hf
      have e17 : ev (.tmp 17) = .slice (some ⟨gx, ox, none⟩) N cP := hk.1 _ rfl
      have e18 : ev (.tmp 18) = .int .i64 (k : Int) := hk.2.1 _ rfl
      exact opStep_val (by simp [execOp, e17, e18, i1, go_sem]) rfl
     case s3 =>
      intro w' ev hE hk ha hc hf
      have e19 : ev (.tmp 19) = .pointer (some ⟨gx, ox + k * 12, none⟩) := hk.1 _ rfl
      have c0 : w'.cell? ⟨gx, ox + k * 12, none⟩ = some (.bool bx) := hE.cellv x0.out
      have c1 : w'.cell? ⟨gx, ox + k * 12 + 1, none⟩ = some (.slice Ax nx cx) := hE.cellv x1.out
      have c2 : w'.cell? ⟨gx, ox + k * 12 + 2, none⟩ = some (.bool bx') := hE.cellv x2.out
      have c3 : w'.cell? ⟨gx, ox + k * 12 + 3, none⟩ = some (.slice Ax' nx' cx') := hE.cellv x3.out
      have c4 : w'.cell? ⟨gx, ox + k * 12 + 4, none⟩ = some (.int .i64 (s.m 0)) := hE.cellv x4.out
      have c5 : w'.cell? ⟨gx, ox + k * 12 + 5, none⟩ = some (.int .i64 (s.m 1)) := hE.cellv x5.out
      have c6 : w'.cell? ⟨gx, ox + k * 12 + 6, none⟩ = some (.int .i64 (s.m 2)) := hE.cellv x6.out
      have c7 : w'.cell? ⟨gx, ox + k * 12 + 7, none⟩ = some (.int .i64 (s.m 3)) := hE.cellv x7.out
      have c8 : w'.cell? ⟨gx, ox + k * 12 + 8, none⟩ = some (.int .i64 (s.m 4)) := hE.cellv x8.out
      have c9 : w'.cell? ⟨gx, ox + k * 12 + 9, none⟩ = some (.int .i64 (s.m 5)) := hE.cellv x9.out
      have c10 : w'.cell? ⟨gx, ox + k * 12 + 10, none⟩ = some (.int .i64 (s.m 6)) := hE.cellv x10.out
      have c11 : w'.cell? ⟨gx, ox + k * 12 + 11, none⟩ = some (.int .i64 (s.m 7)) := hE.cellv x11.out
      exact opStep_val (by simp [execOp, e19, c0, c1, c2, c3, c4, c5, c6, c7, c8, c9, c10, c11, go_sem]) rfl
     case s4 =>
      intro w' ev hE hk ha hc hf
      have e1 : ev (.tmp 1) = .slice (some ⟨gy, oy, none⟩) N cQ := ha 1 (by decide)
      exact opStep_val (by simp [execOp, e1, go_sem]) rfl
     case s5 =>
      intro w' ev hE hk ha hc hf
      have e5 : ev (.tmp 5) = .int .i64 (k : Int) := ha 5 (by decide)
      exact opStep_val (by simp [execOp, e5, go_sem]) rfl
     case s6 =>
      intro w' ev hE hk ha hc hf
      have e21 : ev (.tmp 21) = .slice (some ⟨gy, oy, none⟩) N cQ := hk.1 _ rfl
      have e22 : ev (.tmp 22) = .int .i64 (k : Int) := hk.2.1 _ rfl
      exact opStep_val (by simp [execOp, e21, e22, i1, go_sem]) rfl
     case s7 =>
      intro w' ev hE hk ha hc hf
      have e23 : ev (.tmp 23) = .pointer (some ⟨gy, oy + k * 12, none⟩) := hk.1 _ rfl
      have c0 : w'.cell? ⟨gy, oy + k * 12, none⟩ = some (.bool bz) := hE.cellv y0.out
      have c1 : w'.cell? ⟨gy, oy + k * 12 + 1, none⟩ = some (.slice Ay ny cy) := hE.cellv y1.out
      have c2 : w'.cell? ⟨gy, oy + k * 12 + 2, none⟩ = some (.bool bz') := hE.cellv y2.out
      have c3 : w'.cell? ⟨gy, oy + k * 12 + 3, none⟩ = some (.slice Ay' ny' cy') := hE.cellv y3.out
      have c4 : w'.cell? ⟨gy, oy + k * 12 + 4, none⟩ = some (.int .i64 (t.m 0)) := hE.cellv y4.out
      have c5 : w'.cell? ⟨gy, oy + k * 12 + 5, none⟩ = some (.int .i64 (t.m 1)) := hE.cellv y5.out
      have c6 : w'.cell? ⟨gy, oy + k * 12 + 6, none⟩ = some (.int .i64 (t.m 2)) := hE.cellv y6.out
      have c7 : w'.cell? ⟨gy, oy + k * 12 + 7, none⟩ = some (.int .i64 (t.m 3)) := hE.cellv y7.out
      have c8 : w'.cell? ⟨gy, oy + k * 12 + 8, none⟩ = some (.int .i64 (t.m 4)) := hE.cellv y8.out
      have c9 : w'.cell? ⟨gy, oy + k * 12 + 9, none⟩ = some (.int .i64 (t.m 5)) := hE.cellv y9.out
      have c10 : w'.cell? ⟨gy, oy + k * 12 + 10, none⟩ = some (.int .i64 (t.m 6)) := hE.cellv y10.out
      have c11 : w'.cell? ⟨gy, oy + k * 12 + 11, none⟩ = some (.int .i64 (t.m 7)) := hE.cellv y11.out
      exact opStep_val (by simp [execOp, e23, c0, c1, c2, c3, c4, c5, c6, c7, c8, c9, c10, c11, go_sem]) rfl
     case s8 =>
      intro w' ev hE hk ha hc hf
      have e20 : ev (.tmp 20) = .agg #[.bool bx, .slice Ax nx cx, .bool bx', .slice Ax' nx' cx', .int .i64 (s.m 0), .int .i64 (s.m 1), .int .i64 (s.m 2), .int .i64 (s.m 3), .int .i64 (s.m 4), .int .i64 (s.m 5), .int .i64 (s.m 6), .int .i64 (s.m 7)] := hk.1 _ rfl
      have e24 : ev (.tmp 24) = .agg #[.bool bz, .slice Ay ny cy, .bool bz', .slice Ay' ny' cy', .int .i64 (t.m 0), .int .i64 (t.m 1), .int .i64 (t.m 2), .int .i64 (t.m 3), .int .i64 (t.m 4), .int .i64 (t.m 5), .int .i64 (t.m 6), .int .i64 (t.m 7)] := hk.2.1 _ rfl
      refine opStep_call (by simp [execOp, resolve, invoke, hf, e20, e24, go_sem]) (RSameTerm_any bx bx' Ax Ax' nx cx nx' cx' bz bz' Ay Ay' ny cy ny' cy' s t _ (hsx.out.ext (hI.out.2.trans ((Ext.refl _).drew.trans hE))) (hsy.out.ext (hI.out.2.trans ((Ext.refl _).drew.trans hE)))) ?_
      rintro e w1 ⟨rfl, hE1⟩
      exact ⟨_, rfl, hE1, by rw [hbb.out]⟩
     case s9 =>
      intro w' ev hE hk ha hc hf
      have e25 : ev (.tmp 25) = .bool bb := hk.1 _ rfl
      exact opStep_val (by simp [execOp, e25, go_sem]) rfl
    case fin =>
     intro gf w' hE hF
     have e9 := hF 9 _ rfl
     simp only [List.length_cons, List.length_nil, Nat.reduceAdd, List.drop_succ_cons, List.drop_zero, List.take_succ_cons, List.take_zero, putG, Act.put, List.setIfInBounds_toArray, List.set_cons_succ, List.set_cons_zero, e9]
     replace hE := hide (hI.out.2.trans ((Ext.refl wr).drew.trans hE))
     clear hF e9 i1
     cases bb
     ·go_wp2
      go_ret
      exact ⟨by rw [hdn.out (by first | rfl | trivial)]; rfl, hE.out⟩
     ·go_wp2
      exact ⟨⟨k + 1, hlt, by simp, hup.out (by first | rfl | trivial), hE.out⟩, by simp [intOf]; omega⟩
   ·obtain rfl : k = N := by omega
    have hd : decide (k < k) = false := by simp
    go_wp2
    go_ret
    exact ⟨by rw [sameB_true.2 (sameL_iff.2 ⟨by rw [← hN.out, ← hM.out], fun i hi => hI.out.1 i (by rw [hN.out]; exact hi)⟩)]; rfl, hI.out.2⟩
 ·rw [sameB_false fun hs => hlen (by rw [hN, hM]; exact hs.length)]
  have hli : ¬ ((N : Int) = M) := by omega
  replace hlen := hide hlen
  clear hN hM
  go_enter Tryz.func19, Tryz.ntmps19
  go_wp2
  go_ret
  exact ⟨rfl, Ext.refl _⟩
end Go.Proofs.YteicdddphdomkaaGreat
namespace Go.Proofs.YteicdddphdomkaaGreat
open Go.RowKit
open Go.ChangeMaps (setBlock)
set_option maxRecDepth 100000 in
theorem run_check_mono (em : Bool) (a : Nat → Int) (W : World) : (Instr.checkKey em 10000 31 (.agg (c8 a))).run Tryz.prog W = .ok () W := by
 obtain ⟨i, hi⟩ : ∃ i, Tryz.prog.info? 3 = some i := Option.isSome_iff_exists.1 (by kernel_rfl)
 rw [show (10000 : Nat) = 9999 + 1 from rfl, Instr.checkKey]
 simp only [Sem.run_bind, run_underlying (show Tryz.prog.underlying 31 = some (.array 8 3) by kernel_rfl), Result.andThen_ok]
 simp only [Std.Legacy.Range.forIn_eq_forIn_range', Std.Legacy.Range.size, Nat.sub_zero, Nat.add_one_sub_one, Nat.div_one]
 have each : ∀ j ∈ List.range' 0 8, j < 8 := fun j hj => by simp at hj; omega
 generalize List.range' 0 8 = is at each
 induction is with
 | nil => simp
 | cons j is ih =>
  have p1 := part_c8 a j (each j (by simp)) W
  have p2 : (Instr.checkKey em 9999 3 (.int .i64 (a j))).run Tryz.prog W = .ok () W := by
   rw [show (9999 : Nat) = 9998 + 1 from rfl, Instr.checkKey]
   simp only [Sem.run_bind, run_underlying (show Tryz.prog.underlying 3 = some (.int .i64) by kernel_rfl), Result.andThen_ok]
   rfl
  simp only [List.forIn_cons, Sem.run_bind, run_sizeOf W hi, Result.andThen_ok, p1, p2, Sem.run_pure]
  exact ih (fun y hy => each y (by simp [hy]))
def keyV (t : Tm) : Value := .agg (c8 t.m)
theorem run_equal_key (a : Nat → Int) (t : Tm) (W : World) : (Op.equal 31 (.agg (c8 a)) (keyV t)).run Tryz.prog W = .ok (eqB a t.m) W := run_eq_mono a t.m W
theorem eqB_no {a b : Nat → Int} (h : ¬ Eqv a b) : eqB a b = false := Bool.eq_false_iff.2 fun h' => h (eqB_true.1 h')
theorem find_none (a : Nat → Int) (W : World) : ∀ (es : List MapEntry) (E : List Tm) (k : Nat), es.map (·.key) = E.map keyV → (∀ t ∈ E, ¬ Eqv a t.m) → (Instr.findAsking 31 (.agg (c8 a)) es k).run Tryz.prog W = .ok none W
 | [], _, _, _, _ => by simp [Instr.findAsking]
 | e :: es, [], _, h, _ => by simp at h
 | e :: es, t :: E, k, h, hn => by
  simp only [List.map_cons, List.cons.injEq] at h
  simp only [Instr.findAsking, Sem.run_bind, h.1, run_equal_key, eqB_no (hn t (by simp)), Result.andThen_ok, Bool.false_eq_true, if_false]
  exact find_none a W es E (k + 1) h.2 fun u hu => hn u (by simp [hu])
theorem find_some (a : Nat → Int) (W : World) : ∀ (es : List MapEntry) (E : List Tm) (k i : Nat), es.map (·.key) = E.map keyV → i < E.length → Eqv a (tAt E i).m → (∀ j, j < i → ¬ Eqv a (tAt E j).m) → ∃ e, es[i]? = some e ∧ (Instr.findAsking 31 (.agg (c8 a)) es k).run Tryz.prog W = .ok (some (k + i, e.val)) W
 | [], E, _, i, h, hi, _, _ => by
  have : E = [] := by cases E <;> simp at h; rfl
  subst this
  simp at hi
 | e :: es, [], _, _, h, _, _, _ => by simp at h
 | e :: es, t :: E, k, 0, h, hi, he, hn => by
  simp only [List.map_cons, List.cons.injEq] at h
  refine ⟨e, rfl, ?_⟩
  have he : Eqv a t.m := he
  simp only [Instr.findAsking, Sem.run_bind, h.1, run_equal_key, eqB_true.2 he, Result.andThen_ok, if_true]
  rfl
 | e :: es, t :: E, k, i + 1, h, hi, he, hn => by
  simp only [List.map_cons, List.cons.injEq] at h
  obtain ⟨x, h1, h2⟩ := find_some a W es E (k + 1) i h.2 (by simpa using hi) he (fun j hj => hn (j + 1) (by omega))
  refine ⟨x, by simpa using h1, ?_⟩
  have h0 : ¬ Eqv a t.m := hn 0 (by omega)
  simp only [Instr.findAsking, Sem.run_bind, h.1, run_equal_key, eqB_no h0, Result.andThen_ok, Bool.false_eq_true, if_false]
  rw [h2, show k + 1 + i = k + (i + 1) by omega]
def MapAt (w : World) (b : Nat) (E : List Tm) : Prop := ∃ (es : Array MapEntry) (clock : Nat), w.heap[b]? = some (.map es clock) ∧ es.toList.map (·.key) = E.map keyV ∧ (∀ i e, es.toList[i]? = some e → RatV w e.val (tAt E i).c) ∧ (∀ x ∈ es.toList, x.born < clock) ∧ (es.toList.map (·.born)).Nodup ∧ E.Pairwise fun s t => ¬ Eqv s.m t.m
theorem MapAt.new (w : World) : MapAt (w.alloc (.map #[] 0)) w.heap.size [] := ⟨#[], 0, heap_alloc_new w _, rfl, fun i e h => by simp at h, fun x h => by simp at h, by simp, List.Pairwise.nil⟩
theorem MapAt.lt {w : World} {b : Nat} {E : List Tm} (h : MapAt w b E) : b < w.heap.size := by
 obtain ⟨es, clock, h1, _⟩ := h
 exact lt_of_heap h1
theorem MapAt.ext {w w' : World} {b : Nat} {E : List Tm} (h : MapAt w b E) (he : Ext w w') : MapAt w' b E := by
 obtain ⟨es, clock, h1, h2, h3, h4⟩ := h
 exact ⟨es, clock, (he.block (lt_of_heap h1)).trans h1, h2, fun i e hi => (h3 i e hi).ext he, h4⟩
theorem MapAt.notU {w : World} {b : Nat} {E : List Tm} (h : MapAt w b E) (t : TypeId) : ¬ Ty w b t := fun hu => by
 obtain ⟨es, clock, h1, _⟩ := h
 obtain ⟨_, _, h2⟩ := hu
 rw [h1] at h2
 cases h2
theorem findKey_mono (x : Value) (es : List MapEntry) (w : World) : (Instr.findKey 31 x es).run Tryz.prog w = (Instr.findAsking 31 x es).run Tryz.prog w := run_findKey_eq w (by kernel_rfl) x es
set_option maxRecDepth 100000 in
theorem MapAt.look_none {w : World} {b : Nat} {E : List Tm} (h : MapAt w b E) {a : Nat → Int} (hn : ∀ t ∈ E, ¬ Eqv a t.m) :
  (Instr.lookup 93 (.map (some b)) (.agg (c8 a)) true).run Tryz.prog w = .ok (.tuple #[.agg #[.bool false, .slice none 0 0, .bool false, .slice none 0 0], .bool false]) w := by
 obtain ⟨es, clock, h1, h2, _⟩ := h
 have hz : (zeroValue 29).run Tryz.prog w = .ok (.agg #[.bool false, .slice none 0 0, .bool false, .slice none 0 0]) w := by kernel_rfl
 simp only [Instr.lookup, Sem.run_bind, run_underlying (show Tryz.prog.underlying 93 = some (.map 31 29) by kernel_rfl), Result.andThen_ok, MapKept.run_getObj_map h1, run_check_mono, findKey_mono, find_none a w es.toList E 0 h2 hn, hz, Sem.run_pure, if_true]
set_option maxRecDepth 100000 in
theorem MapAt.look_some {w : World} {b : Nat} {E : List Tm} (h : MapAt w b E) {a : Nat → Int} {i : Nat} (hi : i < E.length) (he : Eqv a (tAt E i).m) (hn : ∀ j, j < i → ¬ Eqv a (tAt E j).m) :
  ∃ v, RatV w v (tAt E i).c ∧ (Instr.lookup 93 (.map (some b)) (.agg (c8 a)) true).run Tryz.prog w = .ok (.tuple #[v, .bool true]) w := by
 obtain ⟨es, clock, h1, h2, h3, _⟩ := h
 obtain ⟨e, h4, h5⟩ := find_some a w es.toList E 0 i h2 hi he hn
 refine ⟨e.val, h3 i e h4, ?_⟩
 simp only [Instr.lookup, Sem.run_bind, run_underlying (show Tryz.prog.underlying 93 = some (.map 31 29) by kernel_rfl), Result.andThen_ok, MapKept.run_getObj_map h1, run_check_mono, findKey_mono, h5, Sem.run_pure, if_true]
theorem grown_setBlock {w : World} {b : Nat} {o o' : Obj} (h : w.heap[b]? = some o) : w.grownBy (setBlock w b o') (some b) := by
 refine ⟨rfl, rfl, rfl, by simp [setBlock], fun k hk hne => ?_⟩
 have : k ≠ b := fun e => hne (by rw [e])
 simp only [setBlock]
 rw [Array.getElem?_setIfInBounds_ne (fun e => this e.symm)]
theorem heap_setBlock {w : World} {b : Nat} {o o' : Obj} (h : w.heap[b]? = some o) : (setBlock w b o').heap[b]? = some o' := by
 simp only [setBlock]
 rw [Array.getElem?_setIfInBounds_self, if_pos (lt_of_heap h)]
theorem pairwise_tAt {E : List Tm} (h : E.Pairwise fun s t => ¬ Eqv s.m t.m) {i j : Nat} (hij : i < j) (hj : j < E.length) : ¬ Eqv (tAt E i).m (tAt E j).m := by
 have := List.pairwise_iff_getElem.1 h i j (by omega) hj hij
 unfold tAt
 rw [List.getD_eq_getElem?_getD, List.getElem?_eq_getElem (by omega), List.getD_eq_getElem?_getD, List.getElem?_eq_getElem hj]
 exact this
set_option maxRecDepth 100000 in
theorem MapAt.put_none {w : World} {b : Nat} {E : List Tm} (h : MapAt w b E) {a : Nat → Int} (hn : ∀ t ∈ E, ¬ Eqv a t.m) {v : Value} {q : Rat} (hv : RatV w v q) :
  ∃ w', (Instr.mapUpdate 93 (.map (some b)) (.agg (c8 a)) v).run Tryz.prog w = .ok () w' ∧ MapAt w' b (E ++ [⟨q, a⟩]) ∧ w.grownBy w' (some b) := by
 have hu := h.notU 137
 obtain ⟨es, clock, h1, h2, h3, h4, h5, h6⟩ := h
 have hg := grown_setBlock (o' := .map (es.push { key := .agg (c8 a), val := v, born := clock }) (clock + 1)) h1
 have hk : ∀ k, some b = some k → ¬ Ty w k 137 := fun k e => by cases e; exact hu
 have hlen : es.size = E.length := by have := congrArg List.length h2; simpa using this
 refine ⟨_, ?_, ⟨_, _, heap_setBlock h1, ?_, fun i e hi => ?_, fun x hx => ?_, ?_, ?_⟩, hg⟩
 ·simp only [Instr.mapUpdate, Sem.run_bind, run_underlying (show Tryz.prog.underlying 93 = some (.map 31 29) by kernel_rfl), Result.andThen_ok, MapKept.run_getObj_map h1, run_check_mono, findKey_mono, find_none a w es.toList E 0 h2 hn, MapKept.run_setObj_map _ h1]
  rfl
 ·simp [h2, keyV]
 ·rw [Array.toList_push] at hi
  by_cases e1 : i < es.size
  ·rw [List.getElem?_append_left (by simpa using e1)] at hi
   have : tAt (E ++ [⟨q, a⟩]) i = tAt E i := by
    unfold tAt
    rw [List.getD_eq_getElem?_getD, List.getElem?_append_left (by omega), ← List.getD_eq_getElem?_getD]
   rw [this]
   exact (h3 i e hi).kept hg hk
  ·rw [List.getElem?_append_right (by simpa using e1)] at hi
   have hi0 : i - es.toList.length = 0 := by
    rcases Nat.eq_zero_or_pos (i - es.toList.length) with h | h
    ·exact h
    ·rw [List.getElem?_eq_none (by simp; simp at h; omega)] at hi; cases hi
   rw [hi0] at hi
   have he : e = { key := .agg (c8 a), val := v, born := clock } := by simpa using hi.symm
   have e2 : i = E.length := by simp at hi0 e1; omega
   have : tAt (E ++ [⟨q, a⟩]) i = ⟨q, a⟩ := by unfold tAt; rw [e2]; simp
   rw [he, this]
   exact hv.kept hg hk
 ·rw [Array.toList_push] at hx
  rcases List.mem_append.1 hx with hx | hx
  ·have := h4 x hx; omega
  ·have : x = { key := .agg (c8 a), val := v, born := clock } := by simpa using hx
   rw [this]; simp
 ·rw [Array.toList_push, List.map_append, List.nodup_append]
  refine ⟨h5, by simp, fun x hx y hy => ?_⟩
  obtain ⟨z, hz, rfl⟩ := List.mem_map.1 hx
  have h7 := h4 z hz
  have : y = clock := by simpa using hy
  omega
 ·rw [List.pairwise_append]
  refine ⟨h6, by simp, fun s hs t ht => ?_⟩
  have : t = ⟨q, a⟩ := by simpa using ht
  rw [this]
  exact fun e => hn s hs e.symm
set_option maxRecDepth 100000 in
theorem sameBits_c8 (a b : Nat → Int) (h : Eqv a b) : Instr.sameBits 10000 (.agg (c8 a)) (.agg (c8 b)) = true := by
 have : c8 a = c8 b := by unfold c8; rw [h 0 (by omega), h 1 (by omega), h 2 (by omega), h 3 (by omega), h 4 (by omega), h 5 (by omega), h 6 (by omega), h 7 (by omega)]
 rw [this]
 simp [Instr.sameBits, c8]
set_option maxRecDepth 100000 in
theorem MapAt.put_some {w : World} {b : Nat} {E : List Tm} (h : MapAt w b E) {a : Nat → Int} {i : Nat} (hi : i < E.length) (he : Eqv a (tAt E i).m) {v : Value} {q : Rat} (hv : RatV w v q) :
  ∃ w', (Instr.mapUpdate 93 (.map (some b)) (.agg (c8 a)) v).run Tryz.prog w = .ok () w' ∧ MapAt w' b (E.set i ⟨q, a⟩) ∧ w.grownBy w' (some b) := by
 have hu := h.notU 137
 obtain ⟨es, clock, h1, h2, h3, h4, h5, h6⟩ := h
 have hn : ∀ j, j < i → ¬ Eqv a (tAt E j).m := fun j hj e => pairwise_tAt h6 hj hi (e.symm.trans he)
 obtain ⟨e, h7, h8⟩ := find_some a w es.toList E 0 i h2 hi he hn
 have hlen : es.size = E.length := by have := congrArg List.length h2; simpa using this
 have hke : e.key = .agg (c8 (tAt E i).m) := by
  have h9 : (es.toList.map (·.key))[i]? = some e.key := by rw [List.getElem?_map, h7]; rfl
  rw [h2, List.getElem?_map] at h9
  have h10 : E[i]? = some (tAt E i) := by unfold tAt; rw [List.getD_eq_getElem?_getD, List.getElem?_eq_getElem hi]; rfl
  rw [h10] at h9
  simp only [Option.map_some, Option.some.injEq] at h9
  rw [← h9]; rfl
 have hei : es[i]? = some e := by rw [← Array.getElem?_toList]; exact h7
 have hg := grown_setBlock (o' := .map (es.modify i fun x => { x with key := .agg (c8 a), val := v }) clock) h1
 have hk : ∀ k, some b = some k → ¬ Ty w k 137 := fun k e => by cases e; exact hu
 have hst : (Instr.keyThatStays (((es[i]?).map (·.key)).getD (.agg (c8 a))) (.agg (c8 a))).run Tryz.prog w = .ok (.agg (c8 a)) w := by
  rw [hei]
  simp only [Option.map_some, Option.getD_some, hke, Instr.keyThatStays, sameBits_c8 _ _ he.symm, if_true]
  rfl
 have hmod : (es.modify i fun x => { x with key := .agg (c8 a), val := v }).toList = es.toList.set i { key := .agg (c8 a), val := v, born := e.born } := by
  apply List.ext_getElem?
  intro k
  rw [Array.getElem?_toList, Array.getElem?_modify, List.getElem?_set]
  by_cases hki : i = k
  ·subst hki
   rw [if_pos rfl, if_pos rfl, if_pos (by simpa using (by omega : i < es.size)), hei]
   rfl
  ·rw [if_neg hki, if_neg hki, Array.getElem?_toList]
 refine ⟨_, ?_, ⟨_, _, heap_setBlock h1, ?_, fun k x hk' => ?_, fun x hx => ?_, ?_, ?_⟩, hg⟩
 ·rw [Nat.zero_add] at h8
  simp only [Instr.mapUpdate, Sem.run_bind, run_underlying (show Tryz.prog.underlying 93 = some (.map 31 29) by kernel_rfl), Result.andThen_ok, MapKept.run_getObj_map h1, run_check_mono, findKey_mono, h8, hst, MapKept.run_setObj_map _ h1]
  rfl
 ·rw [hmod, List.map_set, h2, List.map_set]
  rfl
 ·rw [hmod, List.getElem?_set] at hk'
  by_cases hki : i = k
  ·subst hki
   rw [if_pos rfl, if_pos (by simpa using (by omega : i < es.size))] at hk'
   cases hk'
   have : tAt (E.set i ⟨q, a⟩) i = ⟨q, a⟩ := by unfold tAt; simp [hi]
   rw [this]
   exact hv.kept hg hk
  ·rw [if_neg hki] at hk'
   have : tAt (E.set i ⟨q, a⟩) k = tAt E k := by unfold tAt; simp [List.getElem?_set, hki]
   rw [this]
   exact (h3 k x hk').kept hg hk
 ·rw [hmod] at hx
  rcases List.mem_or_eq_of_mem_set hx with hx | rfl
  ·exact h4 x hx
  ·exact h4 e (List.mem_of_getElem? h7)
 ·rw [hmod, List.map_set]
  have : (es.toList.map (·.born)).set i e.born = es.toList.map (·.born) := by
   apply List.ext_getElem?
   intro k
   rw [List.getElem?_set]
   by_cases hki : i = k
   ·subst hki
    rw [if_pos rfl, if_pos (by simpa using (by omega : i < es.size)), List.getElem?_map, h7]
    rfl
   ·rw [if_neg hki]
  rw [this]
  exact h5
 ·rw [List.pairwise_iff_getElem] at h6 ⊢
  intro j k hj hk2 hjk
  simp only [List.length_set] at hj hk2
  have g1 : ∀ z (hz : z < E.length), Eqv ((E.set i ⟨q, a⟩)[z]'(by simpa using hz)).m (E[z]).m := fun z hz => by
   rw [List.getElem_set]
   split
   ·rename_i e1
    subst e1
    have : tAt E i = E[i] := by unfold tAt; simp [hi]
    rw [← this]; exact he
   ·exact Eqv.refl _
  exact fun e2 => h6 j k hj hk2 hjk (((g1 j hj).symm.trans e2).trans (g1 k hk2))
end Go.Proofs.YteicdddphdomkaaGreat
namespace Go.Proofs.YteicdddphdomkaaGreat
open Go.RowKit
theorem wpList_lookup_run {P : Program} {w : World} {ops : Array Oper} {rest : List Oper} {o : Oper} {a : Act} {Q : Exit → Act → World → Prop} (hg : o.guard = none) (m x : Operand) (t : TypeId) (hop : o.op = Op.lookup t m x true) {vm vx v : Value} (hm : a.eval m = vm) (hx : a.eval x = vx)
  (hr : (Instr.lookup t vm vx true).run P w = .ok v w) (h : wpList P ops Q rest (a.put o.dst v) w) : wpList P ops Q (o :: rest) a w := by
 refine wpList_plain hg fun K' hK' => ?_
 unfold Oper.wp
 simp [execOp, hop, hm, hx, hr, Result.andThen]
 exact hK' _ _ h
theorem wpList_update_run {P : Program} {w w' : World} {ops : Array Oper} {rest : List Oper} {o : Oper} {a : Act} {Q : Exit → Act → World → Prop} (hg : o.guard = none) (m x y : Operand) (t : TypeId) (hop : o.op = Op.mapUpdate t m x y) {vm vx vy : Value} (hm : a.eval m = vm) (hx : a.eval x = vx) (hy : a.eval y = vy)
  (hr : (Instr.mapUpdate t vm vx vy).run P w = .ok () w') (h : wpList P ops Q rest (a.put o.dst undef) w') : wpList P ops Q (o :: rest) a w := by
 refine wpList_plain hg fun K' hK' => ?_
 unfold Oper.wp
 simp [execOp, hop, hm, hx, hy, hr, Result.andThen]
 exact hK' _ _ h
theorem MapAt.set {w : World} {B : Nat} {E : List Tm} (h : MapAt w B E) {p : Addr} {t : TypeId} (ht : Ty w p.block t) (hne : t ≠ 137) (u : Value) : MapAt (w.setCell p u) B E := by
 have hB : B ≠ p.block := fun e => h.notU t (by rw [e]; exact ht)
 obtain ⟨es, clock, h1, h2, h3, h4⟩ := h
 refine ⟨es, clock, (Below.heap_setCell w p u B hB).trans h1, h2, fun i e hi => ?_, h4⟩
 obtain ⟨b, b', A, A', m, c, m', c', h5, h6⟩ := h3 i e hi
 exact ⟨b, b', A, A', m, c, m', c', h5, h6.set ht hne u⟩
theorem grown_of_ext {w w1 w2 : World} {B : Nat} (h : Ext w w1) (hg : w1.grownBy w2 (some B)) : w.grownBy w2 (some B) := by
 obtain ⟨h1, h2, h3, h4, h5⟩ := h
 exact ⟨hg.os.trans h1, hg.tape.trans h2, hg.output.trans h3, Nat.le_trans h4 hg.size, fun k hk hne => (hg.block k (Nat.lt_of_lt_of_le hk h4) hne).trans (h5 k hk)⟩
theorem blk_put4 {w : World} {g b : Nat} {t : TypeId} {cs : Array Value} (h : Blk w g t cs) (hne : g ≠ b) (u0 u1 u2 u3 : Value) : Blk (put4 w b u0 u1 u2 u3) g t cs := by
 unfold Blk put4 at *
 rw [Below.heap_setCell _ _ _ _ hne, Below.heap_setCell _ _ _ _ hne, Below.heap_setCell _ _ _ _ hne, Below.heap_setCell _ _ _ _ hne]
 exact h
theorem blk_own4 {w : World} {g : Nat} {t : TypeId} {v0 v1 v2 v3 : Value} (h : Blk w g t #[v0, v1, v2, v3]) (u0 u1 u2 u3 : Value) : Blk (put4 w g u0 u1 u2 u3) g t #[u0, u1, u2, u3] := (((h.set 0 u0).set 1 u1).set 2 u2).set 3 u3
def Coll (E : List Tm) (q : Rat) (a : Nat → Int) (E' : List Tm) : Prop := ((∀ t ∈ E, ¬ Eqv a t.m) ∧ E' = E ++ [⟨q, a⟩]) ∨ ∃ i, i < E.length ∧ Eqv a (tAt E i).m ∧ E' = E.set i ⟨(tAt E i).c + q, a⟩
theorem Coll.length {E E' : List Tm} {q : Rat} {a : Nat → Int} (h : Coll E q a E') : E'.length ≤ E.length + 1 := by
 rcases h with ⟨_, rfl⟩ | ⟨i, _, _, rfl⟩ <;> simp
theorem dot_set (f : (Nat → Int) → Rat) : ∀ (E : List Tm) (i : Nat) (u : Tm), i < E.length → dot f (E.set i u) = dot f E + (u.c * f u.m - (tAt E i).c * f (tAt E i).m)
 | [], i, u, h => by simp at h
 | t :: E, 0, u, h => by
  show u.c * f u.m + dot f E = t.c * f t.m + dot f E + (u.c * f u.m - t.c * f t.m)
  grind
 | t :: E, i + 1, u, h => by
  show t.c * f t.m + dot f (E.set i u) = t.c * f t.m + dot f E + (u.c * f u.m - (tAt E i).c * f (tAt E i).m)
  rw [dot_set f E i u (by simpa using h)]
  grind
theorem Coll.sim {E E' : List Tm} {q : Rat} {a : Nat → Int} (h : Coll E q a E') : Sim E' (E ++ [⟨q, a⟩]) := by
 rcases h with ⟨_, rfl⟩ | ⟨i, hi, he, rfl⟩
 ·exact Sim.refl _
 ·intro f hf
  rw [dot_set f E i _ hi, dot_append]
  simp only [dot]
  rw [hf _ _ he]
  grind
theorem Coll.sz {E E' : List Tm} {q : Rat} {a : Nat → Int} (h : Coll E q a E') {N M : Nat} (hE : PSz E N) (hq : RSz q M) : PSz E' (N + M + 1) := by
 rcases h with ⟨_, rfl⟩ | ⟨i, hi, he, rfl⟩
 ·intro t ht
  rcases List.mem_append.1 ht with ht | ht
  ·exact (hE t ht).mono (by omega)
  ·have : t = ⟨q, a⟩ := by simpa using ht
   rw [this]; exact hq.mono (by omega)
 ·intro t ht
  rcases List.mem_or_eq_of_mem_set ht with ht | rfl
  ·exact (hE t ht).mono (by omega)
  ·exact (hE _ (tAt_mem hi)).add hq
theorem Coll.in_ {E E' : List Tm} {q : Rat} {a : Nat → Int} (h : Coll E q a E') {lo hi : Int} (hE : PIn E lo hi) (ha : In8 a lo hi) : PIn E' lo hi := by
 rcases h with ⟨_, rfl⟩ | ⟨i, hi, he, rfl⟩
 ·intro t ht
  rcases List.mem_append.1 ht with ht | ht
  ·exact hE t ht
  ·have : t = ⟨q, a⟩ := by simpa using ht
   rw [this]; exact ha
 ·intro t ht
  rcases List.mem_or_eq_of_mem_set ht with ht | rfl
  ·exact hE t ht
  ·exact ha
theorem least_hit {E : List Tm} {a : Nat → Int} (h : ¬ ∀ t ∈ E, ¬ Eqv a t.m) : ∃ i, i < E.length ∧ Eqv a (tAt E i).m := by
 simp only [Classical.not_forall, Classical.not_not] at h
 obtain ⟨t, ht, he⟩ := h
 obtain ⟨i, hi, rfl⟩ := List.mem_iff_getElem.1 ht
 exact ⟨i, hi, by unfold tAt; rw [List.getD_eq_getElem?_getD, List.getElem?_eq_getElem hi]; exact he⟩
set_option maxRecDepth 100000 in
set_option maxHeartbeats 1600000 in
theorem collect_any (b b' : Bool) (A A' : Option Addr) (n c n' c' : Nat) (q : Rat) (a : Nat → Int) (B : Nat) (E : List Tm) (N M : Nat) (w : World) (hm : MapAt w B E) (hq : IsRat w (.bool b) (.slice A n c) (.bool b') (.slice A' n' c') q) (hE : PSz E N) (hM : RSz q M) (hN : N + M + 1 ≤ 4398046511104) :
  Calls Tryz.prog 75 #[.map (some B), .agg #[.bool b, .slice A n c, .bool b', .slice A' n' c'], .agg #[.int .i64 (a 0), .int .i64 (a 1), .int .i64 (a 2), .int .i64 (a 3), .int .i64 (a 4), .int .i64 (a 5), .int .i64 (a 6), .int .i64 (a 7)]] w fun e w' => e = .returned (.tuple #[]) ∧ w.grownBy w' (some B) ∧ ∃ E', Coll E q a E' ∧ MapAt w' B E' := by
 have hb4 : Hid (Blk ((w.alloc (.cells #[.bool b, .slice A n c, .bool b', .slice A' n' c'] 29)).alloc (.cells #[.int .i64 (a 0), .int .i64 (a 1), .int .i64 (a 2), .int .i64 (a 3), .int .i64 (a 4), .int .i64 (a 5), .int .i64 (a 6), .int .i64 (a 7)] 31)) w.heap.size 29 #[.bool b, .slice A n c, .bool b', .slice A' n' c']) := (Blk.new _ _ _).alloc _
 have hb5 : Hid (Blk ((w.alloc (.cells #[.bool b, .slice A n c, .bool b', .slice A' n' c'] 29)).alloc (.cells #[.int .i64 (a 0), .int .i64 (a 1), .int .i64 (a 2), .int .i64 (a 3), .int .i64 (a 4), .int .i64 (a 5), .int .i64 (a 6), .int .i64 (a 7)] 31)) (w.heap.size + 1) 31 (c8 a)) := Blk.new' _ _ (by simp)
 have hEw : Hid (Ext w ((w.alloc (.cells #[.bool b, .slice A n c, .bool b', .slice A' n' c'] 29)).alloc (.cells #[.int .i64 (a 0), .int .i64 (a 1), .int .i64 (a 2), .int .i64 (a 3), .int .i64 (a 4), .int .i64 (a 5), .int .i64 (a 6), .int .i64 (a 7)] 31))) := ((Ext.refl _).alloc _).alloc _
 have hMa := hide (hm.ext hEw.out)
 have hBl : B < w.heap.size := hm.lt
 replace hq := hide (hq.ext hEw.out)
 clear hm
 by_cases hn : ∀ t ∈ E, ¬ Eqv a t.m
 ·have hlook := hide (hMa.out.look_none hn)
  replace hn := hide hn
  go_enter Tryz.func75, Tryz.ntmps75
  go_upto_region 1 with (fail)
  generalize ((w.alloc (.cells #[.bool b, .slice A n c, .bool b', .slice A' n' c'] 29)).alloc (.cells #[.int .i64 (a 0), .int .i64 (a 1), .int .i64 (a 2), .int .i64 (a 3), .int .i64 (a 4), .int .i64 (a 5), .int .i64 (a 6), .int .i64 (a 7)] 31)) = wa at *
  obtain ⟨B4, hB4⟩ : ∃ B4, B4 = w.heap.size := ⟨_, rfl⟩
  rw [← hB4] at hb4 hb5 hBl ⊢
  replace hB4 := hide hB4
  have x0 : (wa).cell? ⟨B4 + 1, 0, none⟩ = some (.int .i64 (a 0)) := (hb5.out).cell 0
  have x1 : (wa).cell? ⟨B4 + 1, 1, none⟩ = some (.int .i64 (a 1)) := (hb5.out).cell 1
  have x2 : (wa).cell? ⟨B4 + 1, 2, none⟩ = some (.int .i64 (a 2)) := (hb5.out).cell 2
  have x3 : (wa).cell? ⟨B4 + 1, 3, none⟩ = some (.int .i64 (a 3)) := (hb5.out).cell 3
  have x4 : (wa).cell? ⟨B4 + 1, 4, none⟩ = some (.int .i64 (a 4)) := (hb5.out).cell 4
  have x5 : (wa).cell? ⟨B4 + 1, 5, none⟩ = some (.int .i64 (a 5)) := (hb5.out).cell 5
  have x6 : (wa).cell? ⟨B4 + 1, 6, none⟩ = some (.int .i64 (a 6)) := (hb5.out).cell 6
  have x7 : (wa).cell? ⟨B4 + 1, 7, none⟩ = some (.int .i64 (a 7)) := (hb5.out).cell 7
  have hb5' := hide (hb5.out.ext ((Ext.refl wa).alloc (.cells #[.bool false, .slice none 0 0, .bool false, .slice none 0 0] 29)))
  have hb4' := hide (hb4.out.ext ((Ext.refl wa).alloc (.cells #[.bool false, .slice none 0 0, .bool false, .slice none 0 0] 29)))
  have hMb := hide (hMa.out.ext ((Ext.refl wa).alloc (.cells #[.bool false, .slice none 0 0, .bool false, .slice none 0 0] 29)))
  have hqb := hide (hq.out.ext ((Ext.refl wa).alloc (.cells #[.bool false, .slice none 0 0, .bool false, .slice none 0 0] 29)))
  have hEb := hide (hEw.out.trans ((Ext.refl wa).alloc (.cells #[.bool false, .slice none 0 0, .bool false, .slice none 0 0] 29)))
  go_upto_region 4 with (first | (at_lookup; refine wpList_lookup_run rfl _ _ 93 rfl rfl rfl hlook.out ?_) | go_in)
  clear x0 x1 x2 x3 x4 x5 x6 x7
  generalize (wa.alloc (.cells #[.bool false, .slice none 0 0, .bool false, .slice none 0 0] 29)) = wb at *
  have x0 : (wb).cell? ⟨B4 + 1, 0, none⟩ = some (.int .i64 (a 0)) := (hb5'.out).cell 0
  have x1 : (wb).cell? ⟨B4 + 1, 1, none⟩ = some (.int .i64 (a 1)) := (hb5'.out).cell 1
  have x2 : (wb).cell? ⟨B4 + 1, 2, none⟩ = some (.int .i64 (a 2)) := (hb5'.out).cell 2
  have x3 : (wb).cell? ⟨B4 + 1, 3, none⟩ = some (.int .i64 (a 3)) := (hb5'.out).cell 3
  have x4 : (wb).cell? ⟨B4 + 1, 4, none⟩ = some (.int .i64 (a 4)) := (hb5'.out).cell 4
  have x5 : (wb).cell? ⟨B4 + 1, 5, none⟩ = some (.int .i64 (a 5)) := (hb5'.out).cell 5
  have x6 : (wb).cell? ⟨B4 + 1, 6, none⟩ = some (.int .i64 (a 6)) := (hb5'.out).cell 6
  have x7 : (wb).cell? ⟨B4 + 1, 7, none⟩ = some (.int .i64 (a 7)) := (hb5'.out).cell 7
  have y0 : (wb).cell? ⟨B4, 0, none⟩ = some (.bool b) := hb4'.out.cell 0
  have y1 : (wb).cell? ⟨B4, 1, none⟩ = some (.slice A n c) := hb4'.out.cell 1
  have y2 : (wb).cell? ⟨B4, 2, none⟩ = some (.bool b') := hb4'.out.cell 2
  have y3 : (wb).cell? ⟨B4, 3, none⟩ = some (.slice A' n' c') := hb4'.out.cell 3
  obtain ⟨w', hrun, hM', hg⟩ := hMb.out.put_none hn.out (v := .agg #[.bool b, .slice A n c, .bool b', .slice A' n' c']) ⟨b, b', A, A', n, c, n', c', rfl, hqb.out⟩
  replace hrun := hide hrun
  go_wp2_with (first | (at_mapUpdate; refine wpList_update_run rfl _ _ _ 93 rfl rfl rfl rfl hrun.out ?_) | go_in)
  refine bodyPost_end (v := .tuple #[]) (by simp [results, Tryz.results75, go_sem]) rfl ?_
  exact ⟨rfl, grown_of_ext hEb.out hg, _, .inl ⟨hn.out, rfl⟩, hM'⟩
 ·obtain ⟨i, hi, he⟩ := least_hit hn
  clear hn
  obtain ⟨v, ⟨b1, b1', A1, A1', n1, c1, n1', c1', rfl, hq1⟩, hlook⟩ := hMa.out.look_some hi he (fun j hj e => pairwise_tAt (by obtain ⟨_, _, _, _, _, _, _, h⟩ := hMa.out; exact h) hj hi (e.symm.trans he))
  replace hlook := hide hlook
  replace hq1 := hide hq1
  replace he := hide he
  replace hi := hide hi
  go_enter Tryz.func75, Tryz.ntmps75
  go_upto_region 1 with (fail)
  generalize ((w.alloc (.cells #[.bool b, .slice A n c, .bool b', .slice A' n' c'] 29)).alloc (.cells #[.int .i64 (a 0), .int .i64 (a 1), .int .i64 (a 2), .int .i64 (a 3), .int .i64 (a 4), .int .i64 (a 5), .int .i64 (a 6), .int .i64 (a 7)] 31)) = wa at *
  have x0 : (wa).cell? ⟨w.heap.size + 1, 0, none⟩ = some (.int .i64 (a 0)) := (hb5.out).cell 0
  have x1 : (wa).cell? ⟨w.heap.size + 1, 1, none⟩ = some (.int .i64 (a 1)) := (hb5.out).cell 1
  have x2 : (wa).cell? ⟨w.heap.size + 1, 2, none⟩ = some (.int .i64 (a 2)) := (hb5.out).cell 2
  have x3 : (wa).cell? ⟨w.heap.size + 1, 3, none⟩ = some (.int .i64 (a 3)) := (hb5.out).cell 3
  have x4 : (wa).cell? ⟨w.heap.size + 1, 4, none⟩ = some (.int .i64 (a 4)) := (hb5.out).cell 4
  have x5 : (wa).cell? ⟨w.heap.size + 1, 5, none⟩ = some (.int .i64 (a 5)) := (hb5.out).cell 5
  have x6 : (wa).cell? ⟨w.heap.size + 1, 6, none⟩ = some (.int .i64 (a 6)) := (hb5.out).cell 6
  have x7 : (wa).cell? ⟨w.heap.size + 1, 7, none⟩ = some (.int .i64 (a 7)) := (hb5.out).cell 7
  have hb5' := hide (hb5.out.ext ((Ext.refl wa).alloc (.cells #[.bool b1, .slice A1 n1 c1, .bool b1', .slice A1' n1' c1'] 29)))
  have hb4' := hide (hb4.out.ext ((Ext.refl wa).alloc (.cells #[.bool b1, .slice A1 n1 c1, .bool b1', .slice A1' n1' c1'] 29)))
  have hMb := hide (hMa.out.ext ((Ext.refl wa).alloc (.cells #[.bool b1, .slice A1 n1 c1, .bool b1', .slice A1' n1' c1'] 29)))
  have hqb := hide (hq.out.ext ((Ext.refl wa).alloc (.cells #[.bool b1, .slice A1 n1 c1, .bool b1', .slice A1' n1' c1'] 29)))
  have hq1b := hide (hq1.out.ext ((Ext.refl wa).alloc (.cells #[.bool b1, .slice A1 n1 c1, .bool b1', .slice A1' n1' c1'] 29)))
  have hEb := hide (hEw.out.trans ((Ext.refl wa).alloc (.cells #[.bool b1, .slice A1 n1 c1, .bool b1', .slice A1' n1' c1'] 29)))
  have hb6 : Hid (Blk (wa.alloc (.cells #[.bool b1, .slice A1 n1 c1, .bool b1', .slice A1' n1' c1'] 29)) wa.heap.size 29 #[.bool b1, .slice A1 n1 c1, .bool b1', .slice A1' n1' c1']) := Blk.new _ _ _
  go_upto_region 3 with (first | (at_lookup; refine wpList_lookup_run rfl _ _ 93 rfl rfl rfl hlook.out ?_) | go_in)
  clear x0 x1 x2 x3 x4 x5 x6 x7
  generalize (wa.alloc (.cells #[.bool b1, .slice A1 n1 c1, .bool b1', .slice A1' n1' c1'] 29)) = wb at *
  generalize wa.heap.size = B6 at *
  have y0 : (wb).cell? ⟨w.heap.size, 0, none⟩ = some (.bool b) := hb4'.out.cell 0
  have y1 : (wb).cell? ⟨w.heap.size, 1, none⟩ = some (.slice A n c) := hb4'.out.cell 1
  have y2 : (wb).cell? ⟨w.heap.size, 2, none⟩ = some (.bool b') := hb4'.out.cell 2
  have y3 : (wb).cell? ⟨w.heap.size, 3, none⟩ = some (.slice A' n' c') := hb4'.out.cell 3
  have z0 : (wb).cell? ⟨B6, 0, none⟩ = some (.bool b1) := hb6.out.cell 0
  have z1 : (wb).cell? ⟨B6, 1, none⟩ = some (.slice A1 n1 c1) := hb6.out.cell 1
  have z2 : (wb).cell? ⟨B6, 2, none⟩ = some (.bool b1') := hb6.out.cell 2
  have z3 : (wb).cell? ⟨B6, 3, none⟩ = some (.slice A1' n1' c1') := hb6.out.cell 3
  go_wp2_with fail
  refine (Add_any b1 b1' A1 A1' n1 c1 n1' c1' b b' A A' n c n' c' (tAt E i).c q N M _ hq1b.out hqb.out (hE _ (tAt_mem hi.out)) hM hN).mono ?_
  rintro e w2 ⟨b2, b2', A2, A2', n2, c2, n2', c2', rfl, hI2, hE2⟩
  clear y0 y1 y2 y3 z0 z1 z2 z3
  have hb4c := hb4'.out.ext hE2
  have y0 := hb4c.cell 0
  have y1 := hb4c.cell 1
  have y2 := hb4c.cell 2
  have y3 := hb4c.cell 3
  have f0 := hb4c.frozen 0
  have f1 := hb4c.frozen 1
  have f2 := hb4c.frozen 2
  have f3 := hb4c.frozen 3
  have hty : Ty w2 w.heap.size 29 := hb4c.ty
  have hI3 : Hid (IsRat ((((w2.setCell ⟨w.heap.size, 0, none⟩ (.bool b2)).setCell ⟨w.heap.size, 1, none⟩ (.slice A2 n2 c2)).setCell ⟨w.heap.size, 2, none⟩ (.bool b2')).setCell ⟨w.heap.size, 3, none⟩ (.slice A2' n2' c2')) (.bool b2) (.slice A2 n2 c2) (.bool b2') (.slice A2' n2' c2') ((tAt E i).c + q)) := hI2.put4 hty (by decide) _ _ _ _
  have hMc : Hid (MapAt ((((w2.setCell ⟨w.heap.size, 0, none⟩ (.bool b2)).setCell ⟨w.heap.size, 1, none⟩ (.slice A2 n2 c2)).setCell ⟨w.heap.size, 2, none⟩ (.bool b2')).setCell ⟨w.heap.size, 3, none⟩ (.slice A2' n2' c2')) B E) := (((((hMb.out.ext hE2).set (p := ⟨w.heap.size, 0, none⟩) hty (by decide) _).set (p := ⟨w.heap.size, 1, none⟩) (hty.set _ _) (by decide) _).set (p := ⟨w.heap.size, 2, none⟩) ((hty.set _ _).set _ _) (by decide) _).set (p := ⟨w.heap.size, 3, none⟩) (((hty.set _ _).set _ _).set _ _) (by decide) _)
  have hEc : Hid (Ext w ((((w2.setCell ⟨w.heap.size, 0, none⟩ (.bool b2)).setCell ⟨w.heap.size, 1, none⟩ (.slice A2 n2 c2)).setCell ⟨w.heap.size, 2, none⟩ (.bool b2')).setCell ⟨w.heap.size, 3, none⟩ (.slice A2' n2' c2'))) := (hEb.out.trans hE2).put4 (Nat.le_refl _) _ _ _ _
  have hne5 : w.heap.size + 1 ≠ w.heap.size := by omega
  have hb5c : Hid (Blk ((((w2.setCell ⟨w.heap.size, 0, none⟩ (.bool b2)).setCell ⟨w.heap.size, 1, none⟩ (.slice A2 n2 c2)).setCell ⟨w.heap.size, 2, none⟩ (.bool b2')).setCell ⟨w.heap.size, 3, none⟩ (.slice A2' n2' c2')) (w.heap.size + 1) 31 (c8 a)) := blk_put4 (hb5'.out.ext hE2) hne5 _ _ _ _
  have hb4d : Hid (Blk ((((w2.setCell ⟨w.heap.size, 0, none⟩ (.bool b2)).setCell ⟨w.heap.size, 1, none⟩ (.slice A2 n2 c2)).setCell ⟨w.heap.size, 2, none⟩ (.bool b2')).setCell ⟨w.heap.size, 3, none⟩ (.slice A2' n2' c2')) w.heap.size 29 #[.bool b2, .slice A2 n2 c2, .bool b2', .slice A2' n2' c2']) := blk_own4 hb4c _ _ _ _
  replace hb4c := hide hb4c
  replace hty := hide hty
  replace hI2 := hide hI2
  replace hE2 := hide hE2
  go_upto_region 4 with (fail)
  clear y0 y1 y2 y3 f0 f1 f2 f3 hb4c hty hE2 hI2
  generalize ((((w2.setCell ⟨w.heap.size, 0, none⟩ (.bool b2)).setCell ⟨w.heap.size, 1, none⟩ (.slice A2 n2 c2)).setCell ⟨w.heap.size, 2, none⟩ (.bool b2')).setCell ⟨w.heap.size, 3, none⟩ (.slice A2' n2' c2')) = wz at *
  have x0 : (wz).cell? ⟨w.heap.size + 1, 0, none⟩ = some (.int .i64 (a 0)) := (hb5c.out).cell 0
  have x1 : (wz).cell? ⟨w.heap.size + 1, 1, none⟩ = some (.int .i64 (a 1)) := (hb5c.out).cell 1
  have x2 : (wz).cell? ⟨w.heap.size + 1, 2, none⟩ = some (.int .i64 (a 2)) := (hb5c.out).cell 2
  have x3 : (wz).cell? ⟨w.heap.size + 1, 3, none⟩ = some (.int .i64 (a 3)) := (hb5c.out).cell 3
  have x4 : (wz).cell? ⟨w.heap.size + 1, 4, none⟩ = some (.int .i64 (a 4)) := (hb5c.out).cell 4
  have x5 : (wz).cell? ⟨w.heap.size + 1, 5, none⟩ = some (.int .i64 (a 5)) := (hb5c.out).cell 5
  have x6 : (wz).cell? ⟨w.heap.size + 1, 6, none⟩ = some (.int .i64 (a 6)) := (hb5c.out).cell 6
  have x7 : (wz).cell? ⟨w.heap.size + 1, 7, none⟩ = some (.int .i64 (a 7)) := (hb5c.out).cell 7
  have y0 : (wz).cell? ⟨w.heap.size, 0, none⟩ = some (.bool b2) := hb4d.out.cell 0
  have y1 : (wz).cell? ⟨w.heap.size, 1, none⟩ = some (.slice A2 n2 c2) := hb4d.out.cell 1
  have y2 : (wz).cell? ⟨w.heap.size, 2, none⟩ = some (.bool b2') := hb4d.out.cell 2
  have y3 : (wz).cell? ⟨w.heap.size, 3, none⟩ = some (.slice A2' n2' c2') := hb4d.out.cell 3
  obtain ⟨w', hrun, hM', hg⟩ := hMc.out.put_some hi.out he.out (v := .agg #[.bool b2, .slice A2 n2 c2, .bool b2', .slice A2' n2' c2']) ⟨b2, b2', A2, A2', n2, c2, n2', c2', rfl, hI3.out⟩
  replace hrun := hide hrun
  go_wp2_with (first | (at_mapUpdate; refine wpList_update_run rfl _ _ _ 93 rfl rfl rfl rfl hrun.out ?_) | go_in)
  refine bodyPost_end (v := .tuple #[]) (by simp [results, Tryz.results75, go_sem]) rfl ?_
  exact ⟨rfl, grown_of_ext hEc.out hg, _, .inr ⟨i, hi.out, he.out, rfl⟩, hM'⟩
end Go.Proofs.YteicdddphdomkaaGreat
namespace Go.Proofs
open Go.Shelf
def Tryz.pdqTerm_ren : Go.Shelf.Ren := ⟨fun | 14 => 159 | 20 => 176 | 21 => 177 | 22 => 178 | 23 => 179 | 24 => 180 | 25 => 181 | 26 => 182 | 27 => 183 | 46 => 190 | 47 => 191 | 48 => 192 | 49 => 193 | 50 => 194 | 15 => 160 | 57 => 195 | 28 => 184 | 29 => 185 | n => n, fun | 24 => 33 | 22 => 22 | 3 => 3 | 25 => 118 | 4 => 4 | 0 => 0 | 46 => 165 | 45 => 164 | 50 => 169 | 66 => 175 | 39 => 155 | 55 => 134 | 70 => 179 | 76 => 181 | 77 => 182 | 53 => 137 | 5 => 5 | 9 => 9 | n => n, fun | n => n⟩
theorem Tryz.pdqTerm : Go.Proofs.SlLaysF0.n14 Tryz.prog Tryz.pdqTerm_ren := {
 mixed := by kernel_rfl
 f14 := ⟨Tryz.f159.name, by decide, Tryz.func159.trans (congrArg some (by kernel_rfl))⟩
 f15 := Tryz.func160.trans (congrArg some (by kernel_rfl))
 f20 := ⟨Tryz.f176.name, by decide, Tryz.func176.trans (congrArg some (by kernel_rfl))⟩
 f21 := ⟨Tryz.f177.name, by decide, Tryz.func177.trans (congrArg some (by kernel_rfl))⟩
 f22 := ⟨Tryz.f178.name, by decide, Tryz.func178.trans (congrArg some (by kernel_rfl))⟩
 f23 := ⟨Tryz.f179.name, by decide, Tryz.func179.trans (congrArg some (by kernel_rfl))⟩
 f24 := ⟨Tryz.f180.name, by decide, Tryz.func180.trans (congrArg some (by kernel_rfl))⟩
 f25 := ⟨Tryz.f181.name, by decide, Tryz.func181.trans (congrArg some (by kernel_rfl))⟩
 f26 := ⟨Tryz.f182.name, by decide, Tryz.func182.trans (congrArg some (by kernel_rfl))⟩
 f27 := ⟨Tryz.f183.name, by decide, Tryz.func183.trans (congrArg some (by kernel_rfl))⟩
 f28 := Tryz.func184.trans (congrArg some (by kernel_rfl))
 f29 := Tryz.func185.trans (congrArg some (by kernel_rfl))
 f46 := ⟨Tryz.f190.name, by decide, Tryz.func190.trans (congrArg some (by kernel_rfl))⟩
 f47 := Tryz.func191.trans (congrArg some (by kernel_rfl))
 f48 := Tryz.func192.trans (congrArg some (by kernel_rfl))
 f49 := ⟨Tryz.f193.name, by decide, Tryz.func193.trans (congrArg some (by kernel_rfl))⟩
 f50 := ⟨Tryz.f194.name, by decide, Tryz.func194.trans (congrArg some (by kernel_rfl))⟩
 f57 := ⟨Tryz.f195.name, by decide, Tryz.func195.trans (congrArg some (by kernel_rfl))⟩
 t0 := Tryz.underlying0
 a0 := Tryz.isAgg0
 z0 := Tryz.sizeOf0
 v0 := Tryz.zeroValue0
 t3 := Tryz.underlying3
 a3 := Tryz.isAgg3
 z3 := Tryz.sizeOf3
 v3 := Tryz.zeroValue3
 t4 := Tryz.underlying4
 a4 := Tryz.isAgg4
 z4 := Tryz.sizeOf4
 v4 := Tryz.zeroValue4
 t5 := Tryz.underlying5
 a5 := Tryz.isAgg5
 z5 := Tryz.sizeOf5
 v5 := Tryz.zeroValue5
 t9 := Tryz.underlying9
 a9 := Tryz.isAgg9
 z9 := Tryz.sizeOf9
 v9 := Tryz.zeroValue9
 t22 := Tryz.underlying22
 a22 := Tryz.isAgg22
 z22 := Tryz.sizeOf22
 v22 := Tryz.zeroValue22
 t25 := Tryz.underlying118
 a25 := Tryz.isAgg118
 z25 := Tryz.sizeOf118
 v25 := Tryz.zeroValue118
 t39 := Tryz.underlying155
 a39 := Tryz.isAgg155
 z39 := Tryz.sizeOf155
 v39 := Tryz.zeroValue155
 t45 := Tryz.underlying164
 a45 := Tryz.isAgg164
 z45 := Tryz.sizeOf164
 v45 := Tryz.zeroValue164
 t46 := Tryz.underlying165
 a46 := Tryz.isAgg165
 z46 := Tryz.sizeOf165
 v46 := Tryz.zeroValue165
 t50 := Tryz.underlying169
 a50 := Tryz.isAgg169
 z50 := Tryz.sizeOf169
 v50 := Tryz.zeroValue169
 t53 := Tryz.underlying137
 a53 := Tryz.isAgg137
 z53 := Tryz.sizeOf137
 v53 := Tryz.zeroValue137
 t55 := Tryz.underlying134
 a55 := Tryz.isAgg134
 z55 := Tryz.sizeOf134
 v55 := Tryz.zeroValue134
 t66 := Tryz.underlying175
 a66 := Tryz.isAgg175
 z66 := Tryz.sizeOf175
 v66 := Tryz.zeroValue175
 t70 := Tryz.underlying179
 a70 := Tryz.isAgg179
 z70 := Tryz.sizeOf179
 v70 := Tryz.zeroValue179
 t76 := Tryz.underlying181
 a76 := Tryz.isAgg181
 z76 := Tryz.sizeOf181
 v76 := Tryz.zeroValue181
 t77 := Tryz.underlying182
 a77 := Tryz.isAgg182
 z77 := Tryz.sizeOf182
 v77 := Tryz.zeroValue182 }
end Go.Proofs
namespace Go.Proofs.YteicdddphdomkaaGreat
open Go.RowKit
def Grew (w w' : World) : Prop := Ext w w' ∧ w.drawn ≤ w'.drawn
theorem Grew.refl (w : World) : Grew w w := ⟨Ext.refl w, Nat.le_refl _⟩
theorem Grew.alloc {a b : World} (h : Grew a b) (o : Obj) : Grew a (b.alloc o) := ⟨h.1.alloc o, h.2⟩
theorem Grew.drewN {a b : World} (h : Grew a b) (n : Nat) : Grew a (b.drewN n) := ⟨h.1.drewN n, Nat.le_trans h.2 (Nat.le_add_right _ _)⟩
theorem Grew.trans {a b c : World} (h : Grew a b) (k : Grew b c) : Grew a c := ⟨h.1.trans k.1, Nat.le_trans h.2 k.2⟩
theorem Grew.grow {a b : World} (h : Grew a b) : ∃ q os, b = Sort.grow (a.drewN q) os := by
 obtain ⟨⟨h1, h2, h3, h4, h5⟩, h6⟩ := h
 refine ⟨b.drawn - a.drawn, b.heap.extract a.heap.size b.heap.size, ?_⟩
 have hh : b.heap = a.heap ++ b.heap.extract a.heap.size b.heap.size := by
  refine Array.ext_getElem? fun i => ?_
  rw [Array.getElem?_append]
  by_cases hi : i < a.heap.size
  ·rw [if_pos hi]; exact h5 i hi
  ·rw [if_neg hi, Array.getElem?_extract]
   by_cases hj : i < b.heap.size
   ·rw [if_pos (by omega)]; congr 1; omega
   ·rw [if_neg (by omega), Array.getElem?_eq_none (by omega)]
 cases a; cases b
 simp only [Sort.grow, World.drewN] at *
 subst h1; subst h2; subst h3
 rw [← hh]
 congr 1
 omega
set_option maxRecDepth 100000 in
set_option maxHeartbeats 800000 in
theorem mCmp_grew (a b : Nat → Int) (w : World) :
  Calls Tryz.prog 70 #[.agg #[.int .i64 (a 0), .int .i64 (a 1), .int .i64 (a 2), .int .i64 (a 3), .int .i64 (a 4), .int .i64 (a 5), .int .i64 (a 6), .int .i64 (a 7)], .agg #[.int .i64 (b 0), .int .i64 (b 1), .int .i64 (b 2), .int .i64 (b 3), .int .i64 (b 4), .int .i64 (b 5), .int .i64 (b 6), .int .i64 (b 7)]] w fun e w' => e = .returned (.int .i64 (lex8 a b)) ∧ Grew w w' := by
 have hq := fun W => run_eq_mono a b W
 cases he : eqB a b with
 | true =>
  rw [he] at hq
  go_enter Tryz.func70, Tryz.ntmps70
  go_wp2
  go_ret
  refine ⟨?_, ((Grew.refl _).alloc _).alloc _⟩
  rw [lex8, lexTo_eq 8 0 fun i _ h => eqB_true.1 he i (by omega)]
  rfl
 | false =>
  rw [he] at hq
  have hne : ¬ ∀ i, i < 8 → a i = b i := fun h => by rw [eqB_true.2 h] at he; cases he
  clear he
  replace hne := hide hne
  have hA : Hid (Blk ((w.alloc (.cells #[.int .i64 (a 0), .int .i64 (a 1), .int .i64 (a 2), .int .i64 (a 3), .int .i64 (a 4), .int .i64 (a 5), .int .i64 (a 6), .int .i64 (a 7)] 31)).alloc (.cells #[.int .i64 (b 0), .int .i64 (b 1), .int .i64 (b 2), .int .i64 (b 3), .int .i64 (b 4), .int .i64 (b 5), .int .i64 (b 6), .int .i64 (b 7)] 31)) w.heap.size 31 (c8 a)) := (Blk.new _ _ _).alloc _
  have hB : Hid (Blk ((w.alloc (.cells #[.int .i64 (a 0), .int .i64 (a 1), .int .i64 (a 2), .int .i64 (a 3), .int .i64 (a 4), .int .i64 (a 5), .int .i64 (a 6), .int .i64 (a 7)] 31)).alloc (.cells #[.int .i64 (b 0), .int .i64 (b 1), .int .i64 (b 2), .int .i64 (b 3), .int .i64 (b 4), .int .i64 (b 5), .int .i64 (b 6), .int .i64 (b 7)] 31)) (w.heap.size + 1) 31 (c8 b)) := Blk.new' _ _ (by simp)
  have hE : Hid (Grew w ((w.alloc (.cells #[.int .i64 (a 0), .int .i64 (a 1), .int .i64 (a 2), .int .i64 (a 3), .int .i64 (a 4), .int .i64 (a 5), .int .i64 (a 6), .int .i64 (a 7)] 31)).alloc (.cells #[.int .i64 (b 0), .int .i64 (b 1), .int .i64 (b 2), .int .i64 (b 3), .int .i64 (b 4), .int .i64 (b 5), .int .i64 (b 6), .int .i64 (b 7)] 31))) := ((Grew.refl _).alloc _).alloc _
  go_enter Tryz.func70, Tryz.ntmps70
  go_wp2
  generalize ((w.alloc (.cells #[.int .i64 (a 0), .int .i64 (a 1), .int .i64 (a 2), .int .i64 (a 3), .int .i64 (a 4), .int .i64 (a 5), .int .i64 (a 6), .int .i64 (a 7)] 31)).alloc (.cells #[.int .i64 (b 0), .int .i64 (b 1), .int .i64 (b 2), .int .i64 (b 3), .int .i64 (b 4), .int .i64 (b 5), .int .i64 (b 6), .int .i64 (b 7)] 31)) = w1 at *
  go_loopw [5] (fun i wr => ∃ k : Nat, k < 8 ∧ i = .int .i64 k ∧ Hid ((¬ ∀ i, k ≤ i → i < 8 → a i = b i) ∧ lex8 a b = lexTo a b k (8 - k) ∧ Blk wr w.heap.size 31 (c8 a) ∧ Blk wr (w.heap.size + 1) 31 (c8 b) ∧ Grew w wr)) (fun i _ => 8 - (intOf i).toNat)
  case atStart => exact ⟨0, by omega, rfl, fun h => hne.out fun i hi => h i (by omega) hi, rfl, hA.out, hB.out, hE.out⟩
  case round =>
   obtain ⟨k, hk, rfl, hR⟩ := hrel
   have xa := hR.out.2.2.1.at8 hk
   have xb := hR.out.2.2.2.1.at8 hk
   have hs : Hid (lexTo a b k (8 - k) = if a k = b k then lexTo a b (k + 1) (8 - (k + 1)) else if a k < b k then -1 else 1) := by
    rw [show 8 - k = 8 - (k + 1) + 1 by omega]; rfl
   have hn : Hid (a k = b k → k + 1 < 8 ∧ ¬ ∀ i, k + 1 ≤ i → i < 8 → a i = b i) := fun h => by
    have h1 : ¬ ∀ i, k + 1 ≤ i → i < 8 → a i = b i := fun h2 => hR.out.1 fun i h3 h4 => by
     by_cases e : i = k
     ·rw [e]; exact h
     ·exact h2 i (by omega) h4
    refine ⟨?_, h1⟩
    by_cases hk' : k + 1 < 8
    ·exact hk'
    ·exact absurd (fun i h3 h4 => by omega) h1
   generalize a k = x at *
   generalize b k = y at *
   by_cases hxy : x = y
   ·have hn' := hn.out hxy
    have hs' := hs.out
    rw [if_pos hxy] at hs'
    replace hs' := hide (hR.out.2.1.trans hs')
    have hk1 := hn'.1
    replace hn' := hide hn'.2
    go_wp2
    go_quiet (fail)
    go_wp2
    exact ⟨⟨k + 1, hk1, by simp, hn'.out, hs'.out, hR.out.2.2.1, hR.out.2.2.2.1, hR.out.2.2.2.2.drewN _⟩, by simp [intOf]; omega⟩
   ·have hs' := hs.out
    rw [if_neg hxy] at hs'
    replace hs' := hide (hR.out.2.1.trans hs')
    by_cases hlt : x < y
    ·rw [if_pos hlt] at hs'
     go_wp2
     go_quiet (fail)
     go_wp2
     go_quiet (fail)
     go_wp2
     go_ret
     exact ⟨by rw [hs'.out]; rfl, (hR.out.2.2.2.2.drewN _).drewN _⟩
    ·rw [if_neg hlt] at hs'
     go_wp2
     go_quiet (fail)
     go_wp2
     go_quiet (fail)
     go_wp2
     go_ret
     exact ⟨by rw [hs'.out]; rfl, (hR.out.2.2.2.2.drewN _).drewN _⟩
open Go.Sort
theorem sortWorld_block {α : Type} [Inhabited α] (enc : α → List Value) (k : Nat) (w : World) (blk off m : Nat) (dk : Array α) (os : Array Obj) {b : Nat} (hb : b < w.heap.size) (hne : b ≠ blk) : (sortWorldK enc k w blk off m dk os).heap[b]? = w.heap[b]? := by
 unfold sortWorldK
 rw [heap_grow_old _ _ (by rw [size_putRowK]; exact hb)]
 unfold putRowK putRow mapBlock
 simp only [Array.getElem?_modify]
 rw [if_neg (show ¬ blk = b from fun h => hne h.symm)]
 rfl
theorem sortWorld_cells {α : Type} [Inhabited α] (enc : α → List Value) (k : Nat) (w : World) (blk off m : Nat) (dk : Array α) (os : Array Obj) {cur : Array Value} {t : TypeId} {fz : Nat × Nat} (hb : w.heap[blk]? = some (.cells cur t fz)) : (sortWorldK enc k w blk off m dk os).heap[blk]? = some (.cells (putCells id off (flatK enc k dk) cur) t fz) := by
 have hlt : blk < w.heap.size := lt_of_heap hb
 unfold sortWorldK
 rw [heap_grow_old _ _ (by rw [size_putRowK]; exact hlt)]
 unfold putRowK putRow mapBlock
 simp only [Array.getElem?_modify, if_pos rfl]
 show Option.map _ (w.heap[blk]?) = _
 rw [hb]
 rfl
theorem lx_lex (a b : Nat → Int) : lx a b = lex8 a b := by simp [lx, oCmp, cmpRows]
structure G12 where
 (b b' : Bool) (A A' : Option Addr) (n c n' c' : Nat) (t : Tm)
instance : Inhabited G12 := ⟨⟨false, false, none, none, 0, 0, 0, 0, default⟩⟩
def G12.cells (x : G12) : Array Value := tmc x.b x.b' x.A x.A' x.n x.c x.n' x.c' x.t.m
def encG (x : G12) : List Value := x.cells.toList
def cfG (x y : G12) : Int := lx y.t.m x.t.m
def G12.ok (w : World) (x : G12) : Prop := IsRat w (.bool x.b) (.slice x.A x.n x.c) (.bool x.b') (.slice x.A' x.n' x.c') x.t.c
set_option maxRecDepth 100000 in
theorem closureT_any (x y : G12) (W : World) :
  Calls Tryz.prog 130 #[.agg (encG x).toArray, .agg (encG y).toArray] W fun e w' => e = .returned (.int .i64 (cfG x y)) ∧ ∃ q os', w' = grow (W.drewN q) os' := by
 obtain ⟨b, b', A, A', n, c, n', c', t⟩ := x
 obtain ⟨d, d', E, E', m, k, m', k', u⟩ := y
 show Calls Tryz.prog 130 #[.agg #[.bool b, .slice A n c, .bool b', .slice A' n' c', .int .i64 (t.m 0), .int .i64 (t.m 1), .int .i64 (t.m 2), .int .i64 (t.m 3), .int .i64 (t.m 4), .int .i64 (t.m 5), .int .i64 (t.m 6), .int .i64 (t.m 7)], .agg #[.bool d, .slice E m k, .bool d', .slice E' m' k', .int .i64 (u.m 0), .int .i64 (u.m 1), .int .i64 (u.m 2), .int .i64 (u.m 3), .int .i64 (u.m 4), .int .i64 (u.m 5), .int .i64 (u.m 6), .int .i64 (u.m 7)]] W fun e w' => e = .returned (.int .i64 (lx u.m t.m)) ∧ ∃ q os', w' = grow (W.drewN q) os'
 have hE : Hid (Grew W ((W.alloc (.cells #[.bool b, .slice A n c, .bool b', .slice A' n' c', .int .i64 (t.m 0), .int .i64 (t.m 1), .int .i64 (t.m 2), .int .i64 (t.m 3), .int .i64 (t.m 4), .int .i64 (t.m 5), .int .i64 (t.m 6), .int .i64 (t.m 7)] 33)).alloc (.cells #[.bool d, .slice E m k, .bool d', .slice E' m' k', .int .i64 (u.m 0), .int .i64 (u.m 1), .int .i64 (u.m 2), .int .i64 (u.m 3), .int .i64 (u.m 4), .int .i64 (u.m 5), .int .i64 (u.m 6), .int .i64 (u.m 7)] 33))) := ((Grew.refl _).alloc _).alloc _
 rw [lx_lex]
 go_enter Tryz.func130, Tryz.ntmps130
 go_wp2_with fail
 refine (mCmp_grew u.m t.m _).mono ?_
 rintro e w1 ⟨rfl, hE1⟩
 have hg := hide (hE.out.trans hE1).grow
 clear hE1
 go_wp2
 go_ret
 exact ⟨rfl, hg.out⟩
theorem swo_lx : SWO (ltOf cfG) where
 irrefl x := by simp [ltOf, cfG, lx_self]
 trans x y z h1 h2 := by
  have h1 : lx y.t.m x.t.m < 0 := of_decide_eq_true h1
  have h2 : lx z.t.m y.t.m < 0 := of_decide_eq_true h2
  show decide (lx z.t.m x.t.m < 0) = true
  rw [decide_eq_true_eq]
  have e1 := lx_neg x.t.m y.t.m
  have e2 := lx_neg y.t.m z.t.m
  have e3 := lx_neg x.t.m z.t.m
  have := lx_trans (a := x.t.m) (b := y.t.m) (c := z.t.m) (by omega) (by omega)
  omega
 ntrans x y z h1 h2 := by
  have h1 : ¬ lx y.t.m x.t.m < 0 := of_decide_eq_false h1
  have h2 : ¬ lx z.t.m y.t.m < 0 := of_decide_eq_false h2
  show decide (lx z.t.m x.t.m < 0) = false
  rw [decide_eq_false_iff_not]
  have := (oCmp_trans (R := []) (a := z.t.m) (b := y.t.m) (c := x.t.m) (by unfold lx at h2; omega) (by unfold lx at h1; omega)).1
  unfold lx
  omega
set_option maxRecDepth 100000 in
theorem SortT_raw (g c : Nat) (d : Array G12) (w : World) (hH : HoldsK encG 12 w g 0 d) (hgl : g < w.heap.size) (hn : d.size < 4611686018427387904) :
  Calls Tryz.prog 129 #[.slice (some ⟨g, 0, none⟩) d.size c, .func (.func 130) #[] #[]] w fun e w' => e = .returned (.tuple #[]) ∧ ∃ d' m os, PermIn 0 d.size d d' ∧ SortedIn (ltOf cfG) 0 d.size d' ∧ w' = sortWorldK encG 12 w g 0 m d' os := by
 have eg : ∀ args w, (callFunc 130 args).run Tryz.prog w = .ok (.enter 130 args) w := enters_of Tryz.func130 (by kernel_rfl) rfl
 have hcmp : CmpLays Tryz.prog 130 #[] encG 12 cfG g 0 d.size w := fun m os dk hdk x y => closureT_any x y _
 have hlim : Lib.bitLen d.size < 4611686018427387904 := Nat.lt_of_le_of_lt (Lib.bitLen_le d.size 62 (by omega) (by omega)) (by omega)
 have h1 : ∀ x : G12, ∀ v ∈ encG x, v.oneCell' = true := fun x v hv => by
  simp [encG, G12.cells, tmc] at hv
  rcases hv with rfl | rfl | rfl | rfl | rfl | rfl | rfl | rfl | rfl | rfl | rfl | rfl <;> rfl
 have hp := AnyQ.pdqsortCmpFunc_all Tryz.pdqTerm 12 Tryz.isAgg33 Tryz.sizeOf33 encG cfG 130 #[] swo_lx g 0 c d w eg hcmp ⟨fun _ => rfl, h1, hH, hgl⟩ (d.size + 1) 0 d.size (Lib.bitLen d.size) d w (by omega) rfl (SWK.start hH) (Nat.zero_le _) (Nat.le_refl _) hn hlim (Or.inl rfl)
 change Calls Tryz.prog 159 _ _ _ at hp
 have hl : Calls Tryz.prog 160 #[.int .u64 (d.size : Int)] w fun e w' => e = .returned (.int .i64 (Lib.bitLen d.size : Nat)) ∧ w' = w := by
  have h := Tryz.bits_Len (d.size : Int) w (by omega) (by omega)
  rwa [Int.toNat_natCast] at h
 have wr : IntKind.u64.wrap (d.size : Int) = d.size := by simp [IntKind.wrap, IntKind.bits, IntKind.signed]; omega
 have hsort := pdq_sorts (ltOf cfG) swo_lx d 0 d.size (Lib.bitLen d.size) true true (Nat.zero_le _) (Nat.le_refl _) (Or.inl rfl)
 replace hsort := hide hsort
 replace hp := hide hp
 replace hl := hide hl
 clear hH hcmp h1 eg
 generalize hN : d.size = N at *
 replace hN := hide hN
 go_enter Tryz.func129, Tryz.ntmps129
 go_wp2_with fail
 refine hl.out.mono ?_
 rintro e w1 ⟨rfl, rfl⟩
 generalize Lib.bitLen N = bl at *
 go_wp2_with fail
 refine hp.out.mono ?_
 rintro e w2 ⟨rfl, m, os, rfl⟩
 go_wp2
 refine bodyPost_end (v := .tuple #[]) (by simp [results, Tryz.results129, go_sem]) rfl ?_
 exact ⟨rfl, _, m, os, hsort.out.1, hsort.out.2, rfl⟩
end Go.Proofs.YteicdddphdomkaaGreat
namespace Go.Proofs.YteicdddphdomkaaGreat
open Go.RowKit Go.Sort
theorem encG_get (x : G12) {j : Nat} (h : j < 12) : (encG x)[j]! = x.cells[j]! := by
 unfold encG
 rw [getElem!_pos _ j (by simpa [G12.cells, tmc] using h), getElem!_pos _ j (by simpa [G12.cells, tmc] using h), Array.getElem_toList]
theorem cells_get (x : G12) {j : Nat} (h : j < 12) : x.cells[j]? = some x.cells[j]! := by
 rw [getElem!_pos _ j (by simpa [G12.cells, tmc] using h), Array.getElem?_eq_getElem]
theorem G12.tm {w : World} {x : G12} (h : x.ok w) : TmV w x.cells x.t := ⟨x.b, x.b', x.A, x.A', x.n, x.c, x.n', x.c', rfl, h⟩
theorem G12.ok_kept {w w' : World} {row : Option Nat} {x : G12} (h : x.ok w) (hg : w.grownBy w' row) (ht : ∀ b, row = some b → ¬ Ty w b 137) : x.ok w' := IsRat.kept h hg ht
theorem fl_map (n : Nat) (f : Nat → G12) (q : Nat) (hq : q < n * 12) : (((List.range n).map fun i => (f i).cells).flatMap Array.toList)[q]? = some ((f (q / 12)).cells)[q % 12]! := by
 have hg : ∀ i, i < n → ((List.range n).map fun i => (f i).cells).getD i #[] = (f i).cells := fun i hi => by
  rw [List.getD_eq_getElem?_getD, List.getElem?_map, List.getElem?_range hi]
  rfl
 have := fl_get (cl := (List.range n).map fun i => (f i).cells) (fun i hi => by
  have hi : i < n := by simpa using hi
  rw [hg i hi]; rfl) (q / 12) (q % 12) (by simp; omega) (by omega)
 rw [show q / 12 * 12 + q % 12 = q by omega, hg _ (by omega), cells_get _ (by omega)] at this
 exact this
theorem grown_sort {w : World} {g m : Nat} {d : Array G12} {os : Array Obj} : w.grownBy (sortWorldK encG 12 w g 0 m d os) (some g) :=
 ⟨rfl, rfl, rfl, size_sortWorldK_c encG 12 w g 0 m d os, fun k hk hne => sortWorld_block encG 12 w g 0 m d os hk fun e => hne (by rw [e])⟩
def Falls (P : List Tm) : Prop := ∀ i j, i < j → j < P.length → 0 ≤ lx (tAt P i).m (tAt P j).m
theorem tAt_range (n : Nat) (f : Nat → Tm) {i : Nat} (h : i < n) : tAt ((List.range n).map f) i = f i := by
 unfold tAt
 rw [List.getD_eq_getElem?_getD, List.getElem?_map, List.getElem?_range h]
 rfl
theorem SortP_any {base g c : Nat} {P : List Tm} {w : World} (h : OwnP base w (.slice (some ⟨g, 0, none⟩) P.length c) P) (hn : P.length ≤ 1000000) :
  Calls Tryz.prog 129 #[.slice (some ⟨g, 0, none⟩) P.length c, .func (.func 130) #[] #[]] w fun e w' => e = .returned (.tuple #[]) ∧ w.grownBy w' (some g) ∧ ∃ P', P'.Perm P ∧ Falls P' ∧ OwnP base w' (.slice (some ⟨g, 0, none⟩) P.length c) P' := by
 have hu := h.notU g rfl
 obtain ⟨cl, h1, ⟨h2, h3⟩, h4⟩ := h
 rcases h3 with ⟨h5, _⟩ | ⟨g', cap, cur, h5, h6, hg, h7, h8, h9, h10⟩
 ·cases h5
 cases h5
 have key : ∀ i, ∃ x : G12, i < P.length → cl.getD i #[] = x.cells ∧ x.ok w ∧ x.t = tAt P i := fun i => by
  by_cases hi : i < P.length
  ·obtain ⟨b, b', A, A', n, k, n', k', e1, e2⟩ := h4 i hi
   exact ⟨⟨b, b', A, A', n, k, n', k', tAt P i⟩, fun _ => ⟨e1, e2, rfl⟩⟩
  ·exact ⟨default, fun h => absurd h hi⟩
 obtain ⟨n, hN⟩ : ∃ n, n = P.length := ⟨_, rfl⟩
 rw [← hN] at h1 h2 h7 h10 hn key ⊢
 obtain ⟨f, hf⟩ : ∃ f : Nat → G12, ∀ i, i < n → cl.getD i #[] = (f i).cells ∧ (f i).ok w ∧ (f i).t = tAt P i := ⟨fun i => (key i).choose, fun i hi => (key i).choose_spec hi⟩
 clear key
 obtain ⟨d, hd⟩ : ∃ d : Array G12, d = (Array.range n).map f := ⟨_, rfl⟩
 have hds : d.size = n := by rw [hd]; simp
 have hdg : ∀ i, i < n → d[i]! = f i := fun i hi => by rw [getElem!_pos _ i (by omega)]; simp [hd]
 have hsz : ∀ i, i < cl.length → (cl.getD i #[]).size = 12 := fun i hi => by rw [(hf i (by omega)).1]; rfl
 have hH : HoldsK encG 12 w g 0 d := by
  intro q hq
  rw [size_flatK, hds] at hq
  rw [get_flatK _ _ _ _ (by rw [hds]; exact hq), hdg _ (by omega), encG_get _ (by omega), Nat.zero_add]
  refine ⟨?_, (show Blk w g 33 cur from hg).frozen q⟩
  rw [cell_of_block hg]
  have e1 := fl_get hsz (q / 12) (q % 12) (by omega) (by omega)
  rw [show q / 12 * 12 + q % 12 = q by omega, (hf (q / 12) (by omega)).1, cells_get _ (by omega), ← h10, List.getElem?_take, if_pos (by omega)] at e1
  simpa using e1
 have hcon := SortT_raw g c d w hH (lt_of_heap hg) (by omega)
 rw [hds] at hcon
 refine hcon.mono ?_
 rintro e w' ⟨rfl, d', m, os, hp, hs, rfl⟩
 have hk : ∀ b, some g = some b → ¬ Ty w b 137 := fun b e => by cases e; exact hu
 have hds' : d'.size = n := hp.1.trans hds
 have e1 : (d'.extract 0 n).toList = (List.range n).map fun i => d'[i]! := by
  refine List.ext_getElem (by simp [hds']) fun i q1 q2 => ?_
  simp at q2
  simp [getElem!_pos d' i (by omega)]
 have e2 : (d.extract 0 n).toList = (List.range n).map f := by
  refine List.ext_getElem (by simp [hds]) fun i q1 q2 => ?_
  simp [hd]
 have hperm := hp.2.2
 rw [e1, e2] at hperm
 have hok : ∀ i, i < n → (d'[i]!).ok w := fun i hi => by
  have : d'[i]! ∈ (List.range n).map f := hperm.mem_iff.1 (List.mem_map.2 ⟨i, by simpa using hi, rfl⟩)
  obtain ⟨j, hj, e⟩ := List.mem_map.1 this
  rw [← e]
  exact (hf j (by simpa using hj)).2.1
 refine ⟨rfl, grown_sort, (List.range n).map fun i => (d'[i]!).t, ?_, fun i j hij hj => ?_, ?_⟩
 ·have h11 := hperm.map G12.t
  rw [List.map_map, List.map_map] at h11
  refine h11.trans ?_
  have : (List.range n).map (G12.t ∘ f) = P := by
   refine List.ext_getElem (by simp [hN]) fun i q1 q2 => ?_
   simp only [List.getElem_map, List.getElem_range, Function.comp]
   rw [(hf i (by omega)).2.2]
   unfold tAt
   rw [List.getD_eq_getElem?_getD, List.getElem?_eq_getElem q2]
   rfl
  rw [this]
 ·have hj : j < n := by simpa using hj
  rw [tAt_range n _ (by omega), tAt_range n _ hj]
  have := hs i j (Nat.zero_le _) hij hj
  have : ¬ lx (d'[i]!).t.m (d'[j]!).t.m < 0 := of_decide_eq_false this
  omega
 ·have hln : ((List.range n).map fun i => (d'[i]!).t).length = n := by simp
  refine ⟨(List.range n).map fun i => (d'[i]!).cells, by simp, ?_, fun i hi => ?_⟩
  ·rw [hln]
   refine ⟨?_, .inr ⟨g, c, _, rfl, h6, sortWorld_cells encG 12 w g 0 m d' os hg, h7, h8, by simp [putCells, h9], ?_⟩⟩
   ·rw [fl_length fun i hi => by
     have hi : i < n := by simpa using hi
     rw [List.getD_eq_getElem?_getD, List.getElem?_map, List.getElem?_range hi]; rfl]
    simp
   ·apply List.ext_getElem?
    intro q
    by_cases hq : q < n * 12
    ·rw [fl_map n _ q hq, List.getElem?_take, if_pos hq, Array.getElem?_toList]
     unfold putCells
     rw [Array.getElem?_mapIdx]
     have hcq : q < cur.size := by rw [h9]; exact Nat.lt_of_lt_of_le hq (Nat.mul_le_mul_right 12 h7)
     rw [Array.getElem?_eq_getElem hcq]
     simp only [Option.map_some, size_flatK, hds']
     rw [if_pos (by omega), Nat.sub_zero, get_flatK _ _ _ _ (by rw [hds']; exact hq), encG_get _ (by omega)]
     rfl
    ·rw [List.getElem?_eq_none, List.getElem?_eq_none]
     ·rw [fl_length fun i hi => by
       have hi : i < n := by simpa using hi
       rw [List.getD_eq_getElem?_getD, List.getElem?_map, List.getElem?_range hi]; rfl]
      simp; omega
     ·simp; omega
  ·have hi : i < n := by simpa using hi
   rw [tAt_range n _ hi]
   have : ((List.range n).map fun i => (d'[i]!).cells).getD i #[] = (d'[i]!).cells := by
    rw [List.getD_eq_getElem?_getD, List.getElem?_map, List.getElem?_range hi]; rfl
   rw [this]
   exact G12.tm (G12.ok_kept (hok i hi) grown_sort hk)
end Go.Proofs.YteicdddphdomkaaGreat
namespace Go.Proofs.YteicdddphdomkaaGreat
open Go.RowKit
open Go.ChangeMaps (setBlock)
theorem wpList_range_run {P : Program} {w w' : World} {ops : Array Oper} {rest : List Oper} {o : Oper} {a : Act} {Q : Exit → Act → World → Prop} (hg : o.guard = none) (m : Operand) (t : TypeId) (hop : o.op = Op.range t m) {vm v : Value} (hm : a.eval m = vm)
  (hr : (Instr.range t vm).run P w = .ok v w') (h : wpList P ops Q rest (a.put o.dst v) w') : wpList P ops Q (o :: rest) a w := by
 refine wpList_plain hg fun K' hK' => ?_
 unfold Oper.wp
 simp [execOp, hop, hm, hr, Result.andThen]
 exact hK' _ _ h
theorem wpList_next_run {P : Program} {w w' : World} {ops : Array Oper} {rest : List Oper} {o : Oper} {a : Act} {Q : Exit → Act → World → Prop} (hg : o.guard = none) (it : Operand) (hop : o.op = Op.next it false) {vi v : Value} (hm : a.eval it = vi)
  (hr : (Instr.next vi false o.type).run P w = .ok v w') (h : wpList P ops Q rest (a.put o.dst v) w') : wpList P ops Q (o :: rest) a w := by
 refine wpList_plain hg fun K' hK' => ?_
 unfold Oper.wp
 simp [execOp, hop, hm, hr, Result.andThen]
 exact hK' _ _ h
theorem wpList_make_run {P : Program} {w w' : World} {ops : Array Oper} {rest : List Oper} {o : Oper} {a : Act} {Q : Exit → Act → World → Prop} (hg : o.guard = none) (l c : Operand) (t : TypeId) (hop : o.op = Op.makeSlice t l c) {vl vc v : Value} (hl : a.eval l = vl) (hc : a.eval c = vc)
  (hr : (Instr.makeSlice t vl vc).run P w = .ok v w') (h : wpList P ops Q rest (a.put o.dst v) w') : wpList P ops Q (o :: rest) a w := by
 refine wpList_plain hg fun K' hK' => ?_
 unfold Oper.wp
 simp [execOp, hop, hl, hc, hr, Result.andThen]
 exact hK' _ _ h
theorem ext_of_grown {w w' : World} (h : w.grownBy w' none) : Ext w w' := (Ext.refl w).grown' h fun k e => by cases e
theorem make_pol (n : Nat) (hn : n ≤ 1000000) (w : World) : ∃ w', (Instr.makeSlice 23 (.int .i64 0) (.int .i64 (n : Int))).run Tryz.prog w = .ok (.slice (some ⟨w.heap.size, 0, none⟩) 0 n) w' ∧ OwnP w.heap.size w' (.slice (some ⟨w.heap.size, 0, none⟩) 0 n) [] ∧ Ext w w' := by
 obtain ⟨i, hi, hz0, hz1, hz2⟩ := info_parts (show (Tryz.prog.info? 33).map (fun i => (i.zero, i.size, i.bytes)) = some (some (.agg #[.bool false, .slice none 0 0, .bool false, .slice none 0 0, .int .i64 0, .int .i64 0, .int .i64 0, .int .i64 0, .int .i64 0, .int .i64 0, .int .i64 0, .int .i64 0]), 12, 128) by kernel_rfl)
 obtain ⟨w', h1, h2, h3⟩ := run_make_own (P := Tryz.prog) w w.heap.size 23 33 i _ 12 Tryz.underlying23 hi hz0 hz1 .i64 .i64 n (by rw [hz2]; omega) (by simp only [maxLen]; omega) (Nat.le_refl _)
 exact ⟨w', h1, ⟨[], rfl, h2, fun i h => absurd h (by simp)⟩, ext_of_grown h3⟩
theorem OwnP.kept {base : Nat} {w w' : World} {v : Value} {P : List Tm} {row : Option Nat} (h : OwnP base w v P) (hg : w.grownBy w' row) (hu : ∀ b, row = some b → ¬ Ty w b 137) (ht : ∀ b, row = some b → ¬ Ty w b 33) : OwnP base w' v P := by
 have hty := h.ty
 obtain ⟨cl, h1, h2, h3⟩ := h
 refine ⟨cl, h1, World.ownsRow.kept h2 hg ?_, fun i hi => (h3 i hi).kept hg hu⟩
 cases hv : v.ownBlock with
 | none => exact .inl rfl
 | some b => exact .inr fun e => ht b e.symm (hty b hv)
theorem OwnP.some_ {base : Nat} {w : World} {A : Option Addr} {n c : Nat} {P : List Tm} (h : OwnP base w (.slice A n c) P) (h0 : 0 < P.length) : ∃ g, A = some ⟨g, 0, none⟩ := by
 obtain ⟨_, _, ⟨_, h2⟩, _⟩ := h
 rcases h2 with ⟨h3, h4⟩ | ⟨g, cap, cur, h3, _⟩
 ·omega
 ·cases h3; exact ⟨g, rfl⟩
def seenA (es : Array MapEntry) (I : List Nat) : Array Nat := (I.map fun i => (es[i]!).born).toArray
theorem seenA_push (es : Array MapEntry) (I : List Nat) (i : Nat) : (seenA es I).push (es[i]!).born = seenA es (I ++ [i]) := by simp [seenA]
theorem born_inj {es : Array MapEntry} (h : (es.toList.map (·.born)).Nodup) {i j : Nat} (hi : i < es.size) (hj : j < es.size) (e : (es[i]!).born = (es[j]!).born) : i = j := by
 rw [getElem!_pos es i hi, getElem!_pos es j hj] at e
 have h1 := List.pairwise_iff_getElem.1 h
 rcases Nat.lt_trichotomy i j with hij | hij | hij
 ·exact absurd (by rw [List.getElem_map, List.getElem_map, Array.getElem_toList, Array.getElem_toList]; exact e) (h1 i j (by simpa using hi) (by simpa using hj) hij)
 ·exact hij
 ·exact absurd (by rw [List.getElem_map, List.getElem_map, Array.getElem_toList, Array.getElem_toList]; exact e.symm) (h1 j i (by simpa using hj) (by simpa using hi) hij)
theorem left_step {es : Array MapEntry} {I : List Nat} {e : MapEntry} (h : e ∈ (leftOf es (seenA es I)).toList) : ∃ i, i < es.size ∧ i ∉ I ∧ es[i]! = e := by
 unfold leftOf at h
 simp only [Array.toList_filter, List.mem_filter] at h
 obtain ⟨h1, h2⟩ := h
 obtain ⟨i, hi, rfl⟩ := List.mem_iff_getElem.1 h1
 have hi' : i < es.size := by simpa using hi
 refine ⟨i, hi', fun hI => ?_, by rw [getElem!_pos es i hi']; simp⟩
 have : (seenA es I).contains (es.toList[i]).born = true := by
  rw [Array.contains_iff_mem]
  simp only [seenA, List.mem_toArray, List.mem_map]
  exact ⟨i, hI, by rw [getElem!_pos es i hi']; simp⟩
 rw [this] at h2
 cases h2
theorem left_done {es : Array MapEntry} {I : List Nat} (hn : (es.toList.map (·.born)).Nodup) (hI : ∀ i ∈ I, i < es.size) (h : (leftOf es (seenA es I)).size = 0) : ∀ i, i < es.size → i ∈ I := fun i hi => by
 have h0 : leftOf es (seenA es I) = #[] := Array.eq_empty_of_size_eq_zero h
 unfold leftOf at h0
 rw [Array.filter_eq_empty_iff] at h0
 have h1 := h0 (es[i]) (Array.getElem_mem hi)
 have h2 : (seenA es I).contains (es[i]).born = true := by simpa using h1
 rw [Array.contains_iff_mem] at h2
 simp only [seenA, List.mem_toArray, List.mem_map] at h2
 obtain ⟨j, hj, e⟩ := h2
 have := born_inj hn (hI j hj) hi (by rw [e, getElem!_pos es i hi])
 rw [← this]; exact hj
noncomputable def nz (t : Tm) : Bool := decide (t.c ≠ 0)
theorem dot_nz (f : (Nat → Int) → Rat) : ∀ P : List Tm, dot f (P.filter nz) = dot f P
 | [] => rfl
 | t :: P => by
  rw [List.filter_cons]
  split
  ·simp only [dot, dot_nz f P]
  ·rename_i h
   have h0 : t.c = 0 := by simpa [nz] using h
   simp only [dot, dot_nz f P, h0]
   grind
theorem nodup_len : ∀ (n : Nat) (I : List Nat), I.Nodup → (∀ i ∈ I, i < n) → I.length ≤ n
 | 0, [], _, _ => Nat.le_refl _
 | 0, i :: I, _, h => absurd (h i (by simp)) (Nat.not_lt_zero _)
 | n + 1, I, hn, h => by
  by_cases hm : n ∈ I
  ·have h1 := nodup_len n (I.erase n) (hn.erase n) fun i hi => by
    have h2 := (hn.mem_erase_iff).1 hi
    have h3 := h i h2.2
    have := h2.1
    omega
   rw [List.length_erase_of_mem hm] at h1
   omega
  ·have := nodup_len n I hn fun i hi => by
    have h3 := h i hi
    have : i ≠ n := fun e => hm (by rw [← e]; exact hi)
    omega
   omega
structure Gath (E : List Tm) (I : List Nat) (P : List Tm) : Prop where
 nd : I.Nodup
 lt : ∀ i ∈ I, i < E.length
 eq : P = (I.map (tAt E)).filter nz
theorem Gath.nil (E : List Tm) : Gath E [] [] := ⟨by simp, (fun i h => by cases h), rfl⟩
theorem Gath.len {E : List Tm} {I : List Nat} {P : List Tm} (h : Gath E I P) : P.length ≤ E.length ∧ I.length ≤ E.length := by
 have h1 : I.length ≤ E.length := by
  exact nodup_len E.length I h.nd h.lt
 refine ⟨?_, h1⟩
 rw [h.eq]
 have := List.length_filter_le nz (I.map (tAt E))
 simp at this
 omega
theorem Gath.step {E : List Tm} {I : List Nat} {P : List Tm} (h : Gath E I P) {i : Nat} (hi : i < E.length) (hn : i ∉ I) : ((tAt E i).c = 0 → Gath E (I ++ [i]) P) ∧ ((tAt E i).c ≠ 0 → Gath E (I ++ [i]) (P ++ [tAt E i])) := by
 have hnd : (I ++ [i]).Nodup := by
  rw [List.nodup_append]
  exact ⟨h.nd, by simp, fun a ha b hb e => by
   have hb' : b = i := by simpa using hb
   subst hb'
   subst e
   exact hn ha⟩
 have hlt : ∀ j ∈ I ++ [i], j < E.length := fun j hj => by
  rcases List.mem_append.1 hj with hj | hj
  ·exact h.lt j hj
  ·have : j = i := by simpa using hj
   omega
 refine ⟨fun h0 => ⟨hnd, hlt, ?_⟩, fun h0 => ⟨hnd, hlt, ?_⟩⟩
 ·rw [List.map_append, List.filter_append, ← h.eq]
  simp [nz, h0]
 ·rw [List.map_append, List.filter_append, ← h.eq]
  simp [nz, h0]
theorem Gath.done {E : List Tm} {I : List Nat} {P S : List Tm} (h : Gath E I P) (hall : ∀ i, i < E.length → i ∈ I) (hpw : E.Pairwise fun s t => ¬ Eqv s.m t.m) (hp : S.Perm P) (hs : Falls S) : Canon S ∧ Sim S E ∧ ∀ t ∈ S, t ∈ E := by
 have hI : I.Perm (List.range E.length) := (List.perm_ext_iff_of_nodup h.nd List.nodup_range).2 fun i => by
  constructor
  ·intro hi; simpa using h.lt i hi
  ·intro hi; exact hall i (by simpa using hi)
 have hE : (List.range E.length).map (tAt E) = E := by
  refine List.ext_getElem (by simp) fun i q1 q2 => ?_
  simp only [List.getElem_map, List.getElem_range]
  unfold tAt
  rw [List.getD_eq_getElem?_getD, List.getElem?_eq_getElem q2]
  rfl
 have hPE : P.Perm (E.filter nz) := by
  rw [h.eq]
  refine List.Perm.filter _ ?_
  have := hI.map (tAt E)
  rwa [hE] at this
 have hSE := hp.trans hPE
 refine ⟨⟨?_, fun t ht => ?_⟩, fun f hf => ?_, fun t ht => ?_⟩
 ·have hpw' : S.Pairwise fun s t => ¬ Eqv s.m t.m := (hSE.symm.pairwise_iff (fun {a b} (h : ¬ Eqv a.m b.m) e => h e.symm)).1 (hpw.filter nz)
  rw [Dec, List.pairwise_iff_getElem]
  intro i j hi hj hij
  have h1 := hs i j hij hj
  have h2 := List.pairwise_iff_getElem.1 hpw' i j hi hj hij
  have e1 : tAt S i = S[i] := by unfold tAt; simp [hi]
  have e2 : tAt S j = S[j] := by unfold tAt; simp [hj]
  rw [e1, e2] at h1
  have h3 : lx S[i].m S[j].m ≠ 0 := fun e => h2 (lx_zero.1 e)
  omega
 ·have := (List.mem_filter.1 (hSE.mem_iff.1 ht)).2
  simpa [nz] using this
 ·rw [dot_perm hSE, dot_nz]
 ·exact (List.mem_filter.1 (hSE.mem_iff.1 ht)).1
theorem ext_setBlock {w w1 : World} {r : Nat} {o o' : Obj} (h : Ext w w1) (hr : w.heap.size ≤ r) (hb : w1.heap[r]? = some o) : Ext w (setBlock w1 r o') := h.grown' (grown_setBlock hb) fun k e => by cases e; exact hr
def seenN (it : Nat) (w : World) : Nat := match w.heap[it]? with | some (.mapIter _ _ seen _) => seen.size | _ => 0
def SInv (w : World) (B it clock : Nat) (es : Array MapEntry) (E : List Tm) (wr : World) (I : List Nat) (P : List Tm) (g c : Nat) : Prop :=
 OwnP w.heap.size wr (.slice (some ⟨g, 0, none⟩) P.length c) P ∧ wr.heap[it]? = some (.mapIter (some B) clock (seenA es I) clock) ∧ Ext w wr ∧ Gath E I P
set_option maxRecDepth 100000 in
set_option maxHeartbeats 3200000 in
theorem sorted_any (B : Nat) (E : List Tm) (w : World) (hm : MapAt w B E) (hl : E.length ≤ 100000) :
  Calls Tryz.prog 77 #[.map (some B)] w fun e w' => ∃ S, (Canon S ∧ Sim S E ∧ ∀ t ∈ S, t ∈ E) ∧ RetPolO S w e w' := by
 have hmw := hide hm
 obtain ⟨es, clock, hb, hkeys, hvals, hborn, hnd, hpw⟩ := hm
 have hlen : es.size = E.length := by have := congrArg List.length hkeys; simpa using this
 have hbl : B < w.heap.size := lt_of_heap hb
 obtain ⟨w1, hmk, hO, hE1⟩ := make_pol E.length (by omega) w
 have hlm : ∀ ty, (Builtin.len_ #[93] ty #[.map (some B)]).run Tryz.prog w = .ok (.int .i64 E.length) w := fun ty => by
  rw [← hlen]
  exact run_len_map w 93 ty B es clock (by kernel_rfl) hb
 have hb1 : w1.heap[B]? = some (.map es clock) := (hE1.block hbl).trans hb
 have hrg := run_range_map (P := Tryz.prog) w1 93 31 29 B es clock (by kernel_rfl) hb1
 have hkey : Hid (∀ i, i < E.length → (es[i]!).key = keyV (tAt E i) ∧ ∀ w', Ext w w' → RatV w' (es[i]!).val (tAt E i).c) := hide fun i hi => by
  have hi' : i < es.size := by omega
  have e1 : es.toList[i]? = some (es[i]!) := by rw [Array.getElem?_toList, getElem!_pos es i hi', Array.getElem?_eq_getElem hi']
  refine ⟨?_, fun w' he => (hvals i _ e1).ext he⟩
  have h9 : (es.toList.map (·.key))[i]? = some (es[i]!).key := by rw [List.getElem?_map, e1]; rfl
  rw [hkeys, List.getElem?_map] at h9
  have h10 : E[i]? = some (tAt E i) := by unfold tAt; rw [List.getD_eq_getElem?_getD, List.getElem?_eq_getElem hi]; rfl
  rw [h10] at h9
  simpa using h9.symm
 replace hlen := hide hlen
 replace hmk := hide hmk
 replace hlm := hide hlm
 replace hrg := hide hrg
 replace hO := hide hO
 replace hE1 := hide hE1
 replace hborn := hide hborn
 replace hnd := hide hnd
 replace hpw := hide hpw
 replace hb := hide hb
 replace hb1 := hide hb1
 clear hkeys hvals
 have hlm' := hlm.out 3
 go_enter Tryz.func77, Tryz.ntmps77
 go_upto_region 2 with (first | (at_make; refine wpList_make_run rfl _ _ 23 rfl rfl rfl hmk.out ?_) | go_in)
 clear hlm'
 have hI0 : Hid (SInv w B w1.heap.size clock es E (w1.alloc (.mapIter (some B) clock #[] clock)) [] [] w.heap.size E.length) := ⟨hO.out.ext ((Ext.refl _).alloc _), heap_alloc_new w1 _, hE1.out.alloc _, Gath.nil E⟩
 go_wp2_with (first | (at_range; refine wpList_range_run rfl _ 93 rfl rfl hrg.out ?_) | go_in)
 simp only [Act.put, List.setIfInBounds_toArray, List.set_cons_succ, List.set_cons_zero]
 have hitw : w.heap.size ≤ w1.heap.size := hE1.out.size
 generalize (w1.alloc (.mapIter (some B) clock #[] clock)) = w2 at *
 generalize w1.heap.size = it at *
 clear hrg hmk hlm hO hb1 hE1
 go_loopw [3] (fun s wr => ∃ (I : List Nat) (P : List Tm) (l g c : Nat), l = P.length ∧ s = .slice (some ⟨g, 0, none⟩) l c ∧ Hid (SInv w B it clock es E wr I P g c)) (fun _ wr => E.length - seenN it wr)
 case atStart => exact ⟨[], [], 0, _, _, rfl, rfl, hI0.out⟩
 case round =>
  clear hI0
  obtain ⟨I, P, l, g, c, hl0, rfl, hI⟩ := hrel
  obtain ⟨hO, hit, hEw, hG⟩ := hI.out
  have hbr : wr.heap[B]? = some (.map es clock) := (hEw.block hbl).trans hb.out
  have hbound := hG.len
  have hsn : seenN it wr = I.length := by unfold seenN; rw [hit]; simp [seenA]
  rcases run_next_at (P := Tryz.prog) wr 0 it B clock clock (seenA es I) es clock hit hbr hborn.out (Nat.le_refl _) with ⟨h0, hnx⟩ | ⟨e, he, wd, hwd, hnx⟩
  ·have hall := left_done hnd.out (fun i hi => by rw [hlen.out]; exact hG.lt i hi) h0
   rw [hlen.out] at hall
   replace hnx := hide hnx
   replace hall := hide hall
   replace hl0 := hide hl0
   have hO' := hide hO
   have hG' := hide hG
   have hEw' := hide hEw
   clear hO hG hEw hit hbr h0 hsn hI
   go_wp2_with (first | (at_next; refine wpList_next_run rfl _ rfl rfl hnx.out ?_) | fail)
   rw [hl0.out]
   refine (SortP_any hO'.out (by omega)).mono ?_
   rintro e w5 ⟨rfl, hg5, S, hp, hf, hS⟩
   have hE5 := hide (hEw'.out.grown' hg5 fun k e => by cases e; exact hO'.out.base_le g rfl)
   have hdone := hide (hG'.out.done hall.out hpw.out hp hf)
   have hSl : Hid (P.length = S.length) := hide hp.length_eq.symm
   replace hS := hide hS
   clear hg5 hp hf
   go_wp2
   go_ret
   refine ⟨S, hdone.out, some ⟨g, 0, none⟩, c, ?_, ?_, hE5.out⟩
   ·rw [← hSl.out]; rfl
   ·have := hS.out
    rw [hSl.out] at this
    exact this
  ·obtain ⟨i, hi, hni, rfl⟩ := left_step he
   rw [hlen.out] at hi
   rw [seenA_push] at hnx
   obtain ⟨hk1, hk2⟩ := hkey.out i hi
   have hEd : Ext w wd := by rcases hwd with rfl | rfl; exact hEw; exact hEw.drew
   have hOd : OwnP w.heap.size wd (.slice (some ⟨g, 0, none⟩) P.length c) P := by rcases hwd with rfl | rfl; exact hO; exact hO.ext (Ext.refl _).drew
   have hitd : wd.heap[it]? = some (.mapIter (some B) clock (seenA es I) clock) := by rcases hwd with rfl | rfl <;> exact hit
   have hnoty : ∀ t, ¬ Ty wd it t := fun t ⟨cs, fz, h⟩ => by rw [hitd] at h; cases h
   have hgs := grown_setBlock (o' := .mapIter (some B) clock (seenA es (I ++ [i])) clock) hitd
   have hO3 := hide (hOd.kept hgs (fun b e => by cases e; exact hnoty _) (fun b e => by cases e; exact hnoty _))
   have hE3 := hide (ext_setBlock (o' := .mapIter (some B) clock (seenA es (I ++ [i])) clock) hEd hitw hitd)
   have hit3 : Hid ((setBlock wd it (.mapIter (some B) clock (seenA es (I ++ [i])) clock)).heap[it]? = some (.mapIter (some B) clock (seenA es (I ++ [i])) clock)) := heap_setBlock hitd
   have hb3 : (setBlock wd it (.mapIter (some B) clock (seenA es (I ++ [i])) clock)).heap[B]? = some (.map es clock) := (hE3.out.block hbl).trans hb.out
   have hen := run_entry_at (P := Tryz.prog) (setBlock wd it (.mapIter (some B) clock (seenA es (I ++ [i])) clock)) it B clock (seenA es I) es clock (es[i]!) (by rw [seenA_push]; exact hit3.out) hb3 (by rw [getElem!_pos es i (by rw [hlen.out]; exact hi)]; simp) hnd.out
   obtain ⟨b, b', A, A', n, k, n', k', hval, hq⟩ := hk2 _ hE3.out
   rw [hk1, hval] at hnx hen
   have hgst := hide (hG.step hi hni)
   replace hnx := hide hnx
   replace hl0 := hide hl0
   clear hI hO hit hEw hbr he hni hk1 hk2 hEd hOd hitd hnoty hgs hb3 hval hwd hG
   generalize (setBlock wd it (.mapIter (some B) clock (seenA es (I ++ [i])) clock)) = w3 at *
   generalize htt : tAt E i = t at *
   have hen' : (Instr.entry (.pointer (some ⟨it, 0, none⟩))).run Tryz.prog w3 = .ok (.tuple #[.agg #[.int .i64 (t.m 0), .int .i64 (t.m 1), .int .i64 (t.m 2), .int .i64 (t.m 3), .int .i64 (t.m 4), .int .i64 (t.m 5), .int .i64 (t.m 6), .int .i64 (t.m 7)], .agg #[.bool b, .slice A n k, .bool b', .slice A' n' k']]) w3 := hen
   clear hen
   have hb4 : Hid (Blk ((w3.alloc (.cells #[.int .i64 (t.m 0), .int .i64 (t.m 1), .int .i64 (t.m 2), .int .i64 (t.m 3), .int .i64 (t.m 4), .int .i64 (t.m 5), .int .i64 (t.m 6), .int .i64 (t.m 7)] 31)).alloc (.cells #[.bool b, .slice A n k, .bool b', .slice A' n' k'] 29)) w3.heap.size 31 (c8 t.m)) := (Blk.new _ _ _).alloc _
   have hb5 : Hid (Blk ((w3.alloc (.cells #[.int .i64 (t.m 0), .int .i64 (t.m 1), .int .i64 (t.m 2), .int .i64 (t.m 3), .int .i64 (t.m 4), .int .i64 (t.m 5), .int .i64 (t.m 6), .int .i64 (t.m 7)] 31)).alloc (.cells #[.bool b, .slice A n k, .bool b', .slice A' n' k'] 29)) (w3.heap.size + 1) 29 #[.bool b, .slice A n k, .bool b', .slice A' n' k']) := Blk.new' _ _ (by simp)
   have hE4 : Hid (Ext w3 ((w3.alloc (.cells #[.int .i64 (t.m 0), .int .i64 (t.m 1), .int .i64 (t.m 2), .int .i64 (t.m 3), .int .i64 (t.m 4), .int .i64 (t.m 5), .int .i64 (t.m 6), .int .i64 (t.m 7)] 31)).alloc (.cells #[.bool b, .slice A n k, .bool b', .slice A' n' k'] 29))) := ((Ext.refl _).alloc _).alloc _
   replace hq := hide (hq.ext hE4.out)
   go_upto_region 5 with (first | (at_next; refine wpList_next_run rfl _ rfl rfl hnx.out ?_) | go_in)
   generalize ((w3.alloc (.cells #[.int .i64 (t.m 0), .int .i64 (t.m 1), .int .i64 (t.m 2), .int .i64 (t.m 3), .int .i64 (t.m 4), .int .i64 (t.m 5), .int .i64 (t.m 6), .int .i64 (t.m 7)] 31)).alloc (.cells #[.bool b, .slice A n k, .bool b', .slice A' n' k'] 29)) = w4 at *
   generalize w3.heap.size = B4 at *
   have y0 : w4.cell? ⟨B4 + 1, 0, none⟩ = some (.bool b) := hb5.out.cell 0
   have y1 : w4.cell? ⟨B4 + 1, 1, none⟩ = some (.slice A n k) := hb5.out.cell 1
   have y2 : w4.cell? ⟨B4 + 1, 2, none⟩ = some (.bool b') := hb5.out.cell 2
   have y3 : w4.cell? ⟨B4 + 1, 3, none⟩ = some (.slice A' n' k') := hb5.out.cell 3
   clear hen' hnx
   go_wp2_with fail
   refine (Sign_any b b' A A' n k n' k' t.c _ hq.out).mono ?_
   rintro e w5 ⟨rfl, hE5⟩
   clear y0 y1 y2 y3
   have hE6 := hide (hE3.out.trans (hE4.out.trans hE5))
   have hO6 := hide (hO3.out.ext (hE4.out.trans hE5))
   have hit6 : Hid (w5.heap[it]? = some (.mapIter (some B) clock (seenA es (I ++ [i])) clock)) := (((hE4.out.trans hE5).block (lt_of_heap hit3.out)).trans hit3.out)
   have hms : Hid (E.length - seenN it w5 < E.length - seenN it wr) := by
    have h1 : seenN it w5 = I.length + 1 := by unfold seenN; rw [hit6.out]; simp [seenA]
    have h2 := (hgst.out)
    show E.length - seenN it w5 < E.length - seenN it wr
    rw [h1, hsn]
    have : (I ++ [i]).length ≤ E.length := by
     by_cases hz : t.c = 0
     ·exact (h2.1 hz).len.2
     ·exact (h2.2 hz).len.2
    simp at this
    omega
   by_cases hz : t.c = 0
   ·have hs0 : t.c.num.sign = 0 := by rw [hz]; rfl
    have hG2 := hide (hgst.out.1 hz)
    rw [hs0]
    replace hz := hide hz
    replace hE5 := hide hE5
    clear hs0 hsn
    go_wp2
    exact ⟨⟨I ++ [i], P, l, g, c, hl0.out, rfl, (⟨hO6.out, hit6.out, hE6.out, hG2.out⟩ : SInv w B it clock es E w5 (I ++ [i]) P g c)⟩, hms.out⟩
   ·have hs0 : ¬ t.c.num.sign = 0 := fun e => hz (by
     have := Int.sign_eq_zero_iff_zero.1 e
     exact Rat.num_eq_zero.1 this)
    have hG2 := hide (hgst.out.2 hz)
    have hq5 := hide (hq.out.ext hE5)
    have hb4' := hide (hb4.out.ext hE5)
    have hb5' := hide (hb5.out.ext hE5)
    generalize t.c.num.sign = sg at *
    replace hz := hide hz
    replace hE5 := hide hE5
    have hbt : Hid (Blk (w5.alloc (.cells #[.bool b, .slice A n k, .bool b', .slice A' n' k', .int .i64 (t.m 0), .int .i64 (t.m 1), .int .i64 (t.m 2), .int .i64 (t.m 3), .int .i64 (t.m 4), .int .i64 (t.m 5), .int .i64 (t.m 6), .int .i64 (t.m 7)] 33)) w5.heap.size 33 #[.bool b, .slice A n k, .bool b', .slice A' n' k', .int .i64 (t.m 0), .int .i64 (t.m 1), .int .i64 (t.m 2), .int .i64 (t.m 3), .int .i64 (t.m 4), .int .i64 (t.m 5), .int .i64 (t.m 6), .int .i64 (t.m 7)]) := Blk.new _ _ _
    have hE7 : Hid (Ext w5 (w5.alloc (.cells #[.bool b, .slice A n k, .bool b', .slice A' n' k', .int .i64 (t.m 0), .int .i64 (t.m 1), .int .i64 (t.m 2), .int .i64 (t.m 3), .int .i64 (t.m 4), .int .i64 (t.m 5), .int .i64 (t.m 6), .int .i64 (t.m 7)] 33))) := (Ext.refl _).alloc _
    obtain ⟨A9, c9, w9, hrun, hO9, hg9⟩ := append_term (hO6.out.ext hE7.out) hbt.out ⟨b, b', A, A', n, k, n', k', rfl, hq5.out.ext hE7.out⟩ (hE6.out.trans hE7.out).size (by omega)
    have hE9 := hide ((hE6.out.trans hE7.out).grown' hg9 fun k e => by cases e; exact hO6.out.base_le g rfl)
    have hit9 : Hid (w9.heap[it]? = some (.mapIter (some B) clock (seenA es (I ++ [i])) clock)) := by
     have h1 : (w5.alloc (.cells #[.bool b, .slice A n k, .bool b', .slice A' n' k', .int .i64 (t.m 0), .int .i64 (t.m 1), .int .i64 (t.m 2), .int .i64 (t.m 3), .int .i64 (t.m 4), .int .i64 (t.m 5), .int .i64 (t.m 6), .int .i64 (t.m 7)] 33)).heap[it]? = some (.mapIter (some B) clock (seenA es (I ++ [i])) clock) := (hE7.out.block (lt_of_heap hit6.out)).trans hit6.out
     refine (hg9.block it (lt_of_heap h1) fun e => ?_).trans h1
     obtain ⟨cs, fz, h2⟩ := (hO6.out.ext hE7.out).ty it e.symm
     rw [h1] at h2
     cases h2
    obtain ⟨g9, rfl⟩ := hO9.some_ (by simp)
    have hms9 : Hid (E.length - seenN it w9 < E.length - seenN it wr) := by
     have h1 : seenN it w9 = seenN it w5 := by unfold seenN; rw [hit9.out, hit6.out]
     show E.length - seenN it w9 < E.length - seenN it wr
     rw [h1]
     exact hms.out
    have hlp : Hid (P.length + 1 = (P ++ [t]).length) := by show P.length + 1 = _; simp
    rw [← hl0.out] at hrun hO9
    replace hrun := hide hrun
    replace hO9 := hide hO9
    have x0 : (w5).cell? ⟨B4, 0, none⟩ = some (.int .i64 (t.m 0)) := (hb4'.out).cell 0
    have x1 : (w5).cell? ⟨B4, 1, none⟩ = some (.int .i64 (t.m 1)) := (hb4'.out).cell 1
    have x2 : (w5).cell? ⟨B4, 2, none⟩ = some (.int .i64 (t.m 2)) := (hb4'.out).cell 2
    have x3 : (w5).cell? ⟨B4, 3, none⟩ = some (.int .i64 (t.m 3)) := (hb4'.out).cell 3
    have x4 : (w5).cell? ⟨B4, 4, none⟩ = some (.int .i64 (t.m 4)) := (hb4'.out).cell 4
    have x5 : (w5).cell? ⟨B4, 5, none⟩ = some (.int .i64 (t.m 5)) := (hb4'.out).cell 5
    have x6 : (w5).cell? ⟨B4, 6, none⟩ = some (.int .i64 (t.m 6)) := (hb4'.out).cell 6
    have x7 : (w5).cell? ⟨B4, 7, none⟩ = some (.int .i64 (t.m 7)) := (hb4'.out).cell 7
    have y0 : w5.cell? ⟨B4 + 1, 0, none⟩ = some (.bool b) := hb5'.out.cell 0
    have y1 : w5.cell? ⟨B4 + 1, 1, none⟩ = some (.slice A n k) := hb5'.out.cell 1
    have y2 : w5.cell? ⟨B4 + 1, 2, none⟩ = some (.bool b') := hb5'.out.cell 2
    have y3 : w5.cell? ⟨B4 + 1, 3, none⟩ = some (.slice A' n' k') := hb5'.out.cell 3
    clear hsn hg9 hO6 hit6 hgst
    go_wp2_with (at_builtin; go_loud (refine wpList_append_run rfl _ _ _ rfl _ _ rfl rfl hrun.out ?_))
    exact ⟨⟨I ++ [i], P ++ [t], l + 1, g9, c9, by rw [hl0.out]; exact hlp.out, rfl, (by unfold SInv; rw [← hlp.out, ← hl0.out]; exact ⟨hO9.out, hit9.out, hE9.out, hG2.out⟩ : SInv w B it clock es E w9 (I ++ [i]) (P ++ [t]) g9 c9)⟩, hms9.out⟩
end Go.Proofs.YteicdddphdomkaaGreat
namespace Go.Proofs.YteicdddphdomkaaGreat
open Go.RowKit
def rowM (s : Tm) (Q : List Tm) : List Tm := Q.map fun t => ⟨s.c * t.c, add8 s.m t.m⟩
theorem mulL_snoc (P Q : List Tm) (s : Tm) : mulL (P ++ [s]) Q = mulL P Q ++ rowM s Q := by simp [mulL, rowM]
theorem rowM_snoc (s : Tm) (Q : List Tm) (t : Tm) : rowM s (Q ++ [t]) = rowM s Q ++ [⟨s.c * t.c, add8 s.m t.m⟩] := by simp [rowM]
structure Colld (E G : List Tm) (n D : Nat) (hi : Int) : Prop where
 sim : Sim E G
 len : E.length ≤ n
 sz : PSz E (n * D)
 in_ : PIn E 0 hi
theorem Colld.nil (D : Nat) (hi : Int) : Colld [] [] 0 D hi := ⟨Sim.refl _, by simp, (fun t h => by cases h), (fun t h => by cases h)⟩
theorem Colld.step {E E' G : List Tm} {n D T : Nat} {hi : Int} {q : Rat} {a : Nat → Int} (h : Colld E G n D hi) (hc : Coll E q a E') (hq : RSz q T) (hD : T + 1 ≤ D) (ha : In8 a 0 hi) : Colld E' (G ++ [⟨q, a⟩]) (n + 1) D hi := by
 refine ⟨hc.sim.trans (h.sim.append (Sim.refl _)), Nat.le_trans hc.length (by have := h.len; omega), (hc.sz h.sz hq).mono ?_, hc.in_ h.in_ ha⟩
 rw [Nat.succ_mul]
 omega
theorem dec_tail_mem {S : List Tm} (h : Dec S) : S.Nodup := by
 unfold Dec at h
 refine List.Pairwise.imp ?_ h
 intro a b hab e
 rw [e, lx_self] at hab
 omega
theorem canon_len {S E : List Tm} (h : Canon S) (hm : ∀ t ∈ S, t ∈ E) : S.length ≤ E.length := (dec_tail_mem h.1).length_le_of_subset hm
set_option maxRecDepth 100000 in
set_option maxHeartbeats 3200000 in
theorem PMul_any (v u : Value) (P Q : List Tm) (w : World) (h : PolAt w v P) (h' : PolAt w u Q) (N M : Nat) (hP : PSz P N) (hQ : PSz Q M) (p q : Int) (hPi : PIn P 0 p) (hQi : PIn Q 0 q) (hpq : p + q ≤ 65535) (hp0 : 0 ≤ p) (hq0 : 0 ≤ q) (hn : P.length * Q.length ≤ 100000) (hNM : N + M + 1 ≤ 10000000) :
  Calls Tryz.prog 18 #[v, u] w fun e w' => ∃ S, Canon S ∧ Sim S (mulL P Q) ∧ PIn S 0 (p + q) ∧ PSz S (P.length * Q.length * (N + M + 1)) ∧ S.length ≤ P.length * Q.length ∧ RetPolEO 0 S w e w' := by
 obtain ⟨A0, c0, rfl, hc0, hm0, _⟩ := id h
 obtain ⟨A1, c1, rfl, hc1, hm1, _⟩ := id h'
 obtain ⟨np, hnp⟩ : ∃ np, np = P.length := ⟨_, rfl⟩
 obtain ⟨nq, hnq⟩ : ∃ nq, nq = Q.length := ⟨_, rfl⟩
 obtain ⟨D, hD⟩ : ∃ D, D = N + M + 1 := ⟨_, rfl⟩
 rw [← hnp, ← hnq] at hn
 rw [← hnp] at h hc0 ⊢
 rw [← hnq] at h' hc1 ⊢
 rw [← hD]
 have hsm : ∀ s ∈ P, ∀ t ∈ Q, In8 s.m 0 65535 ∧ In8 t.m 0 65535 ∧ In8 (add8 s.m t.m) 0 65535 ∧ In8 (add8 s.m t.m) 0 (p + q) := fun s hs t ht => by
  refine ⟨fun i hi => ?_, fun i hi => ?_, fun i hi => ?_, fun i hi => ?_⟩
  all_goals
   have h1 := hPi s hs i hi
   have h2 := hQi t ht i hi
   try simp only [add8]
   omega
 have hMb : Hid (MapAt (w.alloc (.map #[] 0)) w.heap.size [] ∧ Ext w (w.alloc (.map #[] 0))) := ⟨MapAt.new w, (Ext.refl w).alloc _⟩
 have hmm := @run_makeMap Tryz.prog
 replace h := hide h
 replace h' := hide h'
 replace hP := hide hP
 replace hQ := hide hQ
 replace hsm := hide hsm
 replace hn := hide hn
 replace hnp := hide hnp
 replace hnq := hide hnq
 replace hD := hide hD
 clear hPi hQi
 go_enter Tryz.func18, Tryz.ntmps18
 go_wp2
 clear hmm
 generalize (w.alloc (.map #[] 0)) = w0 at *
 obtain ⟨B, hB⟩ : ∃ B, B = w.heap.size := ⟨_, rfl⟩
 rw [← hB] at hMb ⊢
 replace hB := hide hB
 go_loopw [16] (fun i wr => ∃ (k : Nat) (E : List Tm), k ≤ np ∧ i = .int .i64 k ∧ Hid (MapAt wr B E ∧ Colld E (mulL (P.take k) Q) (k * nq) D (p + q) ∧ Ext w wr)) (fun i _ => np - (intOf i).toNat)
 case atStart => exact ⟨0, [], by omega, rfl, hMb.out.1, by rw [Nat.zero_mul]; exact Colld.nil _ _, hMb.out.2⟩
 case round =>
  clear hMb
  obtain ⟨k, E, hk, rfl, hI⟩ := hrel
  by_cases hlt : k < np
  ·have hdk : decide (k < np) = true := by simpa using hlt
   have hkm : Hid (tAt P k ∈ P) := tAt_mem (by rw [← hnp.out]; exact hlt)
   have htk : Hid (mulL (P.take (k + 1)) Q = mulL (P.take k) Q ++ rowM (tAt P k) Q) := by
    show _ = _
    rw [← take_tAt (by rw [← hnp.out]; exact hlt), mulL_snoc]
   obtain ⟨-, -, -, gx, ox, bx, bx', Ax, Ax', nx, cx, nx', cx', rfl, hgx, hcx, hsx⟩ := (h.out.ext hI.out.2.2).term (k := k) (by rw [← hnp.out]; exact hlt)
   have hsN := hide (hP.out _ hkm.out)
   have x0 : wr.cell? ⟨gx, ox + k * 12, none⟩ = some (.bool bx) := hcx 0 (by omega)
   have x1 : wr.cell? ⟨gx, ox + k * 12 + 1, none⟩ = some (.slice Ax nx cx) := hcx 1 (by omega)
   have x2 : wr.cell? ⟨gx, ox + k * 12 + 2, none⟩ = some (.bool bx') := hcx 2 (by omega)
   have x3 : wr.cell? ⟨gx, ox + k * 12 + 3, none⟩ = some (.slice Ax' nx' cx') := hcx 3 (by omega)
   have x4 : wr.cell? ⟨gx, ox + k * 12 + 4, none⟩ = some (.int .i64 ((tAt P k).m 0)) := hcx 4 (by omega)
   have x5 : wr.cell? ⟨gx, ox + k * 12 + 5, none⟩ = some (.int .i64 ((tAt P k).m 1)) := hcx 5 (by omega)
   have x6 : wr.cell? ⟨gx, ox + k * 12 + 6, none⟩ = some (.int .i64 ((tAt P k).m 2)) := hcx 6 (by omega)
   have x7 : wr.cell? ⟨gx, ox + k * 12 + 7, none⟩ = some (.int .i64 ((tAt P k).m 3)) := hcx 7 (by omega)
   have x8 : wr.cell? ⟨gx, ox + k * 12 + 8, none⟩ = some (.int .i64 ((tAt P k).m 4)) := hcx 8 (by omega)
   have x9 : wr.cell? ⟨gx, ox + k * 12 + 9, none⟩ = some (.int .i64 ((tAt P k).m 5)) := hcx 9 (by omega)
   have x10 : wr.cell? ⟨gx, ox + k * 12 + 10, none⟩ = some (.int .i64 ((tAt P k).m 6)) := hcx 10 (by omega)
   have x11 : wr.cell? ⟨gx, ox + k * 12 + 11, none⟩ = some (.int .i64 ((tAt P k).m 7)) := hcx 11 (by omega)
   have hb8 : Hid (Blk (wr.alloc (.cells #[.bool bx, .slice Ax nx cx, .bool bx', .slice Ax' nx' cx', .int .i64 ((tAt P k).m 0), .int .i64 ((tAt P k).m 1), .int .i64 ((tAt P k).m 2), .int .i64 ((tAt P k).m 3), .int .i64 ((tAt P k).m 4), .int .i64 ((tAt P k).m 5), .int .i64 ((tAt P k).m 6), .int .i64 ((tAt P k).m 7)] 33)) wr.heap.size 33 #[.bool bx, .slice Ax nx cx, .bool bx', .slice Ax' nx' cx', .int .i64 ((tAt P k).m 0), .int .i64 ((tAt P k).m 1), .int .i64 ((tAt P k).m 2), .int .i64 ((tAt P k).m 3), .int .i64 ((tAt P k).m 4), .int .i64 ((tAt P k).m 5), .int .i64 ((tAt P k).m 6), .int .i64 ((tAt P k).m 7)]) := Blk.new _ _ _
   have hE8 : Hid (Ext wr (wr.alloc (.cells #[.bool bx, .slice Ax nx cx, .bool bx', .slice Ax' nx' cx', .int .i64 ((tAt P k).m 0), .int .i64 ((tAt P k).m 1), .int .i64 ((tAt P k).m 2), .int .i64 ((tAt P k).m 3), .int .i64 ((tAt P k).m 4), .int .i64 ((tAt P k).m 5), .int .i64 ((tAt P k).m 6), .int .i64 ((tAt P k).m 7)] 33))) := (Ext.refl wr).alloc _
   have hI8 : Hid (MapAt (wr.alloc (.cells #[.bool bx, .slice Ax nx cx, .bool bx', .slice Ax' nx' cx', .int .i64 ((tAt P k).m 0), .int .i64 ((tAt P k).m 1), .int .i64 ((tAt P k).m 2), .int .i64 ((tAt P k).m 3), .int .i64 ((tAt P k).m 4), .int .i64 ((tAt P k).m 5), .int .i64 ((tAt P k).m 6), .int .i64 ((tAt P k).m 7)] 33)) B E ∧ Ext w (wr.alloc (.cells #[.bool bx, .slice Ax nx cx, .bool bx', .slice Ax' nx' cx', .int .i64 ((tAt P k).m 0), .int .i64 ((tAt P k).m 1), .int .i64 ((tAt P k).m 2), .int .i64 ((tAt P k).m 3), .int .i64 ((tAt P k).m 4), .int .i64 ((tAt P k).m 5), .int .i64 ((tAt P k).m 6), .int .i64 ((tAt P k).m 7)] 33))) := ⟨hI.out.1.ext hE8.out, hI.out.2.2.trans hE8.out⟩
   have hC8 := hide hI.out.2.1
   replace hsx := hide (hsx.ext hE8.out)
   clear hcx hgx hI
   generalize hs0 : tAt P k = s at *
   clear hs0
   have hBr : Hid (B < wr.heap.size) := by
    have h1 := hI8.out.1.lt
    rcases Nat.lt_or_ge B wr.heap.size with h2 | h2
    ·exact h2
    ·exfalso
     have h3 : B = wr.heap.size := by have := Blk.lt hb8.out; have h4 : (wr.alloc (.cells #[.bool bx, .slice Ax nx cx, .bool bx', .slice Ax' nx' cx', .int .i64 (s.m 0), .int .i64 (s.m 1), .int .i64 (s.m 2), .int .i64 (s.m 3), .int .i64 (s.m 4), .int .i64 (s.m 5), .int .i64 (s.m 6), .int .i64 (s.m 7)] 33)).heap.size = wr.heap.size + 1 := Array.size_push ..; omega
     exact hI8.out.1.notU 33 (by rw [h3]; exact hb8.out.ty)
   go_wp2
   clear x0 x1 x2 x3 x4 x5 x6 x7 x8 x9 x10 x11
   generalize (wr.alloc (.cells #[.bool bx, .slice Ax nx cx, .bool bx', .slice Ax' nx' cx', .int .i64 (s.m 0), .int .i64 (s.m 1), .int .i64 (s.m 2), .int .i64 (s.m 3), .int .i64 (s.m 4), .int .i64 (s.m 5), .int .i64 (s.m 6), .int .i64 (s.m 7)] 33)) = w8 at *
   obtain ⟨B8, hB8⟩ : ∃ B8, B8 = wr.heap.size := ⟨_, rfl⟩
   rw [← hB8] at hb8 hBr ⊢
   replace hB8 := hide hB8
   have hne8 : B ≠ B8 := Nat.ne_of_lt hBr.out
   clear hE8
   go_loopw [22] (fun j wr => ∃ (l : Nat) (E : List Tm), l ≤ nq ∧ j = .int .i64 l ∧ Hid (MapAt wr B E ∧ Colld E (mulL (P.take k) Q ++ rowM s (Q.take l)) (k * nq + l) D (p + q) ∧ Ext w wr ∧ Blk wr B8 33 #[.bool bx, .slice Ax nx cx, .bool bx', .slice Ax' nx' cx', .int .i64 (s.m 0), .int .i64 (s.m 1), .int .i64 (s.m 2), .int .i64 (s.m 3), .int .i64 (s.m 4), .int .i64 (s.m 5), .int .i64 (s.m 6), .int .i64 (s.m 7)] ∧ IsRat wr (.bool bx) (.slice Ax nx cx) (.bool bx') (.slice Ax' nx' cx') s.c)) (fun j _ => nq - (intOf j).toNat)
   case atStart => exact ⟨0, E, by omega, rfl, hI8.out.1, by rw [Nat.add_zero]; simpa [rowM] using hC8.out, hI8.out.2, hb8.out, hsx.out⟩
   case round =>
    clear hI8 hC8 hb8 hsx E
    obtain ⟨l, E, hl, rfl, hI⟩ := hrel
    by_cases hlq : l < nq
    ·have hdl : decide (l < nq) = true := by simpa using hlq
     have hlm : Hid (tAt Q l ∈ Q) := tAt_mem (by rw [← hnq.out]; exact hlq)
     have hrl : Hid (rowM s (Q.take (l + 1)) = rowM s (Q.take l) ++ [⟨s.c * (tAt Q l).c, add8 s.m (tAt Q l).m⟩]) := by
      show _ = _
      rw [← take_tAt (by rw [← hnq.out]; exact hlq), rowM_snoc]
     obtain ⟨-, -, -, gy, oy, bz, bz', Ay, Ay', ny, cy, ny', cy', rfl, hgy, hcy, hsy⟩ := (h'.out.ext hI.out.2.2.1).term (k := l) (by rw [← hnq.out]; exact hlq)
     have htM := hide (hQ.out _ hlm.out)
     have hst := hide (hsm.out s hkm.out _ hlm.out)
     have y0 : wr.cell? ⟨gy, oy + l * 12, none⟩ = some (.bool bz) := hcy 0 (by omega)
     have y1 : wr.cell? ⟨gy, oy + l * 12 + 1, none⟩ = some (.slice Ay ny cy) := hcy 1 (by omega)
     have y2 : wr.cell? ⟨gy, oy + l * 12 + 2, none⟩ = some (.bool bz') := hcy 2 (by omega)
     have y3 : wr.cell? ⟨gy, oy + l * 12 + 3, none⟩ = some (.slice Ay' ny' cy') := hcy 3 (by omega)
     have y4 : wr.cell? ⟨gy, oy + l * 12 + 4, none⟩ = some (.int .i64 ((tAt Q l).m 0)) := hcy 4 (by omega)
     have y5 : wr.cell? ⟨gy, oy + l * 12 + 5, none⟩ = some (.int .i64 ((tAt Q l).m 1)) := hcy 5 (by omega)
     have y6 : wr.cell? ⟨gy, oy + l * 12 + 6, none⟩ = some (.int .i64 ((tAt Q l).m 2)) := hcy 6 (by omega)
     have y7 : wr.cell? ⟨gy, oy + l * 12 + 7, none⟩ = some (.int .i64 ((tAt Q l).m 3)) := hcy 7 (by omega)
     have y8 : wr.cell? ⟨gy, oy + l * 12 + 8, none⟩ = some (.int .i64 ((tAt Q l).m 4)) := hcy 8 (by omega)
     have y9 : wr.cell? ⟨gy, oy + l * 12 + 9, none⟩ = some (.int .i64 ((tAt Q l).m 5)) := hcy 9 (by omega)
     have y10 : wr.cell? ⟨gy, oy + l * 12 + 10, none⟩ = some (.int .i64 ((tAt Q l).m 6)) := hcy 10 (by omega)
     have y11 : wr.cell? ⟨gy, oy + l * 12 + 11, none⟩ = some (.int .i64 ((tAt Q l).m 7)) := hcy 11 (by omega)
     have hb10 : Hid (Blk (wr.alloc (.cells #[.bool bz, .slice Ay ny cy, .bool bz', .slice Ay' ny' cy', .int .i64 ((tAt Q l).m 0), .int .i64 ((tAt Q l).m 1), .int .i64 ((tAt Q l).m 2), .int .i64 ((tAt Q l).m 3), .int .i64 ((tAt Q l).m 4), .int .i64 ((tAt Q l).m 5), .int .i64 ((tAt Q l).m 6), .int .i64 ((tAt Q l).m 7)] 33)) wr.heap.size 33 #[.bool bz, .slice Ay ny cy, .bool bz', .slice Ay' ny' cy', .int .i64 ((tAt Q l).m 0), .int .i64 ((tAt Q l).m 1), .int .i64 ((tAt Q l).m 2), .int .i64 ((tAt Q l).m 3), .int .i64 ((tAt Q l).m 4), .int .i64 ((tAt Q l).m 5), .int .i64 ((tAt Q l).m 6), .int .i64 ((tAt Q l).m 7)]) := Blk.new _ _ _
     have hE10 : Hid (Ext wr (wr.alloc (.cells #[.bool bz, .slice Ay ny cy, .bool bz', .slice Ay' ny' cy', .int .i64 ((tAt Q l).m 0), .int .i64 ((tAt Q l).m 1), .int .i64 ((tAt Q l).m 2), .int .i64 ((tAt Q l).m 3), .int .i64 ((tAt Q l).m 4), .int .i64 ((tAt Q l).m 5), .int .i64 ((tAt Q l).m 6), .int .i64 ((tAt Q l).m 7)] 33))) := (Ext.refl wr).alloc _
     have hI10 : Hid (MapAt (wr.alloc (.cells #[.bool bz, .slice Ay ny cy, .bool bz', .slice Ay' ny' cy', .int .i64 ((tAt Q l).m 0), .int .i64 ((tAt Q l).m 1), .int .i64 ((tAt Q l).m 2), .int .i64 ((tAt Q l).m 3), .int .i64 ((tAt Q l).m 4), .int .i64 ((tAt Q l).m 5), .int .i64 ((tAt Q l).m 6), .int .i64 ((tAt Q l).m 7)] 33)) B E ∧ Ext w (wr.alloc (.cells #[.bool bz, .slice Ay ny cy, .bool bz', .slice Ay' ny' cy', .int .i64 ((tAt Q l).m 0), .int .i64 ((tAt Q l).m 1), .int .i64 ((tAt Q l).m 2), .int .i64 ((tAt Q l).m 3), .int .i64 ((tAt Q l).m 4), .int .i64 ((tAt Q l).m 5), .int .i64 ((tAt Q l).m 6), .int .i64 ((tAt Q l).m 7)] 33))) := ⟨hI.out.1.ext hE10.out, hI.out.2.2.1.trans hE10.out⟩
     have hC := hide hI.out.2.1
     have hb8 := hide (hI.out.2.2.2.1.ext hE10.out)
     have hsx := hide (hI.out.2.2.2.2.ext hE10.out)
     replace hsy := hide (hsy.ext hE10.out)
     have hBr2 : Hid (B < wr.heap.size) := hI.out.1.lt
     clear hcy hgy hI
     generalize ht0 : tAt Q l = t at *
     clear ht0
     go_upto_region 8 with (fail)
     clear y0 y1 y2 y3 y4 y5 y6 y7 y8 y9 y10 y11
     generalize (wr.alloc (.cells #[.bool bz, .slice Ay ny cy, .bool bz', .slice Ay' ny' cy', .int .i64 (t.m 0), .int .i64 (t.m 1), .int .i64 (t.m 2), .int .i64 (t.m 3), .int .i64 (t.m 4), .int .i64 (t.m 5), .int .i64 (t.m 6), .int .i64 (t.m 7)] 33)) = w10 at *
     obtain ⟨B10, hB10⟩ : ∃ B10, B10 = wr.heap.size := ⟨_, rfl⟩
     rw [← hB10] at hb10 hBr2 ⊢
     replace hB10 := hide hB10
     clear hE10
     have x4 : w10.cell? ⟨B8, 4, none⟩ = some (.int .i64 (s.m 0)) := hb8.out.cell 4
     have x5 : w10.cell? ⟨B8, 5, none⟩ = some (.int .i64 (s.m 1)) := hb8.out.cell 5
     have x6 : w10.cell? ⟨B8, 6, none⟩ = some (.int .i64 (s.m 2)) := hb8.out.cell 6
     have x7 : w10.cell? ⟨B8, 7, none⟩ = some (.int .i64 (s.m 3)) := hb8.out.cell 7
     have x8 : w10.cell? ⟨B8, 8, none⟩ = some (.int .i64 (s.m 4)) := hb8.out.cell 8
     have x9 : w10.cell? ⟨B8, 9, none⟩ = some (.int .i64 (s.m 5)) := hb8.out.cell 9
     have x10 : w10.cell? ⟨B8, 10, none⟩ = some (.int .i64 (s.m 6)) := hb8.out.cell 10
     have x11 : w10.cell? ⟨B8, 11, none⟩ = some (.int .i64 (s.m 7)) := hb8.out.cell 11
     have y4 : w10.cell? ⟨B10, 4, none⟩ = some (.int .i64 (t.m 0)) := hb10.out.cell 4
     have y5 : w10.cell? ⟨B10, 5, none⟩ = some (.int .i64 (t.m 1)) := hb10.out.cell 5
     have y6 : w10.cell? ⟨B10, 6, none⟩ = some (.int .i64 (t.m 2)) := hb10.out.cell 6
     have y7 : w10.cell? ⟨B10, 7, none⟩ = some (.int .i64 (t.m 3)) := hb10.out.cell 7
     have y8 : w10.cell? ⟨B10, 8, none⟩ = some (.int .i64 (t.m 4)) := hb10.out.cell 8
     have y9 : w10.cell? ⟨B10, 9, none⟩ = some (.int .i64 (t.m 5)) := hb10.out.cell 9
     have y10 : w10.cell? ⟨B10, 10, none⟩ = some (.int .i64 (t.m 6)) := hb10.out.cell 10
     have y11 : w10.cell? ⟨B10, 11, none⟩ = some (.int .i64 (t.m 7)) := hb10.out.cell 11
     go_wp2_with fail
     refine (mMul_true s.m t.m _ hst.out.1 hst.out.2.1 hst.out.2.2.1).mono ?_
     rintro e w11 ⟨rfl, hE11⟩
     clear x4 x5 x6 x7 x8 x9 x10 x11
     clear y4 y5 y6 y7 y8 y9 y10 y11
     have hb11 : Hid (Blk (w11.alloc (.cells #[.int .i64 (add8 s.m t.m 0), .int .i64 (add8 s.m t.m 1), .int .i64 (add8 s.m t.m 2), .int .i64 (add8 s.m t.m 3), .int .i64 (add8 s.m t.m 4), .int .i64 (add8 s.m t.m 5), .int .i64 (add8 s.m t.m 6), .int .i64 (add8 s.m t.m 7)] 31)) w11.heap.size 31 (c8 (add8 s.m t.m))) := Blk.new _ _ _
     have hE12 : Hid (Ext w10 (w11.alloc (.cells #[.int .i64 (add8 s.m t.m 0), .int .i64 (add8 s.m t.m 1), .int .i64 (add8 s.m t.m 2), .int .i64 (add8 s.m t.m 3), .int .i64 (add8 s.m t.m 4), .int .i64 (add8 s.m t.m 5), .int .i64 (add8 s.m t.m 6), .int .i64 (add8 s.m t.m 7)] 31))) := hE11.alloc _
     replace hb8 := hide (hb8.out.ext hE12.out)
     replace hb10 := hide (hb10.out.ext hE12.out)
     replace hI10 : Hid (MapAt (w11.alloc (.cells #[.int .i64 (add8 s.m t.m 0), .int .i64 (add8 s.m t.m 1), .int .i64 (add8 s.m t.m 2), .int .i64 (add8 s.m t.m 3), .int .i64 (add8 s.m t.m 4), .int .i64 (add8 s.m t.m 5), .int .i64 (add8 s.m t.m 6), .int .i64 (add8 s.m t.m 7)] 31)) B E ∧ Ext w (w11.alloc (.cells #[.int .i64 (add8 s.m t.m 0), .int .i64 (add8 s.m t.m 1), .int .i64 (add8 s.m t.m 2), .int .i64 (add8 s.m t.m 3), .int .i64 (add8 s.m t.m 4), .int .i64 (add8 s.m t.m 5), .int .i64 (add8 s.m t.m 6), .int .i64 (add8 s.m t.m 7)] 31))) := ⟨hI10.out.1.ext hE12.out, hI10.out.2.trans hE12.out⟩
     replace hsx := hide (hsx.out.ext hE12.out)
     replace hsy := hide (hsy.out.ext hE12.out)
     clear hE11 hE12
     go_upto_region 11 with (fail)
     generalize (w11.alloc (.cells #[.int .i64 (add8 s.m t.m 0), .int .i64 (add8 s.m t.m 1), .int .i64 (add8 s.m t.m 2), .int .i64 (add8 s.m t.m 3), .int .i64 (add8 s.m t.m 4), .int .i64 (add8 s.m t.m 5), .int .i64 (add8 s.m t.m 6), .int .i64 (add8 s.m t.m 7)] 31)) = wr2 at *
     generalize w11.heap.size = B11 at *
     have hEr : Hid (Ext wr2 wr2) := Ext.refl wr2
     refine wp_region_v (by kernel_rfl) [[], [], [(38, 1)], [], [(40, 3)], [(39, 2), (41, 4)], []] [[], [], [1], [], [3], [1, 2, 3, 4], []]
      [fun v _ => v = .map (some B), fun v _ => v = .pointer (some ⟨B8, 0, none⟩), fun v _ => v = .agg #[.bool bx, .slice Ax nx cx, .bool bx', .slice Ax' nx' cx'], fun v _ => v = .pointer (some ⟨B10, 0, none⟩), fun v _ => v = .agg #[.bool bz, .slice Ay ny cy, .bool bz', .slice Ay' ny' cy'], fun v w' => RatV w' v (s.c * t.c), fun v _ => v = .agg #[.int .i64 (add8 s.m t.m 0), .int .i64 (add8 s.m t.m 1), .int .i64 (add8 s.m t.m 2), .int .i64 (add8 s.m t.m 3), .int .i64 (add8 s.m t.m 4), .int .i64 (add8 s.m t.m 5), .int .i64 (add8 s.m t.m 6), .int .i64 (add8 s.m t.m 7)]]
      rfl (by kernel_rfl) (by kernel_rfl) ?stab ?steps ?fin
     case stab => exact .cons (Stab.eq _) (.cons (Stab.eq _) (.cons (Stab.eq _) (.cons (Stab.eq _) (.cons (Stab.eq _) (.cons (fun _ _ _ he h => h.ext he) (.cons (Stab.eq _) .nil))))))
     case steps =>
      refine .cons ?s0 (.cons ?s1 (.cons ?s2 (.cons ?s3 (.cons ?s4 (.cons ?s5 (.cons ?s6 .nil))))))
      case s0 =>
       intro w' ev hE hk ha hc hf
       have e6 : ev (.tmp 6) = .map (some B) := ha 6 (by decide)
       exact opStep_val (by simp [execOp, e6, go_sem]) rfl
      case s1 =>
       intro w' ev hE hk ha hc hf
       have e8 : ev (.tmp 8) = .pointer (some ⟨B8, 0, none⟩) := ha 8 (by decide)
       exact opStep_val (by simp [execOp, e8, go_sem]) rfl
      case s2 =>
       intro w' ev hE hk ha hc hf
       have e38 : ev (.tmp 38) = .pointer (some ⟨B8, 0, none⟩) := hk.1 _ rfl
       have c0 : w'.cell? ⟨B8, 0, none⟩ = some (.bool bx) := hE.cellv (hb8.out.cell 0)
       have c1 : w'.cell? ⟨B8, 1, none⟩ = some (.slice Ax nx cx) := hE.cellv (hb8.out.cell 1)
       have c2 : w'.cell? ⟨B8, 2, none⟩ = some (.bool bx') := hE.cellv (hb8.out.cell 2)
       have c3 : w'.cell? ⟨B8, 3, none⟩ = some (.slice Ax' nx' cx') := hE.cellv (hb8.out.cell 3)
       exact opStep_val (by simp [execOp, e38, c0, c1, c2, c3, go_sem]) rfl
      case s3 =>
       intro w' ev hE hk ha hc hf
       have e10 : ev (.tmp 10) = .pointer (some ⟨B10, 0, none⟩) := ha 10 (by decide)
       exact opStep_val (by simp [execOp, e10, go_sem]) rfl
      case s4 =>
       intro w' ev hE hk ha hc hf
       have e40 : ev (.tmp 40) = .pointer (some ⟨B10, 0, none⟩) := hk.1 _ rfl
       have c0 : w'.cell? ⟨B10, 0, none⟩ = some (.bool bz) := hE.cellv (hb10.out.cell 0)
       have c1 : w'.cell? ⟨B10, 1, none⟩ = some (.slice Ay ny cy) := hE.cellv (hb10.out.cell 1)
       have c2 : w'.cell? ⟨B10, 2, none⟩ = some (.bool bz') := hE.cellv (hb10.out.cell 2)
       have c3 : w'.cell? ⟨B10, 3, none⟩ = some (.slice Ay' ny' cy') := hE.cellv (hb10.out.cell 3)
       exact opStep_val (by simp [execOp, e40, c0, c1, c2, c3, go_sem]) rfl
      case s5 =>
       intro w' ev hE hk ha hc hf
       have e39 : ev (.tmp 39) = .agg #[.bool bx, .slice Ax nx cx, .bool bx', .slice Ax' nx' cx'] := hk.1 _ rfl
       have e41 : ev (.tmp 41) = .agg #[.bool bz, .slice Ay ny cy, .bool bz', .slice Ay' ny' cy'] := hk.2.1 _ rfl
       refine opStep_call (by simp [execOp, resolve, invoke, hf, e39, e41, go_sem]) (Mul_any bx bx' Ax Ax' nx cx nx' cx' bz bz' Ay Ay' ny cy ny' cy' s.c t.c N M _ (hsx.out.ext (hEr.out.trans ((Ext.refl _).drew.trans hE))) (hsy.out.ext (hEr.out.trans ((Ext.refl _).drew.trans hE))) hsN.out htM.out (by omega)) ?_
       rintro e w1 ⟨b1, b2, A1, A2, n1, d1, n2, d2, rfl, hI1, hE1⟩
       exact ⟨_, rfl, hE1, b1, b2, A1, A2, n1, d1, n2, d2, rfl, hI1⟩
      case s6 =>
       intro w' ev hE hk ha hc hf
       have e11 : ev (.tmp 11) = .pointer (some ⟨B11, 0, none⟩) := ha 11 (by decide)
       have c0 : w'.cell? ⟨B11, 0, none⟩ = some (.int .i64 (add8 s.m t.m 0)) := hE.cellv (hb11.out.cell 0)
       have c1 : w'.cell? ⟨B11, 1, none⟩ = some (.int .i64 (add8 s.m t.m 1)) := hE.cellv (hb11.out.cell 1)
       have c2 : w'.cell? ⟨B11, 2, none⟩ = some (.int .i64 (add8 s.m t.m 2)) := hE.cellv (hb11.out.cell 2)
       have c3 : w'.cell? ⟨B11, 3, none⟩ = some (.int .i64 (add8 s.m t.m 3)) := hE.cellv (hb11.out.cell 3)
       have c4 : w'.cell? ⟨B11, 4, none⟩ = some (.int .i64 (add8 s.m t.m 4)) := hE.cellv (hb11.out.cell 4)
       have c5 : w'.cell? ⟨B11, 5, none⟩ = some (.int .i64 (add8 s.m t.m 5)) := hE.cellv (hb11.out.cell 5)
       have c6 : w'.cell? ⟨B11, 6, none⟩ = some (.int .i64 (add8 s.m t.m 6)) := hE.cellv (hb11.out.cell 6)
       have c7 : w'.cell? ⟨B11, 7, none⟩ = some (.int .i64 (add8 s.m t.m 7)) := hE.cellv (hb11.out.cell 7)
       exact opStep_val (by simp [execOp, e11, c0, c1, c2, c3, c4, c5, c6, c7, go_sem]) rfl
     case fin =>
      intro gf w' hE hF
      obtain ⟨b3, b3', A3, A3', n3, c3, n3', c3', e5, hI5⟩ := hF 5 _ rfl
      have e0 := hF 0 _ rfl
      have e6 := hF 6 _ rfl
      simp only [List.length_cons, List.length_nil, Nat.reduceAdd, List.drop_succ_cons, List.drop_zero, List.take_succ_cons, List.take_zero, putG, Act.put, List.setIfInBounds_toArray, List.set_cons_succ, List.set_cons_zero, e0, e5, e6]
      replace hE := (Ext.refl wr2).drew.trans hE
      have hM5 := hide (hI10.out.1.ext hE)
      have hE5 := hide (hI10.out.2.trans hE)
      have hb8' := hide (hb8.out.ext hE)
      have hsx' := hide (hsx.out.ext hE)
      replace hI5 := hide hI5
      have hszc := hide (hsN.out.mul htM.out)
      clear hF e0 e5 e6 hE hb8 hb10 hb11 hsx hsy hI10 hEr
      generalize gf 1 = g1 at *
      generalize gf 2 = g2 at *
      generalize gf 3 = g3 at *
      generalize gf 4 = g4 at *
      have hEl : Hid (PSz E ((k * nq + l) * D)) := hC.out.sz
      have hbd : Hid ((k * nq + l) * D + (N + M) + 1 ≤ 4398046511104) := by
       show _ ≤ _
       have h1 : k * nq + l + 1 ≤ np * nq := by
        have h2 : (k + 1) * nq ≤ np * nq := Nat.mul_le_mul_right nq hlt
        rw [Nat.succ_mul] at h2
        omega
       have h3 : (k * nq + l + 1) * D ≤ 100000 * 10000000 := Nat.mul_le_mul (by have := hn.out; omega) (by rw [hD.out]; exact hNM)
       rw [Nat.succ_mul] at h3
       have := hD.out
       omega
      go_wp2_with fail
      refine (collect_any b3 b3' A3 A3' n3 c3 n3' c3' (s.c * t.c) (add8 s.m t.m) B E ((k * nq + l) * D) (N + M) _ hM5.out hI5.out hEl.out hszc.out hbd.out).mono ?_
      rintro e w6 ⟨rfl, hg6, E', hcl, hM6⟩
      have hE6 := hide (hE5.out.grown' hg6 fun k e => by cases e; rw [hB.out]; exact Nat.le_refl _)
      have hnB : ∀ b, some B = some b → ¬ Ty w' b 137 := fun b e => by cases e; exact hM5.out.notU _
      have hb6 : Hid (Blk w6 B8 33 #[.bool bx, .slice Ax nx cx, .bool bx', .slice Ax' nx' cx', .int .i64 (s.m 0), .int .i64 (s.m 1), .int .i64 (s.m 2), .int .i64 (s.m 3), .int .i64 (s.m 4), .int .i64 (s.m 5), .int .i64 (s.m 6), .int .i64 (s.m 7)]) := (hg6.block B8 (Blk.lt hb8'.out) fun e => hne8 (by injection e with e; exact e.symm)).trans hb8'.out
      have hs6 := hide (hsx'.out.kept hg6 hnB)
      have hC6 : Hid (Colld E' (mulL (P.take k) Q ++ rowM s (Q.take (l + 1))) (k * nq + (l + 1)) D (p + q)) := by
       have := hC.out.step hcl hszc.out (by rw [hD.out]; exact Nat.le_refl _) hst.out.2.2.2
       rw [hrl.out, ← List.append_assoc]
       exact this
      replace hM6 := hide hM6
      clear hg6 hcl hnB
      go_wp2
      exact ⟨⟨l + 1, E', hlq, by simp, hM6.out, hC6.out, hE6.out, hb6.out, hs6.out⟩, by simp [intOf]; omega⟩
    ·obtain rfl : l = nq := by omega
     have hdl : decide (l < l) = false := by simp
     have hfin : Hid (Colld E (mulL (P.take (k + 1)) Q) ((k + 1) * l) D (p + q)) := by
      have := hI.out.2.1
      rw [hnq.out, List.take_length, ← hnq.out] at this
      rw [htk.out, Nat.succ_mul]
      exact this
     go_wp2
     exact ⟨⟨k + 1, E, hlt, by simp, hI.out.1, hfin.out, hI.out.2.2.1⟩, by simp [intOf]; omega⟩
  ·obtain rfl : k = np := by omega
   have hdk : decide (k < k) = false := by simp
   have hC := hI.out.2.1
   rw [hnp.out, List.take_length, ← hnp.out] at hC
   have hll : E.length ≤ 100000 := Nat.le_trans hC.len hn.out
   replace hC := hide hC
   go_wp2_with fail
   refine (sorted_any B E _ hI.out.1 hll).mono ?_
   rintro e w5 ⟨S, ⟨hS1, hS2, hS3⟩, A5, c5, rfl, hS4, hE5⟩
   have hE6 := hide (hI.out.2.2.trans hE5)
   have hall : Hid (Canon S ∧ Sim S (mulL P Q) ∧ PIn S 0 (p + q) ∧ PSz S (k * nq * D)) := ⟨hS1, hS2.trans hC.out.sim, fun t ht => hC.out.in_ t (hS3 t ht), fun t ht => hC.out.sz t (hS3 t ht)⟩
   have hSl : Hid (S.length ≤ k * nq) := Nat.le_trans (canon_len hS1 hS3 ) hC.out.len
   replace hS4 := hide (hS4.base_mono hI.out.2.2.size)
   clear hE5 hS1 hS2 hS3
   go_wp2
   go_ret2
   exact ⟨S, hall.out.1, hall.out.2.1, hall.out.2.2.1, hall.out.2.2.2, hSl.out, A5, c5, rfl, hS4.out, hE6.out⟩
end Go.Proofs.YteicdddphdomkaaGreat
namespace Go.Proofs.YteicdddphdomkaaGreat
open Go.RowKit
theorem callFunc_run {P : Program} {f : FuncId} {fn : Func} (hf : P.funcs[f]? = some fn) (hn : (fn.name == "runtime.NumGoroutine") = false) (hb : fn.body.isNone = false) (args : Array Value) (w : World) : (callFunc f args).run P w = .ok (.enter f args) w := by
 have : (program).run P w = .ok P w := rfl
 have hn' : ¬ fn.name = "runtime.NumGoroutine" := by simpa using hn
 have hb' : ¬ fn.body = none := fun e => by rw [e] at hb; cases hb
 simp [callFunc, this, hf, hn', hb']
theorem Abs.of_old {P : Program} {f : FuncId} {ds : List D} {r : D} (hcf : ∀ args w, (callFunc f args).run P w = .ok (.enter f args) w) (h : ∀ (s : GS) (vs : List Value), s.Ok → vs.length = ds.length → (∀ k, k < ds.length → (dAt ds k).rel s (vs.getD k undef)) →
  Calls P f vs.toArray s.w fun e w' => ∃ v, e = .returned v ∧ Ext s.w w' ∧ ∀ s' : GS, s'.w = w' → s'.Ok → (∀ b k, s.w.heap.size ≤ b → b < w'.heap.size → s'.S b k) → GS.Le s s' → r.rel s' v) : Abs P f ds r := by
 refine ⟨hcf, fun s vs hok hl hv => (h s vs hok hl hv).mono fun e w' ⟨v, he, hE, hr⟩ => ⟨v, he, s.grown w', rfl, GS.le_grown hE, ?_⟩⟩
 exact hr _ rfl ((GS.le_grown hE).ok hok) (fun b k h1 h2 => .inr ⟨h1, h2⟩) (GS.le_grown hE)
theorem vs1 {vs : List Value} (h : vs.length = 1) : vs = [vs.getD 0 undef] := by
 match vs, h with
 | [a], _ => rfl
theorem vs2 {vs : List Value} (h : vs.length = 2) : vs = [vs.getD 0 undef, vs.getD 1 undef] := by
 match vs, h with
 | [a, b], _ => rfl
theorem vs3 {vs : List Value} (h : vs.length = 3) : vs = [vs.getD 0 undef, vs.getD 1 undef, vs.getD 2 undef] := by
 match vs, h with
 | [a, b, c], _ => rfl
def wD (l : List Nat) : D := ⟨fun s v => (slD 137 1 (l.map fun x => [ex (.int .u32 (x : Nat))])).rel s v ∧ Small l, fun h hc => ⟨(slD _ _ _).st h.1 hc, h.2⟩⟩
theorem wD_words {s : GS} {v : Value} {l : List Nat} (h : (wD l).rel s v) : Words s.w v l := by
 obtain ⟨⟨A, c, h1, h2, h3, h4⟩, hs⟩ := h
 simp only [List.length_map] at h1 h2 h4
 refine ⟨A, c, h1, h2, h3, hs, fun h0 => ?_⟩
 obtain ⟨b, o, h5, h6⟩ := h4 h0
 obtain ⟨_, cs, fz, h7, h8⟩ := h6 0 h0
 refine ⟨b, o, cs, fz, h5, h7, fun i hi => ?_⟩
 obtain ⟨h9, cs', fz', h10, h11⟩ := h6 i hi
 rw [h7] at h10
 cases h10
 obtain ⟨_, u, h12, _, h13⟩ := h11 0 (by rw [h9]; omega)
 have e : dAt ((l.map fun x => [ex (.int .u32 (x : Nat))]).getD i []) 0 = ex (.int .u32 (l[i] : Nat)) := by simp [dAt, hi]
 rw [e] at h13
 have h13 : u = _ := h13
 rw [Nat.mul_one, Nat.add_zero] at h12
 rw [h12, h13]
theorem words_wD {s : GS} {v : Value} {l : List Nat} (hok : s.Ok) (h : Words s.w v l) : (wD l).rel s v := by
 obtain ⟨A, c, h1, h2, h3, hs, h4⟩ := h
 refine ⟨⟨A, c, by rw [List.length_map]; exact h1, by rw [List.length_map]; exact h2, h3, fun h0 => ?_⟩, hs⟩
 rw [List.length_map] at h0
 obtain ⟨b, o, cs, fz, h5, h6, h7⟩ := h4 h0
 refine ⟨b, o, h5, fun k hk => ?_⟩
 rw [List.length_map] at hk
 have e : (l.map fun x => [ex (.int .u32 (x : Nat))]).getD k [] = [ex (.int .u32 (l[k] : Nat))] := by simp [hk]
 rw [e]
 refine ⟨rfl, cs, fz, h6, fun j hj => ?_⟩
 obtain rfl : j = 0 := by simp at hj; omega
 rw [Nat.mul_one, Nat.add_zero]
 exact ⟨hok.safe b _ ⟨cs, fz, h6⟩, _, h7 k hk, rfl, rfl⟩
def intC (z : Int) : List D := [ex (.bool (decide (z < 0))), wD (digs z.natAbs)]
def ratC (q : Rat) : List D := [ex (.bool (decide (q.num < 0))), wD (digs q.num.natAbs), ex (.bool (decide ((q.den : Int) < 0))), wD (digs (q.den : Int).natAbs)]
theorem wD_form {s : GS} {v : Value} {l : List Nat} (h : (wD l).rel s v) : ∃ A n c, v = .slice A n c := by
 obtain ⟨A, c, h1, _⟩ := h.1
 exact ⟨A, _, c, h1⟩
theorem ag2 {s : GS} {v : Value} {d0 d1 : D} (h : (agD [d0, d1]).rel s v) : ∃ u0 u1, v = .agg #[u0, u1] ∧ d0.rel s u0 ∧ d1.rel s u1 := by
 obtain ⟨cs, rfl, h1, h2⟩ := h
 obtain ⟨u0, e0, _, r0⟩ := h2 0 (by simp)
 obtain ⟨u1, e1, _, r1⟩ := h2 1 (by simp)
 refine ⟨u0, u1, ?_, r0, r1⟩
 congr 1
 refine Array.ext (by simpa using h1) fun i q1 q2 => ?_
 simp at q2
 match i, q2 with
 | 0, _ => exact Option.some.inj ((Array.getElem?_eq_getElem q1).symm.trans e0)
 | 1, _ => exact Option.some.inj ((Array.getElem?_eq_getElem q1).symm.trans e1)
theorem ag4 {s : GS} {v : Value} {d0 d1 d2 d3 : D} (h : (agD [d0, d1, d2, d3]).rel s v) : ∃ u0 u1 u2 u3, v = .agg #[u0, u1, u2, u3] ∧ d0.rel s u0 ∧ d1.rel s u1 ∧ d2.rel s u2 ∧ d3.rel s u3 := by
 obtain ⟨cs, rfl, h1, h2⟩ := h
 obtain ⟨u0, e0, _, r0⟩ := h2 0 (by simp)
 obtain ⟨u1, e1, _, r1⟩ := h2 1 (by simp)
 obtain ⟨u2, e2, _, r2⟩ := h2 2 (by simp)
 obtain ⟨u3, e3, _, r3⟩ := h2 3 (by simp)
 refine ⟨u0, u1, u2, u3, ?_, r0, r1, r2, r3⟩
 congr 1
 refine Array.ext (by simpa using h1) fun i q1 q2 => ?_
 simp at q2
 match i, q2 with
 | 0, _ => exact Option.some.inj ((Array.getElem?_eq_getElem q1).symm.trans e0)
 | 1, _ => exact Option.some.inj ((Array.getElem?_eq_getElem q1).symm.trans e1)
 | 2, _ => exact Option.some.inj ((Array.getElem?_eq_getElem q1).symm.trans e2)
 | 3, _ => exact Option.some.inj ((Array.getElem?_eq_getElem q1).symm.trans e3)
theorem ag_ex {s : GS} {v : Value} {l : List Value} (h : (agD (l.map ex)).rel s v) : v = .agg l.toArray := by
 obtain ⟨cs, rfl, h1, h2⟩ := h
 congr 1
 refine Array.ext (by simpa using h1) fun i q1 q2 => ?_
 simp at q2
 obtain ⟨u, e, _, r⟩ := h2 i (by simpa using q2)
 have e2 : dAt (l.map ex) i = ex l[i] := by simp [dAt, q2]
 rw [e2] at r
 have r : u = l[i] := r
 rw [Array.getElem?_eq_getElem q1] at e
 rw [Option.some.inj e, r]
 simp
theorem ratC_open {s : GS} {v : Value} {q : Rat} (h : (agD (ratC q)).rel s v) : ∃ (b b' : Bool) (A A' : Option Addr) (n c n' c' : Nat), v = .agg #[.bool b, .slice A n c, .bool b', .slice A' n' c'] ∧ IsRat s.w (.bool b) (.slice A n c) (.bool b') (.slice A' n' c') q := by
 obtain ⟨u0, u1, u2, u3, rfl, h0, h1, h2, h3⟩ := ag4 h
 obtain rfl : u0 = _ := h0
 obtain rfl : u2 = _ := h2
 obtain ⟨A, n, c, rfl⟩ := wD_form h1
 obtain ⟨A', n', c', rfl⟩ := wD_form h3
 exact ⟨_, _, A, A', n, c, n', c', rfl, ⟨rfl, wD_words h1⟩, ⟨rfl, wD_words h3⟩⟩
theorem ratC_mk {s : GS} {q : Rat} {b b' : Bool} {A A' : Option Addr} {n c n' c' : Nat} (hok : s.Ok) (h : IsRat s.w (.bool b) (.slice A n c) (.bool b') (.slice A' n' c') q) : (agD (ratC q)).rel s (.agg #[.bool b, .slice A n c, .bool b', .slice A' n' c']) := by
 obtain ⟨⟨h1, h2⟩, h3, h4⟩ := h
 refine ⟨_, rfl, rfl, fun k hk => ?_⟩
 have hk : k < 4 := hk
 match k, hk with
 | 0, _ => exact ⟨_, rfl, rfl, h1⟩
 | 1, _ => exact ⟨_, rfl, rfl, words_wD hok h2⟩
 | 2, _ => exact ⟨_, rfl, rfl, h3⟩
 | 3, _ => exact ⟨_, rfl, rfl, words_wD hok h4⟩
theorem intC_open {s : GS} {v : Value} {z : Int} (h : (agD (intC z)).rel s v) : ∃ (b : Bool) (A : Option Addr) (n c : Nat), v = .agg #[.bool b, .slice A n c] ∧ IsInt s.w (.bool b) (.slice A n c) z := by
 obtain ⟨u0, u1, rfl, h0, h1⟩ := ag2 h
 obtain rfl : u0 = _ := h0
 obtain ⟨A, n, c, rfl⟩ := wD_form h1
 exact ⟨_, A, n, c, rfl, rfl, wD_words h1⟩
theorem intC_mk {s : GS} {z : Int} {b : Bool} {A : Option Addr} {n c : Nat} (hok : s.Ok) (h : IsInt s.w (.bool b) (.slice A n c) z) : (agD (intC z)).rel s (.agg #[.bool b, .slice A n c]) := by
 obtain ⟨h1, h2⟩ := h
 refine ⟨_, rfl, rfl, fun k hk => ?_⟩
 have hk : k < 2 := hk
 match k, hk with
 | 0, _ => exact ⟨_, rfl, rfl, h1⟩
 | 1, _ => exact ⟨_, rfl, rfl, words_wD hok h2⟩
def monC (a : Nat → Int) : List D := [ex (.int .i64 (a 0)), ex (.int .i64 (a 1)), ex (.int .i64 (a 2)), ex (.int .i64 (a 3)), ex (.int .i64 (a 4)), ex (.int .i64 (a 5)), ex (.int .i64 (a 6)), ex (.int .i64 (a 7))]
theorem monC_open {s : GS} {v : Value} {a : Nat → Int} (h : (agD (monC a)).rel s v) : v = .agg (c8 a) := ag_ex (l := (c8 a).toList) h
theorem monC_at {a : Nat → Int} {i : Nat} (h : i < 8) : dAt (monC a) i = ex (.int .i64 (a i)) := by
 match i, h with
 | 0, _ => rfl
 | 1, _ => rfl
 | 2, _ => rfl
 | 3, _ => rfl
 | 4, _ => rfl
 | 5, _ => rfl
 | 6, _ => rfl
 | 7, _ => rfl
def tmC (t : Tm) : List D := ratC t.c ++ monC t.m
theorem tmC_length (t : Tm) : (tmC t).length = 12 := rfl
theorem tmC_drop (t : Tm) : (tmC t).drop 4 = monC t.m := rfl
theorem tmV_cells {s : GS} {cs : Array Value} {t : Tm} (hok : s.Ok) (h : TmV s.w cs t) : ∀ k, k < 12 → ∃ u, cs[k]? = some u ∧ u.oneCell' = true ∧ (dAt (tmC t) k).rel s u := by
 obtain ⟨b, b', A, A', n, c, n', c', rfl, ⟨h1, h2⟩, h3, h4⟩ := h
 intro k hk
 match k, hk with
 | 0, _ => exact ⟨_, rfl, rfl, h1⟩
 | 1, _ => exact ⟨_, rfl, rfl, words_wD hok h2⟩
 | 2, _ => exact ⟨_, rfl, rfl, h3⟩
 | 3, _ => exact ⟨_, rfl, rfl, words_wD hok h4⟩
 | 4, _ => exact ⟨_, rfl, rfl, rfl⟩
 | 5, _ => exact ⟨_, rfl, rfl, rfl⟩
 | 6, _ => exact ⟨_, rfl, rfl, rfl⟩
 | 7, _ => exact ⟨_, rfl, rfl, rfl⟩
 | 8, _ => exact ⟨_, rfl, rfl, rfl⟩
 | 9, _ => exact ⟨_, rfl, rfl, rfl⟩
 | 10, _ => exact ⟨_, rfl, rfl, rfl⟩
 | 11, _ => exact ⟨_, rfl, rfl, rfl⟩
theorem cells_tmV {s : GS} {cs : Array Value} {t : Tm} (hsz : cs.size = 12) (h : ∀ k, k < 12 → ∃ u, cs[k]? = some u ∧ u.oneCell' = true ∧ (dAt (tmC t) k).rel s u) : TmV s.w cs t := by
 obtain ⟨u0, e0, _, r0⟩ := h 0 (by omega)
 obtain ⟨u1, e1, _, r1⟩ := h 1 (by omega)
 obtain ⟨u2, e2, _, r2⟩ := h 2 (by omega)
 obtain ⟨u3, e3, _, r3⟩ := h 3 (by omega)
 obtain rfl : u0 = _ := r0
 obtain rfl : u2 = _ := r2
 obtain ⟨A, n, c, rfl⟩ := wD_form r1
 obtain ⟨A', n', c', rfl⟩ := wD_form r3
 have hm : ∀ i, i < 8 → cs[4 + i]? = some (.int .i64 (t.m i)) := fun i hi => by
  obtain ⟨u, e, _, r⟩ := h (4 + i) (by omega)
  have e2 : dAt (tmC t) (4 + i) = ex (.int .i64 (t.m i)) := by rw [← monC_at hi, ← tmC_drop, dAt_drop]
  rw [e2] at r
  rw [e]
  exact congrArg some r
 refine ⟨_, _, A, A', n, c, n', c', ?_, ⟨rfl, wD_words r1⟩, rfl, wD_words r3⟩
 refine Array.ext (by rw [hsz]; rfl) fun i q1 q2 => ?_
 rw [hsz] at q1
 refine Option.some.inj ?_
 rw [← Array.getElem?_eq_getElem, ← Array.getElem?_eq_getElem]
 match i, q1 with
 | 0, _ => exact e0
 | 1, _ => exact e1
 | 2, _ => exact e2
 | 3, _ => exact e3
 | 4, _ => exact hm 0 (by omega)
 | 5, _ => exact hm 1 (by omega)
 | 6, _ => exact hm 2 (by omega)
 | 7, _ => exact hm 3 (by omega)
 | 8, _ => exact hm 4 (by omega)
 | 9, _ => exact hm 5 (by omega)
 | 10, _ => exact hm 6 (by omega)
 | 11, _ => exact hm 7 (by omega)
def polD (P : List Tm) : D := slD 33 12 (P.map tmC)
theorem polD_row {P : List Tm} {k : Nat} (h : k < P.length) : (P.map tmC).getD k [] = tmC (tAt P k) := by simp [tAt, List.getD_eq_getElem?_getD, List.getElem?_eq_getElem h]
theorem polD_open {s : GS} {v : Value} {P : List Tm} (h : (polD P).rel s v) : PolAt s.w v P := by
 obtain ⟨A, c, h1, h2, h3, h4⟩ := h
 simp only [List.length_map] at h1 h2 h4
 refine ⟨A, c, h1, h2, h3, fun h0 => ?_⟩
 obtain ⟨b, o, h5, h6⟩ := h4 h0
 obtain ⟨_, cs, fz, h7, h8⟩ := h6 0 h0
 refine ⟨b, o, cs, fz, h5, h7, fun k hk => ?_⟩
 obtain ⟨h9, cs', fz', h10, h11⟩ := h6 k hk
 rw [h7] at h10
 cases h10
 rw [polD_row hk] at h11
 refine ⟨cs.extract (o + k * 12) (o + k * 12 + 12), cells_tmV (s := s) ?_ fun j hj => ?_, fun j hj => ?_⟩
 ·obtain ⟨_, u, e, _⟩ := h11 11 (by simp [tmC_length])
  have := (Array.getElem?_eq_some_iff.1 e).1
  simp
  omega
 ·obtain ⟨_, u, e, r1, r2⟩ := h11 j hj
  exact ⟨u, by rw [Array.getElem?_extract, if_pos (by have := (Array.getElem?_eq_some_iff.1 e).1; obtain ⟨_, u', e', _⟩ := h11 11 (by simp [tmC_length]); have := (Array.getElem?_eq_some_iff.1 e').1; omega)]; exact e, r1, r2⟩
 ·obtain ⟨_, u', e', _⟩ := h11 11 (by simp [tmC_length])
  have := (Array.getElem?_eq_some_iff.1 e').1
  rw [Array.getElem?_extract, if_pos (by omega)]
theorem polD_mk {s : GS} {v : Value} {P : List Tm} (hok : s.Ok) (h : PolAt s.w v P) (hS : ∀ b o, v = v → (∃ n c, v = .slice (some ⟨b, o, none⟩) n c) → ∀ k, s.S b k) : (polD P).rel s v := by
 obtain ⟨A, c, h1, h2, h3, h4⟩ := h
 refine ⟨A, c, by rw [List.length_map]; exact h1, by rw [List.length_map]; exact h2, h3, fun h0 => ?_⟩
 rw [List.length_map] at h0
 obtain ⟨b, o, cs, fz, h5, h6, h7⟩ := h4 h0
 subst h5
 refine ⟨b, o, rfl, fun k hk => ?_⟩
 rw [List.length_map] at hk
 rw [polD_row hk]
 refine ⟨rfl, cs, fz, h6, fun j hj => ⟨hS b o rfl ⟨_, _, h1⟩ _, ?_⟩⟩
 obtain ⟨ts, h8, h9⟩ := h7 k hk
 obtain ⟨u, h10, h11, h12⟩ := tmV_cells hok h8 j hj
 exact ⟨u, (h9 j hj).trans h10, h11, h12⟩
theorem polD_own {w' : World} {v : Value} {P : List Tm} {W : Nat} (h : OwnP W w' v P) {s' : GS} (hw : s'.w = w') (hok : s'.Ok) (hS : ∀ b k, W ≤ b → b < w'.heap.size → s'.S b k) : (polD P).rel s' v := by
 subst hw
 refine polD_mk hok h.pol fun b o _ ⟨n, c, hv⟩ k => ?_
 obtain ⟨cl, h1, ⟨h2, h3⟩, h4⟩ := h
 rcases h3 with ⟨e, _⟩ | ⟨g, cap, cur, e, h5, h6, _⟩
 ·rw [e] at hv; cases hv
 ·rw [e] at hv
  cases hv
  exact hS _ k h5 (lt_of_heap h6)
theorem monC_eqv {a b : Nat → Int} (h : Eqv a b) : monC a = monC b := by unfold monC; rw [h 0 (by omega), h 1 (by omega), h 2 (by omega), h 3 (by omega), h 4 (by omega), h 5 (by omega), h 6 (by omega), h 7 (by omega)]
theorem tmC_eq {s t : Tm} (h : s.c = t.c) (h' : Eqv s.m t.m) : tmC s = tmC t := by unfold tmC; rw [h, monC_eqv h']
theorem polD_same {P Q : List Tm} (h : SameL P Q) : polD P = polD Q := by
 unfold polD
 congr 1
 induction P generalizing Q with
 | nil => cases Q with
  | nil => rfl
  | cons => exact h.elim
 | cons s P ih => cases Q with
  | nil => exact h.elim
  | cons t Q => rw [List.map_cons, List.map_cons, tmC_eq h.1 h.2.1, ih h.2.2]
end Go.Proofs.YteicdddphdomkaaGreat
namespace Go.Proofs.YteicdddphdomkaaGreat
open Go.RowKit
theorem lexTo_step (a b : Nat → Int) (k n : Nat) : lexTo a b k (n + 1) = if a k < b k then -1 else if b k < a k then 1 else lexTo a b (k + 1) n := by
 have hd : sub8 a b k = a k - b k := rfl
 have h1 : a k < b k ↔ sub8 a b k < 0 := by rw [hd]; omega
 have h2 : b k < a k ↔ 0 < sub8 a b k := by rw [hd]; omega
 rw [lexTo_sgn, lexTo_sgn, sgnTo]
 simp only [h1, h2]
 generalize sub8 a b k = d
 by_cases h : d = 0
 ·subst h; simp
 ·rw [if_neg h]
  by_cases h3 : d < 0
  ·simp [h3]
  ·simp [h3, show 0 < d by omega]
set_option maxRecDepth 100000 in
set_option maxHeartbeats 800000 in
theorem RmCmp_any (a b : Nat → Int) (w : World) :
  Calls Tryz.prog 73 #[.agg #[.int .i64 (a 0), .int .i64 (a 1), .int .i64 (a 2), .int .i64 (a 3), .int .i64 (a 4), .int .i64 (a 5), .int .i64 (a 6), .int .i64 (a 7)], .agg #[.int .i64 (b 0), .int .i64 (b 1), .int .i64 (b 2), .int .i64 (b 3), .int .i64 (b 4), .int .i64 (b 5), .int .i64 (b 6), .int .i64 (b 7)]] w fun e w' => e = .returned (.int .i64 (lex8 a b)) ∧ Ext w w' := by
 go_enter Tryz.func73, Tryz.ntmps73
 go_wp2
 go_loopw [5] (fun i wr => ∃ k : Nat, k ≤ 8 ∧ i = .int .i64 k ∧ Hid (lex8 a b = lexTo a b k (8 - k) ∧ Blk wr w.heap.size 31 (c8 a) ∧ Blk wr (w.heap.size + 1) 31 (c8 b) ∧ Ext w wr)) (fun i _ => 8 - (intOf i).toNat)
 case atStart => exact ⟨0, by omega, rfl, rfl, (Blk.new _ _ _).alloc _, Blk.new' _ _ (by simp), ((Ext.refl _).alloc _).alloc _⟩
 case round =>
  obtain ⟨k, hk, rfl, hI⟩ := hrel
  by_cases hlt : k < 8
  ·have hd1 : decide ((k : Int) < 8) = true := by simp; omega
   have xa := hI.out.2.1.at8 hlt
   have xb := hI.out.2.2.1.at8 hlt
   have hs : Hid (lexTo a b k (8 - k) = if a k < b k then -1 else if b k < a k then 1 else lexTo a b (k + 1) (8 - (k + 1))) := by rw [show 8 - k = (8 - (k + 1)) + 1 by omega]; exact lexTo_step a b k _
   generalize a k = x at *
   generalize b k = y at *
   by_cases h1 : x < y
   ·have h := hs.out
    rw [if_pos h1] at h
    replace h := hide h
    clear hs
    go_wp2
    go_quiet (fail)
    go_wp2
    go_ret
    exact ⟨by rw [hI.out.1, h.out]; rfl, hI.out.2.2.2.drewN _⟩
   ·by_cases h2 : y < x
    ·have h := hs.out
     rw [if_neg h1, if_pos h2] at h
     replace h := hide h
     clear hs
     go_wp2
     go_quiet (fail)
     go_wp2
     go_quiet (fail)
     go_wp2
     go_ret
     exact ⟨by rw [hI.out.1, h.out]; rfl, (hI.out.2.2.2.drewN _).drewN _⟩
    ·have h := hs.out
     rw [if_neg h1, if_neg h2] at h
     replace h := hide h
     clear hs
     go_wp2
     go_quiet (fail)
     go_wp2
     go_quiet (fail)
     go_wp2
     exact ⟨⟨k + 1, hlt, by simp, by rw [hI.out.1, h.out], hI.out.2.1, hI.out.2.2.1, hI.out.2.2.2.drewN _⟩, by simp [intOf]; omega⟩
  ·obtain rfl : k = 8 := by omega
   have hd1 : decide (((8 : Nat) : Int) < 8) = false := by simp
   go_wp2
   go_ret
   exact ⟨by rw [hI.out.1]; rfl, hI.out.2.2.2⟩
end Go.Proofs.YteicdddphdomkaaGreat
namespace Go.Proofs.YteicdddphdomkaaGreat
open Go.RowKit
set_option maxRecDepth 100000 in
theorem RLex_any (w : World) : Calls Tryz.prog 66 #[] w (RetOrder [] w) := by
 go_enter Tryz.func66, Tryz.ntmps66
 go_wp2
 go_ret
 exact ⟨_, _, rfl, OwnRows.blk (R := []) (Nat.le_refl _) (Blk.new _ _ _) rfl (by simp), (Ext.refl _).alloc _⟩
theorem rl_ones : (rl [onesOf 255]).toArray = #[.int .i64 1, .int .i64 1, .int .i64 1, .int .i64 1, .int .i64 1, .int .i64 1, .int .i64 1, .int .i64 1] := rfl
set_option maxRecDepth 100000 in
theorem RGraded_any (w : World) : Calls Tryz.prog 65 #[] w (RetOrder [onesOf 255] w) := by
 go_enter Tryz.func65, Tryz.ntmps65
 go_wp2
 go_ret
 exact ⟨_, _, rfl, OwnRows.blk (R := [onesOf 255]) (Nat.le_refl _) (by rw [rl_ones]; exact Blk.new _ _ _) rfl (by simp), (Ext.refl _).alloc _⟩
end Go.Proofs.YteicdddphdomkaaGreat
namespace Go.Proofs.YteicdddphdomkaaGreat
open Go.RowKit
theorem tup2 {s : GS} {u v : Value} {x y : D} (hx : x.rel s u) (hy : y.rel s v) : (tupD [x, y]).rel s (.tuple #[u, v]) := ⟨_, rfl, rfl, fun k hk => by
 match k, hk with
 | 0, _ => exact ⟨_, rfl, hx⟩
 | 1, _ => exact ⟨_, rfl, hy⟩
 | k + 2, hk => exact absurd hk (by simp)⟩
def ordD (R : List (Nat → Int)) : D := slD 30 8 (R.map monC)
theorem rows_row {R : List (Nat → Int)} {k : Nat} (h : k < R.length) : (R.map monC).getD k [] = monC (rowAt R k) := by simp [rowAt, List.getD_eq_getElem?_getD, List.getElem?_eq_getElem h]
theorem rowsD_open {T : TypeId} {s : GS} {v : Value} {R : List (Nat → Int)} (h : (slD T 8 (R.map monC)).rel s v) : RowsAt .i64 T s.w v R := by
 obtain ⟨A, c, h1, h2, h3, h4⟩ := h
 simp only [List.length_map] at h1 h2 h4
 refine ⟨A, c, h1, h2, h3, fun h0 => ?_⟩
 obtain ⟨b, o, h5, h6⟩ := h4 h0
 obtain ⟨_, cs, fz, h7, h8⟩ := h6 0 h0
 refine ⟨b, o, cs, fz, h5, h7, fun k j hk hj => ?_⟩
 obtain ⟨h9, cs', fz', h10, h11⟩ := h6 k hk
 rw [h7] at h10
 cases h10
 rw [rows_row hk] at h11
 obtain ⟨_, u, e, _, r⟩ := h11 j hj
 rw [monC_at hj] at r
 have r : u = _ := r
 rw [e, r]
theorem ordD_open {s : GS} {v : Value} {R : List (Nat → Int)} (h : (ordD R).rel s v) : RowsAt .i64 30 s.w v R := rowsD_open h
theorem rowsD_mk {T : TypeId} {s : GS} {v : Value} {R : List (Nat → Int)} (h : RowsAt .i64 T s.w v R) (hS : ∀ b o, (∃ n c, v = .slice (some ⟨b, o, none⟩) n c) → ∀ k, s.S b k) : (slD T 8 (R.map monC)).rel s v := by
 obtain ⟨A, c, h1, h2, h3, h4⟩ := h
 refine ⟨A, c, by rw [List.length_map]; exact h1, by rw [List.length_map]; exact h2, h3, fun h0 => ?_⟩
 rw [List.length_map] at h0
 obtain ⟨b, o, cs, fz, h5, h6, h7⟩ := h4 h0
 subst h5
 refine ⟨b, o, rfl, fun k hk => ?_⟩
 rw [List.length_map] at hk
 rw [rows_row hk]
 refine ⟨rfl, cs, fz, h6, fun j hj => ⟨hS b o ⟨_, _, h1⟩ _, _, h7 k j hk hj, rfl, ?_⟩⟩
 rw [monC_at hj]
 rfl
theorem ordD_own {w' : World} {v : Value} {R : List (Nat → Int)} {W : Nat} (h : OwnRows 30 W w' v R) {s' : GS} (hw : s'.w = w') (hS : ∀ b k, W ≤ b → b < w'.heap.size → s'.S b k) : (ordD R).rel s' v := by
 subst hw
 refine rowsD_mk h.rows fun b o ⟨n, c, hv⟩ k => ?_
 obtain ⟨h2, h3⟩ := h
 rcases h3 with ⟨e, _⟩ | ⟨g, cap, cur, e, h5, h6, _⟩
 ·rw [e] at hv; cases hv
 ·rw [e] at hv
  cases hv
  exact hS _ k h5 (lt_of_heap h6)
theorem Mul_abs (p q : Rat) (N M : Nat) (hp : RSz p N) (hq : RSz q M) (hN : N + M ≤ 4398046511104) : Abs Tryz.prog 76 [agD (ratC p), agD (ratC q)] (agD (ratC (p * q))) := by
 refine Abs.of_old (callFunc_run Tryz.func76 (by kernel_rfl) (by kernel_rfl)) fun s vs hok hl hv => ?_
 rw [vs2 hl]
 obtain ⟨x0, x0', X0, X0', n0, c0, n0', c0', e0, h0⟩ := ratC_open (hv 0 (by simp))
 obtain ⟨x1, x1', X1, X1', n1, c1, n1', c1', e1, h1⟩ := ratC_open (hv 1 (by simp))
 rw [e0, e1]
 exact (Mul_any x0 x0' X0 X0' n0 c0 n0' c0' x1 x1' X1 X1' n1 c1 n1' c1' p q N M _ h0 h1 hp hq hN).mono fun e w' ⟨y, y', Y, Y', m, k, m', k', he, hI, hE⟩ => ⟨_, he, hE, fun s' hw hok' _ _ => by subst hw; exact ratC_mk hok' hI⟩
theorem Add_abs (p q : Rat) (N M : Nat) (hp : RSz p N) (hq : RSz q M) (hN : N + M + 1 ≤ 4398046511104) : Abs Tryz.prog 86 [agD (ratC p), agD (ratC q)] (agD (ratC (p + q))) := by
 refine Abs.of_old (callFunc_run Tryz.func86 (by kernel_rfl) (by kernel_rfl)) fun s vs hok hl hv => ?_
 rw [vs2 hl]
 obtain ⟨x0, x0', X0, X0', n0, c0, n0', c0', e0, h0⟩ := ratC_open (hv 0 (by simp))
 obtain ⟨x1, x1', X1, X1', n1, c1, n1', c1', e1, h1⟩ := ratC_open (hv 1 (by simp))
 rw [e0, e1]
 exact (Add_any x0 x0' X0 X0' n0 c0 n0' c0' x1 x1' X1 X1' n1 c1 n1' c1' p q N M _ h0 h1 hp hq hN).mono fun e w' ⟨y, y', Y, Y', m, k, m', k', he, hI, hE⟩ => ⟨_, he, hE, fun s' hw hok' _ _ => by subst hw; exact ratC_mk hok' hI⟩
theorem RMul_abs (p q : Rat) (N M : Nat) (hp : RSz p N) (hq : RSz q M) (hN : N + M ≤ 4398046511103) : Abs Tryz.prog 32 [agD (ratC p), agD (ratC q)] (agD (ratC (p * q))) := by
 refine Abs.of_old (callFunc_run Tryz.func32 (by kernel_rfl) (by kernel_rfl)) fun s vs hok hl hv => ?_
 rw [vs2 hl]
 obtain ⟨x0, x0', X0, X0', n0, c0, n0', c0', e0, h0⟩ := ratC_open (hv 0 (by simp))
 obtain ⟨x1, x1', X1, X1', n1, c1, n1', c1', e1, h1⟩ := ratC_open (hv 1 (by simp))
 rw [e0, e1]
 exact (RMul_any x0 x0' X0 X0' n0 c0 n0' c0' x1 x1' X1 X1' n1 c1 n1' c1' p q N M _ h0 h1 hp hq hN).mono fun e w' ⟨y, y', Y, Y', m, k, m', k', he, hI, hE⟩ => ⟨_, he, hE, fun s' hw hok' _ _ => by subst hw; exact ratC_mk hok' hI⟩
theorem RAdd_abs (p q : Rat) (N M : Nat) (hp : RSz p N) (hq : RSz q M) (hN : N + M + 1 ≤ 4398046511103) : Abs Tryz.prog 31 [agD (ratC p), agD (ratC q)] (agD (ratC (p + q))) := by
 refine Abs.of_old (callFunc_run Tryz.func31 (by kernel_rfl) (by kernel_rfl)) fun s vs hok hl hv => ?_
 rw [vs2 hl]
 obtain ⟨x0, x0', X0, X0', n0, c0, n0', c0', e0, h0⟩ := ratC_open (hv 0 (by simp))
 obtain ⟨x1, x1', X1, X1', n1, c1, n1', c1', e1, h1⟩ := ratC_open (hv 1 (by simp))
 rw [e0, e1]
 exact (RAdd_any x0 x0' X0 X0' n0 c0 n0' c0' x1 x1' X1 X1' n1 c1 n1' c1' p q N M _ h0 h1 hp hq hN).mono fun e w' ⟨y, y', Y, Y', m, k, m', k', he, hI, hE⟩ => ⟨_, he, hE, fun s' hw hok' _ _ => by subst hw; exact ratC_mk hok' hI⟩
theorem Neg_abs (p : Rat) (N : Nat) (hp : RSz p N) (hN : N ≤ 4398046511104) : Abs Tryz.prog 81 [agD (ratC p)] (agD (ratC (-p))) := by
 refine Abs.of_old (callFunc_run Tryz.func81 (by kernel_rfl) (by kernel_rfl)) fun s vs hok hl hv => ?_
 rw [vs1 hl]
 obtain ⟨x0, x0', X0, X0', n0, c0, n0', c0', e0, h0⟩ := ratC_open (hv 0 (by simp))
 rw [e0]
 exact (Neg_any x0 x0' X0 X0' n0 c0 n0' c0' p _ h0 (Nat.le_trans hp.1 hN)).mono fun e w' ⟨y, y', Y, Y', m, k, m', k', he, hI, hE⟩ => ⟨_, he, hE, fun s' hw hok' _ _ => by subst hw; exact ratC_mk hok' hI⟩
theorem Sign_abs (p : Rat) : Abs Tryz.prog 68 [agD (ratC p)] (ex (.int .i64 p.num.sign)) := by
 refine Abs.of_old (callFunc_run Tryz.func68 (by kernel_rfl) (by kernel_rfl)) fun s vs hok hl hv => ?_
 rw [vs1 hl]
 obtain ⟨x0, x0', X0, X0', n0, c0, n0', c0', e0, h0⟩ := ratC_open (hv 0 (by simp))
 rw [e0]
 exact (Sign_any x0 x0' X0 X0' n0 c0 n0' c0' p _ h0).mono fun e w' ⟨he, hE⟩ => ⟨_, he, hE, fun s' hw hok' _ _ => rfl⟩
theorem RSign_abs (p : Rat) : Abs Tryz.prog 71 [agD (ratC p)] (ex (.int .i64 p.num.sign)) := by
 refine Abs.of_old (callFunc_run Tryz.func71 (by kernel_rfl) (by kernel_rfl)) fun s vs hok hl hv => ?_
 rw [vs1 hl]
 obtain ⟨x0, x0', X0, X0', n0, c0, n0', c0', e0, h0⟩ := ratC_open (hv 0 (by simp))
 rw [e0]
 exact (RSign_any x0 x0' X0 X0' n0 c0 n0' c0' p _ h0).mono fun e w' ⟨he, hE⟩ => ⟨_, he, hE, fun s' hw hok' _ _ => rfl⟩
theorem Whole_abs (z : Int) (h0 : -9223372036854775808 ≤ z) (h1 : z ≤ 9223372036854775807) : Abs Tryz.prog 83 [ex (.int .i64 z)] (agD (ratC (z : Rat))) := by
 refine Abs.of_old (callFunc_run Tryz.func83 (by kernel_rfl) (by kernel_rfl)) fun s vs hok hl hv => ?_
 rw [vs1 hl]
 have e0 : vs.getD 0 undef = .int .i64 z := hv 0 (by simp)
 rw [e0]
 exact (Whole_any z _ h0 h1).mono fun e w' ⟨y, y', Y, Y', m, k, m', k', he, hI, hE⟩ => ⟨_, he, hE, fun s' hw hok' _ _ => by subst hw; exact ratC_mk hok' hI⟩
theorem RWhole_abs (z : Int) (h0 : -9223372036854775808 ≤ z) (h1 : z ≤ 9223372036854775807) : Abs Tryz.prog 23 [ex (.int .i64 z)] (agD (ratC (z : Rat))) := by
 refine Abs.of_old (callFunc_run Tryz.func23 (by kernel_rfl) (by kernel_rfl)) fun s vs hok hl hv => ?_
 rw [vs1 hl]
 have e0 : vs.getD 0 undef = .int .i64 z := hv 0 (by simp)
 rw [e0]
 exact (RWhole_any z _ h0 h1).mono fun e w' ⟨y, y', Y, Y', m, k, m', k', he, hI, hE⟩ => ⟨_, he, hE, fun s' hw hok' _ _ => by subst hw; exact ratC_mk hok' hI⟩
theorem ISign_abs (z : Int) : Abs Tryz.prog 88 [agD (intC z)] (ex (.int .i64 z.sign)) := by
 refine Abs.of_old (callFunc_run Tryz.func88 (by kernel_rfl) (by kernel_rfl)) fun s vs hok hl hv => ?_
 rw [vs1 hl]
 obtain ⟨x0, X0, n0, c0, e0, h0⟩ := intC_open (hv 0 (by simp))
 rw [e0]
 exact (Rsign_any x0 X0 n0 c0 z _ h0).mono fun e w' ⟨he, hE⟩ => ⟨_, he, hE, fun s' hw hok' _ _ => rfl⟩
theorem mCmp_abs (a b : Nat → Int) : Abs Tryz.prog 70 [agD (monC a), agD (monC b)] (ex (.int .i64 (lex8 a b))) := by
 refine Abs.of_old (callFunc_run Tryz.func70 (by kernel_rfl) (by kernel_rfl)) fun s vs hok hl hv => ?_
 rw [vs2 hl]
 have e0 := monC_open (hv 0 (by simp))
 have e1 := monC_open (hv 1 (by simp))
 rw [e0, e1]
 exact (mCmp_any a b _).mono fun e w' ⟨he, hE⟩ => ⟨_, he, hE, fun s' hw hok' _ _ => rfl⟩
theorem RmCmp_abs (a b : Nat → Int) : Abs Tryz.prog 73 [agD (monC a), agD (monC b)] (ex (.int .i64 (lex8 a b))) := by
 refine Abs.of_old (callFunc_run Tryz.func73 (by kernel_rfl) (by kernel_rfl)) fun s vs hok hl hv => ?_
 rw [vs2 hl]
 have e0 := monC_open (hv 0 (by simp))
 have e1 := monC_open (hv 1 (by simp))
 rw [e0, e1]
 exact (RmCmp_any a b _).mono fun e w' ⟨he, hE⟩ => ⟨_, he, hE, fun s' hw hok' _ _ => rfl⟩
theorem mDegree_abs (a : Nat → Int) (h : In8 a (-1000000) 1000000) : Abs Tryz.prog 100 [agD (monC a)] (ex (.int .i64 (sumTo a 8))) := by
 refine Abs.of_old (callFunc_run Tryz.func100 (by kernel_rfl) (by kernel_rfl)) fun s vs hok hl hv => ?_
 rw [vs1 hl]
 have e0 := monC_open (hv 0 (by simp))
 rw [e0]
 exact (Degree_any a _ h).mono fun e w' ⟨he, hE⟩ => ⟨_, he, hE, fun s' hw hok' _ _ => rfl⟩
theorem mValidT_abs (a : Nat → Int) (h : In8 a 0 65535) : Abs Tryz.prog 69 [agD (monC a)] (ex (.bool true)) := by
 refine Abs.of_old (callFunc_run Tryz.func69 (by kernel_rfl) (by kernel_rfl)) fun s vs hok hl hv => ?_
 rw [vs1 hl]
 have e0 := monC_open (hv 0 (by simp))
 rw [e0]
 exact (mValid_true a _ h).mono fun e w' ⟨he, hE⟩ => ⟨_, he, hE, fun s' hw hok' _ _ => rfl⟩
theorem mValidF_abs (a : Nat → Int) (h : ¬ In8 a 0 65535) : Abs Tryz.prog 69 [agD (monC a)] (ex (.bool false)) := by
 refine Abs.of_old (callFunc_run Tryz.func69 (by kernel_rfl) (by kernel_rfl)) fun s vs hok hl hv => ?_
 rw [vs1 hl]
 have e0 := monC_open (hv 0 (by simp))
 rw [e0]
 exact (mValid_false a _ h).mono fun e w' ⟨he, hE⟩ => ⟨_, he, hE, fun s' hw hok' _ _ => rfl⟩
theorem oCmp_abs (R : List (Nat → Int)) (a b : Nat → Int) (hR : ∀ r ∈ R, In8 r (-1000) 1000) (ha : In8 a (-1000000) 1000000) (hb : In8 b (-1000000) 1000000) : Abs Tryz.prog 99 [ordD R, agD (monC a), agD (monC b)] (ex (.int .i64 (oCmp R a b))) := by
 refine Abs.of_old (callFunc_run Tryz.func99 (by kernel_rfl) (by kernel_rfl)) fun s vs hok hl hv => ?_
 rw [vs3 hl]
 have h0 := ordD_open (hv 0 (by simp))
 have e1 := monC_open (hv 1 (by simp))
 have e2 := monC_open (hv 2 (by simp))
 rw [e1, e2]
 exact (oCmp_any (vs.getD 0 undef) R a b _ h0 hR ha hb).mono fun e w' ⟨he, hE⟩ => ⟨_, he, hE, fun s' hw hok' _ _ => rfl⟩
theorem RLex_abs : Abs Tryz.prog 66 [] (ordD []) := by
 refine Abs.of_old (callFunc_run Tryz.func66 (by kernel_rfl) (by kernel_rfl)) fun s vs hok hl hv => ?_
 obtain rfl : vs = [] := List.eq_nil_of_length_eq_zero hl
 exact (RLex_any s.w).mono fun e w' ⟨A, c, he, hO, hE⟩ => ⟨_, he, hE, fun s' hw hok' hS _ => ordD_own hO hw hS⟩
theorem RGraded_abs : Abs Tryz.prog 65 [] (ordD [onesOf 255]) := by
 refine Abs.of_old (callFunc_run Tryz.func65 (by kernel_rfl) (by kernel_rfl)) fun s vs hok hl hv => ?_
 obtain rfl : vs = [] := List.eq_nil_of_length_eq_zero hl
 exact (RGraded_any s.w).mono fun e w' ⟨A, c, he, hO, hE⟩ => ⟨_, he, hE, fun s' hw hok' hS _ => ordD_own hO hw hS⟩
theorem RSame_abs (P Q : List Tm) : Abs Tryz.prog 19 [polD P, polD Q] (ex (.bool (sameB P Q))) := by
 refine Abs.of_old (callFunc_run Tryz.func19 (by kernel_rfl) (by kernel_rfl)) fun s vs hok hl hv => ?_
 rw [vs2 hl]
 have h0 := polD_open (hv 0 (by simp))
 have h1 := polD_open (hv 1 (by simp))
 exact (RSame_any (vs.getD 0 undef) (vs.getD 1 undef) P Q _ h0 h1).mono fun e w' ⟨he, hE⟩ => ⟨_, he, hE, fun s' hw hok' _ _ => rfl⟩
theorem PMul_abs (P Q : List Tm) (N M : Nat) (hP : PSz P N) (hQ : PSz Q M) (p q : Int) (hPi : PIn P 0 p) (hQi : PIn Q 0 q) (hpq : p + q ≤ 65535) (hp0 : 0 ≤ p) (hq0 : 0 ≤ q) (hn : P.length * Q.length ≤ 100000) (hNM : N + M + 1 ≤ 10000000) : Abs Tryz.prog 18 [polD P, polD Q] (someD (fun S => Canon S ∧ Sim S (mulL P Q) ∧ PIn S 0 (p + q) ∧ PSz S (P.length * Q.length * (N + M + 1)) ∧ S.length ≤ P.length * Q.length) fun S => tupD [polD S, ex (.int .i64 0)]) := by
 refine Abs.of_old (callFunc_run Tryz.func18 (by kernel_rfl) (by kernel_rfl)) fun s vs hok hl hv => ?_
 rw [vs2 hl]
 have h0 := polD_open (hv 0 (by simp))
 have h1 := polD_open (hv 1 (by simp))
 exact (PMul_any (vs.getD 0 undef) (vs.getD 1 undef) P Q _ h0 h1 N M hP hQ p q hPi hQi hpq hp0 hq0 hn hNM).mono fun e w' ⟨S, g1, g2, g3, g4, g5, A, c, he, hO, hE⟩ => ⟨_, he, hE, fun s' hw hok' hS _ => ⟨S, ⟨g1, g2, g3, g4, g5⟩, tup2 (polD_own hO hw hok' hS) rfl⟩⟩
end Go.Proofs.YteicdddphdomkaaGreat
namespace Go.Proofs.YteicdddphdomkaaGreat
open Go.RowKit
theorem dAt_map {l : List D} {k : Nat} : (l.map AV.d)[k]? = if k < l.length then some (.d (dAt l k)) else none := by
 rw [List.getElem?_map]
 split
 ·rename_i h
  simp [dAt, h]
 ·rename_i h
  simp [List.getElem?_eq_none (Nat.le_of_not_lt h)]
section
variable {P : Program} {hp : List Ow} {o : Oper} {arg : Operand → AV}
theorem Quiet.succ {T U : TypeId} {x y : Operand} {a : Nat} (hop : o.op = .binOp .add T x y U) (hx : arg x = .d (ex (.int .i64 (a : Nat)))) (hy : arg y = .d (ex (.int .i64 1))) (h1 : (a : Int) < 9223372036854775807) : Quiet P hp o arg (.d (ex (.int .i64 ((a + 1 : Nat) : Int)))) :=
 Quiet.add hop hx hy (by omega) (by omega)
theorem Quiet.quo {T U : TypeId} {x y : Operand} {a b : Int} (hop : o.op = .binOp .quo T x y U) (hx : arg x = .d (ex (.int .i64 a))) (hy : arg y = .d (ex (.int .i64 b))) (h0 : 0 ≤ a) (h1 : a ≤ 9223372036854775807) (hb : 0 < b) : Quiet P hp o arg (.d (ex (.int .i64 (a / b)))) :=
 Quiet.bin hop hx hy fun w => by
  have h2 : a / b ≤ a := Int.ediv_le_self b h0
  have h3 : 0 ≤ a / b := Int.ediv_nonneg h0 (by omega)
  have h4 : a.tdiv b = a / b := Int.tdiv_eq_ediv_of_nonneg h0
  have e : IntKind.i64.wrap (a / b) = a / b := IntWalk.i64_in _ (by omega)
  have hne : b ≠ 0 := by omega
  simp [eqGuard, binOp, Op.intDiv, hne, h4, e]
theorem Quiet.rem {T U : TypeId} {x y : Operand} {k : IntKind} {a b : Int} (hop : o.op = .binOp .rem T x y U) (hx : arg x = .d (ex (.int k a))) (hy : arg y = .d (ex (.int k b))) (h0 : 0 ≤ a) (hb : 0 < b) : Quiet P hp o arg (.d (ex (.int k (a % b)))) :=
 Quiet.bin hop hx hy fun w => by
  have h4 : a.tmod b = a % b := Int.tmod_eq_emod_of_nonneg h0
  have hne : b ≠ 0 := by omega
  simp [eqGuard, binOp, Op.intDiv, hne, h4]
theorem Quiet.remT {T U : TypeId} {x y : Operand} {k : IntKind} {a b : Int} (hop : o.op = .binOp .rem T x y U) (hx : arg x = .d (ex (.int k a))) (hy : arg y = .d (ex (.int k b))) (hb : b ≠ 0) : Quiet P hp o arg (.d (ex (.int k (a.tmod b)))) :=
 Quiet.bin hop hx hy fun w => by simp [eqGuard, binOp, Op.intDiv, hb]
theorem Quiet.max {x y : Operand} {tys : Array TypeId} {k : IntKind} {a b : Int} (hop : o.op = .call { callee := .builtin .max, args := #[x, y], argTypes := tys }) (hx : arg x = .d (ex (.int k a))) (hy : arg y = .d (ex (.int k b))) : Quiet P hp o arg (.d (ex (.int k (Max.max a b)))) := by
 refine ⟨fun base s ρ ev hok hbs hhp h => ?_⟩
 have h1 := h x (by rw [hop]; simp [Op.operands, Call.operands])
 have h2 := h y (by rw [hop]; simp [Op.operands, Call.operands])
 rw [hx] at h1; rw [hy] at h2
 have e1 : ev x = .int k a := h1
 have e2 : ev y = .int k b := h2
 refine opG_val (v := .int k (Max.max a b)) ?_ ⟨GS.Le.refl s, rfl⟩
 have e3 : (if b > a then b else a) = Max.max a b := by
  rw [Int.max_def]
  by_cases h : a ≤ b
  ·rw [if_pos h]; split <;> omega
  ·rw [if_neg h, if_neg (by omega)]
 simp only [execOp, hop, resolve, invoke, builtin, Sem.run_bind, Sem.run_pure, Result.andThen_ok, List.map_toArray, List.map_cons, List.map_nil, e1, e2, Builtin.max_, List.foldlM_cons, List.foldlM_nil, Builtin.max2, e3]
theorem Quiet.indexN {α : Type} [Inhabited α] {x y : Operand} {t : TypeId} {e n b n' b' T sz k : Nat} {d : TypeDesc} {z z' : Value} {f : α → List D} {l : List α} {κ : IntKind} (hop : o.op = .indexAddr t x y) (hx : asD hp (arg x) = some (slD T sz (l.map f))) (hy : arg y = .d (ex (.int κ (k : Nat)))) (ht : Tab P t (.slice e) n b z) (he : Tab P e d n' b' z') (hsz : n' = sz) (hk : k < l.length) : Quiet P hp o arg (.d (epD T (f (l.getD k default)))) := by
 have h1 := Quiet.index (P := P) (hp := hp) hop hx hy ht he hsz (by omega) (by simp; omega)
 have e1 : (l.map f).getD ((k : Nat) : Int).toNat [] = f (l.getD k default) := by
  show (l.map f).getD k [] = _
  simp [List.getD_eq_getElem?_getD, hk]
 rwa [e1] at h1
theorem Quiet.loadEf {x : Operand} {t : TypeId} {d : TypeDesc} {n b T : Nat} {z : Value} {ds : List D} (hop : o.op = .load t x) (hx : arg x = .d (epD T ds)) (ht : Tab P t d n b z) (hd : isAg d = true) (hn : ds.length = n) : Quiet P hp o arg (.d (agD ds)) := by
 have := Quiet.loadE (P := P) (hp := hp) hop hx ht hd (by omega)
 rwa [← hn, List.take_length] at this
theorem asDs_map {hp : List Ow} : ∀ (l : List D), asDs hp (l.map .d) = some l
 | [] => rfl
 | x :: l => by simp only [List.map_cons, asDs, asD, asDs_map l]
theorem Quiet.loadD {x : Operand} {t : TypeId} {d : TypeDesc} {n b T id off : Nat} {z : Value} {ds : List D} (hop : o.op = .load t x) (hx : arg x = .ptr id off) (hh : hp[id]? = some (.var T (ds.map .d))) (ht : Tab P t d n b z) (hd : isAg d = true) (hn : Nat.ble (off + n) ds.length = true) : Quiet P hp o arg (.d (agD ((ds.drop off).take n))) :=
 Quiet.loadP hop hx hh ht hd (by rw [← List.map_drop, ← List.map_take]; exact asDs_map _) (by have := Nat.le_of_ble_eq_true hn; simpa using this)
theorem Quiet.loadD1 {x : Operand} {t : TypeId} {d : TypeDesc} {n b T id off : Nat} {z : Value} {ds : List D} (hop : o.op = .load t x) (hx : arg x = .ptr id off) (hh : hp[id]? = some (.var T (ds.map .d))) (ht : Tab P t d n b z) (hd : isAg d = false) (hn : off < ds.length) : Quiet P hp o arg (.d (dAt ds off)) :=
 Quiet.loadP1 hop hx hh ht hd (by rw [dAt_map, if_pos hn])
end
section
variable {P : Program} {s0 : GS} {n : Nat} {ops : Array Oper} {Q : Exit → AS → Prop} {rest : List Oper} {o : Oper} {σ : AS}
theorem AWl.storeF {T T0 : TypeId} {d : TypeDesc} {b id m : Nat} {z : Value} {x y : Operand} {cells : List AV} {ds : List D} (hop : o.op = .store T x y) (hg : o.guard = none) (hds : o.dst = none) (hx : σ.arg x = .ptr id 0) (hy : σ.arg y = .d (agD ds)) (hh : σ.hp[id]? = some (.var T0 cells)) (ht : Tab P T d m b z) (hm : ds.length = m) (hoff : cells.length = m)
  (h : AWl P s0 n ops Q rest { fr := σ.fr, hp := σ.hp.set id (.var T0 (ds.map .d)) }) : AWl P s0 n ops Q (o :: rest) σ := by
 refine AWl.storeA hop hg hds hx hy hh ht hm (by omega) ?_
 have : splice cells 0 (ds.map .d) = ds.map .d := by
  unfold splice
  rw [List.take_zero, List.nil_append, List.drop_eq_nil_of_le (by simp; omega), List.append_nil]
 rw [this]
 exact h
theorem AWl.storeD1 {T T0 : TypeId} {d : TypeDesc} {b id off : Nat} {z : Value} {x y : Operand} {cs : List D} {u : D} (hop : o.op = .store T x y) (hg : o.guard = none) (hds : o.dst = none) (hx : σ.arg x = .ptr id off) (hy : σ.arg y = .d u) (hh : σ.hp[id]? = some (.var T0 (cs.map .d))) (ht : Tab P T d 1 b z) (h1 : One σ.hp (.d u)) (hoff : off < cs.length)
  (h : AWl P s0 n ops Q rest { fr := σ.fr, hp := σ.hp.set id (.var T0 ((cs.set off u).map .d)) }) : AWl P s0 n ops Q (o :: rest) σ := by
 refine AWl.store1 hop hg hds hx hy hh ht h1 (by simpa using hoff) ?_
 have : (cs.map AV.d).set off (.d u) = (cs.set off u).map .d := by rw [List.map_set]
 rw [this]
 exact h
theorem AWl.allocD {T : TypeId} {d : TypeDesc} {m b : Nat} {z : Value} (hop : o.op = .alloc T) (hg : o.guard = none) (ht : Tab P T d m b z) (hT : Nat.beq T 137 = false) (h1 : one1 z.cells.toList = true) (hd : dLt o.dst n = true) (h : AWl P s0 n ops Q rest (σ.new o.dst (.ptr σ.hp.length 0) (.var T ((z.cells.toList.map ex).map .d)))) : AWl P s0 n ops Q (o :: rest) σ := by
 refine AWl.alloc hop hg ht (Nat.ne_of_beq_eq_false hT) h1 hd ?_
 have : exs z.cells.toList = (z.cells.toList.map ex).map .d := by simp [exs]
 rw [this]
 exact h
end
end Go.Proofs.YteicdddphdomkaaGreat
namespace Go.Proofs.YteicdddphdomkaaGreat
open Go.RowKit
def argF (fr : List (Nat × AV)) : Operand → Option AV
 | .tmp t => look fr t
 | .const v => some (.d (ex v))
 | .global g => some (.d (ex (.pointer (some ⟨g, 0, none⟩))))
 | .func f => some (.d (ex (.func (.func f) #[] #[])))
theorem ao {fr : List (Nat × AV)} {hp : List Ow} {x : Operand} {av : AV} (h : argF fr x = some av) : AS.arg ⟨fr, hp⟩ x = av := by
 cases x with
 | tmp t =>
  show (look fr t).getD (.d anyD) = av
  have h : look fr t = some av := h
  rw [h]; rfl
 | const v => exact Option.some.inj h
 | global g => exact Option.some.inj h
 | func f => exact Option.some.inj h
theorem Quiet.lenN {α : Type} {P : Program} {hp : List Ow} {o : Oper} {arg : Operand → AV} {x : Operand} {t : TypeId} {e n b T sz : Nat} {z : Value} {f : α → List D} {l : List α} (hop : o.op = .call { callee := .builtin .len, args := #[x], argTypes := #[t] }) (hx : asD hp (arg x) = some (slD T sz (l.map f))) (ht : Tab P t (.slice e) n b z) : Quiet P hp o arg (.d (ex (.int .i64 (l.length : Nat)))) := by
 have := Quiet.len (P := P) hop hx ht
 rwa [List.length_map] at this
def findE : List (Nat × Nat) → Nat → Option Nat
 | [], _ => none
 | p :: r, t => bif Nat.beq p.1 t then some p.2 else findE r t
theorem findE_some : ∀ {es : List (Nat × Nat)} {t j : Nat}, findE es t = some j → ∃ p, es.find? (fun p => p.1 == t) = some p ∧ p.2 = j
 | [], _, _, h => by cases h
 | p :: r, t, j, h => by
  unfold findE at h
  cases hb : Nat.beq p.1 t with
  | true => rw [hb] at h; cases h; exact ⟨p, by rw [List.find?_cons, Nat.eq_of_beq_eq_true hb]; simp, rfl⟩
  | false =>
   rw [hb] at h
   obtain ⟨q, h1, h2⟩ := findE_some h
   refine ⟨q, ?_, h2⟩
   rw [List.find?_cons]
   have : (p.1 == t) = false := by simpa using Nat.ne_of_beq_eq_false hb
   rw [this]
   exact h1
theorem findE_none : ∀ {es : List (Nat × Nat)} {t : Nat}, findE es t = none → es.find? (fun p => p.1 == t) = none
 | [], _, _ => rfl
 | p :: r, t, h => by
  unfold findE at h
  cases hb : Nat.beq p.1 t with
  | true => rw [hb] at h; cases h
  | false =>
   rw [hb] at h
   rw [List.find?_cons]
   have : (p.1 == t) = false := by simpa using Nat.ne_of_beq_eq_false hb
   rw [this]
   exact findE_none h
def hval : Option HR → Option AV
 | some (.av r) => some r
 | _ => none
def argG (fr : List (Nat × AV)) (rs : List HR) (es : List (Nat × Nat)) : Operand → Option AV
 | .tmp t => match findE es t with
  | some j => hval rs[j]?
  | none => look fr t
 | .const v => some (.d (ex v))
 | .global _ => none
 | .func f => some (.d (ex (.func (.func f) #[] #[])))
theorem ah {fr : List (Nat × AV)} {hp : List Ow} {rs : List HR} {es : List (Nat × Nat)} {x : Operand} {av : AV} (h : argG fr rs es x = some av) : argH ⟨fr, hp⟩ rs es x = av := by
 cases x with
 | tmp t =>
  replace h : (match findE es t with
   | some j => hval rs[j]?
   | none => look fr t) = some av := h
  show (match es.find? (fun p => p.1 == t) with
   | some p => match rs[p.2]? with
    | some h => h.val
    | none => .d anyD
   | none => (look fr t).getD (.d anyD)) = av
  cases hf : findE es t with
  | some j =>
   rw [hf] at h
   replace h : hval rs[j]? = some av := h
   obtain ⟨p, h1, h2⟩ := findE_some hf
   simp only [h1, h2]
   cases hr : rs[j]? with
   | none => rw [hr] at h; cases h
   | some r =>
    rw [hr] at h
    cases r with
    | av r => cases h; rfl
    | new T cs => cases h
  | none =>
   rw [hf] at h
   simp only [findE_none hf]
   have h : look fr t = some av := h
   rw [h]; rfl
 | const v => exact Option.some.inj h
 | global g => cases h
 | func f => exact Option.some.inj h
def snocO : List Ow → Ow → Option (List Ow)
 | [], x => some [x]
 | o :: l, x => match snocO l x with
  | some r => some (o :: r)
  | none => none
theorem snocO_eq : ∀ {l : List Ow} {x : Ow} {r : List Ow}, snocO l x = some r → r = l ++ [x]
 | [], x, r, h => by cases h; rfl
 | o :: l, x, r, h => by
  unfold snocO at h
  split at h
  ·rename_i r' h'
   cases h
   rw [snocO_eq h']
   rfl
  ·cases h
def lenO : List Ow → Option Nat
 | [] => some 0
 | _ :: l => match lenO l with
  | some k => some (k + 1)
  | none => none
theorem lenO_eq : ∀ {l : List Ow} {k : Nat}, lenO l = some k → k = l.length
 | [], k, h => by cases h; rfl
 | o :: l, k, h => by
  unfold lenO at h
  split at h
  ·rename_i r' h'
   cases h
   rw [lenO_eq h']
   rfl
  ·cases h
def setO : List Ow → Nat → Ow → Option (List Ow)
 | [], _, _ => none
 | _ :: l, 0, x => some (x :: l)
 | o :: l, i + 1, x => match setO l i x with
  | some r => some (o :: r)
  | none => none
theorem setO_eq : ∀ {l : List Ow} {i : Nat} {x : Ow} {r : List Ow}, setO l i x = some r → r = l.set i x
 | [], _, _, _, h => by cases h
 | _ :: l, 0, x, r, h => by cases h; rfl
 | o :: l, i + 1, x, r, h => by
  unfold setO at h
  split at h
  ·rename_i r' h'
   cases h
   rw [setO_eq h']
   rfl
  ·cases h
def exO : List Value → Option (List D)
 | [] => some []
 | v :: l => match exO l with
  | some r => some (ex v :: r)
  | none => none
theorem exO_eq : ∀ {l : List Value} {r : List D}, exO l = some r → r = l.map ex
 | [], r, h => by cases h; rfl
 | v :: l, r, h => by
  unfold exO at h
  split at h
  ·rename_i r' h'
   cases h
   rw [exO_eq h']
   rfl
  ·cases h
def takeO : Nat → List D → Option (List D)
 | 0, _ => some []
 | _ + 1, [] => none
 | n + 1, d :: l => match takeO n l with
  | some r => some (d :: r)
  | none => none
theorem takeO_eq : ∀ {n : Nat} {l r : List D}, takeO n l = some r → r = l.take n ∧ n ≤ l.length
 | 0, l, r, h => by cases h; exact ⟨rfl, Nat.zero_le _⟩
 | n + 1, [], r, h => by cases h
 | n + 1, d :: l, r, h => by
  unfold takeO at h
  split at h
  ·rename_i r' h'
   cases h
   obtain ⟨h1, h2⟩ := takeO_eq h'
   exact ⟨by rw [h1]; rfl, by simpa using h2⟩
  ·cases h
def subO : Nat → Nat → List D → Option (List D)
 | 0, n, l => takeO n l
 | _ + 1, _, [] => none
 | o + 1, n, _ :: l => subO o n l
theorem subO_eq : ∀ {o n : Nat} {l r : List D}, subO o n l = some r → r = (l.drop o).take n ∧ o + n ≤ l.length
 | 0, n, l, r, h => by
  obtain ⟨h1, h2⟩ := takeO_eq (n := n) (l := l) (r := r) (by cases l <;> exact h)
  exact ⟨h1, by omega⟩
 | o + 1, n, [], r, h => by cases h
 | o + 1, n, d :: l, r, h => by
  obtain ⟨h1, h2⟩ := subO_eq (o := o) (by exact h)
  exact ⟨h1, by simp; omega⟩
def atO : Nat → List D → Option D
 | _, [] => none
 | 0, d :: _ => some d
 | i + 1, _ :: l => atO i l
theorem atO_eq : ∀ {i : Nat} {l : List D} {d : D}, atO i l = some d → d = dAt l i ∧ i < l.length
 | i, [], d, h => by cases i <;> cases h
 | 0, x :: l, d, h => by cases h; exact ⟨rfl, by simp⟩
 | i + 1, x :: l, d, h => by
  obtain ⟨h1, h2⟩ := atO_eq (i := i) (by exact h)
  exact ⟨h1, by simpa using h2⟩
def preO : List D → List D → Option (List D)
 | [], r => some r
 | d :: l, r => match preO l r with
  | some x => some (d :: x)
  | none => none
theorem preO_eq : ∀ {l r x : List D}, preO l r = some x → x = l ++ r
 | [], r, x, h => by cases h; rfl
 | d :: l, r, x, h => by
  unfold preO at h
  split at h
  ·rename_i x' h'
   cases h
   rw [preO_eq h']
   rfl
  ·cases h
def dropO : Nat → List D → Option (List D)
 | 0, l => some l
 | _ + 1, [] => none
 | n + 1, _ :: l => dropO n l
theorem dropO_eq : ∀ {n : Nat} {l r : List D}, dropO n l = some r → r = l.drop n ∧ n ≤ l.length
 | 0, l, r, h => by cases l <;> (cases h; exact ⟨rfl, Nat.zero_le _⟩)
 | n + 1, [], r, h => by cases h
 | n + 1, d :: l, r, h => by
  obtain ⟨h1, h2⟩ := dropO_eq (n := n) (by exact h)
  exact ⟨h1, by simpa using h2⟩
def splO : List D → Nat → List D → Option (List D)
 | l, 0, es => match dropO es.length l with
  | some r => preO es r
  | none => none
 | [], _ + 1, _ => none
 | d :: l, o + 1, es => match splO l o es with
  | some r => some (d :: r)
  | none => none
theorem splO_eq : ∀ {l : List D} {o : Nat} {es r : List D}, splO l o es = some r → r = spl l o es ∧ o + es.length ≤ l.length
 | l, 0, es, r, h => by
  have h' : (match dropO es.length l with
   | some r => preO es r
   | none => none) = some r := by cases l <;> exact h
  split at h'
  ·rename_i r' h1
   obtain ⟨h2, h3⟩ := dropO_eq h1
   rw [preO_eq h', h2]
   exact ⟨by simp [spl], by omega⟩
  ·cases h'
 | [], o + 1, es, r, h => by cases h
 | d :: l, o + 1, es, r, h => by
  unfold splO at h
  split at h
  ·rename_i r' h1
   cases h
   obtain ⟨h2, h3⟩ := splO_eq h1
   rw [h2]
   refine ⟨?_, by simp; omega⟩
   simp only [spl, List.take_succ_cons, List.cons_append]
   rw [show o + 1 + es.length = (o + es.length) + 1 by omega, List.drop_succ_cons]
  ·cases h
def downO (id : Nat) (x : D) : List (Nat × AV) → Option (List (Nat × AV))
 | [] => some []
 | (t, .own j) :: l => match downO id x l with
  | some r => bif Nat.beq j id then some ((t, .d x) :: r) else some ((t, .own j) :: r)
  | none => none
 | (t, av) :: l => match downO id x l with
  | some r => some ((t, av) :: r)
  | none => none
theorem downO_eq {id : Nat} {x : D} : ∀ {l r : List (Nat × AV)}, downO id x l = some r → r = l.map fun p => (p.1, down id x p.2)
 | [], r, h => by cases h; rfl
 | (t, av) :: l, r, h => by
  have key : ∃ r', downO id x l = some r' ∧ r = (t, down id x av) :: r' := by
   cases av with
   | d y =>
    replace h : (match downO id x l with
     | some r => some ((t, .d y) :: r)
     | none => none) = some r := h
    split at h
    ·rename_i r' h'; cases h; exact ⟨r', h', rfl⟩
    ·cases h
   | ptr i o =>
    replace h : (match downO id x l with
     | some r => some ((t, .ptr i o) :: r)
     | none => none) = some r := h
    split at h
    ·rename_i r' h'; cases h; exact ⟨r', h', rfl⟩
    ·cases h
   | own j =>
    replace h : (match downO id x l with
     | some r => bif Nat.beq j id then some ((t, .d x) :: r) else some ((t, .own j) :: r)
     | none => none) = some r := h
    split at h
    ·rename_i r' h'
     cases hb : Nat.beq j id with
     | true => rw [hb] at h; cases h; exact ⟨r', h', by simp [down, hb]⟩
     | false => rw [hb] at h; cases h; exact ⟨r', h', by simp [down, hb]⟩
    ·cases h
  obtain ⟨r', h1, rfl⟩ := key
  rw [downO_eq h1]
  rfl
def plainA : List AV → Bool
 | [] => true
 | .own _ :: _ => false
 | _ :: l => plainA l
def plainHp : List Ow → Bool
 | [] => true
 | .var _ c :: l => plainA c && plainHp l
 | _ :: l => plainHp l
theorem plainA_down {id : Nat} {x : D} : ∀ {l : List AV}, plainA l = true → l.map (down id x) = l
 | [], _ => rfl
 | .d y :: l, h => by rw [List.map_cons, plainA_down (by exact h)]; rfl
 | .ptr _ _ :: l, h => by rw [List.map_cons, plainA_down (by exact h)]; rfl
 | .own _ :: l, h => by cases h
theorem plainHp_down {id : Nat} {x : D} : ∀ {l : List Ow}, plainHp l = true → l.map (Ow.mapA (down id x)) = l
 | [], _ => rfl
 | .var T c :: l, h => by
  simp only [plainHp, Bool.and_eq_true] at h
  rw [List.map_cons, plainHp_down h.2]
  simp only [Ow.mapA, plainA_down h.1]
 | .dead :: l, h => by rw [List.map_cons, plainHp_down (by exact h)]; rfl
 | .row _ _ _ :: l, h => by rw [List.map_cons, plainHp_down (by exact h)]; rfl
theorem plainA_mapD : ∀ l : List D, plainA (l.map .d) = true
 | [] => rfl
 | _ :: l => plainA_mapD l
def PlainHp : List Ow → Prop
 | [] => True
 | .var _ c :: l => plainA c = true ∧ PlainHp l
 | _ :: l => PlainHp l
theorem PlainHp.ok : ∀ {l : List Ow}, PlainHp l → plainHp l = true
 | [], _ => rfl
 | .var T c :: l, h => by simp only [plainHp, Bool.and_eq_true]; exact ⟨h.1, PlainHp.ok h.2⟩
 | .dead :: l, h => PlainHp.ok (l := l) h
 | .row _ _ _ :: l, h => PlainHp.ok (l := l) h
theorem PlainHp.nil : PlainHp [] := trivial
theorem PlainHp.var {T : TypeId} {c : List D} {l : List Ow} (h : PlainHp l) : PlainHp (.var T (c.map .d) :: l) := ⟨plainA_mapD c, h⟩
theorem PlainHp.dead {l : List Ow} (h : PlainHp l) : PlainHp (.dead :: l) := h
theorem PlainHp.row {T sz : Nat} {r : List (List D)} {l : List Ow} (h : PlainHp l) : PlainHp (.row T sz r :: l) := h
def aftO : List (Nat × AV) → List Ow → Nat → List Oper → List HR → Option AS
 | fr, hp, 0, _, _ => some ⟨fr, hp⟩
 | fr, hp, m + 1, o :: L, .av r :: rs => match o.dst with
  | some d => aftO ((d, r) :: fr) hp m L rs
  | none => aftO fr hp m L rs
 | fr, hp, m + 1, o :: L, .new T cs :: rs => match o.dst, lenO hp, exO cs with
  | some d, some k, some c => match snocO hp (.var T (c.map .d)) with
   | some hp' => aftO ((d, .ptr k 0) :: fr) hp' m L rs
   | none => none
  | _, _, _ => none
 | _, _, _, _, _ => none
theorem aftO_eq : ∀ {m : Nat} {fr : List (Nat × AV)} {hp : List Ow} {L : List Oper} {rs : List HR} {τ : AS}, aftO fr hp m L rs = some τ → rs.length = m → τ = AS.aft ⟨fr, hp⟩ (L.take m) rs
 | 0, fr, hp, L, rs, τ, h, hl => by
  obtain rfl : rs = [] := List.eq_nil_of_length_eq_zero hl
  cases L <;> (cases h; rfl)
 | m + 1, fr, hp, [], [], τ, h, hl => by cases hl
 | m + 1, fr, hp, [], r :: rs, τ, h, hl => by cases r <;> cases h
 | m + 1, fr, hp, o :: L, [], τ, h, hl => by cases hl
 | m + 1, fr, hp, o :: L, .av r :: rs, τ, h, hl => by
  rw [List.take_succ_cons]
  have hl : rs.length = m := by simpa using hl
  unfold aftO at h
  cases hd : o.dst with
  | some d =>
   rw [hd] at h
   have := aftO_eq h hl
   rw [this]
   simp only [AS.aft, AS.put, hd]
  | none =>
   rw [hd] at h
   have := aftO_eq h hl
   rw [this]
   simp only [AS.aft, AS.put, hd]
 | m + 1, fr, hp, o :: L, .new T cs :: rs, τ, h, hl => by
  rw [List.take_succ_cons]
  have hl : rs.length = m := by simpa using hl
  unfold aftO at h
  split at h
  ·rename_i d k c hd hk hc
   split at h
   ·rename_i hp' hs
    have := aftO_eq h hl
    rw [this]
    have e1 := snocO_eq hs
    have e2 := lenO_eq hk
    have e3 := exO_eq hc
    subst e1; subst e2; subst e3
    simp only [AS.aft, AS.new, AS.put, hd]
    congr 3
    simp [exs]
   ·cases h
  ·cases h
section
variable {P : Program} {s0 : GS} {n : Nat} {ops : Array Oper} {Q : Exit → AS → Prop} {rest : List Oper} {o : Oper} {fr : List (Nat × AV)} {hp : List Ow}
theorem AWl.q {d : Nat} {r : AV} (hdst : o.dst = some d) (hg : o.guard = none) (hs : notSelect o.op = true) (hd : Nat.blt d n = true) (hq : Quiet P hp o (AS.arg ⟨fr, hp⟩) r) (h : AWl P s0 n ops Q rest ⟨(d, r) :: fr, hp⟩) : AWl P s0 n ops Q (o :: rest) ⟨fr, hp⟩ :=
 AWl.quiet hg hs (by rw [hdst]; exact hd) hq (by rw [hdst]; exact h)
theorem AWl.qG {d : Nat} {r : AV} {j : Nat} {b : Bool} {e : Nat} (hg : o.guard = some (j, b)) (hy : (ops[j]?).bind (·.dst) = some e) (hl : look fr e = some (.d (ex (.bool b)))) (hen : Nat.blt e n = true) (hdst : o.dst = some d) (hs : notSelect o.op = true) (hd : Nat.blt d n = true) (hq : Quiet P hp o (AS.arg ⟨fr, hp⟩) r) (h : AWl P s0 n ops Q rest ⟨(d, r) :: fr, hp⟩) : AWl P s0 n ops Q (o :: rest) ⟨fr, hp⟩ :=
 AWl.quietG hg hy hl (by simpa [Nat.blt_eq] using hen) hs (by rw [hdst]; exact hd) hq (by rw [hdst]; exact h)
theorem AWl.sG {d : Nat} {j : Nat} {b : Bool} {u : Value} {e : Nat} (hg : o.guard = some (j, b)) (hy : (ops[j]?).bind (·.dst) = some e) (hl : look fr e = some (.d (ex u))) (hne : isB u b = false) (hen : Nat.blt e n = true) (hdst : o.dst = some d) (hd : Nat.blt d n = true) (h : AWl P s0 n ops Q rest ⟨(d, .d (ex undef)) :: fr, hp⟩) : AWl P s0 n ops Q (o :: rest) ⟨fr, hp⟩ :=
 AWl.skipG hg hy hl hne (by simpa [Nat.blt_eq] using hen) (by rw [hdst]; exact hd) (by rw [hdst]; exact h)
theorem AWl.al {T : TypeId} {d : TypeDesc} {m b k t : Nat} {z : Value} {c : List D} {hp' : List Ow} (hop : o.op = .alloc T) (hdst : o.dst = some t) (hg : o.guard = none) (ht : Tab P T d m b z) (hT : Nat.beq T 137 = false) (h1 : one1 z.cells.toList = true) (hd : Nat.blt t n = true) (hc : exO z.cells.toList = some c) (hk : lenO hp = some k) (hs : snocO hp (.var T (c.map .d)) = some hp') (h : AWl P s0 n ops Q rest ⟨(t, .ptr k 0) :: fr, hp'⟩) : AWl P s0 n ops Q (o :: rest) ⟨fr, hp⟩ := by
 refine AWl.allocD hop hg ht hT h1 (by rw [hdst]; exact hd) ?_
 rw [exO_eq hc] at hs
 rw [snocO_eq hs, lenO_eq hk] at h
 simp only [AS.new, AS.put, hdst]
 exact h
theorem AWl.bx {T : TypeId} {x : Operand} {ds : List D} {k t : Nat} {hp' : List Ow} (hop : o.op = .box T x) (hdst : o.dst = some t) (hg : o.guard = none) (hx : AS.arg ⟨fr, hp⟩ x = .d (agD ds)) (hT : Nat.beq T 137 = false) (hd : Nat.blt t n = true) (hk : lenO hp = some k) (hs : snocO hp (.var T (ds.map .d)) = some hp') (h : AWl P s0 n ops Q rest ⟨(t, .ptr k 0) :: fr, hp'⟩) : AWl P s0 n ops Q (o :: rest) ⟨fr, hp⟩ := by
 refine AWl.box hop hg hx (Nat.ne_of_beq_eq_false hT) (by rw [hdst]; exact hd) ?_
 rw [snocO_eq hs, lenO_eq hk] at h
 simp only [AS.new, AS.put, hdst]
 exact h
theorem AWl.stF {T T0 : TypeId} {d : TypeDesc} {b id m : Nat} {z : Value} {x y : Operand} {cells : List AV} {ds : List D} {hp' : List Ow} (hop : o.op = .store T x y) (hg : o.guard = none) (hds : o.dst = none) (hx : AS.arg ⟨fr, hp⟩ x = .ptr id 0) (hy : AS.arg ⟨fr, hp⟩ y = .d (agD ds)) (hh : hp[id]? = some (.var T0 cells)) (ht : Tab P T d m b z) (hm : ds.length = m) (hoff : cells.length = m) (hs : setO hp id (.var T0 (ds.map .d)) = some hp')
  (h : AWl P s0 n ops Q rest ⟨fr, hp'⟩) : AWl P s0 n ops Q (o :: rest) ⟨fr, hp⟩ :=
 AWl.storeF hop hg hds hx hy hh ht hm hoff (by rw [setO_eq hs] at h; exact h)
theorem AWl.app {x y : Operand} {t T T2 sz bytes id m b e : Nat} {z z' : Value} {d : TypeDesc} {rows r2 : List (List D)} {fr' : List (Nat × AV)} {hp' : List Ow} (hop : o.op = .call { callee := .builtin .append, args := #[x, y], argTypes := #[t, t] }) (hdst : o.dst = some e) (hg : o.guard = none) (hx : AS.arg ⟨fr, hp⟩ x = .own id) (hy : asD hp (AS.arg ⟨fr, hp⟩ y) = some (slD T2 sz r2)) (hh : hp[id]? = some (.row T sz rows)) (ht : Tab P t (.slice T) m b z') (hT : Tab P T d sz bytes z) (hzs : z.cells.size = sz) (hd : Nat.blt e n = true) (hbytes : (rows.length + r2.length) * bytes ≤ 140737488355328) (h63 : rows.length + r2.length ≤ 4611686018427387904)
  (hf : downO id (slD T sz rows) fr = some fr') (hpl : PlainHp hp) (hs : setO hp id (.row T sz (rows ++ r2)) = some hp') (h : AWl P s0 n ops Q rest ⟨(e, .own id) :: fr', hp'⟩) : AWl P s0 n ops Q (o :: rest) ⟨fr, hp⟩ := by
 refine AWl.append hop hg hx hy hh ht hT hzs (by rw [hdst]; exact hd) hbytes h63 ?_
 rw [setO_eq hs, downO_eq hf] at h
 simp only [AS.appd, AS.put, hdst, plainHp_down hpl.ok]
 exact h
theorem AWl.b0 {t T m b sz bytes k e : Nat} {z z' : Value} {d : TypeDesc} {hp' : List Ow} (hop : o.op = .buildSlice t 0 #[]) (hdst : o.dst = some e) (hg : o.guard = none) (ht : Tab P t (.slice T) m b z') (hT : Tab P T d sz bytes z) (hT32 : Nat.beq T 137 = false) (h0 : Nat.blt 0 sz = true) (hd : Nat.blt e n = true) (hk : lenO hp = some k) (hs : snocO hp (.row T sz []) = some hp') (h : AWl P s0 n ops Q rest ⟨(e, .own k) :: fr, hp'⟩) : AWl P s0 n ops Q (o :: rest) ⟨fr, hp⟩ := by
 refine AWl.build0 hop hg ht hT (Nat.ne_of_beq_eq_false hT32) (by simpa [Nat.blt_eq] using h0) (by rw [hdst]; exact hd) ?_
 rw [snocO_eq hs, lenO_eq hk] at h
 simp only [AS.new, AS.put, hdst]
 exact h
theorem AWl.mk0 {t T m b sz bytes k e : Nat} {z z' : Value} {d : TypeDesc} {x y : Operand} {c : Int} {hp' : List Ow} (hop : o.op = .makeSlice t x y) (hdst : o.dst = some e) (hg : o.guard = none) (hx : AS.arg ⟨fr, hp⟩ x = .d (ex (.int .i64 0))) (hy : AS.arg ⟨fr, hp⟩ y = .d (ex (.int .i64 c))) (ht : Tab P t (.slice T) m b z') (hT : Tab P T d sz bytes z) (hc0 : 0 ≤ c) (hc : c ≤ 1000000000) (hbytes : Nat.ble bytes 65536 = true) (hT32 : Nat.beq T 137 = false) (h0 : Nat.blt 0 sz = true) (hd : Nat.blt e n = true) (hk : lenO hp = some k) (hs : snocO hp (.row T sz []) = some hp') (h : AWl P s0 n ops Q rest ⟨(e, .own k) :: fr, hp'⟩) : AWl P s0 n ops Q (o :: rest) ⟨fr, hp⟩ := by
 refine AWl.make0 hop hg hx hy ht hT hc0 hc (Nat.le_of_ble_eq_true hbytes) (Nat.ne_of_beq_eq_false hT32) (by simpa [Nat.blt_eq] using h0) (by rw [hdst]; exact hd) ?_
 rw [snocO_eq hs, lenO_eq hk] at h
 simp only [AS.new, AS.put, hdst]
 exact h
theorem AWp.dr {id : Nat} {L0 : Array Oper} {L : List Oper} {Q0 : Exit → AS → Prop} {τ : AS} (hm : DrawOk P s0 n id L0 L Q0 Q) (es : List (List (Nat × Nat))) (bs : List (List Nat)) (rs : List HR) (hlen : (es.length == bs.length && es.length == rs.length && Nat.ble rs.length L.length) = true) (hok : regOk L (shOf 0 es bs) = true) (hd : dstOk L es.length n = true) (steps : HSteps P ⟨fr, hp⟩ rs L es rs)
  (ha : aftO fr hp rs.length L rs = some τ) (tail : AWl P s0 n L.toArray Q (L.drop es.length) τ) : AWp P s0 n (.region id L0 true) Q0 ⟨fr, hp⟩ := by
 refine AWp.draw hm es bs rs hlen hok hd steps ?_
 simp only [Bool.and_eq_true, beq_iff_eq] at hlen
 rw [hlen.1.2, ← aftO_eq ha rfl, ← hlen.1.2]
 exact tail
end
section
variable {P : Program} {hp : List Ow} {o : Oper} {arg : Operand → AV}
theorem Quiet.ldE {x : Operand} {t : TypeId} {d : TypeDesc} {n b T : Nat} {z : Value} {ds r : List D} (hop : o.op = .load t x) (hx : arg x = .d (epD T ds)) (ht : Tab P t d n b z) (hd : isAg d = true) (hr : takeO n ds = some r) : Quiet P hp o arg (.d (agD r)) := by
 obtain ⟨e1, e2⟩ := takeO_eq hr
 rw [e1]
 exact Quiet.loadE hop hx ht hd e2
theorem Quiet.ldE1 {x : Operand} {t : TypeId} {d : TypeDesc} {n b T : Nat} {z : Value} {ds : List D} {r : D} (hop : o.op = .load t x) (hx : arg x = .d (epD T ds)) (ht : Tab P t d n b z) (hd : isAg d = false) (hr : atO 0 ds = some r) : Quiet P hp o arg (.d r) := by
 obtain ⟨e1, e2⟩ := atO_eq hr
 rw [e1]
 exact Quiet.loadE1 hop hx ht hd e2
theorem Quiet.ldD {x : Operand} {t : TypeId} {d : TypeDesc} {n b T id off : Nat} {z : Value} {ds r : List D} (hop : o.op = .load t x) (hx : arg x = .ptr id off) (hh : hp[id]? = some (.var T (ds.map .d))) (ht : Tab P t d n b z) (hd : isAg d = true) (hr : subO off n ds = some r) : Quiet P hp o arg (.d (agD r)) := by
 obtain ⟨e1, e2⟩ := subO_eq hr
 rw [e1]
 exact Quiet.loadD hop hx hh ht hd (Nat.ble_eq_true_of_le e2)
theorem Quiet.ldD1 {x : Operand} {t : TypeId} {d : TypeDesc} {n b T id off : Nat} {z : Value} {ds : List D} {r : D} (hop : o.op = .load t x) (hx : arg x = .ptr id off) (hh : hp[id]? = some (.var T (ds.map .d))) (ht : Tab P t d n b z) (hd : isAg d = false) (hr : atO off ds = some r) : Quiet P hp o arg (.d r) := by
 obtain ⟨e1, e2⟩ := atO_eq hr
 rw [e1]
 exact Quiet.loadD1 hop hx hh ht hd e2
theorem Quiet.ext {x : Operand} {i : Nat} {ds : List D} {r : D} (hop : o.op = .extract x i) (hx : arg x = .d (tupD ds)) (hr : atO i ds = some r) : Quiet P hp o arg (.d r) := by
 obtain ⟨e1, e2⟩ := atO_eq hr
 rw [e1]
 exact Quiet.extract hop hx e2
theorem Quiet.fldE {x : Operand} {S : TypeId} {fs : Array Field} {f n b n' b' T : Nat} {fd : Field} {d : TypeDesc} {z z' : Value} {ds r : List D} (hop : o.op = .fieldAddr S x f) (hx : arg x = .d (epD T ds)) (hS : Tab P S (.struct fs) n b z) (hf : fs[f]? = some fd) (he : Tab P fd.type d n' b' z') (hn : Nat.beq n' 0 = false) (hr : dropO fd.offset ds = some r) : Quiet P hp o arg (.d (epD T r)) := by
 obtain ⟨e1, e2⟩ := dropO_eq hr
 rw [e1]
 exact Quiet.fieldE hop hx hS hf he (Nat.ne_of_beq_eq_false hn)
theorem Quiet.fldP {x : Operand} {S : TypeId} {fs : Array Field} {f n b n' b' id off : Nat} {fd : Field} {d : TypeDesc} {z z' : Value} (hop : o.op = .fieldAddr S x f) (hx : arg x = .ptr id off) (hS : Tab P S (.struct fs) n b z) (hf : fs[f]? = some fd) (he : Tab P fd.type d n' b' z') (hn : Nat.beq n' 0 = false) : Quiet P hp o arg (.ptr id (off + fd.offset)) :=
 Quiet.fieldP hop hx hS hf he (Nat.ne_of_beq_eq_false hn)
end
end Go.Proofs.YteicdddphdomkaaGreat
namespace Go.Proofs.YteicdddphdomkaaGreat
open Go.RowKit
def cmpP : BinOp → Int → Int → Prop
 | .eql, a, b => a = b
 | .neq, a, b => a ≠ b
 | .lss, a, b => a < b
 | .leq, a, b => a ≤ b
 | .gtr, a, b => b < a
 | .geq, a, b => b ≤ a
 | _, _, _ => False
def isCmp : BinOp → Bool
 | .eql | .neq | .lss | .leq | .gtr | .geq => true
 | _ => false
section
variable {P : Program} {hp : List Ow} {o : Oper} {arg : Operand → AV}
theorem Quiet.cmpT {op : BinOp} {T U : TypeId} {x y : Operand} {k : IntKind} {a b : Int} (hop : o.op = .binOp op T x y U) (hb : isCmp op = true) (hx : arg x = .d (ex (.int k a))) (hy : arg y = .d (ex (.int k b))) (hc : cmpP op a b) : Quiet P hp o arg (.d (ex (.bool true))) := by
 refine Quiet.cmp hop hx hy ?_
 cases op <;> first | (simp only [cmpP] at hc; simp [cmpB, hc]; done) | (simp only [cmpP] at hc; simp [cmpB]; omega) | exact absurd hb (by decide)
theorem Quiet.cmpF {op : BinOp} {T U : TypeId} {x y : Operand} {k : IntKind} {a b : Int} (hop : o.op = .binOp op T x y U) (hb : isCmp op = true) (hx : arg x = .d (ex (.int k a))) (hy : arg y = .d (ex (.int k b))) (hc : ¬ cmpP op a b) : Quiet P hp o arg (.d (ex (.bool false))) := by
 refine Quiet.cmp hop hx hy ?_
 cases op <;> first | (simp only [cmpP] at hc; simp [cmpB, hc]; done) | (simp only [cmpP] at hc; simp [cmpB]; omega) | exact absurd hb (by decide)
theorem Quiet.index0 {α : Type} {x y : Operand} {t : TypeId} {e n b n' b' T sz : Nat} {d : TypeDesc} {z z' : Value} {f : α → List D} {a : α} {l : List α} {κ : IntKind} (hop : o.op = .indexAddr t x y) (hx : asD hp (arg x) = some (slD T sz ((a :: l).map f))) (hy : arg y = .d (ex (.int κ 0))) (ht : Tab P t (.slice e) n b z) (he : Tab P e d n' b' z') (hsz : n' = sz) : Quiet P hp o arg (.d (epD T (f a))) :=
 Quiet.index (P := P) (hp := hp) hop hx hy ht he hsz (by omega) (by simp)
theorem Quiet.dropN {α : Type} {x y : Operand} {t : TypeId} {e n b n' b' T sz i : Nat} {d : TypeDesc} {z z' : Value} {f : α → List D} {l : List α} (hop : o.op = .slice t x (some y) none none) (hx : asD hp (arg x) = some (slD T sz (l.map f))) (hy : arg y = .d (ex (.int .i64 (i : Nat)))) (ht : Tab P t (.slice e) n b z) (he : Tab P e d n' b' z') (hsz : n' = sz) (hi : i ≤ l.length) : Quiet P hp o arg (.d (slD T sz ((l.drop i).map f))) := by
 have h := Quiet.slice (P := P) (hp := hp) (i := (i : Nat)) (j := ((l.map f).length : Nat)) hop hx ht he hsz (.inl ⟨y, rfl, hy⟩) (.inr ⟨rfl, rfl⟩) (by omega) (by simp; omega) (by omega)
 have e1 : ((l.map f).take (((l.map f).length : Nat) : Int).toNat).drop ((i : Nat) : Int).toNat = (l.drop i).map f := by
  rw [show (((l.map f).length : Nat) : Int).toNat = (l.map f).length from rfl, List.take_length, List.map_drop]
  rfl
 rwa [e1] at h
theorem Quiet.tailN {α : Type} {x y : Operand} {t : TypeId} {e n b n' b' T sz : Nat} {d : TypeDesc} {z z' : Value} {f : α → List D} {a : α} {l : List α} (hop : o.op = .slice t x (some y) none none) (hx : asD hp (arg x) = some (slD T sz ((a :: l).map f))) (hy : arg y = .d (ex (.int .i64 1))) (ht : Tab P t (.slice e) n b z) (he : Tab P e d n' b' z') (hsz : n' = sz) : Quiet P hp o arg (.d (slD T sz (l.map f))) :=
 Quiet.dropN (l := a :: l) (i := 1) hop hx hy ht he hsz (by simp)
end
theorem map_snoc {α : Type} (f : α → List D) (l : List α) (a : α) : l.map f ++ [f a] = (l ++ [a]).map f := by simp
theorem AWl.q' {P : Program} {s0 : GS} {n : Nat} {ops : Array Oper} {Q : Exit → AS → Prop} {rest : List Oper} {o : Oper} {fr : List (Nat × AV)} {hp : List Ow} {d : Nat} (hdst : o.dst = some d) (hg : o.guard = none) (hs : notSelect o.op = true) (hd : Nat.blt d n = true) (h : ∃ r, Quiet P hp o (AS.arg ⟨fr, hp⟩) r ∧ AWl P s0 n ops Q rest ⟨(d, r) :: fr, hp⟩) : AWl P s0 n ops Q (o :: rest) ⟨fr, hp⟩ := by
 obtain ⟨r, h1, h2⟩ := h
 exact AWl.q hdst hg hs hd h1 h2
theorem AWl.qG' {P : Program} {s0 : GS} {n : Nat} {ops : Array Oper} {Q : Exit → AS → Prop} {rest : List Oper} {o : Oper} {fr : List (Nat × AV)} {hp : List Ow} {d : Nat} {j : Nat} {b : Bool} {e : Nat} (hg : o.guard = some (j, b)) (hy : (ops[j]?).bind (·.dst) = some e) (hl : look fr e = some (.d (ex (.bool b)))) (hen : Nat.blt e n = true) (hdst : o.dst = some d) (hs : notSelect o.op = true) (hd : Nat.blt d n = true) (h : ∃ r, Quiet P hp o (AS.arg ⟨fr, hp⟩) r ∧ AWl P s0 n ops Q rest ⟨(d, r) :: fr, hp⟩) : AWl P s0 n ops Q (o :: rest) ⟨fr, hp⟩ := by
 obtain ⟨r, h1, h2⟩ := h
 exact AWl.qG hg hy hl hen hdst hs hd h1 h2
def snocH : List HR → HR → Option (List HR)
 | [], x => some [x]
 | o :: l, x => match snocH l x with
  | some r => some (o :: r)
  | none => none
theorem snocH_eq : ∀ {l : List HR} {x : HR} {r : List HR}, snocH l x = some r → r = l ++ [x]
 | [], x, r, h => by cases h; rfl
 | o :: l, x, r, h => by
  unfold snocH at h
  split at h
  ·rename_i r' h'
   cases h
   rw [snocH_eq h']
   rfl
  ·cases h
def HS (P : Program) (σ : AS) (K : List HR → Prop) : List HR → List Oper → List (List (Nat × Nat)) → Prop
 | acc, _, [] => K acc
 | acc, o :: L, e :: es => ∃ r, HStep P σ acc e o r ∧ ∃ acc', snocH acc r = some acc' ∧ HS P σ K acc' L es
 | _, [], _ :: _ => False
def earlier : Nat → List Oper → List (List (Nat × Nat)) → Bool
 | _, _, [] => true
 | i, o :: L, e :: es => e.all (fun p => Nat.blt p.2 i) && (match o.guard with | some (j, _) => Nat.blt j i | none => true) && earlier (i + 1) L es
 | _, [], _ :: _ => false
theorem argH_more {σ : AS} {acc more : List HR} {es : List (Nat × Nat)} (h : ∀ p ∈ es, p.2 < acc.length) : argH σ (acc ++ more) es = argH σ acc es := by
 funext x
 cases x with
 | tmp t =>
  show (match es.find? (fun p => p.1 == t) with
   | some p => match (acc ++ more)[p.2]? with
    | some h => h.val
    | none => .d anyD
   | none => _) = (match es.find? (fun p => p.1 == t) with
   | some p => match acc[p.2]? with
    | some h => h.val
    | none => .d anyD
   | none => _)
  cases hf : es.find? (fun p => p.1 == t) with
  | none => rfl
  | some p =>
   simp only
   rw [List.getElem?_append_left (h p (List.mem_of_find?_eq_some hf))]
 | const v => rfl
 | global g => rfl
 | func f => rfl
theorem HStep.more {P : Program} {σ : AS} {acc more : List HR} {e : List (Nat × Nat)} {o : Oper} {r : HR} (h : HStep P σ acc e o r) (he : ∀ p ∈ e, p.2 < acc.length) (hg : ∀ j b, o.guard = some (j, b) → j < acc.length) : HStep P σ (acc ++ more) e o r := by
 cases r with
 | av r =>
  rcases h with ⟨h1, h2⟩ | ⟨j, b, c, h1, h2, h3⟩
  ·exact .inl ⟨h1, by rw [argH_more he]; exact h2⟩
  ·refine .inr ⟨j, b, c, h1, by rw [List.getElem?_append_left (hg j b h1)]; exact h2, ?_⟩
   rw [argH_more he]
   exact h3
 | new T cs => exact h
theorem HS.steps {P : Program} {σ : AS} {K : List HR → Prop} : ∀ {es : List (List (Nat × Nat))} {L : List Oper} {acc : List HR}, earlier acc.length L es = true → HS P σ K acc L es → ∃ more, more.length = es.length ∧ HSteps P σ (acc ++ more) L es more ∧ K (acc ++ more)
 | [], L, acc, _, h => by
  refine ⟨[], rfl, HSteps.nil, ?_⟩
  rw [List.append_nil]
  cases L <;> exact h
 | e :: es, [], acc, he, h => by cases he
 | e :: es, o :: L, acc, he, h => by
  obtain ⟨r, h1, acc', h2, h3⟩ := h
  have e1 := snocH_eq h2
  subst e1
  simp only [earlier, Bool.and_eq_true] at he
  obtain ⟨⟨he1, he2⟩, he3⟩ := he
  obtain ⟨more, h4, h5, h6⟩ := HS.steps (acc := acc ++ [r]) (by simpa using he3) h3
  rw [List.append_assoc, List.singleton_append] at h5 h6
  refine ⟨r :: more, by simp [h4], ⟨h1.more (fun p hp => ?_) fun j b hj => ?_, h5⟩, h6⟩
  ·have := List.all_eq_true.1 he1 p hp
   simpa [Nat.blt_eq] using this
  ·rw [hj] at he2
   simpa [Nat.blt_eq] using he2
theorem AWp.dr' {P : Program} {s0 : GS} {n : Nat} {Q Q0 : Exit → AS → Prop} {fr : List (Nat × AV)} {hp : List Ow} {id : Nat} {L0 : Array Oper} {L : List Oper} (hm : DrawOk P s0 n id L0 L Q0 Q) (es : List (List (Nat × Nat))) (bs : List (List Nat)) (hlen : (es.length == bs.length && Nat.ble es.length L.length) = true) (hok : regOk L (shOf 0 es bs) = true) (hd : dstOk L es.length n = true) (hlt : earlier 0 L es = true)
  (h : HS P ⟨fr, hp⟩ (fun rs => ∃ τ, aftO fr hp es.length L rs = some τ ∧ AWl P s0 n L.toArray Q (L.drop es.length) τ) [] L es) : AWp P s0 n (.region id L0 true) Q0 ⟨fr, hp⟩ := by
 obtain ⟨rs, h1, h2, τ, h3, h4⟩ := HS.steps (acc := []) hlt h
 simp only [List.nil_append] at h2 h3
 simp only [Bool.and_eq_true, beq_iff_eq] at hlen
 exact AWp.dr hm es bs rs (by simp only [Bool.and_eq_true, beq_iff_eq]; exact ⟨⟨hlen.1, h1.symm⟩, by rw [h1]; exact hlen.2⟩) hok hd h2 (by rw [h1]; exact h3) h4
end Go.Proofs.YteicdddphdomkaaGreat
namespace Go.Proofs.YteicdddphdomkaaGreat
open Go.RowKit
section
variable {P : Program} {hp : List Ow} {arg : Operand → AV} {dd : Option Tmp} {ty : TypeId} {ps : String} {af : Array Edge} {gd : Option (Nat × Bool)}
theorem Qs.lenN {α : Type} {x : Operand} {t : TypeId} {e n b T sz : Nat} {z : Value} {f : α → List D} {l : List α} (hx : asD hp (arg x) = some (slD T sz (l.map f))) (ht : Tab P t (.slice e) n b z) : Quiet P hp ⟨dd, .call { callee := .builtin .len, args := #[x], argTypes := #[t] }, ty, ps, af, gd⟩ arg (.d (ex (.int .i64 (l.length : Nat)))) := Quiet.lenN (o := ⟨dd, .call { callee := .builtin .len, args := #[x], argTypes := #[t] }, ty, ps, af, gd⟩) rfl hx ht
theorem Qs.index0 {α : Type} {x y : Operand} {t : TypeId} {e n b n' b' T sz : Nat} {d : TypeDesc} {z z' : Value} {f : α → List D} {a : α} {l : List α} {κ : IntKind} (hx : asD hp (arg x) = some (slD T sz ((a :: l).map f))) (hy : arg y = .d (ex (.int κ 0))) (ht : Tab P t (.slice e) n b z) (he : Tab P e d n' b' z') (hsz : n' = sz) : Quiet P hp ⟨dd, .indexAddr t x y, ty, ps, af, gd⟩ arg (.d (epD T (f a))) := Quiet.index0 (o := ⟨dd, .indexAddr t x y, ty, ps, af, gd⟩) rfl hx hy ht he hsz
theorem Qs.tailN {α : Type} {x y : Operand} {t : TypeId} {e n b n' b' T sz : Nat} {d : TypeDesc} {z z' : Value} {f : α → List D} {a : α} {l : List α} (hx : asD hp (arg x) = some (slD T sz ((a :: l).map f))) (hy : arg y = .d (ex (.int .i64 1))) (ht : Tab P t (.slice e) n b z) (he : Tab P e d n' b' z') (hsz : n' = sz) : Quiet P hp ⟨dd, .slice t x (some y) none none, ty, ps, af, gd⟩ arg (.d (slD T sz (l.map f))) := Quiet.tailN (o := ⟨dd, .slice t x (some y) none none, ty, ps, af, gd⟩) rfl hx hy ht he hsz
theorem Qs.indexN {α : Type} [Inhabited α] {x y : Operand} {t : TypeId} {e n b n' b' T sz k : Nat} {d : TypeDesc} {z z' : Value} {f : α → List D} {l : List α} {κ : IntKind} (hx : asD hp (arg x) = some (slD T sz (l.map f))) (hy : arg y = .d (ex (.int κ (k : Nat)))) (ht : Tab P t (.slice e) n b z) (he : Tab P e d n' b' z') (hsz : n' = sz) (hk : k < l.length) : Quiet P hp ⟨dd, .indexAddr t x y, ty, ps, af, gd⟩ arg (.d (epD T (f (l.getD k default)))) := Quiet.indexN (o := ⟨dd, .indexAddr t x y, ty, ps, af, gd⟩) rfl hx hy ht he hsz hk
theorem Qs.add {T U : TypeId} {x y : Operand} {a b : Int} (hx : arg x = .d (ex (.int .i64 a))) (hy : arg y = .d (ex (.int .i64 b))) (h1 : -9223372036854775808 ≤ a + b) (h2 : a + b ≤ 9223372036854775807) : Quiet P hp ⟨dd, .binOp .add T x y U, ty, ps, af, gd⟩ arg (.d (ex (.int .i64 (a + b)))) := Quiet.add (o := ⟨dd, .binOp .add T x y U, ty, ps, af, gd⟩) rfl hx hy h1 h2
theorem Qs.sub {T U : TypeId} {x y : Operand} {a b : Int} (hx : arg x = .d (ex (.int .i64 a))) (hy : arg y = .d (ex (.int .i64 b))) (h1 : -9223372036854775808 ≤ a - b) (h2 : a - b ≤ 9223372036854775807) : Quiet P hp ⟨dd, .binOp .sub T x y U, ty, ps, af, gd⟩ arg (.d (ex (.int .i64 (a - b)))) := Quiet.sub (o := ⟨dd, .binOp .sub T x y U, ty, ps, af, gd⟩) rfl hx hy h1 h2
theorem Qs.succ {T U : TypeId} {x y : Operand} {a : Nat} (hx : arg x = .d (ex (.int .i64 (a : Nat)))) (hy : arg y = .d (ex (.int .i64 1))) (h1 : (a : Int) < 9223372036854775807) : Quiet P hp ⟨dd, .binOp .add T x y U, ty, ps, af, gd⟩ arg (.d (ex (.int .i64 ((a + 1 : Nat) : Int)))) := Quiet.succ (o := ⟨dd, .binOp .add T x y U, ty, ps, af, gd⟩) rfl hx hy h1
theorem Qs.rem {T U : TypeId} {x y : Operand} {k : IntKind} {a b : Int} (hx : arg x = .d (ex (.int k a))) (hy : arg y = .d (ex (.int k b))) (h0 : 0 ≤ a) (hb : 0 < b) : Quiet P hp ⟨dd, .binOp .rem T x y U, ty, ps, af, gd⟩ arg (.d (ex (.int k (a % b)))) := Quiet.rem (o := ⟨dd, .binOp .rem T x y U, ty, ps, af, gd⟩) rfl hx hy h0 hb
theorem Qs.remT {T U : TypeId} {x y : Operand} {k : IntKind} {a b : Int} (hx : arg x = .d (ex (.int k a))) (hy : arg y = .d (ex (.int k b))) (hb : b ≠ 0) : Quiet P hp ⟨dd, .binOp .rem T x y U, ty, ps, af, gd⟩ arg (.d (ex (.int k (a.tmod b)))) := Quiet.remT (o := ⟨dd, .binOp .rem T x y U, ty, ps, af, gd⟩) rfl hx hy hb
theorem Qs.cmp {op : BinOp} {T U : TypeId} {x y : Operand} {k : IntKind} {a b : Int} {c : Bool} (hx : arg x = .d (ex (.int k a))) (hy : arg y = .d (ex (.int k b))) (hc : cmpB op a b = some c) : Quiet P hp ⟨dd, .binOp op T x y U, ty, ps, af, gd⟩ arg (.d (ex (.bool c))) := Quiet.cmp (o := ⟨dd, .binOp op T x y U, ty, ps, af, gd⟩) rfl hx hy hc
theorem Qs.cmpT {op : BinOp} {T U : TypeId} {x y : Operand} {k : IntKind} {a b : Int} (hb : isCmp op = true) (hx : arg x = .d (ex (.int k a))) (hy : arg y = .d (ex (.int k b))) (hc : cmpP op a b) : Quiet P hp ⟨dd, .binOp op T x y U, ty, ps, af, gd⟩ arg (.d (ex (.bool true))) := Quiet.cmpT (o := ⟨dd, .binOp op T x y U, ty, ps, af, gd⟩) rfl hb hx hy hc
theorem Qs.cmpF {op : BinOp} {T U : TypeId} {x y : Operand} {k : IntKind} {a b : Int} (hb : isCmp op = true) (hx : arg x = .d (ex (.int k a))) (hy : arg y = .d (ex (.int k b))) (hc : ¬ cmpP op a b) : Quiet P hp ⟨dd, .binOp op T x y U, ty, ps, af, gd⟩ arg (.d (ex (.bool false))) := Quiet.cmpF (o := ⟨dd, .binOp op T x y U, ty, ps, af, gd⟩) rfl hb hx hy hc
theorem Qs.not {T : TypeId} {x : Operand} {a : Bool} (hx : arg x = .d (ex (.bool a))) : Quiet P hp ⟨dd, .unOp .not T x, ty, ps, af, gd⟩ arg (.d (ex (.bool (!a)))) := Quiet.not (o := ⟨dd, .unOp .not T x, ty, ps, af, gd⟩) rfl hx
theorem Qs.pickT {c x y : Operand} {r : AV} (hx : arg x = r) (hc : arg c = .d (ex (.bool true))) : Quiet P hp ⟨dd, .pick c x y, ty, ps, af, gd⟩ arg r := Quiet.pickT (o := ⟨dd, .pick c x y, ty, ps, af, gd⟩) rfl hx hc
theorem Qs.pickF {c x y : Operand} {r : AV} (hy : arg y = r) (hc : arg c = .d (ex (.bool false))) : Quiet P hp ⟨dd, .pick c x y, ty, ps, af, gd⟩ arg r := Quiet.pickF (o := ⟨dd, .pick c x y, ty, ps, af, gd⟩) rfl hy hc
theorem Qs.conv {S T : TypeId} {x : Operand} {k k' : IntKind} {a : Int} {d : TypeDesc} {n b n' b' : Nat} {z z' : Value} (hx : arg x = .d (ex (.int k a))) (hS : Tab P S d n b z) (hT : Tab P T (.int k') n' b' z') : Quiet P hp ⟨dd, .convert S T x, ty, ps, af, gd⟩ arg (.d (ex (.int k' (k'.wrap a)))) := Quiet.conv (o := ⟨dd, .convert S T x, ty, ps, af, gd⟩) rfl hx hS hT
theorem Qs.fldE {x : Operand} {S : TypeId} {fs : Array Field} {f n b n' b' T : Nat} {fd : Field} {d : TypeDesc} {z z' : Value} {ds r : List D} (hx : arg x = .d (epD T ds)) (hS : Tab P S (.struct fs) n b z) (hf : fs[f]? = some fd) (he : Tab P fd.type d n' b' z') (hn : Nat.beq n' 0 = false) (hr : dropO fd.offset ds = some r) : Quiet P hp ⟨dd, .fieldAddr S x f, ty, ps, af, gd⟩ arg (.d (epD T r)) := Quiet.fldE (o := ⟨dd, .fieldAddr S x f, ty, ps, af, gd⟩) rfl hx hS hf he hn hr
theorem Qs.fldP {x : Operand} {S : TypeId} {fs : Array Field} {f n b n' b' id off : Nat} {fd : Field} {d : TypeDesc} {z z' : Value} (hx : arg x = .ptr id off) (hS : Tab P S (.struct fs) n b z) (hf : fs[f]? = some fd) (he : Tab P fd.type d n' b' z') (hn : Nat.beq n' 0 = false) : Quiet P hp ⟨dd, .fieldAddr S x f, ty, ps, af, gd⟩ arg (.ptr id (off + fd.offset)) := Quiet.fldP (o := ⟨dd, .fieldAddr S x f, ty, ps, af, gd⟩) rfl hx hS hf he hn
theorem Qs.ldD {x : Operand} {t : TypeId} {d : TypeDesc} {n b T id off : Nat} {z : Value} {ds r : List D} (hx : arg x = .ptr id off) (hh : hp[id]? = some (.var T (ds.map .d))) (ht : Tab P t d n b z) (hd : isAg d = true) (hr : subO off n ds = some r) : Quiet P hp ⟨dd, .load t x, ty, ps, af, gd⟩ arg (.d (agD r)) := Quiet.ldD (o := ⟨dd, .load t x, ty, ps, af, gd⟩) rfl hx hh ht hd hr
theorem Qs.ldD1 {x : Operand} {t : TypeId} {d : TypeDesc} {n b T id off : Nat} {z : Value} {ds : List D} {r : D} (hx : arg x = .ptr id off) (hh : hp[id]? = some (.var T (ds.map .d))) (ht : Tab P t d n b z) (hd : isAg d = false) (hr : atO off ds = some r) : Quiet P hp ⟨dd, .load t x, ty, ps, af, gd⟩ arg (.d r) := Quiet.ldD1 (o := ⟨dd, .load t x, ty, ps, af, gd⟩) rfl hx hh ht hd hr
theorem Qs.loadEf {x : Operand} {t : TypeId} {d : TypeDesc} {n b T : Nat} {z : Value} {ds : List D} (hx : arg x = .d (epD T ds)) (ht : Tab P t d n b z) (hd : isAg d = true) (hn : ds.length = n) : Quiet P hp ⟨dd, .load t x, ty, ps, af, gd⟩ arg (.d (agD ds)) := Quiet.loadEf (o := ⟨dd, .load t x, ty, ps, af, gd⟩) rfl hx ht hd hn
theorem Qs.ldE {x : Operand} {t : TypeId} {d : TypeDesc} {n b T : Nat} {z : Value} {ds r : List D} (hx : arg x = .d (epD T ds)) (ht : Tab P t d n b z) (hd : isAg d = true) (hr : takeO n ds = some r) : Quiet P hp ⟨dd, .load t x, ty, ps, af, gd⟩ arg (.d (agD r)) := Quiet.ldE (o := ⟨dd, .load t x, ty, ps, af, gd⟩) rfl hx ht hd hr
theorem Qs.ldE1 {x : Operand} {t : TypeId} {d : TypeDesc} {n b T : Nat} {z : Value} {ds : List D} {r : D} (hx : arg x = .d (epD T ds)) (ht : Tab P t d n b z) (hd : isAg d = false) (hr : atO 0 ds = some r) : Quiet P hp ⟨dd, .load t x, ty, ps, af, gd⟩ arg (.d r) := Quiet.ldE1 (o := ⟨dd, .load t x, ty, ps, af, gd⟩) rfl hx ht hd hr
theorem Qs.ext {x : Operand} {i : Nat} {ds : List D} {r : D} (hx : arg x = .d (tupD ds)) (hr : atO i ds = some r) : Quiet P hp ⟨dd, .extract x i, ty, ps, af, gd⟩ arg (.d r) := Quiet.ext (o := ⟨dd, .extract x i, ty, ps, af, gd⟩) rfl hx hr
theorem Qs.build {t : TypeId} {fs : Array Field} {n b : Nat} {z : Value} {parts : List (Nat × Operand)} {pl : List (Nat × Nat)} {r : List (Nat × List D)} {ds : List D} (ht : Tab P t (.struct fs) n b z) (hpl : FieldsT P fs.toList pl) (h1 : one1 z.cells.toList = true) (hr : PartsA hp arg parts r) (hf : fillD (fun i => pl[i]?) (exD' z.cells.toList) r = some ds) : Quiet P hp ⟨dd, .build t parts.toArray, ty, ps, af, gd⟩ arg (.d (agD ds)) := Quiet.build (o := ⟨dd, .build t parts.toArray, ty, ps, af, gd⟩) rfl ht hpl h1 hr hf
theorem Qs.buildArr {t e : TypeId} {len n b n' b' : Nat} {z z' : Value} {d : TypeDesc} {parts : List (Nat × Operand)} {r : List (Nat × List D)} {ds : List D} (ht : Tab P t (.array len e) n b z) (he : Tab P e d n' b' z') (h1 : one1 z.cells.toList = true) (hr : PartsA hp arg parts r) (hf : fillD (fun i => some (i * n', n')) (exD' z.cells.toList) r = some ds) : Quiet P hp ⟨dd, .build t parts.toArray, ty, ps, af, gd⟩ arg (.d (agD ds)) := Quiet.buildArr (o := ⟨dd, .build t parts.toArray, ty, ps, af, gd⟩) rfl ht he h1 hr hf
theorem Qs.buildSlice {t e : TypeId} {len n b n' b' : Nat} {z z' : Value} {d : TypeDesc} {parts : List (Nat × Operand)} {r : List (Nat × List D)} {ds : List D} (ht : Tab P t (.slice e) n b z) (he : Tab P e d n' b' z') (hlen : 0 < len) (hn : 0 < n') (hz : z'.cells.size = n') (h24 : len * n' ≤ 16777216) (h1 : one1 z'.cells.toList = true) (hr : PartsA hp arg parts r) (hf : fillD (fun i => some (i * n', n')) (List.replicate (len * n') anyD) r = some ds) : Quiet P hp ⟨dd, .buildSlice t len parts.toArray, ty, ps, af, gd⟩ arg (.d (slD e n' (chunks n' len ds))) := Quiet.buildSlice (o := ⟨dd, .buildSlice t len parts.toArray, ty, ps, af, gd⟩) rfl ht he hlen hn hz h24 h1 hr hf
theorem Qs.max {x y : Operand} {tys : Array TypeId} {k : IntKind} {a b : Int} (hx : arg x = .d (ex (.int k a))) (hy : arg y = .d (ex (.int k b))) : Quiet P hp ⟨dd, .call { callee := .builtin .max, args := #[x, y], argTypes := tys }, ty, ps, af, gd⟩ arg (.d (ex (.int k (Max.max a b)))) := Quiet.max (o := ⟨dd, .call { callee := .builtin .max, args := #[x, y], argTypes := tys }, ty, ps, af, gd⟩) rfl hx hy
theorem Qs.call {f : Operand} {args : List Operand} {tys : Array TypeId} {fid : FuncId} {ds : List D} {r : D} (hf : arg f = .d (ex (.func (.func fid) #[] #[]))) (hc : Abs P fid ds r) (ha : ArgsLe hp arg args ds) : Quiet P hp ⟨dd, .call { callee := .value f, args := args.toArray, argTypes := tys }, ty, ps, af, gd⟩ arg (.d r) := Quiet.call (o := ⟨dd, .call { callee := .value f, args := args.toArray, argTypes := tys }, ty, ps, af, gd⟩) rfl hf hc ha
theorem Qs.move {x : Operand} {r : AV} (hx : arg x = r) : Quiet P hp ⟨dd, .move x, ty, ps, af, gd⟩ arg r := Quiet.move (.inl rfl) hx
theorem Qs.assign {x : Operand} {r : AV} (hx : arg x = r) : Quiet P hp ⟨dd, .assign x, ty, ps, af, gd⟩ arg r := Quiet.move (.inr rfl) hx
end
section
variable {P : Program} {s0 : GS} {n : Nat} {ops : Array Oper} {Q : Exit → AS → Prop} {rest : List Oper} {fr : List (Nat × AV)} {hp : List Ow} {ty : TypeId} {ps : String} {af : Array Edge}
theorem AWs.al {T : TypeId} {d : TypeDesc} {m b k t : Nat} {z : Value} {c : List D} {hp' : List Ow} (ht : Tab P T d m b z) (hT : Nat.beq T 137 = false) (h1 : one1 z.cells.toList = true) (hd : Nat.blt t n = true) (hc : exO z.cells.toList = some c) (hk : lenO hp = some k) (hs : snocO hp (.var T (c.map .d)) = some hp') (h : AWl P s0 n ops Q rest ⟨(t, .ptr k 0) :: fr, hp'⟩) : AWl P s0 n ops Q (⟨some t, .alloc T, ty, ps, af, none⟩ :: rest) ⟨fr, hp⟩ := AWl.al (o := ⟨some t, .alloc T, ty, ps, af, none⟩) rfl rfl rfl ht hT h1 hd hc hk hs h
theorem AWs.bx {T : TypeId} {x : Operand} {ds : List D} {k t : Nat} {hp' : List Ow} (hx : AS.arg ⟨fr, hp⟩ x = .d (agD ds)) (hT : Nat.beq T 137 = false) (hd : Nat.blt t n = true) (hk : lenO hp = some k) (hs : snocO hp (.var T (ds.map .d)) = some hp') (h : AWl P s0 n ops Q rest ⟨(t, .ptr k 0) :: fr, hp'⟩) : AWl P s0 n ops Q (⟨some t, .box T x, ty, ps, af, none⟩ :: rest) ⟨fr, hp⟩ := AWl.bx (o := ⟨some t, .box T x, ty, ps, af, none⟩) rfl rfl rfl hx hT hd hk hs h
theorem AWs.stF {T T0 : TypeId} {d : TypeDesc} {b id m : Nat} {z : Value} {x y : Operand} {cells : List AV} {ds : List D} {hp' : List Ow} (hx : AS.arg ⟨fr, hp⟩ x = .ptr id 0) (hy : AS.arg ⟨fr, hp⟩ y = .d (agD ds)) (hh : hp[id]? = some (.var T0 cells)) (ht : Tab P T d m b z) (hm : ds.length = m) (hoff : cells.length = m) (hs : setO hp id (.var T0 (ds.map .d)) = some hp') (h : AWl P s0 n ops Q rest ⟨fr, hp'⟩) : AWl P s0 n ops Q (⟨none, .store T x y, ty, ps, af, none⟩ :: rest) ⟨fr, hp⟩ := AWl.stF (o := ⟨none, .store T x y, ty, ps, af, none⟩) rfl rfl rfl hx hy hh ht hm hoff hs h
theorem AWs.app {x y : Operand} {t T T2 sz bytes id m b e : Nat} {z z' : Value} {d : TypeDesc} {rows r2 : List (List D)} {fr' : List (Nat × AV)} {hp' : List Ow} (hx : AS.arg ⟨fr, hp⟩ x = .own id) (hy : asD hp (AS.arg ⟨fr, hp⟩ y) = some (slD T2 sz r2)) (hh : hp[id]? = some (.row T sz rows)) (ht : Tab P t (.slice T) m b z') (hT : Tab P T d sz bytes z) (hzs : z.cells.size = sz) (hd : Nat.blt e n = true) (hbytes : (rows.length + r2.length) * bytes ≤ 140737488355328) (h63 : rows.length + r2.length ≤ 4611686018427387904) (hf : downO id (slD T sz rows) fr = some fr') (hpl : PlainHp hp) (hs : setO hp id (.row T sz (rows ++ r2)) = some hp') (h : AWl P s0 n ops Q rest ⟨(e, .own id) :: fr', hp'⟩) : AWl P s0 n ops Q (⟨some e, .call { callee := .builtin .append, args := #[x, y], argTypes := #[t, t] }, ty, ps, af, none⟩ :: rest) ⟨fr, hp⟩ := AWl.app (o := ⟨some e, .call { callee := .builtin .append, args := #[x, y], argTypes := #[t, t] }, ty, ps, af, none⟩) rfl rfl rfl hx hy hh ht hT hzs hd hbytes h63 hf hpl hs h
theorem AWs.b0 {t T m b sz bytes k e : Nat} {z z' : Value} {d : TypeDesc} {hp' : List Ow} (ht : Tab P t (.slice T) m b z') (hT : Tab P T d sz bytes z) (hT32 : Nat.beq T 137 = false) (h0 : Nat.blt 0 sz = true) (hd : Nat.blt e n = true) (hk : lenO hp = some k) (hs : snocO hp (.row T sz []) = some hp') (h : AWl P s0 n ops Q rest ⟨(e, .own k) :: fr, hp'⟩) : AWl P s0 n ops Q (⟨some e, .buildSlice t 0 #[], ty, ps, af, none⟩ :: rest) ⟨fr, hp⟩ := AWl.b0 (o := ⟨some e, .buildSlice t 0 #[], ty, ps, af, none⟩) rfl rfl rfl ht hT hT32 h0 hd hk hs h
theorem AWs.mk0 {t T m b sz bytes k e : Nat} {z z' : Value} {d : TypeDesc} {x y : Operand} {c : Int} {hp' : List Ow} (hx : AS.arg ⟨fr, hp⟩ x = .d (ex (.int .i64 0))) (hy : AS.arg ⟨fr, hp⟩ y = .d (ex (.int .i64 c))) (ht : Tab P t (.slice T) m b z') (hT : Tab P T d sz bytes z) (hc0 : 0 ≤ c) (hc : c ≤ 1000000000) (hbytes : Nat.ble bytes 65536 = true) (hT32 : Nat.beq T 137 = false) (h0 : Nat.blt 0 sz = true) (hd : Nat.blt e n = true) (hk : lenO hp = some k) (hs : snocO hp (.row T sz []) = some hp') (h : AWl P s0 n ops Q rest ⟨(e, .own k) :: fr, hp'⟩) : AWl P s0 n ops Q (⟨some e, .makeSlice t x y, ty, ps, af, none⟩ :: rest) ⟨fr, hp⟩ := AWl.mk0 (o := ⟨some e, .makeSlice t x y, ty, ps, af, none⟩) rfl rfl rfl hx hy ht hT hc0 hc hbytes hT32 h0 hd hk hs h
theorem AWs.q {d : Nat} {op : Op} (hs : notSelect op = true) (hd : Nat.blt d n = true) (h : ∃ r, Quiet P hp ⟨some d, op, ty, ps, af, none⟩ (AS.arg ⟨fr, hp⟩) r ∧ AWl P s0 n ops Q rest ⟨(d, r) :: fr, hp⟩) : AWl P s0 n ops Q (⟨some d, op, ty, ps, af, none⟩ :: rest) ⟨fr, hp⟩ := AWl.q' rfl rfl hs hd h
theorem AWs.qG {d : Nat} {op : Op} {j : Nat} {b : Bool} {e : Nat} (hy : (ops[j]?).bind (·.dst) = some e) (hl : look fr e = some (.d (ex (.bool b)))) (hen : Nat.blt e n = true) (hs : notSelect op = true) (hd : Nat.blt d n = true) (h : ∃ r, Quiet P hp ⟨some d, op, ty, ps, af, some (j, b)⟩ (AS.arg ⟨fr, hp⟩) r ∧ AWl P s0 n ops Q rest ⟨(d, r) :: fr, hp⟩) : AWl P s0 n ops Q (⟨some d, op, ty, ps, af, some (j, b)⟩ :: rest) ⟨fr, hp⟩ := AWl.qG' rfl hy hl hen rfl hs hd h
theorem AWs.sG {d : Nat} {op : Op} {j : Nat} {b : Bool} {u : Value} {e : Nat} (hy : (ops[j]?).bind (·.dst) = some e) (hl : look fr e = some (.d (ex u))) (hne : isB u b = false) (hen : Nat.blt e n = true) (hd : Nat.blt d n = true) (h : AWl P s0 n ops Q rest ⟨(d, .d (ex undef)) :: fr, hp⟩) : AWl P s0 n ops Q (⟨some d, op, ty, ps, af, some (j, b)⟩ :: rest) ⟨fr, hp⟩ := AWl.sG rfl hy hl hne hen rfl hd h
end
end Go.Proofs.YteicdddphdomkaaGreat
namespace Go.Proofs.YteicdddphdomkaaGreat
open Go.RowKit
def plO : List Field → Option (List (Nat × Nat))
 | [] => some []
 | f :: l => match tlook tyTab f.type with
  | some p => match plO l with
   | some r => some ((f.offset, p.n) :: r)
   | none => none
  | none => none
theorem plO_ok : ∀ {l : List Field} {r : List (Nat × Nat)}, plO l = some r → FieldsT Tryz.prog l r
 | [], r, h => by cases h; exact FieldsT.nil
 | f :: l, r, h => by
  unfold plO at h
  cases ht : tlook tyTab f.type with
  | none => rw [ht] at h; cases h
  | some p =>
   rw [ht] at h
   simp only at h
   cases hr : plO l with
   | none => rw [hr] at h; cases h
   | some r' =>
    rw [hr] at h
    cases h
    obtain ⟨h1, h2⟩ := tlook_ok tab_all ht
    rw [h1] at h2
    exact FieldsT.cons h2 (plO_ok hr)
def PartOk (hp : List Ow) (av : AV) (es : List D) : Prop := av = .d (agD es) ∨ ∃ y, asD hp av = some y ∧ One hp av ∧ es = [y]
theorem PartOk.ag {hp : List Ow} {av : AV} {es : List D} (h : av = .d (agD es)) : PartOk hp av es := .inl h
theorem PartOk.one {hp : List Ow} {av : AV} {y : D} (h : asD hp av = some y) (h1 : One hp av) : PartOk hp av [y] := .inr ⟨y, h, h1, rfl⟩
def snocP : List (Nat × List D) → Nat × List D → Option (List (Nat × List D))
 | [], x => some [x]
 | o :: l, x => match snocP l x with
  | some r => some (o :: r)
  | none => none
theorem snocP_eq : ∀ {l : List (Nat × List D)} {x : Nat × List D} {r : List (Nat × List D)}, snocP l x = some r → r = l ++ [x]
 | [], x, r, h => by cases h; rfl
 | o :: l, x, r, h => by
  unfold snocP at h
  split at h
  ·rename_i r' h'
   cases h
   rw [snocP_eq h']
   rfl
  ·cases h
def PC (hp : List Ow) (arg : Operand → AV) (K : List (Nat × List D) → Prop) : List (Nat × List D) → List (Nat × Operand) → Prop
 | acc, [] => K acc
 | acc, (i, x) :: l => ∃ es, PartOk hp (arg x) es ∧ ∃ acc', snocP acc (i, es) = some acc' ∧ PC hp arg K acc' l
theorem PC.parts {hp : List Ow} {arg : Operand → AV} {K : List (Nat × List D) → Prop} : ∀ {l : List (Nat × Operand)} {acc : List (Nat × List D)}, PC hp arg K acc l → ∃ r, PartsA hp arg l r ∧ K (acc ++ r)
 | [], acc, h => ⟨[], PartsA.nil, by rw [List.append_nil]; exact h⟩
 | (i, x) :: l, acc, ⟨es, h1, acc', h2, h3⟩ => by
  have e := snocP_eq h2
  subst e
  obtain ⟨r, h4, h5⟩ := PC.parts h3
  rw [List.append_assoc, List.singleton_append] at h5
  exact ⟨(i, es) :: r, ⟨rfl, h1, h4⟩, h5⟩
def fillO (place : Nat → Option (Nat × Nat)) : List D → List (Nat × List D) → Option (List D)
 | ds, [] => some ds
 | ds, (i, es) :: r => match place i with
  | some (off, size) => bif Nat.beq es.length size then match splO ds off es with
   | some ds' => fillO place ds' r
   | none => none else none
  | none => none
theorem fillO_eq {place : Nat → Option (Nat × Nat)} : ∀ {r : List (Nat × List D)} {ds x : List D}, fillO place ds r = some x → fillD place ds r = some x
 | [], ds, x, h => h
 | (i, es) :: r, ds, x, h => by
  unfold fillO at h
  unfold fillD
  cases hp : place i with
  | none => rw [hp] at h; cases h
  | some q =>
   obtain ⟨off, size⟩ := q
   rw [hp] at h
   simp only at h ⊢
   cases hb : Nat.beq es.length size with
   | false => rw [hb] at h; cases h
   | true =>
    rw [hb] at h
    simp only [cond_true] at h
    cases hs : splO ds off es with
    | none => rw [hs] at h; cases h
    | some ds' =>
     rw [hs] at h
     obtain ⟨e1, e2⟩ := splO_eq hs
     have e3 := Nat.eq_of_beq_eq_true hb
     have e4 : Nat.ble (off + size) ds.length = true := Nat.ble_eq_true_of_le (by omega)
     rw [e4, ← e1]
     exact fillO_eq h
section
variable {P : Program} {hp : List Ow} {arg : Operand → AV} {dd : Option Tmp} {ty : TypeId} {ps : String} {af : Array Edge} {gd : Option (Nat × Bool)}
theorem Bq.build {t : TypeId} {fs : Array Field} {n b : Nat} {z : Value} {parts : List (Nat × Operand)} {pl : List (Nat × Nat)} {zs : List D} {R : AV → Prop} (ht : Tab Tryz.prog t (.struct fs) n b z) (hpl : plO fs.toList = some pl) (h1 : one1 z.cells.toList = true) (hz : exO z.cells.toList = some zs) (h : PC hp arg (fun r => ∃ ds, fillO (fun i => pl[i]?) zs r = some ds ∧ R (.d (agD ds))) [] parts) : ∃ r, Quiet Tryz.prog hp ⟨dd, .build t parts.toArray, ty, ps, af, gd⟩ arg r ∧ R r := by
 obtain ⟨r, h2, ds, h3, h4⟩ := PC.parts h
 rw [exO_eq hz] at h3
 exact ⟨_, Qs.build ht (plO_ok hpl) h1 h2 (fillO_eq h3), h4⟩
theorem Bq.arr {t e : TypeId} {len n b n' b' : Nat} {z z' : Value} {d : TypeDesc} {parts : List (Nat × Operand)} {zs : List D} {R : AV → Prop} (ht : Tab P t (.array len e) n b z) (he : Tab P e d n' b' z') (h1 : one1 z.cells.toList = true) (hz : exO z.cells.toList = some zs) (h : PC hp arg (fun r => ∃ ds, fillO (fun i => some (i * n', n')) zs r = some ds ∧ R (.d (agD ds))) [] parts) : ∃ r, Quiet P hp ⟨dd, .build t parts.toArray, ty, ps, af, gd⟩ arg r ∧ R r := by
 obtain ⟨r, h2, ds, h3, h4⟩ := PC.parts h
 rw [exO_eq hz] at h3
 exact ⟨_, Qs.buildArr ht he h1 h2 (fillO_eq h3), h4⟩
theorem Bq.slice1 {t e : TypeId} {n b n' b' : Nat} {z z' : Value} {d : TypeDesc} {x : Operand} {es : List D} (hx : arg x = .d (agD es)) (ht : Tab P t (.slice e) n b z) (he : Tab P e d n' b' z') (hl : es.length = n') (hn : Nat.blt 0 n' = true) (hz : z'.cells.size = n') (h24 : Nat.ble n' 16777216 = true) (h1 : one1 z'.cells.toList = true) : Quiet P hp ⟨dd, .buildSlice t 1 #[(0, x)], ty, ps, af, gd⟩ arg (.d (slD e n' [es])) := by
 have hb : (Nat.beq es.length n' && Nat.ble (0 * n' + n') (List.replicate (1 * n') anyD).length) = true := by
  simp [hl]
 have hf : fillD (fun i => some (i * n', n')) (List.replicate (1 * n') anyD) [(0, es)] = some es := by
  simp only [fillD]
  rw [hb]
  simp only [cond_true, spl, Option.some.injEq]
  rw [Nat.zero_mul, List.take_zero, List.nil_append, List.drop_eq_nil_of_le (by simp [hl]), List.append_nil]
 have h := Qs.buildSlice (P := P) (hp := hp) (dd := dd) (ty := ty) (ps := ps) (af := af) (gd := gd) (len := 1) (parts := [(0, x)]) (r := [(0, es)]) ht he (by omega) (by simpa [Nat.blt_eq] using hn) hz (by have := Nat.le_of_ble_eq_true h24; omega) h1 (PartsA.ag hx PartsA.nil) hf
 have e1 : chunks n' 1 es = [es] := by
  simp only [chunks]
  rw [← hl, List.take_length]
 rwa [e1] at h
theorem Hq {σ : AS} {acc : List HR} {e : List (Nat × Nat)} {o : Oper} {R : HR → Prop} (hg : o.guard = none) (h : ∃ r, Quiet P σ.hp o (argH σ acc e) r ∧ R (.av r)) : ∃ r, HStep P σ acc e o r ∧ R r := by
 obtain ⟨r, h1, h2⟩ := h
 exact ⟨_, HStep.q hg h1, h2⟩
end
end Go.Proofs.YteicdddphdomkaaGreat
namespace Go.Proofs.YteicdddphdomkaaGreat
open Go.RowKit
section
variable {P : Program} {s0 : GS} {m : Nat} {ops : Array Oper} {Q : Exit → AS → Prop} {rest : List Oper} {σ : AS} {hp : List Ow} {arg : Operand → AV} {dd : Option Tmp} {ty : TypeId} {ps : String} {af : Array Edge} {gd : Option (Nat × Bool)} {R : AV → Prop} {H : HR → Prop} {acc : List HR} {e : List (Nat × Nat)}
theorem Gt.move {x : Operand} (h : ∃ r, Quiet P hp ⟨dd, .move x, ty, ps, af, gd⟩ arg r ∧ R r) : ∃ r, Quiet P hp ⟨dd, .move x, ty, ps, af, gd⟩ arg r ∧ R r := h
theorem Gh.move {x : Operand} (h : ∃ r, HStep P σ acc e ⟨dd, .move x, ty, ps, af, gd⟩ r ∧ H r) : ∃ r, HStep P σ acc e ⟨dd, .move x, ty, ps, af, gd⟩ r ∧ H r := h
theorem Gt.assign {x : Operand} (h : ∃ r, Quiet P hp ⟨dd, .assign x, ty, ps, af, gd⟩ arg r ∧ R r) : ∃ r, Quiet P hp ⟨dd, .assign x, ty, ps, af, gd⟩ arg r ∧ R r := h
theorem Gh.assign {x : Operand} (h : ∃ r, HStep P σ acc e ⟨dd, .assign x, ty, ps, af, gd⟩ r ∧ H r) : ∃ r, HStep P σ acc e ⟨dd, .assign x, ty, ps, af, gd⟩ r ∧ H r := h
theorem Gt.load {t : TypeId} {x : Operand} (h : ∃ r, Quiet P hp ⟨dd, .load t x, ty, ps, af, gd⟩ arg r ∧ R r) : ∃ r, Quiet P hp ⟨dd, .load t x, ty, ps, af, gd⟩ arg r ∧ R r := h
theorem Gh.load {t : TypeId} {x : Operand} (h : ∃ r, HStep P σ acc e ⟨dd, .load t x, ty, ps, af, gd⟩ r ∧ H r) : ∃ r, HStep P σ acc e ⟨dd, .load t x, ty, ps, af, gd⟩ r ∧ H r := h
theorem Gt.fieldAddr {t f : Nat} {x : Operand} (h : ∃ r, Quiet P hp ⟨dd, .fieldAddr t x f, ty, ps, af, gd⟩ arg r ∧ R r) : ∃ r, Quiet P hp ⟨dd, .fieldAddr t x f, ty, ps, af, gd⟩ arg r ∧ R r := h
theorem Gh.fieldAddr {t f : Nat} {x : Operand} (h : ∃ r, HStep P σ acc e ⟨dd, .fieldAddr t x f, ty, ps, af, gd⟩ r ∧ H r) : ∃ r, HStep P σ acc e ⟨dd, .fieldAddr t x f, ty, ps, af, gd⟩ r ∧ H r := h
theorem Gt.indexAddr {t : TypeId} {x y : Operand} (h : ∃ r, Quiet P hp ⟨dd, .indexAddr t x y, ty, ps, af, gd⟩ arg r ∧ R r) : ∃ r, Quiet P hp ⟨dd, .indexAddr t x y, ty, ps, af, gd⟩ arg r ∧ R r := h
theorem Gh.indexAddr {t : TypeId} {x y : Operand} (h : ∃ r, HStep P σ acc e ⟨dd, .indexAddr t x y, ty, ps, af, gd⟩ r ∧ H r) : ∃ r, HStep P σ acc e ⟨dd, .indexAddr t x y, ty, ps, af, gd⟩ r ∧ H r := h
theorem Gt.slice {t : TypeId} {x : Operand} {lo hi mx : Option Operand} (h : ∃ r, Quiet P hp ⟨dd, .slice t x lo hi mx, ty, ps, af, gd⟩ arg r ∧ R r) : ∃ r, Quiet P hp ⟨dd, .slice t x lo hi mx, ty, ps, af, gd⟩ arg r ∧ R r := h
theorem Gh.slice {t : TypeId} {x : Operand} {lo hi mx : Option Operand} (h : ∃ r, HStep P σ acc e ⟨dd, .slice t x lo hi mx, ty, ps, af, gd⟩ r ∧ H r) : ∃ r, HStep P σ acc e ⟨dd, .slice t x lo hi mx, ty, ps, af, gd⟩ r ∧ H r := h
theorem Gt.len {l : Array Operand} {ts : Array TypeId} (h : ∃ r, Quiet P hp ⟨dd, .call { callee := .builtin .len, args := l, argTypes := ts }, ty, ps, af, gd⟩ arg r ∧ R r) : ∃ r, Quiet P hp ⟨dd, .call { callee := .builtin .len, args := l, argTypes := ts }, ty, ps, af, gd⟩ arg r ∧ R r := h
theorem Gh.len {l : Array Operand} {ts : Array TypeId} (h : ∃ r, HStep P σ acc e ⟨dd, .call { callee := .builtin .len, args := l, argTypes := ts }, ty, ps, af, gd⟩ r ∧ H r) : ∃ r, HStep P σ acc e ⟨dd, .call { callee := .builtin .len, args := l, argTypes := ts }, ty, ps, af, gd⟩ r ∧ H r := h
theorem Gt.max {l : Array Operand} {ts : Array TypeId} (h : ∃ r, Quiet P hp ⟨dd, .call { callee := .builtin .max, args := l, argTypes := ts }, ty, ps, af, gd⟩ arg r ∧ R r) : ∃ r, Quiet P hp ⟨dd, .call { callee := .builtin .max, args := l, argTypes := ts }, ty, ps, af, gd⟩ arg r ∧ R r := h
theorem Gt.callv {f : Operand} {l : Array Operand} {ts : Array TypeId} (h : ∃ r, Quiet P hp ⟨dd, .call { callee := .value f, args := l, argTypes := ts }, ty, ps, af, gd⟩ arg r ∧ R r) : ∃ r, Quiet P hp ⟨dd, .call { callee := .value f, args := l, argTypes := ts }, ty, ps, af, gd⟩ arg r ∧ R r := h
theorem Gh.callv {f : Operand} {l : Array Operand} {ts : Array TypeId} (h : ∃ r, HStep P σ acc e ⟨dd, .call { callee := .value f, args := l, argTypes := ts }, ty, ps, af, gd⟩ r ∧ H r) : ∃ r, HStep P σ acc e ⟨dd, .call { callee := .value f, args := l, argTypes := ts }, ty, ps, af, gd⟩ r ∧ H r := h
theorem Gt.add {t u : TypeId} {x y : Operand} (h : ∃ r, Quiet P hp ⟨dd, .binOp .add t x y u, ty, ps, af, gd⟩ arg r ∧ R r) : ∃ r, Quiet P hp ⟨dd, .binOp .add t x y u, ty, ps, af, gd⟩ arg r ∧ R r := h
theorem Gh.add {t u : TypeId} {x y : Operand} (h : ∃ r, HStep P σ acc e ⟨dd, .binOp .add t x y u, ty, ps, af, gd⟩ r ∧ H r) : ∃ r, HStep P σ acc e ⟨dd, .binOp .add t x y u, ty, ps, af, gd⟩ r ∧ H r := h
theorem Gt.sub {t u : TypeId} {x y : Operand} (h : ∃ r, Quiet P hp ⟨dd, .binOp .sub t x y u, ty, ps, af, gd⟩ arg r ∧ R r) : ∃ r, Quiet P hp ⟨dd, .binOp .sub t x y u, ty, ps, af, gd⟩ arg r ∧ R r := h
theorem Gh.sub {t u : TypeId} {x y : Operand} (h : ∃ r, HStep P σ acc e ⟨dd, .binOp .sub t x y u, ty, ps, af, gd⟩ r ∧ H r) : ∃ r, HStep P σ acc e ⟨dd, .binOp .sub t x y u, ty, ps, af, gd⟩ r ∧ H r := h
theorem Gt.rem {t u : TypeId} {x y : Operand} (h : ∃ r, Quiet P hp ⟨dd, .binOp .rem t x y u, ty, ps, af, gd⟩ arg r ∧ R r) : ∃ r, Quiet P hp ⟨dd, .binOp .rem t x y u, ty, ps, af, gd⟩ arg r ∧ R r := h
theorem Gh.rem {t u : TypeId} {x y : Operand} (h : ∃ r, HStep P σ acc e ⟨dd, .binOp .rem t x y u, ty, ps, af, gd⟩ r ∧ H r) : ∃ r, HStep P σ acc e ⟨dd, .binOp .rem t x y u, ty, ps, af, gd⟩ r ∧ H r := h
theorem Gt.bin {op : BinOp} {t u : TypeId} {x y : Operand} (h : ∃ r, Quiet P hp ⟨dd, .binOp op t x y u, ty, ps, af, gd⟩ arg r ∧ R r) : ∃ r, Quiet P hp ⟨dd, .binOp op t x y u, ty, ps, af, gd⟩ arg r ∧ R r := h
theorem Gh.bin {op : BinOp} {t u : TypeId} {x y : Operand} (h : ∃ r, HStep P σ acc e ⟨dd, .binOp op t x y u, ty, ps, af, gd⟩ r ∧ H r) : ∃ r, HStep P σ acc e ⟨dd, .binOp op t x y u, ty, ps, af, gd⟩ r ∧ H r := h
theorem Gt.un {op : UnOp} {t : TypeId} {x : Operand} (h : ∃ r, Quiet P hp ⟨dd, .unOp op t x, ty, ps, af, gd⟩ arg r ∧ R r) : ∃ r, Quiet P hp ⟨dd, .unOp op t x, ty, ps, af, gd⟩ arg r ∧ R r := h
theorem Gt.ext {x : Operand} {i : Nat} (h : ∃ r, Quiet P hp ⟨dd, .extract x i, ty, ps, af, gd⟩ arg r ∧ R r) : ∃ r, Quiet P hp ⟨dd, .extract x i, ty, ps, af, gd⟩ arg r ∧ R r := h
theorem Gh.ext {x : Operand} {i : Nat} (h : ∃ r, HStep P σ acc e ⟨dd, .extract x i, ty, ps, af, gd⟩ r ∧ H r) : ∃ r, HStep P σ acc e ⟨dd, .extract x i, ty, ps, af, gd⟩ r ∧ H r := h
theorem Gt.pick {c x y : Operand} (h : ∃ r, Quiet P hp ⟨dd, .pick c x y, ty, ps, af, gd⟩ arg r ∧ R r) : ∃ r, Quiet P hp ⟨dd, .pick c x y, ty, ps, af, gd⟩ arg r ∧ R r := h
theorem Gh.pick {c x y : Operand} (h : ∃ r, HStep P σ acc e ⟨dd, .pick c x y, ty, ps, af, gd⟩ r ∧ H r) : ∃ r, HStep P σ acc e ⟨dd, .pick c x y, ty, ps, af, gd⟩ r ∧ H r := h
theorem Gt.build {t : TypeId} {pp : Array (Nat × Operand)} (h : ∃ r, Quiet P hp ⟨dd, .build t pp, ty, ps, af, gd⟩ arg r ∧ R r) : ∃ r, Quiet P hp ⟨dd, .build t pp, ty, ps, af, gd⟩ arg r ∧ R r := h
theorem Gh.build {t : TypeId} {pp : Array (Nat × Operand)} (h : ∃ r, HStep P σ acc e ⟨dd, .build t pp, ty, ps, af, gd⟩ r ∧ H r) : ∃ r, HStep P σ acc e ⟨dd, .build t pp, ty, ps, af, gd⟩ r ∧ H r := h
theorem Gt.bslice {t n : Nat} {pp : Array (Nat × Operand)} (h : ∃ r, Quiet P hp ⟨dd, .buildSlice t n pp, ty, ps, af, gd⟩ arg r ∧ R r) : ∃ r, Quiet P hp ⟨dd, .buildSlice t n pp, ty, ps, af, gd⟩ arg r ∧ R r := h
theorem Gh.bslice {t n : Nat} {pp : Array (Nat × Operand)} (h : ∃ r, HStep P σ acc e ⟨dd, .buildSlice t n pp, ty, ps, af, gd⟩ r ∧ H r) : ∃ r, HStep P σ acc e ⟨dd, .buildSlice t n pp, ty, ps, af, gd⟩ r ∧ H r := h
theorem Gh.conv {t u : TypeId} {x : Operand} (h : ∃ r, HStep P σ acc e ⟨dd, .convert t u x, ty, ps, af, gd⟩ r ∧ H r) : ∃ r, HStep P σ acc e ⟨dd, .convert t u x, ty, ps, af, gd⟩ r ∧ H r := h
theorem Gh.alloc {t : TypeId} (h : ∃ r, HStep P σ acc e ⟨dd, .alloc t, ty, ps, af, gd⟩ r ∧ H r) : ∃ r, HStep P σ acc e ⟨dd, .alloc t, ty, ps, af, gd⟩ r ∧ H r := h
theorem Ga.alloc {t : TypeId} (h : AWl P s0 m ops Q (⟨dd, .alloc t, ty, ps, af, gd⟩ :: rest) σ) : AWl P s0 m ops Q (⟨dd, .alloc t, ty, ps, af, gd⟩ :: rest) σ := h
theorem Ga.store {t : TypeId} {x y : Operand} (h : AWl P s0 m ops Q (⟨dd, .store t x y, ty, ps, af, gd⟩ :: rest) σ) : AWl P s0 m ops Q (⟨dd, .store t x y, ty, ps, af, gd⟩ :: rest) σ := h
theorem Ga.box {t : TypeId} {x : Operand} (h : AWl P s0 m ops Q (⟨dd, .box t x, ty, ps, af, gd⟩ :: rest) σ) : AWl P s0 m ops Q (⟨dd, .box t x, ty, ps, af, gd⟩ :: rest) σ := h
theorem Ga.app {l : Array Operand} {ts : Array TypeId} (h : AWl P s0 m ops Q (⟨dd, .call { callee := .builtin .append, args := l, argTypes := ts }, ty, ps, af, gd⟩ :: rest) σ) : AWl P s0 m ops Q (⟨dd, .call { callee := .builtin .append, args := l, argTypes := ts }, ty, ps, af, gd⟩ :: rest) σ := h
theorem Ga.mk {t : TypeId} {x y : Operand} (h : AWl P s0 m ops Q (⟨dd, .makeSlice t x y, ty, ps, af, gd⟩ :: rest) σ) : AWl P s0 m ops Q (⟨dd, .makeSlice t x y, ty, ps, af, gd⟩ :: rest) σ := h
theorem Ga.b0 {t : TypeId} (h : AWl P s0 m ops Q (⟨dd, .buildSlice t 0 #[], ty, ps, af, gd⟩ :: rest) σ) : AWl P s0 m ops Q (⟨dd, .buildSlice t 0 #[], ty, ps, af, gd⟩ :: rest) σ := h
theorem Gc.cond {c : Operand} {x y : Code} (h : AWp P s0 m (.cond c x y) Q σ) : AWp P s0 m (.cond c x y) Q σ := h
end
end Go.Proofs.YteicdddphdomkaaGreat
