/-
  The reference's reduced: a row less a multiple of another one.
-/
import Derived.Test.YteefhmdameeoaaaGreatRefm
set_option linter.unusedSimpArgs false
set_option linter.unusedVariables false
namespace Go.Proofs.YteefhmdameeoaaaGreat
open Go.RowKit

/-- A rational number as a value. -/
def RatV (w : World) (v : Value) (q : Rat) : Prop := ∃ (b b' : Bool) (A A' : Option Addr) (m c m' c' : Nat), v = .agg #[.bool b, .slice A m c, .bool b', .slice A' m' c'] ∧ IsRat w (.bool b) (.slice A m c) (.bool b') (.slice A' m' c') q
theorem RatV.ext {w w' : World} {v : Value} {q : Rat} (h : RatV w v q) (he : Ext w w') : RatV w' v q := by
  obtain ⟨b, b', A, A', m, c, m', c', h1, h2⟩ := h
  exact ⟨b, b', A, A', m, c, m', c', h1, h2.ext he⟩
/-- A row of eight rational numbers in 32 cells. -/
def RowV (w : World) (cs : Array Value) (q : Nat → Rat) : Prop := cs.size = 32 ∧ ∀ j, j < 8 →
  ∃ (b b' : Bool) (A A' : Option Addr) (m c m' c' : Nat), cs[j * 4]? = some (.bool b) ∧ cs[j * 4 + 1]? = some (.slice A m c) ∧ cs[j * 4 + 2]? = some (.bool b') ∧ cs[j * 4 + 3]? = some (.slice A' m' c') ∧ IsRat w (.bool b) (.slice A m c) (.bool b') (.slice A' m' c') (q j)
theorem RowV.ext {w w' : World} {cs : Array Value} {q : Nat → Rat} (h : RowV w cs q) (he : Ext w w') : RowV w' cs q := by
  refine ⟨h.1, fun j hj => ?_⟩
  obtain ⟨b, b', A, A', m, c, m', c', h1, h2, h3, h4, h5⟩ := h.2 j hj
  exact ⟨b, b', A, A', m, c, m', c', h1, h2, h3, h4, h5.ext he⟩
theorem RowV.mat {w : World} {g : Nat} {cs : Array Value} {q : Nat → Rat} (h : RowV w cs q) (hb : Blk w g 76 cs) : MatAt w g 1 (fun _ => q) := by
  refine ⟨⟨cs, hb, h.1⟩, fun k i hk hi _ => ?_⟩
  obtain rfl : k = 0 := by omega
  obtain ⟨b, b', A, A', m, c, m', c', h1, h2, h3, h4, h5⟩ := h.2 i hi
  have e : 0 * 32 + i * 4 = i * 4 := by omega
  rw [e]
  exact ⟨b, b', A, A', m, c, m', c', (hb.cell _).trans h1, (hb.cell _).trans h2, (hb.cell _).trans h3, (hb.cell _).trans h4, h5⟩
theorem MatAt.rowV {w : World} {g : Nat} {q : Nat → Rat} (h : MatAt w g 1 (fun _ => q)) : ∃ cs, Blk w g 76 cs ∧ RowV w cs q := by
  obtain ⟨⟨cs, hb, hs⟩, hr⟩ := h
  refine ⟨cs, hb, by omega, fun j hj => ?_⟩
  obtain ⟨b, b', A, A', m, c, m', c', h1, h2, h3, h4, h5⟩ := hr 0 j (by omega) hj trivial
  have e : 0 * 32 + j * 4 = j * 4 := by omega
  rw [e] at h1 h2 h3 h4
  exact ⟨b, b', A, A', m, c, m', c', (hb.cell _).symm.trans h1, (hb.cell _).symm.trans h2, (hb.cell _).symm.trans h3, (hb.cell _).symm.trans h4, h5⟩
theorem MatAt.at1 {w : World} {g : Nat} {q : Nat → Rat} (h : MatAt w g 1 (fun _ => q)) {j : Nat} (hj : j < 8) : RatAt w g (j * 4) (q j) := by
  have := h.2 0 j (by omega) hj trivial
  rwa [show 0 * 32 + j * 4 = j * 4 by omega] at this
theorem MatAt.put1 {w : World} {g : Nat} {q q' : Nat → Rat} (h : MatAt w g 1 (fun _ => q)) {i : Nat} (hi : i < 8) {b b' : Bool} {A A' : Option Addr} {m c m' c' : Nat} {r : Rat} (hq : IsRat w (.bool b) (.slice A m c) (.bool b') (.slice A' m' c') r)
    (h1 : q' i = r) (h2 : ∀ b, b < 8 → b ≠ i → q' b = q b) : MatAt (rat4 w g (i * 4) (.bool b) (.slice A m c) (.bool b') (.slice A' m' c')) g 1 (fun _ => q') := by
  have := MatP.put (D' := fun _ _ => True) (M' := fun _ => q') h (k := 0) (by omega) hi hq h1 (fun a b ha hb _ hne => ⟨trivial, h2 b hb (fun e => hne ⟨by omega, e⟩)⟩)
  rwa [show 0 * 32 + i * 4 = i * 4 by omega] at this
theorem RowV.one {w : World} {cs : Array Value} {q : Nat → Rat} (h : RowV w cs q) : ∀ v ∈ cs.toList, v.oneCell' = true := by
  intro v hv
  obtain ⟨i, hi⟩ := List.mem_iff_getElem?.1 hv
  rw [Array.getElem?_toList] at hi
  have hi32 : i < 32 := by have := (Array.getElem?_eq_some_iff.1 hi).1; have := h.1; omega
  obtain ⟨b, b', A, A', m, c, m', c', h1, h2, h3, h4, _⟩ := h.2 (i / 4) (by omega)
  have : i % 4 = 0 ∨ i % 4 = 1 ∨ i % 4 = 2 ∨ i % 4 = 3 := by omega
  rcases this with e | e | e | e
  · rw [show i = i / 4 * 4 by omega, h1] at hi; cases hi; rfl
  · rw [show i = i / 4 * 4 + 1 by omega, h2] at hi; cases hi; rfl
  · rw [show i = i / 4 * 4 + 2 by omega, h3] at hi; cases hi; rfl
  · rw [show i = i / 4 * 4 + 3 by omega, h4] at hi; cases hi; rfl
theorem run_load_blk {w : World} {g : Nat} {cs : Array Value} (hb : Blk w g 76 cs) (hs : cs.size = 32) : (loadVar 76 ⟨g, 0, none⟩).run Tryz.prog w = .ok (.agg cs) w := by
  have hl := run_load_row32 w g 0 (fun j hj => by rw [Nat.zero_add, hb.cell]; exact ⟨_, Array.getElem?_eq_getElem (by omega)⟩)
  rw [hl]
  have : rowCells w g 0 = cs := by
    apply Array.ext
    · rw [rowCells_size, hs]
    · intro i h1 h2
      have h3 := rowCells_get (w := w) (g := g) (o := 0) (j := i) (v := cs[i]) (by omega) (by rw [Nat.zero_add, hb.cell]; exact Array.getElem?_eq_getElem h2)
      exact (Array.getElem?_eq_some_iff.1 h3).2
  rw [this]
theorem setAll_list : ∀ (vs : List Value) (o : Nat) (w : World) (g : Nat) (t : TypeId) (cur : List Value), Blk w g t cur.toArray → o + vs.length = cur.length → Blk (w.setCells g o vs) g t (cur.take o ++ vs).toArray
  | [], o, w, g, t, cur, h, hl => by
    rw [List.append_nil, List.take_of_length_le (by simp at hl; omega)]
    exact h
  | v :: vs, o, w, g, t, cur, h, hl => by
    have h1 := Blk.set h o v
    rw [List.setIfInBounds_toArray] at h1
    have h2 := setAll_list vs (o + 1) _ g t (cur.set o v) h1 (by simp at *; omega)
    have e : (cur.set o v).take (o + 1) ++ vs = cur.take o ++ v :: vs := by
      have ho : o < cur.length := by simp at hl; omega
      rw [List.take_succ_eq_append_getElem (by simpa using ho)]
      simp [List.take_set_of_le]
    rw [e] at h2
    exact h2
theorem blk_setAll {w : World} {g : Nat} {t : TypeId} {cur cs : Array Value} (h : Blk w g t cur) (hs : cs.size = cur.size) : Blk (w.setCells g 0 cs.toList) g t cs := by
  have h1 : Blk w g t cur.toList.toArray := by simpa using h
  have := setAll_list cs.toList 0 w g t cur.toList h1 (by simpa using hs)
  simpa using this
theorem run_store_blk {w : World} {g : Nat} {cur cs : Array Value} {q : Nat → Rat} (hb : Blk w g 76 cur) (hs : cur.size = 32) (h : RowV w cs q) : (storeVar 76 ⟨g, 0, none⟩ (.agg cs)).run Tryz.prog w = .ok () (w.setCells g 0 cs.toList) :=
  run_store_row32 w g 0 cs h.1 h.one (fun j hj => by rw [Nat.zero_add, hb.cell]; exact ⟨_, Array.getElem?_eq_getElem (by omega)⟩) (fun j => hb.frozen j)
theorem run_cells_blk {w : World} {g : Nat} {cur cs : Array Value} {q : Nat → Rat} (hb : Blk w g 76 cur) (hs : cur.size = 32) (h : RowV w cs q) : (storeCells ⟨g, 0, none⟩ cs.toList).run Tryz.prog w = .ok () (w.setCells g 0 cs.toList) := by
  have hst := run_storeCells_cells (P := Tryz.prog) g 0 cs.toList 0 w (fun j hj => by
    have : j < cur.size := by rw [hs, ← h.1]; simpa using hj
    rw [Nat.add_zero, Nat.zero_add, hb.cell, Array.getElem?_eq_getElem this]; rfl) (fun j _ => hb.frozen _) h.one
  simpa using hst
theorem RowV.setCells {w : World} {cs : Array Value} {q : Nat → Rat} (h : RowV w cs q) {g : Nat} (ht : Ty w g 76) (vs : List Value) (o : Nat) : RowV (w.setCells g o vs) cs q := by
  refine ⟨h.1, fun j hj => ?_⟩
  obtain ⟨b, b', A, A', m, c, m', c', h1, h2, h3, h4, h5⟩ := h.2 j hj
  exact ⟨b, b', A, A', m, c, m', c', h1, h2, h3, h4, isRat_setCells (by decide) vs o w ht h5⟩
theorem Blk.setFar {w : World} {B g : Nat} {t : TypeId} {cur : Array Value} (h : Blk w B t cur) (hne : B ≠ g) (vs : List Value) (o : Nat) : Blk (w.setCells g o vs) B t cur := by
  induction vs generalizing o w with
  | nil => exact h
  | cons v vs ih => exact ih (h.far (p := ⟨g, o, none⟩) hne v) (o + 1)
def RetRow (q : Nat → Rat) (w : World) (e : Ending) (w' : World) : Prop := ∃ cs, e = .returned (.agg cs) ∧ RowV w' cs q ∧ Ext w w'
def redMid (x y : Nat → Rat) (k n j : Nat) : Rat := if j < n then x j - x k * y j else x j

set_option maxRecDepth 100000 in
set_option maxHeartbeats 3200000 in
theorem Rreduced_any (cs ds : Array Value) (X Y : Nat → Rat) (k N M : Nat) (w : World) (hX : RowV w cs X) (hY : RowV w ds Y) (hk : k < 8) (hN : ∀ j, j < 8 → RSz (X j) N) (hM : ∀ j, j < 8 → RSz (Y j) M) (hNM : 2 * N + M + 1 ≤ 4398046511103) :
    Calls Tryz.prog 55 #[.agg cs, .agg ds, .int .i64 k] w (RetRow (fun j => X j - X k * Y j) w) := by
  obtain ⟨bz, bz', Az, Az', mz, cz, mz', cz', z0, z1, z2, z3, hqz⟩ := hX.2 k hk
  replace hqz := hide hqz
  have hsz := hide (hN k hk)
  have hb0 : Hid (Blk (((w.alloc (.cells cs 76)).alloc (.cells ds 76)).alloc (.cells #[.bool false, .slice none 0 0, .bool false, .slice none 0 0, .bool false, .slice none 0 0, .bool false, .slice none 0 0, .bool false, .slice none 0 0, .bool false, .slice none 0 0, .bool false, .slice none 0 0, .bool false, .slice none 0 0, .bool false, .slice none 0 0, .bool false, .slice none 0 0, .bool false, .slice none 0 0, .bool false, .slice none 0 0, .bool false, .slice none 0 0, .bool false, .slice none 0 0, .bool false, .slice none 0 0, .bool false, .slice none 0 0] 76)) w.heap.size 76 cs) := ((Blk.new _ _ _).alloc _).alloc _
  have q0 : (((w.alloc (.cells cs 76)).alloc (.cells ds 76)).alloc (.cells #[.bool false, .slice none 0 0, .bool false, .slice none 0 0, .bool false, .slice none 0 0, .bool false, .slice none 0 0, .bool false, .slice none 0 0, .bool false, .slice none 0 0, .bool false, .slice none 0 0, .bool false, .slice none 0 0, .bool false, .slice none 0 0, .bool false, .slice none 0 0, .bool false, .slice none 0 0, .bool false, .slice none 0 0, .bool false, .slice none 0 0, .bool false, .slice none 0 0, .bool false, .slice none 0 0, .bool false, .slice none 0 0] 76)).cell? ⟨w.heap.size, k * 4, none⟩ = some (.bool bz) := (hb0.out.cell _).trans z0
  have q1 : (((w.alloc (.cells cs 76)).alloc (.cells ds 76)).alloc (.cells #[.bool false, .slice none 0 0, .bool false, .slice none 0 0, .bool false, .slice none 0 0, .bool false, .slice none 0 0, .bool false, .slice none 0 0, .bool false, .slice none 0 0, .bool false, .slice none 0 0, .bool false, .slice none 0 0, .bool false, .slice none 0 0, .bool false, .slice none 0 0, .bool false, .slice none 0 0, .bool false, .slice none 0 0, .bool false, .slice none 0 0, .bool false, .slice none 0 0, .bool false, .slice none 0 0, .bool false, .slice none 0 0] 76)).cell? ⟨w.heap.size, k * 4 + 1, none⟩ = some (.slice Az mz cz) := (hb0.out.cell _).trans z1
  have q2 : (((w.alloc (.cells cs 76)).alloc (.cells ds 76)).alloc (.cells #[.bool false, .slice none 0 0, .bool false, .slice none 0 0, .bool false, .slice none 0 0, .bool false, .slice none 0 0, .bool false, .slice none 0 0, .bool false, .slice none 0 0, .bool false, .slice none 0 0, .bool false, .slice none 0 0, .bool false, .slice none 0 0, .bool false, .slice none 0 0, .bool false, .slice none 0 0, .bool false, .slice none 0 0, .bool false, .slice none 0 0, .bool false, .slice none 0 0, .bool false, .slice none 0 0, .bool false, .slice none 0 0] 76)).cell? ⟨w.heap.size, k * 4 + 2, none⟩ = some (.bool bz') := (hb0.out.cell _).trans z2
  have q3 : (((w.alloc (.cells cs 76)).alloc (.cells ds 76)).alloc (.cells #[.bool false, .slice none 0 0, .bool false, .slice none 0 0, .bool false, .slice none 0 0, .bool false, .slice none 0 0, .bool false, .slice none 0 0, .bool false, .slice none 0 0, .bool false, .slice none 0 0, .bool false, .slice none 0 0, .bool false, .slice none 0 0, .bool false, .slice none 0 0, .bool false, .slice none 0 0, .bool false, .slice none 0 0, .bool false, .slice none 0 0, .bool false, .slice none 0 0, .bool false, .slice none 0 0, .bool false, .slice none 0 0] 76)).cell? ⟨w.heap.size, k * 4 + 3, none⟩ = some (.slice Az' mz' cz') := (hb0.out.cell _).trans z3
  have hE0 : Hid (Ext w ((((w.alloc (.cells cs 76)).alloc (.cells ds 76)).alloc (.cells #[.bool false, .slice none 0 0, .bool false, .slice none 0 0, .bool false, .slice none 0 0, .bool false, .slice none 0 0, .bool false, .slice none 0 0, .bool false, .slice none 0 0, .bool false, .slice none 0 0, .bool false, .slice none 0 0, .bool false, .slice none 0 0, .bool false, .slice none 0 0, .bool false, .slice none 0 0, .bool false, .slice none 0 0, .bool false, .slice none 0 0, .bool false, .slice none 0 0, .bool false, .slice none 0 0, .bool false, .slice none 0 0] 76)).alloc (.cells #[.bool bz, .slice Az mz cz, .bool bz', .slice Az' mz' cz'] 74))) := ((((Ext.refl w).alloc _).alloc _).alloc _).alloc _
  have hM0 : Hid (MatAt ((((w.alloc (.cells cs 76)).alloc (.cells ds 76)).alloc (.cells #[.bool false, .slice none 0 0, .bool false, .slice none 0 0, .bool false, .slice none 0 0, .bool false, .slice none 0 0, .bool false, .slice none 0 0, .bool false, .slice none 0 0, .bool false, .slice none 0 0, .bool false, .slice none 0 0, .bool false, .slice none 0 0, .bool false, .slice none 0 0, .bool false, .slice none 0 0, .bool false, .slice none 0 0, .bool false, .slice none 0 0, .bool false, .slice none 0 0, .bool false, .slice none 0 0, .bool false, .slice none 0 0] 76)).alloc (.cells #[.bool bz, .slice Az mz cz, .bool bz', .slice Az' mz' cz'] 74)) w.heap.size 1 (fun _ => X)) := (hX.ext hE0.out).mat (hb0.out.alloc _)
  have hB1 : Hid (Blk ((((w.alloc (.cells cs 76)).alloc (.cells ds 76)).alloc (.cells #[.bool false, .slice none 0 0, .bool false, .slice none 0 0, .bool false, .slice none 0 0, .bool false, .slice none 0 0, .bool false, .slice none 0 0, .bool false, .slice none 0 0, .bool false, .slice none 0 0, .bool false, .slice none 0 0, .bool false, .slice none 0 0, .bool false, .slice none 0 0, .bool false, .slice none 0 0, .bool false, .slice none 0 0, .bool false, .slice none 0 0, .bool false, .slice none 0 0, .bool false, .slice none 0 0, .bool false, .slice none 0 0] 76)).alloc (.cells #[.bool bz, .slice Az mz cz, .bool bz', .slice Az' mz' cz'] 74)) (w.heap.size + 1) 76 ds) := ((Blk.new' _ _ (by simp)).alloc _).alloc _
  have hB2 : Hid (Blk ((((w.alloc (.cells cs 76)).alloc (.cells ds 76)).alloc (.cells #[.bool false, .slice none 0 0, .bool false, .slice none 0 0, .bool false, .slice none 0 0, .bool false, .slice none 0 0, .bool false, .slice none 0 0, .bool false, .slice none 0 0, .bool false, .slice none 0 0, .bool false, .slice none 0 0, .bool false, .slice none 0 0, .bool false, .slice none 0 0, .bool false, .slice none 0 0, .bool false, .slice none 0 0, .bool false, .slice none 0 0, .bool false, .slice none 0 0, .bool false, .slice none 0 0, .bool false, .slice none 0 0] 76)).alloc (.cells #[.bool bz, .slice Az mz cz, .bool bz', .slice Az' mz' cz'] 74)) (w.heap.size + 2) 76 zRow) := (Blk.new' _ _ (by simp)).alloc _
  have hB3 : Hid (Blk ((((w.alloc (.cells cs 76)).alloc (.cells ds 76)).alloc (.cells #[.bool false, .slice none 0 0, .bool false, .slice none 0 0, .bool false, .slice none 0 0, .bool false, .slice none 0 0, .bool false, .slice none 0 0, .bool false, .slice none 0 0, .bool false, .slice none 0 0, .bool false, .slice none 0 0, .bool false, .slice none 0 0, .bool false, .slice none 0 0, .bool false, .slice none 0 0, .bool false, .slice none 0 0, .bool false, .slice none 0 0, .bool false, .slice none 0 0, .bool false, .slice none 0 0, .bool false, .slice none 0 0] 76)).alloc (.cells #[.bool bz, .slice Az mz cz, .bool bz', .slice Az' mz' cz'] 74)) (w.heap.size + 3) 74 #[.bool bz, .slice Az mz cz, .bool bz', .slice Az' mz' cz']) := Blk.new' _ _ (by simp)
  replace hX := hide hX
  replace hY := hide hY
  replace hN := hide hN
  replace hM := hide hM
  clear z0 z1 z2 z3 hb0
  go_enter Tryz.func55, Tryz.ntmps55
  go_wp2
  generalize ((((w.alloc (.cells cs 76)).alloc (.cells ds 76)).alloc (.cells #[.bool false, .slice none 0 0, .bool false, .slice none 0 0, .bool false, .slice none 0 0, .bool false, .slice none 0 0, .bool false, .slice none 0 0, .bool false, .slice none 0 0, .bool false, .slice none 0 0, .bool false, .slice none 0 0, .bool false, .slice none 0 0, .bool false, .slice none 0 0, .bool false, .slice none 0 0, .bool false, .slice none 0 0, .bool false, .slice none 0 0, .bool false, .slice none 0 0, .bool false, .slice none 0 0, .bool false, .slice none 0 0] 76)).alloc (.cells #[.bool bz, .slice Az mz cz, .bool bz', .slice Az' mz' cz'] 74)) = w4 at *
  clear q0 q1 q2 q3
  obtain ⟨G0, hG0⟩ : ∃ G0, G0 = w.heap.size := ⟨_, rfl⟩
  obtain ⟨G1, hG1⟩ : ∃ G1, G1 = w.heap.size + 1 := ⟨_, rfl⟩
  obtain ⟨G2, hG2⟩ : ∃ G2, G2 = w.heap.size + 1 + 1 := ⟨_, rfl⟩
  obtain ⟨G3, hG3⟩ : ∃ G3, G3 = w.heap.size + 1 + 1 + 1 := ⟨_, rfl⟩
  rw [← hG3] at hB3
  rw [← hG2] at hB2
  rw [← hG1] at hB1
  rw [← hG0] at hM0
  rw [← hG3, ← hG2, ← hG1, ← hG0]
  replace hG0 := hide hG0
  replace hG1 := hide hG1
  replace hG2 := hide hG2
  replace hG3 := hide hG3
  go_loopw [8] (fun i wr => ∃ n : Nat, n ≤ 8 ∧ i = .int .i64 n ∧ Hid (MatAt wr G0 1 (fun _ => redMid X Y k n) ∧ Blk wr G1 76 ds ∧ Blk wr G2 76 zRow ∧ Blk wr G3 74 #[.bool bz, .slice Az mz cz, .bool bz', .slice Az' mz' cz'] ∧ Ext w wr)) (fun i _ => 8 - (intOf i).toNat)
  case atStart => exact ⟨0, by omega, rfl, by rw [show redMid X Y k 0 = X from funext fun j => by simp [redMid]]; exact hM0.out, hB1.out, hB2.out, hB3.out, hE0.out⟩
  case round =>
    clear hM0 hB1 hB2 hB3 hE0
    obtain ⟨n, hn, rfl, hI⟩ := hrel
    by_cases hlt : n < 8
    · have hd8 : decide ((n : Int) < 8) = true := by simp; omega
      obtain ⟨bx, bx', Ax, Ax', mx, cx, mx', cx', x0, x1, x2, x3, hqx⟩ := MatAt.at1 hI.out.1 hlt
      obtain ⟨bv, bv', Av, Av', mv, cv, mv', cv', y0, y1, y2, y3, hqy⟩ := hY.out.2 n hlt
      have hx0 := hide x0
      have hx1 := hide x1
      have hx2 := hide x2
      have hx3 := hide x3
      have hy0 := hide ((hI.out.2.1.cell (n * 4)).trans y0)
      have hy1 := hide ((hI.out.2.1.cell (n * 4 + 1)).trans y1)
      have hy2 := hide ((hI.out.2.1.cell (n * 4 + 2)).trans y2)
      have hy3 := hide ((hI.out.2.1.cell (n * 4 + 3)).trans y3)
      have hz0 : Hid (wr.cell? ⟨G3, 0, none⟩ = some (.bool bz)) := hI.out.2.2.2.1.cell 0
      have hz1 : Hid (wr.cell? ⟨G3, 1, none⟩ = some (.slice Az mz cz)) := hI.out.2.2.2.1.cell 1
      have hz2 : Hid (wr.cell? ⟨G3, 2, none⟩ = some (.bool bz')) := hI.out.2.2.2.1.cell 2
      have hz3 : Hid (wr.cell? ⟨G3, 3, none⟩ = some (.slice Az' mz' cz')) := hI.out.2.2.2.1.cell 3
      have exx : redMid X Y k n n = X n := by simp [redMid]
      rw [exx] at hqx
      have hstep : Hid (redMid X Y k (n + 1) n = X n - X k * Y n ∧ ∀ b, b < 8 → b ≠ n → redMid X Y k (n + 1) b = redMid X Y k n b) := ⟨by simp [redMid], fun b _ hne => by
        unfold redMid
        by_cases h1 : b < n
        · rw [if_pos h1, if_pos (by omega)]
        · rw [if_neg h1, if_neg (by omega)]⟩
      have hqzr := hide (hqz.out.ext hI.out.2.2.2.2)
      have hqy := hide (hqy.ext hI.out.2.2.2.2)
      replace hqx := hide hqx
      have hsx := hide (hN.out n hlt)
      have hsy := hide (hM.out n hlt)
      have hsz' := hide hsz.out
      clear x0 x1 x2 x3 y0 y1 y2 y3 exx
      generalize hxx : X n = x at *
      generalize hyy : Y n = y at *
      generalize hzz : X k = z at *
      clear hxx hyy hzz
      have i1 : (n : Int) < 8 := by omega
      have i2 : (0 : Int) ≤ n := by omega
      go_upto_region 5 with (fail)
      refine wp_region_v (by kernel_rfl) [[], [], [(17, 1)], [(18, 2)], [], [], [(21, 5)], [(22, 6)], [(20, 4), (23, 7)], [(19, 3), (24, 8)], [(16, 0)]] [[], [], [1], [1, 2], [], [], [5], [5, 6], [4, 5, 6, 7], [1, 2, 3, 4, 5, 6, 7, 8], [0, 1, 2, 3, 4, 5, 6, 7, 8, 9]]
        [fun v _ => v = .int .i64 (n : Int), fun v _ => v = .int .i64 (n : Int), fun v _ => v = .pointer (some ⟨G0, n * 4, none⟩), fun v _ => v = .agg #[.bool bx, .slice Ax mx cx, .bool bx', .slice Ax' mx' cx'], fun v _ => v = .agg #[.bool bz, .slice Az mz cz, .bool bz', .slice Az' mz' cz'], fun v _ => v = .int .i64 (n : Int), fun v _ => v = .pointer (some ⟨G1, n * 4, none⟩), fun v _ => v = .agg #[.bool bv, .slice Av mv cv, .bool bv', .slice Av' mv' cv'], fun v w' => RatV w' v (z * y), fun v w' => RatV w' v (x - z * y), fun v _ => v = .pointer (some ⟨G0, n * 4, none⟩)]
        rfl (by kernel_rfl) (by kernel_rfl) ?stab ?steps ?fin
      case stab => exact .cons (Stab.eq _) (.cons (Stab.eq _) (.cons (Stab.eq _) (.cons (Stab.eq _) (.cons (Stab.eq _) (.cons (Stab.eq _) (.cons (Stab.eq _) (.cons (Stab.eq _) (.cons (fun _ _ _ he h => h.ext he) (.cons (fun _ _ _ he h => h.ext he) (.cons (Stab.eq _) .nil))))))))))
      case steps =>
        refine .cons ?s0 (.cons ?s1 (.cons ?s2 (.cons ?s3 (.cons ?s4 (.cons ?s5 (.cons ?s6 (.cons ?s7 (.cons ?s8 (.cons ?s9 (.cons ?s10 .nil))))))))))
        case s0 =>
          intro w' ev hE hk ha hc hf
          have e8 : ev (.tmp 8) = .int .i64 (n : Int) := ha 8 (by decide)
          exact opStep_val (by simp [execOp, e8, go_sem]) rfl
        case s1 =>
          intro w' ev hE hk ha hc hf
          have e8 : ev (.tmp 8) = .int .i64 (n : Int) := ha 8 (by decide)
          exact opStep_val (by simp [execOp, e8, go_sem]) rfl
        case s2 =>
          intro w' ev hE hk ha hc hf
          have e17 : ev (.tmp 17) = .int .i64 (n : Int) := hk.1 _ rfl
          have e3 : ev (.tmp 3) = .pointer (some ⟨G0, 0, none⟩) := ha 3 (by decide)
          exact opStep_val (by simp [execOp, e17, e3, i1, i2, go_sem]) rfl
        case s3 =>
          intro w' ev hE hk ha hc hf
          have e18 : ev (.tmp 18) = .pointer (some ⟨G0, n * 4, none⟩) := hk.1 _ rfl
          have k0 := hE.cellv hx0.out
          have k1 := hE.cellv hx1.out
          have k2 := hE.cellv hx2.out
          have k3 := hE.cellv hx3.out
          exact opStep_val (by simp [execOp, e18, k0, k1, k2, k3, go_sem]) rfl
        case s4 =>
          intro w' ev hE hk ha hc hf
          have e7 : ev (.tmp 7) = .pointer (some ⟨G3, 0, none⟩) := ha 7 (by decide)
          have k0 := hE.cellv hz0.out
          have k1 := hE.cellv hz1.out
          have k2 := hE.cellv hz2.out
          have k3 := hE.cellv hz3.out
          exact opStep_val (by simp [execOp, e7, k0, k1, k2, k3, go_sem]) rfl
        case s5 =>
          intro w' ev hE hk ha hc hf
          have e8 : ev (.tmp 8) = .int .i64 (n : Int) := ha 8 (by decide)
          exact opStep_val (by simp [execOp, e8, go_sem]) rfl
        case s6 =>
          intro w' ev hE hk ha hc hf
          have e21 : ev (.tmp 21) = .int .i64 (n : Int) := hk.1 _ rfl
          have e4 : ev (.tmp 4) = .pointer (some ⟨G1, 0, none⟩) := ha 4 (by decide)
          exact opStep_val (by simp [execOp, e21, e4, i1, i2, go_sem]) rfl
        case s7 =>
          intro w' ev hE hk ha hc hf
          have e22 : ev (.tmp 22) = .pointer (some ⟨G1, n * 4, none⟩) := hk.1 _ rfl
          have k0 := hE.cellv hy0.out
          have k1 := hE.cellv hy1.out
          have k2 := hE.cellv hy2.out
          have k3 := hE.cellv hy3.out
          exact opStep_val (by simp [execOp, e22, k0, k1, k2, k3, go_sem]) rfl
        case s8 =>
          intro w' ev hE hk ha hc hf
          have e20 : ev (.tmp 20) = .agg #[.bool bz, .slice Az mz cz, .bool bz', .slice Az' mz' cz'] := hk.1 _ rfl
          have e23 : ev (.tmp 23) = .agg #[.bool bv, .slice Av mv cv, .bool bv', .slice Av' mv' cv'] := hk.2.1 _ rfl
          refine opStep_call (by simp [execOp, resolve, invoke, hf, e20, e23, go_sem]) (RMul_any bz bz' Az Az' mz cz mz' cz' bv bv' Av Av' mv cv mv' cv' z y N M _ (hqzr.out.ext ((Ext.refl _).drew.trans hE)) (hqy.out.ext ((Ext.refl _).drew.trans hE)) hsz'.out hsy.out (by omega)) ?_
          rintro e w1 ⟨b1, b2, A1, A2, n1, d1, n2, d2, rfl, hI1, hE1⟩
          exact ⟨_, rfl, hE1, b1, b2, A1, A2, n1, d1, n2, d2, rfl, hI1⟩
        case s9 =>
          intro w' ev hE hk ha hc hf
          have e19 : ev (.tmp 19) = .agg #[.bool bx, .slice Ax mx cx, .bool bx', .slice Ax' mx' cx'] := hk.1 _ rfl
          have f24 := hk.2.1 _ rfl
          obtain ⟨b1, b2, A1, A2, n1, d1, n2, d2, e24, hI1⟩ := f24
          refine opStep_call (by simp [execOp, resolve, invoke, hf, e19, e24, go_sem]) (RSub_any bx bx' Ax Ax' mx cx mx' cx' b1 b2 A1 A2 n1 d1 n2 d2 x (z * y) N (N + M) _ (hqx.out.ext ((Ext.refl _).drew.trans hE)) hI1 hsx.out (hsz'.out.mul hsy.out) (by omega)) ?_
          rintro e w1 ⟨b1, b2, A1, A2, n1, d1, n2, d2, rfl, hI1, hE1⟩
          exact ⟨_, rfl, hE1, b1, b2, A1, A2, n1, d1, n2, d2, rfl, hI1⟩
        case s10 =>
          intro w' ev hE hk ha hc hf
          have e16 : ev (.tmp 16) = .int .i64 (n : Int) := hk.1 _ rfl
          have e3 : ev (.tmp 3) = .pointer (some ⟨G0, 0, none⟩) := ha 3 (by decide)
          exact opStep_val (by simp [execOp, e16, e3, i1, i2, go_sem]) rfl
      case fin =>
        intro gf w' hE hF
        obtain ⟨b5, b6, A5, A6, n5, c5, n6, c6, e9, hI5⟩ := hF 9 _ rfl
        have e10 := hF 10 _ rfl
        simp only [List.length_cons, List.length_nil, Nat.reduceAdd, List.drop_succ_cons, List.drop_zero, List.take_succ_cons, List.take_zero, putG, Act.put, List.setIfInBounds_toArray, List.set_cons_succ, List.set_cons_zero, e9, e10]
        replace hE := (Ext.refl wr).drew.trans hE
        have hM1 := hI.out.1.ext hE
        obtain ⟨v0, s0⟩ := hM1.some (o := n * 4) (by omega)
        obtain ⟨v1, s1⟩ := hM1.some (o := n * 4 + 1) (by omega)
        obtain ⟨v2, s2⟩ := hM1.some (o := n * 4 + 2) (by omega)
        obtain ⟨v3, s3⟩ := hM1.some (o := n * 4 + 3) (by omega)
        have zf := hM1.frozen
        have hM3 : Hid (MatAt (rat4 w' G0 (n * 4) (.bool b5) (.slice A5 n5 c5) (.bool b6) (.slice A6 n6 c6)) G0 1 (fun _ => redMid X Y k (n + 1))) := MatAt.put1 hM1 hlt hI5 hstep.out.1 hstep.out.2
        have hne : G1 ≠ G0 ∧ G2 ≠ G0 ∧ G3 ≠ G0 := by have := hG0.out; have := hG1.out; have := hG2.out; have := hG3.out; omega
        have hR3 : Hid (Blk (rat4 w' G0 (n * 4) (.bool b5) (.slice A5 n5 c5) (.bool b6) (.slice A6 n6 c6)) G1 76 ds ∧ Blk (rat4 w' G0 (n * 4) (.bool b5) (.slice A5 n5 c5) (.bool b6) (.slice A6 n6 c6)) G2 76 zRow ∧ Blk (rat4 w' G0 (n * 4) (.bool b5) (.slice A5 n5 c5) (.bool b6) (.slice A6 n6 c6)) G3 74 #[.bool bz, .slice Az mz cz, .bool bz', .slice Az' mz' cz'] ∧ Ext w (rat4 w' G0 (n * 4) (.bool b5) (.slice A5 n5 c5) (.bool b6) (.slice A6 n6 c6))) :=
          ⟨(hI.out.2.1.ext hE).rat4 hne.1 _ _ _ _ _, (hI.out.2.2.1.ext hE).rat4 hne.2.1 _ _ _ _ _, (hI.out.2.2.2.1.ext hE).rat4 hne.2.2 _ _ _ _ _, (hI.out.2.2.2.2.trans hE).rat4 (by rw [hG0.out]; omega) _ _ _ _ _⟩
        replace hM1 := hide hM1
        replace hI5 := hide hI5
        replace hE := hide hE
        clear hF e9 e10 i1 i2 hne hI
        go_wp2
        exact ⟨⟨n + 1, hlt, by simp, hM3.out, hR3.out⟩, by simp [intOf]; omega⟩
    · obtain rfl : n = 8 := by omega
      have hd8 : decide (((8 : Nat) : Int) < 8) = false := by simp
      obtain ⟨cs', hb', hr'⟩ := MatAt.rowV hI.out.1
      have hld := hide (run_load_blk hb' hr'.1)
      have hst := run_cells_blk hI.out.2.2.1 rfl hr'
      have hs32 := hr'.1
      have hbe := blk_setAll hI.out.2.2.1 (cs := cs') (by rw [hr'.1]; rfl)
      have hld2 := run_load_blk hbe hr'.1
      have hre : Hid (RowV (wr.setCells G2 0 cs'.toList) cs' (fun j => X j - X k * Y j) ∧ Ext w (wr.setCells G2 0 cs'.toList)) := by
        refine ⟨⟨hr'.1, fun j hj => ?_⟩, ext_setCells (by rw [hG2.out]; omega) _ _ _ hI.out.2.2.2.2⟩
        have := (hr'.setCells hI.out.2.2.1.ty cs'.toList 0).2 j hj
        simp only [redMid, hj, if_true] at this
        exact this
      clear hbe
      replace hb' := hide hb'
      replace hr' := hide hr'
      replace hld2 := hide hld2
      go_wp2_with ((with_reducible refine wpList_load_run rfl 76 (.tmp 3) rfl ⟨G0, 0, none⟩ rfl hld.out ?_))
      refine bodyPost_ret (v := .agg cs') ?_ rfl ⟨cs', rfl, hre.out⟩
      have hl := hld2.out
      simp [results, Tryz.results55, asAddr, hl]

end Go.Proofs.YteefhmdameeoaaaGreat
