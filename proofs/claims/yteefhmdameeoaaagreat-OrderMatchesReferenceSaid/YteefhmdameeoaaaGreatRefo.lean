/-
 The reference's rank.
-/
import Derived.Test.YteefhmdameeoaaaGreatRefn
import Derived.Test.YteefhmdameeoaaaGreatStores
import Derived.Great.BuildSlice
set_option linter.unusedSimpArgs false
set_option linter.unusedVariables false
namespace Go.Proofs.YteefhmdameeoaaaGreat
open Go.RowKit

theorem IsRat.kept {w w' : World} {row : Option Nat} {c0 c1 c2 c3 : Value} {q : Rat} (h : IsRat w c0 c1 c2 c3 q) (hg : w.grownBy w' row) (ht : ∀ b, row = some b → ∃ t, Ty w b t ∧ t ≠ 105) : IsRat w' c0 c1 c2 c3 q := by
 have key : ∀ v l, Words w v l → Words w' v l := fun v l hv => by
  obtain ⟨A, c, h1, h2, h3, h4, h5⟩ := hv
  refine ⟨A, c, h1, h2, h3, h4, fun hp => ?_⟩
  obtain ⟨b, o, cs, fz, h6, h7, h8⟩ := h5 hp
  refine ⟨b, o, cs, fz, h6, (hg.block b (lt_of_heap h7) fun e => ?_).trans h7, h8⟩
  obtain ⟨t, ⟨cs', fz', ht1⟩, hne⟩ := ht b e.symm
  rw [h7] at ht1
  cases ht1
  exact hne rfl
 exact ⟨⟨h.1.1, key _ _ h.1.2⟩, ⟨h.2.1, key _ _ h.2.2⟩⟩
theorem RowV.kept {w w' : World} {row : Option Nat} {cs : Array Value} {q : Nat → Rat} (h : RowV w cs q) (hg : w.grownBy w' row) (ht : ∀ b, row = some b → ∃ t, Ty w b t ∧ t ≠ 105) : RowV w' cs q := by
 refine ⟨h.1, fun j hj => ?_⟩
 obtain ⟨b, b', A, A', m, c, m', c', h1, h2, h3, h4, h5⟩ := h.2 j hj
 exact ⟨b, b', A, A', m, c, m', c', h1, h2, h3, h4, h5.kept hg ht⟩
theorem fl_length : ∀ {cl : List (Array Value)}, (∀ i, i < cl.length → (cl.getD i #[]).size = 32) → (cl.flatMap Array.toList).length = cl.length * 32
 | [], _ => rfl
 | a :: cl, h => by
  have h0 := h 0 (by simp)
  have := fl_length (cl := cl) fun i hi => by have := h (i + 1) (by simp; omega); simpa using this
  simp at h0 this ⊢
  omega
theorem fl_get : ∀ {cl : List (Array Value)}, (∀ i, i < cl.length → (cl.getD i #[]).size = 32) → ∀ i j, i < cl.length → j < 32 → (cl.flatMap Array.toList)[i * 32 + j]? = (cl.getD i #[])[j]?
 | [], _, i, j, hi, _ => by simp at hi
 | a :: cl, h, i, j, hi, hj => by
  have h0 : a.size = 32 := h 0 (by simp)
  rw [List.flatMap_cons]
  match i with
  | 0 =>
   rw [Nat.zero_mul, Nat.zero_add, List.getElem?_append_left (by simpa [h0] using hj)]
   simp
  | i + 1 =>
   rw [List.getElem?_append_right (by simp [h0]; omega)]
   have := fl_get (cl := cl) (fun i hi => by have := h (i + 1) (by simp; omega); simpa using this) i j (by simpa using hi) hj
   rw [show (i + 1) * 32 + j - a.toList.length = i * 32 + j by simp [h0]; omega, this]
   simp
/-- A slice of rows of rational numbers in memory of one's own. -/
def OwnM (base : Nat) (w : World) (v : Value) (l : Nat) (Q : Nat → Nat → Rat) : Prop := ∃ cl : List (Array Value), cl.length = l ∧ w.ownsRow base 76 32 v l (cl.flatMap Array.toList) ∧ ∀ i, i < l → RowV w (cl.getD i #[]) (Q i)
theorem OwnM.nil (base : Nat) (w : World) (Q : Nat → Nat → Rat) : OwnM base w (.slice none 0 0) 0 Q := ⟨[], rfl, ⟨rfl, .inl ⟨rfl, rfl⟩⟩, fun i h => by omega⟩
theorem OwnM.ext {base : Nat} {w w' : World} {v : Value} {l : Nat} {Q : Nat → Nat → Rat} (h : OwnM base w v l Q) (he : Ext w w') : OwnM base w' v l Q := by
 obtain ⟨cl, h1, ⟨h2, h3⟩, h4⟩ := h
 refine ⟨cl, h1, ⟨h2, ?_⟩, fun i hi => (h4 i hi).ext he⟩
 rcases h3 with h3 | ⟨g, cap, cur, h5, h6, hg, h7⟩
 ·exact .inl h3
 ·exact .inr ⟨g, cap, cur, h5, h6, (he.block (lt_of_heap hg)).trans hg, h7⟩
theorem OwnM.form {base : Nat} {w : World} {v : Value} {l : Nat} {Q : Nat → Nat → Rat} (h : OwnM base w v l Q) : ∃ A c, v = .slice A l c := by
 obtain ⟨_, _, ⟨_, h2⟩, _⟩ := h
 rcases h2 with ⟨rfl, h0⟩ | ⟨g, cap, cur, rfl, _⟩
 ·exact ⟨none, 0, by rw [h0]⟩
 ·exact ⟨_, _, rfl⟩
theorem OwnM.some {base : Nat} {w : World} {A : Option Addr} {l c : Nat} {Q : Nat → Nat → Rat} (h : OwnM base w (.slice A l c) l Q) (h0 : 0 < l) : ∃ g, A = Option.some ⟨g, 0, none⟩ := by
 obtain ⟨_, _, ⟨_, h2⟩, _⟩ := h
 rcases h2 with ⟨h3, h4⟩ | ⟨g, cap, cur, h3, _⟩
 ·cases h3; omega
 ·cases h3; exact ⟨g, rfl⟩
theorem OwnM.base_le {base : Nat} {w : World} {v : Value} {l : Nat} {Q : Nat → Nat → Rat} (h : OwnM base w v l Q) : ∀ k, v.ownBlock = Option.some k → base ≤ k := by
 intro k hk
 obtain ⟨_, _, ⟨_, h2⟩, _⟩ := h
 rcases h2 with ⟨rfl, _⟩ | ⟨g, cap, cur, rfl, h4, _⟩
 ·cases hk
 ·cases hk; exact h4
theorem OwnM.ty {base : Nat} {w : World} {v : Value} {l : Nat} {Q : Nat → Nat → Rat} (h : OwnM base w v l Q) : ∀ k, v.ownBlock = Option.some k → Ty w k 76 := by
 intro k hk
 obtain ⟨_, _, ⟨_, h2⟩, _⟩ := h
 rcases h2 with ⟨rfl, _⟩ | ⟨g, cap, cur, rfl, h4, hg, _⟩
 ·cases hk
 ·cases hk; exact ⟨_, _, hg⟩
theorem OwnInts.ty {base : Nat} {w : World} {v : Value} {L : List Nat} (h : OwnInts base w v L) : ∀ k, v.ownBlock = Option.some k → Ty w k 3 := by
 intro k hk
 obtain ⟨_, h2⟩ := h
 rcases h2 with ⟨rfl, _⟩ | ⟨g, cap, cur, rfl, h4, hg, _⟩
 ·cases hk
 ·cases hk; exact ⟨_, _, hg⟩
theorem OwnM.load {base : Nat} {w : World} {g o l c : Nat} {Q : Nat → Nat → Rat} (h : OwnM base w (.slice (Option.some ⟨g, o, none⟩) l c) l Q) {i : Nat} (hi : i < l) :
  ∃ cs, RowV w cs (Q i) ∧ ∀ w', Ext w w' → (loadVar 76 ⟨g, i * 32, none⟩).run Tryz.prog w' = .ok (.agg cs) w' := by
 obtain ⟨cl, h1, ⟨h2, h3⟩, h4⟩ := h
 rcases h3 with ⟨h5, _⟩ | ⟨g', cap, cur, h5, h6, hg, h7, h8, h9, h10⟩
 ·cases h5
 ·cases h5
  have hsz : ∀ i, i < cl.length → (cl.getD i #[]).size = 32 := fun i hi => (h4 i (by omega)).1
  refine ⟨cl.getD i #[], h4 i hi, fun w' he => ?_⟩
  have hcell : ∀ j, j < 32 → w'.cell? ⟨g, i * 32 + j, none⟩ = (cl.getD i #[])[j]? := fun j hj => by
   rw [cell_of_block ((he.block (lt_of_heap hg)).trans hg), ← fl_get hsz i j (by omega) hj, ← h10, List.getElem?_take, if_pos (by omega)]
   simp
  rw [run_load_row32 w' g (i * 32) fun j hj => by rw [hcell j hj]; exact ⟨_, Array.getElem?_eq_getElem (by rw [hsz i (by omega)]; exact hj)⟩]
  have : rowCells w' g (i * 32) = cl.getD i #[] := by
   apply Array.ext
   ·rw [rowCells_size, hsz i (by omega)]
   ·intro j q1 q2
    have hj : j < 32 := by rw [rowCells_size] at q1; exact q1
    have := rowCells_get (w := w') (g := g) (o := i * 32) (j := j) (v := (cl.getD i #[])[j]) hj (by rw [hcell j hj]; exact Array.getElem?_eq_getElem q2)
    exact (Array.getElem?_eq_some_iff.1 this).2
  rw [this]
theorem append_mat {base : Nat} {w : World} {v : Value} {l g : Nat} {Q : Nat → Nat → Rat} {cs : Array Value} {q : Nat → Rat} (h : OwnM base w v l Q) (hb : Blk w g 76 cs) (hr : RowV w cs q) (hbs : base ≤ w.heap.size) (hl : l ≤ 1000000) :
  ∃ v' w', (Builtin.append_ #[69, 69] 69 #[v, .slice (Option.some ⟨g, 0, none⟩) 1 1]).run Tryz.prog w = .ok v' w' ∧ OwnM base w' v' (l + 1) (putQ Q l q) ∧ w.grownBy w' v.ownBlock := by
 obtain ⟨i, hi, hz0, hz1, hz2⟩ := info_parts (show (Tryz.prog.info? 76).map (fun i => (i.zero, i.size, i.bytes)) = Option.some (Option.some (.agg zRow), 32, 512) by kernel_rfl)
 have hty := h.ty
 obtain ⟨cl, h1, h2, h3⟩ := h
 obtain ⟨v', w', hrun, hown, hg, _⟩ := run_append_own (P := Tryz.prog) w base 69 69 76 i _ 32 512 Tryz.underlying69 hi hz0 hz1 hz2 rfl (by omega)
  v l (cl.flatMap Array.toList) h2 ⟨g, 0, none⟩ 1 1 cs.toList (by simp [hr.1]) (fun j u hu => by rw [add_mk, Nat.zero_add, hb.cell, ← Array.getElem?_toList]; exact hu) hr.one (by simp only [maxLen]; omega) (by omega) hbs
 have hk : ∀ b, v.ownBlock = Option.some b → ∃ t, Ty w b t ∧ t ≠ 105 := fun b hb => ⟨_, hty b hb, by decide⟩
 refine ⟨v', w', hrun, ⟨cl ++ [cs], by simp [h1], ?_, fun j hj => ?_⟩, hg⟩
 ·rw [List.flatMap_append]
  simpa using hown
 ·by_cases e : j = l
  ·rw [e, putQ_eq, ← h1]
   simpa using hr.kept hg hk
  ·rw [putQ_ne _ _ e]
   have := (h3 j (by omega)).kept hg hk
   rw [List.getD_eq_getElem?_getD, List.getElem?_append_left (by omega), ← List.getD_eq_getElem?_getD]
   exact this
theorem OwnInts.nil (base : Nat) (w : World) : OwnInts base w (.slice none 0 0) [] := ⟨rfl, .inl ⟨rfl, rfl⟩⟩
theorem ty_ne {w : World} {b b' : Nat} {t t' : TypeId} (h : Ty w b t) (h' : Ty w b' t') (hne : t ≠ t') : b ≠ b' := fun e => by
 obtain ⟨_, _, h1⟩ := h
 obtain ⟨_, _, h2⟩ := h'
 rw [e, h2] at h1
 cases h1
 exact hne rfl
theorem OwnInts.keptM {base : Nat} {w w' : World} {v u : Value} {L : List Nat} {l : Nat} {Q : Nat → Nat → Rat} (h : OwnInts base w v L) (hm : OwnM base w u l Q) (hg : w.grownBy w' u.ownBlock) : OwnInts base w' v L := by
 refine World.ownsRow.kept h hg ?_
 cases hv : v.ownBlock with
 | none => exact .inl rfl
 | some b =>
  refine .inr fun e => ?_
  exact ty_ne (h.ty b hv) (hm.ty b e.symm) (by decide) rfl
theorem OwnM.keptI {base : Nat} {w w' : World} {v u : Value} {L : List Nat} {l : Nat} {Q : Nat → Nat → Rat} (h : OwnM base w v l Q) (hi : OwnInts base w u L) (hg : w.grownBy w' u.ownBlock) : OwnM base w' v l Q := by
 have hty := h.ty
 obtain ⟨cl, h1, h2, h3⟩ := h
 refine ⟨cl, h1, World.ownsRow.kept h2 hg ?_, fun i hl => (h3 i hl).kept hg fun b hb => ⟨_, hi.ty b hb, by decide⟩⟩
 cases hv : v.ownBlock with
 | none => exact .inl rfl
 | some b =>
  refine .inr fun e => ?_
  exact ty_ne (hty b hv) (hi.ty b e.symm) (by decide) rfl
theorem range_put (at_ : Nat → Nat) (l k : Nat) : (List.range (l + 1)).map (putA at_ l k) = (List.range l).map at_ ++ [k] := by
 rw [List.range_succ, List.map_append]
 congr 1
 ·refine List.map_congr_left fun n hn => putA_ne _ _ ?_
  have := List.mem_range.1 hn
  omega
 ·simp [putA_eq]
theorem MatP.fill1 {w : World} {g i : Nat} {q : Nat → Rat} (h : MatP w g 1 (fun _ j => j < i) (fun _ => q)) (hi : i < 8) {b b' : Bool} {A A' : Option Addr} {m c m' c' : Nat} {r : Rat} (hq : IsRat w (.bool b) (.slice A m c) (.bool b') (.slice A' m' c') r)
  (h1 : q i = r) : MatP (rat4 w g (i * 4) (.bool b) (.slice A m c) (.bool b') (.slice A' m' c')) g 1 (fun _ j => j < i + 1) (fun _ => q) := by
 have := MatP.put (D' := fun _ j => j < i + 1) (M' := fun _ => q) h (k := 0) (by omega) hi hq h1 (fun a b ha hb hd hne => ⟨by omega, rfl⟩)
 rwa [show 0 * 32 + i * 4 = i * 4 by omega] at this
theorem zRow_one : ∀ v ∈ zRow.toList, v.oneCell' = true := fun v hv => List.all_eq_true.1 (show zRow.toList.all (fun v => v.oneCell') = true from rfl) v hv
def zeroW (w : World) : World := (w.alloc (.cells zRow 76)).setCells w.heap.size 0 zRow.toList
theorem zero_store (w : World) : (storeVar 76 ⟨w.heap.size, 0, none⟩ (.agg zRow)).run Tryz.prog (w.alloc (.cells zRow 76)) = .ok () (zeroW w) := by
 have hb : Blk (w.alloc (.cells zRow 76)) w.heap.size 76 zRow := Blk.new _ _ _
 exact run_store_row32 _ _ 0 zRow rfl zRow_one (fun j hj => by rw [Nat.zero_add, hb.cell]; exact ⟨_, Array.getElem?_eq_getElem (show j < zRow.size from hj)⟩) (fun j => hb.frozen j)
theorem zero_blk (w : World) : Blk (zeroW w) w.heap.size 76 zRow := blk_setAll (Blk.new _ _ _) rfl
theorem zero_ext (w : World) : Ext w (zeroW w) := ext_setCells (Nat.le_refl _) _ _ _ ((Ext.refl w).alloc _)
theorem OwnM.congr {base : Nat} {w : World} {v : Value} {l : Nat} {Q Q' : Nat → Nat → Rat} (h : OwnM base w v l Q) (he : ∀ i j, i < l → j < 8 → Q' i j = Q i j) : OwnM base w v l Q' := by
 obtain ⟨cl, h1, h2, h3⟩ := h
 refine ⟨cl, h1, h2, fun i hi => ⟨(h3 i hi).1, fun j hj => ?_⟩⟩
 rw [he i j hi hj]
 exact (h3 i hi).2 j hj
theorem run_build_row (cs : Array Value) (hs : cs.size = 32) (w : World) : (Instr.buildSlice 69 1 #[(0, .agg cs)]).run Tryz.prog w = .ok (.slice (Option.some ⟨w.heap.size, 0, none⟩) 1 1) (w.alloc (.cells cs 76)) := by
 obtain ⟨i, hi, hz0, hz1, hz2⟩ := info_parts (show (Tryz.prog.info? 76).map (fun i => (i.zero, i.size, i.bytes)) = Option.some (Option.some (.agg zRow), 32, 512) by kernel_rfl)
 refine run_buildSlice w 69 76 1 _ cs i (.agg zRow) Tryz.underlying69 hi hz0 (by rw [hz1]; omega) (by rw [hz1]; omega) ?_
 have := Great.fill_whole (s := 32) (by omega) [.agg cs] ((Array.range (1 * 32)).map ((Value.agg zRow).cells[· % (Value.agg zRow).cells.size]!)) (by simp [Value.cells, hs]) (by simp)
 rw [hz1]
 simpa [Value.cells] using this
theorem wpList_build_run {P : Program} {w w' : World} {ops : Array Oper} {rest : List Oper} {o : Oper} {a : Act} {Q : Exit → Act → World → Prop} {t : TypeId} {n : Nat} {x : Operand} {u v : Value} (ho : o.op = .buildSlice t n #[(0, x)]) (hgd : o.guard = none)
  (hx : a.eval x = u) (hrun : (Instr.buildSlice t n #[(0, u)]).run P w = .ok v w') (h : wpList P ops Q rest (a.put o.dst v) w') : wpList P ops Q (o :: rest) a w := by
 refine wpList_plain hgd fun K hK => ?_
 unfold Oper.wp execOp
 simp only [ho, List.map_toArray, List.map_cons, List.map_nil, hx, Sem.run_bind, hrun, Result.andThen_ok]
 exact hK _ _ h
def mulMid (q : Nat → Rat) (y : Rat) (n j : Nat) : Rat := if j < n then q j * y else q j

set_option maxRecDepth 100000 in
set_option maxHeartbeats 6400000 in
theorem Rrank_any (v : Value) (R : List (Nat → Int)) (w : World) (h : RowsIn .i64 w v R) (hR : ∀ r ∈ R, In8 r (-1000) 1000) (hn : R.length ≤ 1000000) :
  Calls Tryz.prog 39 #[v] w fun e w' => ∃ z : Int, e = .returned (.int .i64 z) ∧ (z = 8 ↔ KerTriv (ratRows R) R.length) ∧ Ext w w' := by
 obtain ⟨A0, c0, rfl, hc, hm, hx⟩ := h
 replace hx := hide hx
 replace hR := hide hR
 clear hc hm
 go_enter Tryz.func39, Tryz.ntmps39
 go_wp2
 go_loopw [3, 4, 5] (fun d a i wr => ∃ (k l : Nat) (A A' : Option Addr) (c c' : Nat), k ≤ R.length ∧ l ≤ 8 ∧ i = .int .i64 k ∧ d = .slice A l c ∧ a = .slice A' l c' ∧ Hid (∃ Q at_, RkInv (ratRows R) k l Q at_ ∧ OwnM w.heap.size wr (.slice A l c) l Q ∧ OwnInts w.heap.size wr (.slice A' l c') ((List.range l).map at_) ∧ Ext w wr)) (fun _ _ i _ => R.length - (intOf i).toNat)
 case atStart => exact ⟨0, 0, none, none, 0, 0, by omega, by omega, rfl, rfl, rfl, fun _ _ => 0, fun _ => 0, RkInv.start _ _ _, OwnM.nil _ _ _, OwnInts.nil _ _, Ext.refl _⟩
 case round =>
  obtain ⟨k, l, A, A', c, c', hk, hl8, rfl, rfl, rfl, hI⟩ := hrel
  obtain ⟨Q, at_, hI⟩ := hI.out
  replace hI := hide hI
  by_cases hlt : k < R.length
  ·obtain ⟨gg, o, rfl, hgl, hcl⟩ := hx.out (by omega)
   replace hcl := hide fun j (hj : j < 8) => hI.out.2.2.2.cellv (hcl k j hlt hj)
   have hrb : Hid (In8 (rowAt R k) (-1000) 1000) := hR.out _ (rowAt_mem hlt)
   have hrr : Hid (∀ j, ratRows R k j = ((rowAt R k j : Int) : Rat)) := fun j => rfl
   generalize rowAt R k = r at *
   obtain ⟨wo, rfl⟩ : ∃ wo : World, wo = wr := ⟨_, rfl⟩
   have hd1 : decide (k < R.length) = true := by simpa using hlt
   obtain ⟨G6, hG6⟩ : ∃ G6, G6 = wo.heap.size := ⟨_, rfl⟩
   have hW0 : Hid (MatP (zeroW wo) G6 1 (fun _ j => j < 0) (fun _ => ratRows R k) ∧ Ext wo (zeroW wo)) := ⟨⟨⟨zRow, by rw [hG6]; exact zero_blk wo, rfl⟩, fun k i _ _ h => by omega⟩, zero_ext wo⟩
   have hst0 : Hid ((storeVar 76 ⟨wo.heap.size, 0, none⟩ (.agg #[.bool false, .slice none 0 0, .bool false, .slice none 0 0, .bool false, .slice none 0 0, .bool false, .slice none 0 0, .bool false, .slice none 0 0, .bool false, .slice none 0 0, .bool false, .slice none 0 0, .bool false, .slice none 0 0, .bool false, .slice none 0 0, .bool false, .slice none 0 0, .bool false, .slice none 0 0, .bool false, .slice none 0 0, .bool false, .slice none 0 0, .bool false, .slice none 0 0, .bool false, .slice none 0 0, .bool false, .slice none 0 0])).run Tryz.prog (wo.alloc (.cells #[.bool false, .slice none 0 0, .bool false, .slice none 0 0, .bool false, .slice none 0 0, .bool false, .slice none 0 0, .bool false, .slice none 0 0, .bool false, .slice none 0 0, .bool false, .slice none 0 0, .bool false, .slice none 0 0, .bool false, .slice none 0 0, .bool false, .slice none 0 0, .bool false, .slice none 0 0, .bool false, .slice none 0 0, .bool false, .slice none 0 0, .bool false, .slice none 0 0, .bool false, .slice none 0 0, .bool false, .slice none 0 0] 76)) = .ok () (zeroW wo)) := zero_store wo
   go_upto_region 7 with (refine wpList_store_go rfl rfl rfl hst0.out rfl rfl ?_)
   clear hst0
   generalize (Value.agg #[.bool false, .slice none 0 0, .bool false, .slice none 0 0, .bool false, .slice none 0 0, .bool false, .slice none 0 0, .bool false, .slice none 0 0, .bool false, .slice none 0 0, .bool false, .slice none 0 0, .bool false, .slice none 0 0, .bool false, .slice none 0 0, .bool false, .slice none 0 0, .bool false, .slice none 0 0, .bool false, .slice none 0 0, .bool false, .slice none 0 0, .bool false, .slice none 0 0, .bool false, .slice none 0 0, .bool false, .slice none 0 0]) = zv
   rw [← hG6]
   generalize zeroW wo = w0 at *
   replace hG6 := hide hG6
   go_wp2
   go_loopw [7] (fun s wr => ∃ i : Nat, i ≤ 8 ∧ s = .int .i64 i ∧ Hid (MatP wr G6 1 (fun _ j => j < i) (fun _ => ratRows R k) ∧ Ext wo wr)) (fun s _ => 8 - (intOf s).toNat)
   case atStart => exact ⟨0, by omega, rfl, hW0.out⟩
   case round =>
    clear hW0
    obtain ⟨i, hi, rfl, hJ⟩ := hrel
    by_cases hi8 : i < 8
    ·have hd8 : decide ((i : Int) < 8) = true := by simp; omega
     have hcx : wr.cell? ⟨gg, o + k * 8 + i, none⟩ = some (.int .i64 (r i)) := hJ.out.2.cellv (hcl.out i hi8)
     have hb := hrb.out i hi8
     have hrr1 := hide (hrr.out i)
     generalize r i = x at *
     go_wp2_with fail
     refine (RWhole_any x _ (by omega) (by omega)).mono ?_
     rintro e w1 ⟨b5, b6, A5, A6, n5, c5, n6, c6, rfl, hI5, hE1⟩
     have hM1 := hJ.out.1.ext hE1
     obtain ⟨v0, s0⟩ := hM1.some (o := i * 4) (by omega)
     obtain ⟨v1, s1⟩ := hM1.some (o := i * 4 + 1) (by omega)
     obtain ⟨v2, s2⟩ := hM1.some (o := i * 4 + 2) (by omega)
     obtain ⟨v3, s3⟩ := hM1.some (o := i * 4 + 3) (by omega)
     have zf := hM1.frozen
     have hM3 : Hid (MatP (rat4 w1 G6 (i * 4) (.bool b5) (.slice A5 n5 c5) (.bool b6) (.slice A6 n6 c6)) G6 1 (fun _ j => j < i + 1) (fun _ => ratRows R k) ∧ Ext wo (rat4 w1 G6 (i * 4) (.bool b5) (.slice A5 n5 c5) (.bool b6) (.slice A6 n6 c6))) := ⟨hM1.fill1 hi8 hI5 hrr1.out, (hJ.out.2.trans hE1).rat4 (by rw [hG6.out]; omega) _ _ _ _ _⟩
     replace hM1 := hide hM1
     replace hI5 := hide hI5
     replace hE1 := hide hE1
     clear hcx
     go_wp2
     exact ⟨⟨i + 1, hi8, by simp, hM3.out⟩, by simp [intOf]; omega⟩
    ·have hd8 : decide ((i : Int) < 8) = false := by simp; omega
     have hst : Hid (∃ q, RedInv (ratRows R k) l 0 Q at_ q ∧ MatAt wr G6 1 (fun _ => q) ∧ Ext wo wr) := ⟨ratRows R k, RedInv.start fun j hj => by rw [hrr.out j]; have := hrb.out j hj; exact rsz_small this.1 this.2, hJ.out.1.congr fun a b _ hb _ => ⟨by omega, rfl⟩, hJ.out.2⟩
     clear hJ hcl hrb hrr
     go_wp2
     go_loopw [8] (fun s wr => ∃ n : Nat, n ≤ l ∧ s = .int .i64 n ∧ Hid (∃ q, RedInv (ratRows R k) l n Q at_ q ∧ MatAt wr G6 1 (fun _ => q) ∧ Ext wo wr)) (fun s _ => l - (intOf s).toNat)
     case atStart => exact ⟨0, by omega, rfl, hst.out⟩
     case round =>
      clear hst
      obtain ⟨n, hnl, rfl, hJ⟩ := hrel
      obtain ⟨q, hJ⟩ := hJ.out
      replace hJ := hide hJ
      by_cases hlt2 : n < l
      ·have hdl : decide (n < l) = true := by simpa using hlt2
       obtain ⟨cs, hbc, hrc⟩ := MatAt.rowV hJ.out.2.1
       replace hbc := hide hbc
       replace hrc := hide hrc
       obtain ⟨gd, rfl⟩ := hI.out.2.1.some (by omega)
       obtain ⟨ds, hrd, hld⟩ := (hI.out.2.1.ext hJ.out.2.2).load hlt2
       replace hrd := hide hrd
       replace hld := hide hld
       obtain ⟨ga, rfl⟩ := hI.out.2.2.1.some (by omega)
       have hca := hide (show wr.cell? ⟨ga, n, none⟩ = some (.int .i64 (at_ n : Nat)) by
        have := (hI.out.2.2.1.ext hJ.out.2.2).cell.2.2.2.2.2 n (by simpa using hlt2)
        simpa using this)
       have hat := hide (hI.out.1.tri.lt n hlt2)
       have hqs := hide hJ.out.1.sz
       have hQs := hide (hI.out.1.sz n hlt2)
       have hsl := szOf_le (i := n) (by omega)
       have hnext := hide (hJ.out.1.step hI.out.1.tri hQs.out hlt2)
       have i1 : ¬ l ≤ n := by omega
       go_upto_region 14 with (fail)
       refine wp_region_v (by kernel_rfl) [[], [], [], [(40, 1), (41, 2)], [(42, 3)], [], [], [(44, 5), (45, 6)], [(46, 7)], [(39, 0), (43, 4), (47, 8)]] [[], [], [], [1, 2], [1, 2, 3], [], [], [5, 6], [5, 6, 7], [0, 1, 2, 3, 4, 5, 6, 7, 8]]
        [fun v _ => v = .agg cs, fun v _ => v = .slice (some ⟨gd, 0, none⟩) l c, fun v _ => v = .int .i64 (n : Int), fun v _ => v = .pointer (some ⟨gd, n * 32, none⟩), fun v _ => v = .agg ds, fun v _ => v = .slice (some ⟨ga, 0, none⟩) l c', fun v _ => v = .int .i64 (n : Int), fun v _ => v = .pointer (some ⟨ga, n, none⟩), fun v _ => v = .int .i64 (at_ n : Nat), fun v w' => ∃ cs', v = .agg cs' ∧ RowV w' cs' (fun j => q j - q (at_ n) * Q n j)]
        rfl (by kernel_rfl) (by kernel_rfl) ?stab ?steps ?fin
       case stab => exact .cons (Stab.eq _) (.cons (Stab.eq _) (.cons (Stab.eq _) (.cons (Stab.eq _) (.cons (Stab.eq _) (.cons (Stab.eq _) (.cons (Stab.eq _) (.cons (Stab.eq _) (.cons (Stab.eq _) (.cons (fun _ _ _ he ⟨cs', h1, h2⟩ => ⟨cs', h1, h2.ext he⟩) .nil)))))))))
       case steps =>
        refine .cons ?s0 (.cons ?s1 (.cons ?s2 (.cons ?s3 (.cons ?s4 (.cons ?s5 (.cons ?s6 (.cons ?s7 (.cons ?s8 (.cons ?s9 .nil)))))))))
        case s0 =>
         intro w' ev hE hk ha hc hf
         have e6 : ev (.tmp 6) = .pointer (some ⟨G6, 0, none⟩) := ha 6 (by decide)
         have hrun := run_load_blk (hbc.out.ext ((Ext.refl _).drew.trans hE)) hrc.out.1
         exact opStep_val (by simp [execOp, e6, Instr.loadAt, Instr.sureAddr, hrun]) rfl
        case s1 =>
         intro w' ev hE hk ha hc hf
         have e3 : ev (.tmp 3) = .slice (some ⟨gd, 0, none⟩) l c := ha 3 (by decide)
         exact opStep_val (by simp [execOp, e3, go_sem]) rfl
        case s2 =>
         intro w' ev hE hk ha hc hf
         have e8 : ev (.tmp 8) = .int .i64 (n : Int) := ha 8 (by decide)
         exact opStep_val (by simp [execOp, e8, go_sem]) rfl
        case s3 =>
         intro w' ev hE hk ha hc hf
         have e40 : ev (.tmp 40) = .slice (some ⟨gd, 0, none⟩) l c := hk.1 _ rfl
         have e41 : ev (.tmp 41) = .int .i64 (n : Int) := hk.2.1 _ rfl
         exact opStep_val (by simp [execOp, e40, e41, i1, go_sem]) rfl
        case s4 =>
         intro w' ev hE hk ha hc hf
         have e42 : ev (.tmp 42) = .pointer (some ⟨gd, n * 32, none⟩) := hk.1 _ rfl
         have hrun := hld.out w' ((Ext.refl _).drew.trans hE)
         exact opStep_val (by simp [execOp, e42, Instr.loadAt, Instr.sureAddr, hrun]) rfl
        case s5 =>
         intro w' ev hE hk ha hc hf
         have e4 : ev (.tmp 4) = .slice (some ⟨ga, 0, none⟩) l c' := ha 4 (by decide)
         exact opStep_val (by simp [execOp, e4, go_sem]) rfl
        case s6 =>
         intro w' ev hE hk ha hc hf
         have e8 : ev (.tmp 8) = .int .i64 (n : Int) := ha 8 (by decide)
         exact opStep_val (by simp [execOp, e8, go_sem]) rfl
        case s7 =>
         intro w' ev hE hk ha hc hf
         have e44 : ev (.tmp 44) = .slice (some ⟨ga, 0, none⟩) l c' := hk.1 _ rfl
         have e45 : ev (.tmp 45) = .int .i64 (n : Int) := hk.2.1 _ rfl
         exact opStep_val (by simp [execOp, e44, e45, i1, go_sem]) rfl
        case s8 =>
         intro w' ev hE hk ha hc hf
         have e46 : ev (.tmp 46) = .pointer (some ⟨ga, n, none⟩) := hk.1 _ rfl
         have k0 := hE.cellv hca.out
         exact opStep_val (by simp [execOp, e46, k0, go_sem]) rfl
        case s9 =>
         intro w' ev hE hk ha hc hf
         have e39 : ev (.tmp 39) = .agg cs := hk.1 _ rfl
         have e43 : ev (.tmp 43) = .agg ds := hk.2.1 _ rfl
         have e47 : ev (.tmp 47) = .int .i64 (at_ n : Nat) := hk.2.2.1 _ rfl
         refine opStep_call (by simp [execOp, resolve, invoke, hf, e39, e43, e47, go_sem]) (Rreduced_any cs ds q (Q n) (at_ n) (szOf n) (2 * szOf n) _ (hrc.out.ext ((Ext.refl _).drew.trans hE)) (hrd.out.ext ((Ext.refl _).drew.trans hE)) hat.out hqs.out hQs.out (by omega)) ?_
         rintro e w1 ⟨cs', rfl, hI1, hE1⟩
         exact ⟨_, rfl, hE1, cs', rfl, hI1⟩
       case fin =>
        intro gf w' hE hF
        obtain ⟨cs', e9, hr9⟩ := hF 9 _ rfl
        simp only [List.length_cons, List.length_nil, Nat.reduceAdd, List.drop_succ_cons, List.drop_zero, List.take_succ_cons, List.take_zero, putG, Act.put, List.setIfInBounds_toArray, List.set_cons_succ, List.set_cons_zero, e9]
        replace hE := (Ext.refl wr).drew.trans hE
        have hb1 := hbc.out.ext hE
        have hst := run_cells_blk hb1 hrc.out.1 hr9
        have hs32 := hr9.1
        have hB9 : Hid (MatAt (w'.setCells G6 0 cs'.toList) G6 1 (fun _ => fun j => q j - q (at_ n) * Q n j) ∧ Ext wo (w'.setCells G6 0 cs'.toList)) := ⟨(hr9.setCells hb1.ty _ _).mat (blk_setAll hb1 (by rw [hr9.1, hrc.out.1])), ext_setCells (by rw [hG6.out]; omega) _ _ _ (hJ.out.2.2.trans hE)⟩
        replace hb1 := hide hb1
        replace hr9 := hide hr9
        replace hE := hide hE
        clear hF e9 i1 hsl
        go_wp2
        exact ⟨⟨n + 1, hlt2, by simp, _, hnext.out, hB9.out⟩, by simp [intOf]; omega⟩
      ·obtain rfl : n = l := by omega
       have hdl : decide (n < n) = false := by simp
       go_wp2
       have hst : Hid ((∀ j, j < 0 → q j = 0) ∧ MatAt wr G6 1 (fun _ => q) ∧ Ext wo wr) := ⟨fun j h => by omega, hJ.out.2⟩
       have hred := hide hJ.out.1
       clear hJ
       go_loopw [9] (fun s wr => ∃ p : Nat, p ≤ 8 ∧ s = .int .i64 p ∧ Hid ((∀ j, j < p → q j = 0) ∧ MatAt wr G6 1 (fun _ => q) ∧ Ext wo wr)) (fun s _ => 8 - (intOf s).toNat)
       case atStart => exact ⟨0, by omega, rfl, hst.out⟩
       case round =>
        clear hst
        obtain ⟨p, hp, rfl, hJ⟩ := hrel
        by_cases hp8 : p < 8
        ·have hd8' : decide ((p : Int) < 8) = true := by simp; omega
         obtain ⟨bx, bx', Ax, Ax', mx, cx, mx', cx', x0, x1, x2, x3, hqx⟩ := MatAt.at1 hJ.out.2.1 hp8
         replace hqx := hide hqx
         go_wp2_with fail
         refine (RSign_any bx bx' Ax Ax' mx cx mx' cx' (q p) _ hqx.out).mono ?_
         rintro e w1 ⟨rfl, hE1⟩
         have hJ1 : Hid (MatAt w1 G6 1 (fun _ => q) ∧ Ext wo w1) := ⟨hJ.out.2.1.ext hE1, hJ.out.2.2.trans hE1⟩
         by_cases hz : q p = 0
         ·rw [num_sign_zero hz]
          have hnx : Hid (∀ j, j < p + 1 → q j = 0) := fun j hj => by
           by_cases e : j = p
           ·rw [e]; exact hz
           ·exact hJ.out.1 j (by omega)
          replace hz := hide hz
          clear x0 x1 x2 x3 hE1
          go_wp2
          exact ⟨⟨p + 1, hp8, by simp, hnx.out, hJ1.out⟩, by simp [intOf]; omega⟩
         ·have hsg : ((q p).num.sign == 0) = false := by have := num_sign_ne hz; simpa [bne] using this
          generalize (q p).num.sign = sg at *
          have hp' : ((p : Int) == 8) = false := by simp; omega
          have hy := hide (hI.out.1.keep hred.out hp8 hz)
          have hnz := num_ne hz
          replace hz := hide hz
          have x0' := hE1.cellv x0
          have x1' := hE1.cellv x1
          have x2' := hE1.cellv x2
          have x3' := hE1.cellv x3
          have hqx' := hide (hqx.out.ext hE1)
          have hsp := hide (hred.out.sz p hp8)
          have hsl := szOf_le (i := n) hl8
          clear x0 x1 x2 x3 hE1 hqx
          go_wp2_with fail
          refine (RInv_any bx bx' Ax Ax' mx cx mx' cx' (q p) _ hqx'.out (Nat.le_trans hsp.out.1 (by omega)) (Nat.le_trans hsp.out.2 (by omega)) hnz).mono ?_
          rintro e w2 ⟨bz, bz', Az, Az', mz, cz, mz', cz', rfl, hqz, hE2⟩
          have hsy := hide (hsp.out.inv hnz)
          generalize (q p)⁻¹ = y at *
          obtain ⟨G10, hG10⟩ : ∃ G10, G10 = w2.heap.size := ⟨_, rfl⟩
          have hne : G6 ≠ G10 := by have := Ty.lt (hJ1.out.1.ext hE2).ty; omega
          have hEa : Ext w2 (w2.alloc (.cells #[.bool bz, .slice Az mz cz, .bool bz', .slice Az' mz' cz'] 74)) := (Ext.refl w2).alloc _
          have hbz : Blk (w2.alloc (.cells #[.bool bz, .slice Az mz cz, .bool bz', .slice Az' mz' cz'] 74)) G10 74 #[.bool bz, .slice Az mz cz, .bool bz', .slice Az' mz' cz'] := Blk.new' _ _ hG10
          have hK0 : Hid (MatAt (w2.alloc (.cells #[.bool bz, .slice Az mz cz, .bool bz', .slice Az' mz' cz'] 74)) G6 1 (fun _ => mulMid q y 0) ∧ RatAt (w2.alloc (.cells #[.bool bz, .slice Az mz cz, .bool bz', .slice Az' mz' cz'] 74)) G10 0 y ∧ Ext wo (w2.alloc (.cells #[.bool bz, .slice Az mz cz, .bool bz', .slice Az' mz' cz'] 74))) := ⟨by rw [show mulMid q y 0 = q from funext fun j => by simp [mulMid]]; exact (hJ1.out.1.ext hE2).ext hEa, ⟨bz, bz', Az, Az', mz, cz, mz', cz', hbz.cell 0, hbz.cell 1, hbz.cell 2, hbz.cell 3, hqz.ext hEa⟩, (hJ1.out.2.trans hE2).trans hEa⟩
          replace hqz := hide hqz
          clear hEa hbz hE2 hsg x0' x1' x2' x3'
          go_wp2
          rw [← hG10]
          generalize (w2.alloc (.cells #[.bool bz, .slice Az mz cz, .bool bz', .slice Az' mz' cz'] 74)) = w3 at *
          replace hG10 := hide hG10
          clear hqz hqx' hJ1 hJ
          go_loopw [12] (fun s wr => ∃ n : Nat, n ≤ 8 ∧ s = .int .i64 n ∧ Hid (MatAt wr G6 1 (fun _ => mulMid q y n) ∧ RatAt wr G10 0 y ∧ Ext wo wr)) (fun s _ => 8 - (intOf s).toNat)
          case atStart => exact ⟨0, by omega, rfl, hK0.out⟩
          case round =>
           clear hK0
           obtain ⟨m, hm, rfl, hK⟩ := hrel
           by_cases hm8 : m < 8
           ·have hd8'' : decide ((m : Int) < 8) = true := by simp; omega
            obtain ⟨bx, bx', Ax, Ax', mx, cx, mx', cx', x0, x1, x2, x3, hqx⟩ := MatAt.at1 hK.out.1 hm8
            obtain ⟨bz, bz', Az, Az', mz, cz, mz', cz', z0, z1, z2, z3, hqz⟩ := hK.out.2.1
            have hx0 := hide x0
            have hx1 := hide x1
            have hx2 := hide x2
            have hx3 := hide x3
            have hz0 : Hid (wr.cell? ⟨G10, 0, none⟩ = some (.bool bz)) := z0
            have hz1 : Hid (wr.cell? ⟨G10, 1, none⟩ = some (.slice Az mz cz)) := z1
            have hz2 : Hid (wr.cell? ⟨G10, 2, none⟩ = some (.bool bz')) := z2
            have hz3 : Hid (wr.cell? ⟨G10, 3, none⟩ = some (.slice Az' mz' cz')) := z3
            have exx : mulMid q y m m = q m := by simp [mulMid]
            rw [exx] at hqx
            replace hqx := hide hqx
            replace hqz := hide hqz
            have hsx := hide (hred.out.sz m hm8)
            have hstep : Hid (mulMid q y (m + 1) m = q m * y ∧ ∀ b, b < 8 → b ≠ m → mulMid q y (m + 1) b = mulMid q y m b) := ⟨by simp [mulMid], fun b _ hne => by
             unfold mulMid
             by_cases h1 : b < m
             ·rw [if_pos h1, if_pos (by omega)]
             ·rw [if_neg h1, if_neg (by omega)]⟩
            clear x0 x1 x2 x3 z0 z1 z2 z3 exx
            generalize hxx : q m = x at *
            clear hxx
            have i1 : (m : Int) < 8 := by omega
            have i2 : (0 : Int) ≤ m := by omega
            go_upto_region 23 with (fail)
            refine wp_region_v (by kernel_rfl) [[], [], [(74, 1)], [(75, 2)], [], [(76, 3), (77, 4)], [(73, 0)]] [[], [], [1], [1, 2], [], [1, 2, 3, 4], [0, 1, 2, 3, 4, 5]]
             [fun v _ => v = .int .i64 (m : Int), fun v _ => v = .int .i64 (m : Int), fun v _ => v = .pointer (some ⟨G6, m * 4, none⟩), fun v _ => v = .agg #[.bool bx, .slice Ax mx cx, .bool bx', .slice Ax' mx' cx'], fun v _ => v = .agg #[.bool bz, .slice Az mz cz, .bool bz', .slice Az' mz' cz'], fun v w' => RatV w' v (x * y), fun v _ => v = .pointer (some ⟨G6, m * 4, none⟩)]
             rfl (by kernel_rfl) (by kernel_rfl) ?stab ?steps ?fin
            case stab => exact .cons (Stab.eq _) (.cons (Stab.eq _) (.cons (Stab.eq _) (.cons (Stab.eq _) (.cons (Stab.eq _) (.cons (fun _ _ _ he h => h.ext he) (.cons (Stab.eq _) .nil))))))
            case steps =>
             refine .cons ?s0 (.cons ?s1 (.cons ?s2 (.cons ?s3 (.cons ?s4 (.cons ?s5 (.cons ?s6 .nil))))))
             case s0 =>
              intro w' ev hE hk ha hc hf
              have e12 : ev (.tmp 12) = .int .i64 (m : Int) := ha 12 (by decide)
              exact opStep_val (by simp [execOp, e12, go_sem]) rfl
             case s1 =>
              intro w' ev hE hk ha hc hf
              have e12 : ev (.tmp 12) = .int .i64 (m : Int) := ha 12 (by decide)
              exact opStep_val (by simp [execOp, e12, go_sem]) rfl
             case s2 =>
              intro w' ev hE hk ha hc hf
              have e74 : ev (.tmp 74) = .int .i64 (m : Int) := hk.1 _ rfl
              have e6 : ev (.tmp 6) = .pointer (some ⟨G6, 0, none⟩) := ha 6 (by decide)
              exact opStep_val (by simp [execOp, e74, e6, i1, i2, go_sem]) rfl
             case s3 =>
              intro w' ev hE hk ha hc hf
              have e75 : ev (.tmp 75) = .pointer (some ⟨G6, m * 4, none⟩) := hk.1 _ rfl
              have k0 := hE.cellv hx0.out
              have k1 := hE.cellv hx1.out
              have k2 := hE.cellv hx2.out
              have k3 := hE.cellv hx3.out
              exact opStep_val (by simp [execOp, e75, k0, k1, k2, k3, go_sem]) rfl
             case s4 =>
              intro w' ev hE hk ha hc hf
              have e10 : ev (.tmp 10) = .pointer (some ⟨G10, 0, none⟩) := ha 10 (by decide)
              have k0 := hE.cellv hz0.out
              have k1 := hE.cellv hz1.out
              have k2 := hE.cellv hz2.out
              have k3 := hE.cellv hz3.out
              exact opStep_val (by simp [execOp, e10, k0, k1, k2, k3, go_sem]) rfl
             case s5 =>
              intro w' ev hE hk ha hc hf
              have e76 : ev (.tmp 76) = .agg #[.bool bx, .slice Ax mx cx, .bool bx', .slice Ax' mx' cx'] := hk.1 _ rfl
              have e77 : ev (.tmp 77) = .agg #[.bool bz, .slice Az mz cz, .bool bz', .slice Az' mz' cz'] := hk.2.1 _ rfl
              refine opStep_call (by simp [execOp, resolve, invoke, hf, e76, e77, go_sem]) (RMul_any bx bx' Ax Ax' mx cx mx' cx' bz bz' Az Az' mz cz mz' cz' x y (szOf n) (szOf n) _ (hqx.out.ext ((Ext.refl _).drew.trans hE)) (hqz.out.ext ((Ext.refl _).drew.trans hE)) hsx.out hsy.out (by omega)) ?_
              rintro e w1 ⟨b1, b2, A1, A2, n1, d1, n2, d2, rfl, hI1, hE1⟩
              exact ⟨_, rfl, hE1, b1, b2, A1, A2, n1, d1, n2, d2, rfl, hI1⟩
             case s6 =>
              intro w' ev hE hk ha hc hf
              have e73 : ev (.tmp 73) = .int .i64 (m : Int) := hk.1 _ rfl
              have e6 : ev (.tmp 6) = .pointer (some ⟨G6, 0, none⟩) := ha 6 (by decide)
              exact opStep_val (by simp [execOp, e73, e6, i1, i2, go_sem]) rfl
            case fin =>
             intro gf w' hE hF
             obtain ⟨b5, b6, A5, A6, n5, c5, n6, c6, e5, hI5⟩ := hF 5 _ rfl
             have e6 := hF 6 _ rfl
             simp only [List.length_cons, List.length_nil, Nat.reduceAdd, List.drop_succ_cons, List.drop_zero, List.take_succ_cons, List.take_zero, putG, Act.put, List.setIfInBounds_toArray, List.set_cons_succ, List.set_cons_zero, e5, e6]
             replace hE := (Ext.refl wr).drew.trans hE
             have hM1 := hK.out.1.ext hE
             obtain ⟨v0, s0⟩ := hM1.some (o := m * 4) (by omega)
             obtain ⟨v1, s1⟩ := hM1.some (o := m * 4 + 1) (by omega)
             obtain ⟨v2, s2⟩ := hM1.some (o := m * 4 + 2) (by omega)
             obtain ⟨v3, s3⟩ := hM1.some (o := m * 4 + 3) (by omega)
             have zf := hM1.frozen
             have hM3 : Hid (MatAt (rat4 w' G6 (m * 4) (.bool b5) (.slice A5 n5 c5) (.bool b6) (.slice A6 n6 c6)) G6 1 (fun _ => mulMid q y (m + 1)) ∧ RatAt (rat4 w' G6 (m * 4) (.bool b5) (.slice A5 n5 c5) (.bool b6) (.slice A6 n6 c6)) G10 0 y ∧ Ext wo (rat4 w' G6 (m * 4) (.bool b5) (.slice A5 n5 c5) (.bool b6) (.slice A6 n6 c6))) := ⟨MatAt.put1 hM1 hm8 hI5 hstep.out.1 hstep.out.2, (hK.out.2.1.ext hE).rat4 hM1.ty hne _ _ _ _ _, (hK.out.2.2.trans hE).rat4 (by rw [hG6.out]; omega) _ _ _ _ _⟩
             replace hM1 := hide hM1
             replace hI5 := hide hI5
             replace hE := hide hE
             clear hF e5 e6 i1 i2 hK
             go_wp2
             exact ⟨⟨m + 1, hm8, by simp, hM3.out⟩, by simp [intOf]; omega⟩
           ·have hd8'' : decide ((m : Int) < 8) = false := by simp; omega
            have hmq : mulMid q y m = fun j => if j < 8 then q j * y else q j := funext fun j => by rw [mulMid, show m = 8 by omega]
            obtain ⟨cs, hbc, hrc⟩ := MatAt.rowV hK.out.1
            have hld := hide (run_load_blk hbc hrc.1)
            have hbr := hide (run_build_row cs hrc.1 wr)
            have hbA : Blk (wr.alloc (.cells cs 76)) wr.heap.size 76 cs := Blk.new _ _ _
            have hEA : Ext wr (wr.alloc (.cells cs 76)) := (Ext.refl wr).alloc _
            have hsz0 := hI.out.2.2.2.size
            have hsz1 := hK.out.2.2.size
            obtain ⟨v1, w5, hrun1, hO1, hg1⟩ := append_mat (base := w.heap.size) (hI.out.2.1.ext (hK.out.2.2.trans hEA)) hbA (hrc.ext hEA) (by simp; omega) (by omega)
            obtain ⟨A1, c1, rfl⟩ := hO1.form
            have hE5 : Ext w w5 := (hI.out.2.2.2.trans (hK.out.2.2.trans hEA)).grown' hg1 hI.out.2.1.base_le
            have hOi := (hI.out.2.2.1.ext (hK.out.2.2.trans hEA)).keptM (hI.out.2.1.ext (hK.out.2.2.trans hEA)) hg1
            have hEB : Ext w5 (w5.alloc (.cells #[.int .i64 p] 3)) := (Ext.refl w5).alloc _
            have hbB : Blk (w5.alloc (.cells #[.int .i64 p] 3)) w5.heap.size 3 #[.int .i64 p] := Blk.new _ _ _
            have hl9 := hy.out.tri.le
            obtain ⟨v2, w6, hrun2, hO2, hg2⟩ := append_tail (base := w.heap.size) (hOi.ext hEB) (S := [p]) w5.heap.size 0 1 (fun i hi => by
             obtain rfl : i = 0 := by simpa using hi
             exact hbB.cell 0) (by have := hE5.size; simp; omega) (by simp; omega)
            rw [← range_put] at hO2
            obtain ⟨A2, c2, e2⟩ := hO2.form
            subst e2
            have hE6 : Ext w w6 := (hE5.trans hEB).grown' hg2 hOi.base_le
            have hOm := (hO1.ext hEB).keptI (hOi.ext hEB) hg2
            have hlen : ((List.range (n + 1)).map (putA at_ n p)).length = n + 1 := by simp
            rw [hlen] at hrun2 hO2
            have hnew : Hid (∃ Q at_, RkInv (ratRows R) (k + 1) (n + 1) Q at_ ∧ OwnM w.heap.size w6 (.slice A1 (n + 1) c1) (n + 1) Q ∧ OwnInts w.heap.size w6 (.slice A2 (n + 1) c2) ((List.range (n + 1)).map at_) ∧ Ext w w6) := ⟨_, _, hy.out, hOm.congr fun i j hi hj => by
             by_cases e : i = n
             ·rw [e, putQ_eq, putQ_eq, hmq]; simp [hj]
             ·rw [putQ_ne _ _ e, putQ_ne _ _ e], hO2, hE6⟩
            replace hrun1 := hide hrun1
            replace hrun2 := hide hrun2
            clear hbA hEA hO1 hg1 hE5 hOi hEB hbB hO2 hg2 hE6 hOm hrc hbc hmq hlen
            go_wp2_with (first | (with_reducible refine wpList_load_run rfl 76 (.tmp 6) rfl ⟨G6, 0, none⟩ rfl hld.out ?_) | (with_reducible refine wpList_build_run (t := 69) (n := 1) (x := .tmp 81) (u := .agg cs) rfl rfl rfl hbr.out ?_) | (at_builtin; first | (refine wpList_append_run rfl _ _ _ rfl _ _ rfl rfl hrun1.out ?_) | (refine wpList_append_run rfl _ _ _ rfl _ _ rfl rfl hrun2.out ?_)))
            exact ⟨⟨k + 1, n + 1, A1, A2, c1, c2, hlt, hl9, by simp, rfl, rfl, hnew.out⟩, by simp [intOf]; omega⟩
        ·obtain rfl : p = 8 := by omega
         have hd8' : decide (((8 : Nat) : Int) < 8) = false := by simp
         have hnew : Hid (∃ Q at_, RkInv (ratRows R) (k + 1) n Q at_ ∧ OwnM w.heap.size wr (.slice A n c) n Q ∧ OwnInts w.heap.size wr (.slice A' n c') ((List.range n).map at_) ∧ Ext w wr) := ⟨Q, at_, hI.out.1.skip hred.out hJ.out.1, hI.out.2.1.ext hJ.out.2.2, hI.out.2.2.1.ext hJ.out.2.2, hI.out.2.2.2.trans hJ.out.2.2⟩
         go_wp2
         exact ⟨⟨k + 1, n, A, A', c, c', hlt, hl8, by simp, rfl, rfl, hnew.out⟩, by simp [intOf]; omega⟩
  ·obtain rfl : k = R.length := by omega
   have hlast := hide hI.out.1.last
   have hd1 : decide (R.length < R.length) = false := by simp
   go_wp2
   go_ret
   exact ⟨(l : Int), rfl, by rw [← hlast.out]; omega, hI.out.2.2.2⟩

end Go.Proofs.YteefhmdameeoaaaGreat
