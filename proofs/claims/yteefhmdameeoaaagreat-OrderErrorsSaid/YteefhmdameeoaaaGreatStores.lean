/-
  A row stored into a variable of its own.
-/
import Derived.Test.YteefhmdameeoaaaGreatRegf
import Derived.Test.YteefhmdameeoaaaGreatLaw2
set_option linter.unusedSimpArgs false
set_option linter.unusedVariables false
namespace Go.Proofs.YteefhmdameeoaaaGreat
open Go.RowKit

theorem wpList_store_run {P : Program} {w w' : World} {ops : Array Oper} {rest : List Oper} {o : Oper} {a : Act} {Q : Exit → Act → World → Prop} (hgd : o.guard = none) (t : TypeId) (x y : Operand)
    (ho : o.op = .store t x y) (p : Addr) (hx : a.eval x = .pointer (some p)) (v : Value) (hy : a.eval y = v) (hrun : (storeVar t p v).run P w = .ok () w') (h : wpList P ops Q rest (a.put o.dst undef) w') : wpList P ops Q (o :: rest) a w := by
  refine wpList_plain hgd fun K hK => ?_
  unfold Oper.wp execOp
  simp only [ho, hx, hy, Instr.storeAt, Instr.sureAddr, Sem.run_bind, Sem.run_pure, Result.andThen_ok, hrun]
  exact hK _ _ h
theorem wpList_store_go {P : Program} {w w' : World} {ops : Array Oper} {rest : List Oper} {o : Oper} {a : Act} {Q : Exit → Act → World → Prop} {t : TypeId} {x y : Operand} {p : Addr} {v : Value}
    (ho : o.op = .store t x y) (hgd : o.guard = none) (hd : o.dst = none) (hrun : (storeVar t p v).run P w = .ok () w') (hx : a.eval x = .pointer (some p)) (hy : a.eval y = v) (h : wpList P ops Q rest a w') : wpList P ops Q (o :: rest) a w :=
  wpList_store_run hgd t x y ho p hx v hy hrun (by rw [hd]; exact h)
/-- A variable's eight cells written. -/
def putM (w : World) (B : Nat) (a : Nat → Int) : World := put8 w B a
theorem setCells8 (w : World) (B : Nat) (a : Nat → Int) : w.setCells B 0 (c8 a).toList = putM w B a := rfl
theorem run_store_mono {w : World} {B : Nat} {b : Nat → Int} (h : Blk w B 36 (c8 b)) (a : Nat → Int) : (storeVar 36 ⟨B, 0, none⟩ (.agg #[.int .i64 (a 0), .int .i64 (a 1), .int .i64 (a 2), .int .i64 (a 3), .int .i64 (a 4), .int .i64 (a 5), .int .i64 (a 6), .int .i64 (a 7)])).run Tryz.prog w = .ok () (putM w B a) := by
  have hst := run_storeCells_cells (P := Tryz.prog) B 0 (c8 a).toList 0 w (fun j hj => by
    have hj : j < 8 := by simpa [c8] using hj
    rw [Nat.add_zero, Nat.zero_add, h.at8 hj]; rfl) (fun j _ => h.frozen _) (fun v hv => by simp [c8] at hv; rcases hv with rfl | rfl | rfl | rfl | rfl | rfl | rfl | rfl <;> rfl)
  simp only [Nat.add_zero] at hst
  simp only [storeVar, Sem.run_bind, Tryz.sizeOf36, Result.andThen_ok, Value.cells]
  exact hst
theorem run_store_row {w : World} {B : Nat} {b : Nat → Int} (h : Blk w B 35 (c8 b)) (a : Nat → Int) : (storeVar 35 ⟨B, 0, none⟩ (.agg #[.int .i64 (a 0), .int .i64 (a 1), .int .i64 (a 2), .int .i64 (a 3), .int .i64 (a 4), .int .i64 (a 5), .int .i64 (a 6), .int .i64 (a 7)])).run Tryz.prog w = .ok () (putM w B a) := by
  have hst := run_storeCells_cells (P := Tryz.prog) B 0 (c8 a).toList 0 w (fun j hj => by
    have hj : j < 8 := by simpa [c8] using hj
    rw [Nat.add_zero, Nat.zero_add, h.at8 hj]; rfl) (fun j _ => h.frozen _) (fun v hv => by simp [c8] at hv; rcases hv with rfl | rfl | rfl | rfl | rfl | rfl | rfl | rfl <;> rfl)
  simp only [Nat.add_zero] at hst
  simp only [storeVar, Sem.run_bind, Tryz.sizeOf35, Result.andThen_ok, Value.cells]
  exact hst
theorem putM_blk {w : World} {B : Nat} {t : TypeId} {b : Nat → Int} (h : Blk w B t (c8 b)) (a : Nat → Int) : Blk (putM w B a) B t (c8 a) := by
  have h1 := (((((((h.set8 (k := 0) (by omega) (a 0)).set8 (k := 1) (by omega) (a 1)).set8 (k := 2) (by omega) (a 2)).set8 (k := 3) (by omega) (a 3)).set8 (k := 4) (by omega) (a 4)).set8 (k := 5) (by omega) (a 5)).set8 (k := 6) (by omega) (a 6)).set8 (k := 7) (by omega) (a 7)
  rw [c8_congr (b := a) fun i hi => by rcases lt8 hi with rfl | rfl | rfl | rfl | rfl | rfl | rfl | rfl <;> simp] at h1
  exact h1
theorem putM_far {w : World} {B C : Nat} {t : TypeId} {cs : Array Value} (h : Blk w C t cs) (hne : C ≠ B) (a : Nat → Int) : Blk (putM w B a) C t cs :=
  (((((((h.far (p := ⟨B, 0, none⟩) hne _).far (p := ⟨B, 1, none⟩) hne _).far (p := ⟨B, 2, none⟩) hne _).far (p := ⟨B, 3, none⟩) hne _).far (p := ⟨B, 4, none⟩) hne _).far (p := ⟨B, 5, none⟩) hne _).far (p := ⟨B, 6, none⟩) hne _).far (p := ⟨B, 7, none⟩) hne _
theorem putM_ext {w w1 : World} (h : Ext w w1) {B : Nat} (hB : w.heap.size ≤ B) (a : Nat → Int) : Ext w (putM w1 B a) := h.put8 hB a
theorem RowsAt.putM {w : World} {v : Value} {R : List (Nat → Int)} (h : RowsAt .i64 35 w v R) {B : Nat} {cs : Array Value} (hB : Blk w B 36 cs) (a : Nat → Int) : RowsAt .i64 35 (Go.Proofs.YteefhmdameeoaaaGreat.putM w B a) v R := by
  obtain ⟨A, c, h1, h2, h3, h4⟩ := h
  refine ⟨A, c, h1, h2, h3, fun hp => ?_⟩
  obtain ⟨b, o, cs', fz, h5, h6, h7⟩ := h4 hp
  have hne : b ≠ B := fun e => by subst e; rw [show w.heap[b]? = _ from hB] at h6; cases h6
  have : ∀ (vs : List Value) (q : Nat) (W : World), W.heap[b]? = some (.cells cs' 35 fz) → (W.setCells B q vs).heap[b]? = some (.cells cs' 35 fz) := by
    intro vs
    induction vs with
    | nil => intro q W h; exact h
    | cons v vs ih => intro q W h; exact ih (q + 1) _ ((Below.heap_setCell W ⟨B, q, none⟩ v b hne).trans h)
  exact ⟨b, o, cs', fz, h5, (setCells8 w B a) ▸ this _ _ _ h6, h7⟩
/-- A new variable for a monomial. -/
def NewM (n : Nat) (v : Value) (w : World) : Prop := ∃ B, v = .pointer (some ⟨B, 0, none⟩) ∧ n ≤ B ∧ Blk w B 36 (c8 fun _ => 0)
theorem NewM.ext {n : Nat} {v : Value} {w w' : World} (h : NewM n v w) (he : Ext w w') : NewM n v w' := by
  obtain ⟨B, h1, h2, h3⟩ := h
  exact ⟨B, h1, h2, h3.ext he⟩

end Go.Proofs.YteefhmdameeoaaaGreat
