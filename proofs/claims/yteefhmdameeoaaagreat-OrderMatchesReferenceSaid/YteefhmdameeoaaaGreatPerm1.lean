/-
  order.Permute, for permutations.
-/
import Derived.Test.YteefhmdameeoaaaGreatP8
set_option linter.unusedSimpArgs false
set_option linter.unusedVariables false
namespace Go.Proofs.YteefhmdameeoaaaGreat
open Go.RowKit

/-- The rows of Full. -/
def FullOf (R Fr : List (Nat → Int)) : Prop := (Total R ∧ Fr = R) ∨ (¬ Total R ∧ R.length ≤ 16 ∧ Fr = R ++ unitRows 8)
theorem FullOf.length {R Fr : List (Nat → Int)} (h : FullOf R Fr) (hv : OValid R) : Fr.length ≤ 24 := by
  rcases h with ⟨_, rfl⟩ | ⟨_, h2, rfl⟩
  · exact hv.1
  · rw [List.length_append, unitRows_length]; omega
/-- A number has been met among the first k. -/
def metTo (p : Nat → Nat) (k j : Nat) : Bool := (List.range k).any fun i => p i == j
theorem metTo_succ (p : Nat → Nat) (k j : Nat) : metTo p (k + 1) j = (metTo p k j || p k == j) := by simp [metTo, List.range_succ]
theorem metTo_false {p : Nat → Nat} {k : Nat} (h : ∀ i, i < k → p i ≠ p k) : metTo p k (p k) = false := by
  simp only [metTo, List.any_eq_false, List.mem_range, beq_iff_eq]
  exact h
def permRow (p : Nat → Nat) (r : Nat → Int) : Nat → Int := movedTo r p 8
/-- The grid while row k is written. -/
def permMid (Fr : List (Nat → Int)) (p : Nat → Nat) (k i a b : Nat) : Int := if a < k then permRow p (rowAt Fr a) b else if a = k then movedTo (rowAt Fr a) p i b else 0
theorem run_make_order (n : Nat) (hn : n ≤ 1000000) (kl kc : IntKind) (W : World) :
    (Instr.makeSlice 30 (.int kl (n : Int)) (.int kc (n : Int))).run Tryz.prog W = .ok (.slice (some ⟨W.heap.size, 0, none⟩) n n) (W.alloc (.cells (madeCells (c8 fun _ => 0) (n * 8)) 35)) := by
  obtain ⟨i, hi, hz0, hz1, hz2⟩ := info_parts (show (Tryz.prog.info? 35).map (fun i => (i.zero, i.size, i.bytes)) = some (some (.agg (c8 fun _ => 0)), 8, 64) by kernel_rfl)
  have hb : (i.bytes : Int) * (n : Int) ≤ 281474976710656 := by rw [hz2]; omega
  have hr := run_make (P := Tryz.prog) W 30 35 i (.agg (c8 fun _ => 0)) Tryz.underlying30 hi hz0 kl kc n n (by omega) (by omega) hb (by omega)
  simp only [Int.toNat_natCast] at hr
  rw [hr, hz1]
  rfl
theorem madeCells_get {n q : Nat} (h : q < n * 8) : (madeCells (c8 fun _ => 0) (n * 8))[q]? = some (.int .i64 0) := by
  have h8 : q % 8 < 8 := by omega
  have e : madeCells (c8 fun _ => 0) (n * 8) = Array.ofFn (n := n * 8) fun _ => Value.int .i64 0 := by
    unfold madeCells
    apply Array.ext
    · simp
    · intro i h1 h2
      have : i % 8 < 8 := by omega
      simp [c8]
      rcases lt8 this with e | e | e | e | e | e | e | e <;> simp [e]
  rw [e]
  simp [h]
theorem grid_made (w : World) (n : Nat) (hn : n ≤ 1000000) : GridAt (w.alloc (.cells (madeCells (c8 fun _ => 0) (n * 8)) 35)) w.heap.size n 35 n (fun _ _ => 0) :=
  ⟨_, Blk.new _ _ _, by simp [madeCells], Nat.le_refl _, by simp only [maxLen]; omega, fun i j hi hj => madeCells_get (by omega)⟩

end Go.Proofs.YteefhmdameeoaaaGreat
