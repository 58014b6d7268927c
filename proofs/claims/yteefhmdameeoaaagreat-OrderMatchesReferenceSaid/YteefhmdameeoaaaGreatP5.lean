/-
  Contracts of package monomial's functions: a monomial is a function on the numbers below 8.
  RowsAt of eight numbers in a slice; order.Cmp.
  Contracts: mono, last, ones; monomial.Valid, Mul, Support.
  Rows of eight numbers in memory of one's own: append.
  Contracts: order.Lex, Graded, Reverse, Eliminating.
  Contracts: monomial.Valid, Mul, Support; the reference's In, Power, Moved.
  Contracts: order.Valid, order.Eliminating, order.Eliminates.
  Contracts: order.Eliminating, order.Eliminates.
  Grids of numbers in memory of one's own; the reference's Made.
  Contracts: law05's monos, has, alike, rows; the reference's Same, Moved.
  Contracts: law05's rows; the reference's Moved.
-/
import Derived.Test.YteefhmdameeoaaaGreatP1
import Derived.WalkKit
import Derived.WalkSpells
import Derived.WalkLawsBesides
import Derived.BigQuiet
import Derived.Deep.QuietTactic
import Derived.Laws.AppendOwnNone
import Derived.Deep.RegionHeld3
import Derived.Deep.DeepCutAuto
import Derived.Deep.CutBlock
import Derived.Deep.LoopGhost
import Derived.ChangeKeysEq
import Derived.RegionTactic
import Derived.ChangeAlike
import Derived.Deep.Cut
set_option linter.unusedSimpArgs false
set_option linter.unusedVariables false
namespace Go.Proofs.YteefhmdameeoaaaGreat
open Go.RowKit

/-- The eight cells of a row of numbers. -/
def c8 (a : Nat → Int) : Array Value := #[.int .i64 (a 0), .int .i64 (a 1), .int .i64 (a 2), .int .i64 (a 3), .int .i64 (a 4), .int .i64 (a 5), .int .i64 (a 6), .int .i64 (a 7)]
theorem c8_get (a : Nat → Int) (k : Nat) (h : k < 8) : (c8 a)[k]? = some (.int .i64 (a k)) := by
  match k, h with
  | 0, _ => rfl
  | 1, _ => rfl
  | 2, _ => rfl
  | 3, _ => rfl
  | 4, _ => rfl
  | 5, _ => rfl
  | 6, _ => rfl
  | 7, _ => rfl
theorem lt8 {k : Nat} (h : k < 8) : k = 0 ∨ k = 1 ∨ k = 2 ∨ k = 3 ∨ k = 4 ∨ k = 5 ∨ k = 6 ∨ k = 7 := by omega
theorem run_index_mono (a : Nat → Int) (k : Nat) (h : k < 8) (W : World) : (Instr.index 36 (.agg #[.int .i64 (a 0), .int .i64 (a 1), .int .i64 (a 2), .int .i64 (a 3), .int .i64 (a 4), .int .i64 (a 5), .int .i64 (a 6), .int .i64 (a 7)]) (.int .i64 (k : Int))).run Tryz.prog W = .ok (.int .i64 (a k)) W := by
  rcases lt8 h with rfl | rfl | rfl | rfl | rfl | rfl | rfl | rfl <;> kernel_rfl
theorem run_index_row (a : Nat → Int) (k : Nat) (h : k < 8) (W : World) : (Instr.index 35 (.agg #[.int .i64 (a 0), .int .i64 (a 1), .int .i64 (a 2), .int .i64 (a 3), .int .i64 (a 4), .int .i64 (a 5), .int .i64 (a 6), .int .i64 (a 7)]) (.int .i64 (k : Int))).run Tryz.prog W = .ok (.int .i64 (a k)) W := by
  rcases lt8 h with rfl | rfl | rfl | rfl | rfl | rfl | rfl | rfl <;> kernel_rfl
theorem part_c8 (a : Nat → Int) (k : Nat) (h : k < 8) (W : World) : (part 3 (c8 a) (k * Tryz.prog.cellsOf 3)).run Tryz.prog W = .ok (.int .i64 (a k)) W := by
  rcases lt8 h with rfl | rfl | rfl | rfl | rfl | rfl | rfl | rfl <;> kernel_rfl
def eqB (a b : Nat → Int) : Bool := (List.range 8).all fun i => a i == b i
theorem eqB_true {a b : Nat → Int} : eqB a b = true ↔ ∀ i, i < 8 → a i = b i := by simp [eqB]
theorem run_eqItems8 (d : Nat) (a b : Nat → Int) (W : World) : ∀ is : List Nat, (∀ i ∈ is, i < 8) → (Op.eqItems (d + 1) 3 (Tryz.prog.cellsOf 3) (c8 a) (c8 b) is).run Tryz.prog W = .ok (is.all fun i => a i == b i) W
  | [], _ => by simp [Op.eqItems]
  | i :: is, h => by
    have ih := run_eqItems8 d a b W is fun j hj => h j (by simp [hj])
    have hi := h i (by simp)
    simp only [Op.eqItems, Sem.run_bind, part_c8 a i hi, part_c8 b i hi, Result.andThen_ok, run_equalIn_int W d 3 .i64 .i64 _ _ (show Tryz.prog.underlying 3 = some (.int .i64) by kernel_rfl)]
    cases hc : a i == b i
    · simp [hc]
    · simp only [Bool.not_true, Bool.false_eq_true, if_false, ih, List.all_cons, hc, Bool.true_and]
theorem run_eq_mono (a b : Nat → Int) (W : World) : (Op.equalIn 10000 36 (.agg #[.int .i64 (a 0), .int .i64 (a 1), .int .i64 (a 2), .int .i64 (a 3), .int .i64 (a 4), .int .i64 (a 5), .int .i64 (a 6), .int .i64 (a 7)]) (.agg #[.int .i64 (b 0), .int .i64 (b 1), .int .i64 (b 2), .int .i64 (b 3), .int .i64 (b 4), .int .i64 (b 5), .int .i64 (b 6), .int .i64 (b 7)])).run Tryz.prog W = .ok (eqB a b) W := by
  obtain ⟨i, hi⟩ : ∃ i, Tryz.prog.info? 3 = some i := Option.isSome_iff_exists.1 (by kernel_rfl)
  have := run_equalIn_array (P := Tryz.prog) W 9999 (t := 36) (e := 3) (n := 8) (c8 a) (c8 b) (by kernel_rfl) hi
  rw [run_eqItems8 9998 a b W (List.range 8) (by simp)] at this
  exact this
theorem c8_set (a : Nat → Int) (k : Nat) (v : Int) (h : k < 8) : (c8 a).setIfInBounds k (.int .i64 v) = c8 (fun i => if i = k then v else a i) := by
  match k, h with
  | 0, _ => rfl
  | 1, _ => rfl
  | 2, _ => rfl
  | 3, _ => rfl
  | 4, _ => rfl
  | 5, _ => rfl
  | 6, _ => rfl
  | 7, _ => rfl
theorem Blk.at8 {w : World} {g : Nat} {t : TypeId} {a : Nat → Int} (h : Blk w g t (c8 a)) {k : Nat} (hk : k < 8) : w.cell? ⟨g, k, none⟩ = some (.int .i64 (a k)) := by
  rw [h.cell, c8_get a k hk]
theorem Blk.set8 {w : World} {g : Nat} {t : TypeId} {a : Nat → Int} (h : Blk w g t (c8 a)) {k : Nat} (hk : k < 8) (v : Int) : Blk (w.setCell ⟨g, k, none⟩ (.int .i64 v)) g t (c8 (fun i => if i = k then v else a i)) := by
  rw [← c8_set a k v hk]
  exact h.set k _

def sumTo (a : Nat → Int) : Nat → Int
  | 0 => 0
  | k + 1 => sumTo a k + a k
/-- All eight numbers lie between the bounds. -/
def In8 (a : Nat → Int) (lo hi : Int) : Prop := ∀ i, i < 8 → lo ≤ a i ∧ a i ≤ hi
theorem In8.mono {a : Nat → Int} {lo hi lo' hi' : Int} (h : In8 a lo hi) (h1 : lo' ≤ lo) (h2 : hi ≤ hi') : In8 a lo' hi' := fun i hi => by have := h i hi; omega
theorem sumTo_bound {a : Nat → Int} {lo hi : Int} (h : In8 a lo hi) : ∀ k, k ≤ 8 → lo * k ≤ sumTo a k ∧ sumTo a k ≤ hi * k
  | 0, _ => by simp [sumTo]
  | k + 1, hk => by
    have ih := sumTo_bound h k (by omega)
    have := h k (by omega)
    simp only [sumTo, Int.natCast_add, Int.mul_add]
    omega

/-- The first place, from k on, at which the rows differ: so many places are left. -/
def lexTo (a b : Nat → Int) : Nat → Nat → Int
  | _, 0 => 0
  | k, n + 1 => if a k = b k then lexTo a b (k + 1) n else if a k < b k then -1 else 1
/-- The lexicographic comparison. -/
def lex8 (a b : Nat → Int) : Int := lexTo a b 0 8
theorem lexTo_eq {a b : Nat → Int} : ∀ (n k : Nat), (∀ i, k ≤ i → i < k + n → a i = b i) → lexTo a b k n = 0
  | 0, _, _ => rfl
  | n + 1, k, h => by
    rw [lexTo, if_pos (h k (by omega) (by omega))]
    exact lexTo_eq n (k + 1) fun i h1 h2 => h i (by omega) (by omega)

set_option maxRecDepth 100000 in
set_option maxHeartbeats 800000 in
theorem mCmp_any (a b : Nat → Int) (w : World) :
    Calls Tryz.prog 33 #[.agg #[.int .i64 (a 0), .int .i64 (a 1), .int .i64 (a 2), .int .i64 (a 3), .int .i64 (a 4), .int .i64 (a 5), .int .i64 (a 6), .int .i64 (a 7)], .agg #[.int .i64 (b 0), .int .i64 (b 1), .int .i64 (b 2), .int .i64 (b 3), .int .i64 (b 4), .int .i64 (b 5), .int .i64 (b 6), .int .i64 (b 7)]] w fun e w' => e = .returned (.int .i64 (lex8 a b)) ∧ Ext w w' := by
  have hq := fun W => run_eq_mono a b W
  cases he : eqB a b with
  | true =>
    rw [he] at hq
    go_enter Tryz.func33, Tryz.ntmps33
    go_wp2
    go_ret
    refine ⟨?_, ((Ext.refl _).alloc _).alloc _⟩
    rw [lex8, lexTo_eq 8 0 fun i _ h => eqB_true.1 he i (by omega)]
    rfl
  | false =>
    rw [he] at hq
    have hne : ¬ ∀ i, i < 8 → a i = b i := fun h => by rw [eqB_true.2 h] at he; cases he
    clear he
    replace hne := hide hne
    have hA : Hid (Blk ((w.alloc (.cells #[.int .i64 (a 0), .int .i64 (a 1), .int .i64 (a 2), .int .i64 (a 3), .int .i64 (a 4), .int .i64 (a 5), .int .i64 (a 6), .int .i64 (a 7)] 36)).alloc (.cells #[.int .i64 (b 0), .int .i64 (b 1), .int .i64 (b 2), .int .i64 (b 3), .int .i64 (b 4), .int .i64 (b 5), .int .i64 (b 6), .int .i64 (b 7)] 36)) w.heap.size 36 (c8 a)) := (Blk.new _ _ _).alloc _
    have hB : Hid (Blk ((w.alloc (.cells #[.int .i64 (a 0), .int .i64 (a 1), .int .i64 (a 2), .int .i64 (a 3), .int .i64 (a 4), .int .i64 (a 5), .int .i64 (a 6), .int .i64 (a 7)] 36)).alloc (.cells #[.int .i64 (b 0), .int .i64 (b 1), .int .i64 (b 2), .int .i64 (b 3), .int .i64 (b 4), .int .i64 (b 5), .int .i64 (b 6), .int .i64 (b 7)] 36)) (w.heap.size + 1) 36 (c8 b)) := Blk.new' _ _ (by simp)
    have hE : Hid (Ext w ((w.alloc (.cells #[.int .i64 (a 0), .int .i64 (a 1), .int .i64 (a 2), .int .i64 (a 3), .int .i64 (a 4), .int .i64 (a 5), .int .i64 (a 6), .int .i64 (a 7)] 36)).alloc (.cells #[.int .i64 (b 0), .int .i64 (b 1), .int .i64 (b 2), .int .i64 (b 3), .int .i64 (b 4), .int .i64 (b 5), .int .i64 (b 6), .int .i64 (b 7)] 36))) := ((Ext.refl _).alloc _).alloc _
    go_enter Tryz.func33, Tryz.ntmps33
    go_wp2
    generalize ((w.alloc (.cells #[.int .i64 (a 0), .int .i64 (a 1), .int .i64 (a 2), .int .i64 (a 3), .int .i64 (a 4), .int .i64 (a 5), .int .i64 (a 6), .int .i64 (a 7)] 36)).alloc (.cells #[.int .i64 (b 0), .int .i64 (b 1), .int .i64 (b 2), .int .i64 (b 3), .int .i64 (b 4), .int .i64 (b 5), .int .i64 (b 6), .int .i64 (b 7)] 36)) = w1 at *
    go_loopw [5] (fun i wr => ∃ k : Nat, k < 8 ∧ i = .int .i64 k ∧ Hid ((¬ ∀ i, k ≤ i → i < 8 → a i = b i) ∧ lex8 a b = lexTo a b k (8 - k) ∧ Blk wr w.heap.size 36 (c8 a) ∧ Blk wr (w.heap.size + 1) 36 (c8 b) ∧ Ext w wr)) (fun i _ => 8 - (intOf i).toNat)
    case atStart => exact ⟨0, by omega, rfl, fun h => hne.out fun i hi => h i (by omega) hi, rfl, hA.out, hB.out, hE.out⟩
    case round =>
      obtain ⟨k, hk, rfl, hR⟩ := hrel
      have xa := hR.out.2.2.1.at8 hk
      have xb := hR.out.2.2.2.1.at8 hk
      have hs : Hid (lexTo a b k (8 - k) = if a k = b k then lexTo a b (k + 1) (8 - (k + 1)) else if a k < b k then -1 else 1) := by
        rw [show 8 - k = 8 - (k + 1) + 1 by omega]; rfl
      have hn : Hid (a k = b k → k + 1 < 8 ∧ ¬ ∀ i, k + 1 ≤ i → i < 8 → a i = b i) := fun h => by
        have h1 : ¬ ∀ i, k + 1 ≤ i → i < 8 → a i = b i := fun h2 => hR.out.1 fun i h3 h4 => by
          by_cases e : i = k
          · rw [e]; exact h
          · exact h2 i (by omega) h4
        refine ⟨?_, h1⟩
        by_cases hk' : k + 1 < 8
        · exact hk'
        · exact absurd (fun i h3 h4 => by omega) h1
      generalize a k = x at *
      generalize b k = y at *
      by_cases hxy : x = y
      · have hn' := hn.out hxy
        have hs' := hs.out
        rw [if_pos hxy] at hs'
        replace hs' := hide (hR.out.2.1.trans hs')
        have hk1 := hn'.1
        replace hn' := hide hn'.2
        go_wp2
        go_quiet (fail)
        go_wp2
        exact ⟨⟨k + 1, hk1, by simp, hn'.out, hs'.out, hR.out.2.2.1, hR.out.2.2.2.1, hR.out.2.2.2.2.drewN _⟩, by simp [intOf]; omega⟩
      · have hs' := hs.out
        rw [if_neg hxy] at hs'
        replace hs' := hide (hR.out.2.1.trans hs')
        by_cases hlt : x < y
        · rw [if_pos hlt] at hs'
          go_wp2
          go_quiet (fail)
          go_wp2
          go_quiet (fail)
          go_wp2
          go_ret
          exact ⟨by rw [hs'.out]; rfl, (hR.out.2.2.2.2.drewN _).drewN _⟩
        · rw [if_neg hlt] at hs'
          go_wp2
          go_quiet (fail)
          go_wp2
          go_quiet (fail)
          go_wp2
          go_ret
          exact ⟨by rw [hs'.out]; rfl, (hR.out.2.2.2.2.drewN _).drewN _⟩

end Go.Proofs.YteefhmdameeoaaaGreat
namespace Go.Proofs.YteefhmdameeoaaaGreat
open Go.RowKit

/-- The i-th row of a list. -/
def rowAt (R : List (Nat → Int)) (k : Nat) : Nat → Int := R.getD k (fun _ => 0)

/-- A slice value of rows of eight numbers of the kind κ, in a block of the type t. -/
def RowsAt (κ : IntKind) (t : TypeId) (w : World) (v : Value) (R : List (Nat → Int)) : Prop :=
  ∃ (A : Option Addr) (c : Nat), v = .slice A R.length c ∧ R.length ≤ c ∧ c ≤ 9223372036854775807 ∧
    (0 < R.length → ∃ (b o : Nat) (cs : Array Value) (fz : Nat × Nat), A = some ⟨b, o, none⟩ ∧ w.heap[b]? = some (.cells cs t fz) ∧ ∀ k j, k < R.length → j < 8 → cs[o + k * 8 + j]? = some (.int κ (rowAt R k j)))

theorem RowsAt.ext {κ : IntKind} {t : TypeId} {w w' : World} {v : Value} {R : List (Nat → Int)} (h : RowsAt κ t w v R) (he : Ext w w') : RowsAt κ t w' v R := by
  obtain ⟨A, c, h1, h2, h3, h4⟩ := h
  refine ⟨A, c, h1, h2, h3, fun hp => ?_⟩
  obtain ⟨b, o, cs, fz, h5, h6, h7⟩ := h4 hp
  exact ⟨b, o, cs, fz, h5, (he.block (lt_of_heap h6)).trans h6, h7⟩
theorem RowsAt.open_ {κ : IntKind} {t : TypeId} {w : World} {v : Value} {R : List (Nat → Int)} (h : RowsAt κ t w v R) : ∃ (A : Option Addr) (c : Nat), v = .slice A R.length c ∧ R.length ≤ c ∧ c ≤ 9223372036854775807 ∧
    (0 < R.length → ∃ (b o : Nat), A = some ⟨b, o, none⟩ ∧ b < w.heap.size ∧ ∀ k j, k < R.length → j < 8 → w.cell? ⟨b, o + k * 8 + j, none⟩ = some (.int κ (rowAt R k j))) := by
  obtain ⟨A, c, h1, h2, h3, h4⟩ := h
  refine ⟨A, c, h1, h2, h3, fun hp => ?_⟩
  obtain ⟨b, o, cs, fz, h5, h6, h7⟩ := h4 hp
  exact ⟨b, o, h5, lt_of_heap h6, fun k j hk hj => (cell_of_block h6).trans (h7 k j hk hj)⟩

/-- A row applied to the difference of two monomials. -/
def dotTo (r a b : Nat → Int) (k : Nat) : Int := sumTo (fun i => r i * (a i - b i)) k
/-- The comparison by the rows alone. -/
def cmpRows : List (Nat → Int) → (Nat → Int) → (Nat → Int) → Int
  | [], _, _ => 0
  | r :: R, a, b => if dotTo r a b 8 < 0 then -1 else if 0 < dotTo r a b 8 then 1 else cmpRows R a b
def oCmp (R : List (Nat → Int)) (a b : Nat → Int) : Int := if cmpRows R a b = 0 then lex8 a b else cmpRows R a b

theorem sumTo_zero {a : Nat → Int} : ∀ {k : Nat}, (∀ i, i < k → a i = 0) → sumTo a k = 0
  | 0, _ => rfl
  | k + 1, h => by rw [sumTo, sumTo_zero fun i hi => h i (by omega), h k (by omega)]; rfl
theorem cmpRows_eq {a b : Nat → Int} (h : ∀ i, i < 8 → a i = b i) : ∀ R, cmpRows R a b = 0
  | [] => rfl
  | r :: R => by
    have : dotTo r a b 8 = 0 := sumTo_zero fun i hi => by rw [h i hi, Int.sub_self, Int.mul_zero]
    rw [cmpRows, this, if_neg (by omega), if_neg (by omega), cmpRows_eq h R]
theorem oCmp_eq {a b : Nat → Int} (h : ∀ i, i < 8 → a i = b i) (R : List (Nat → Int)) : oCmp R a b = 0 := by
  rw [oCmp, cmpRows_eq h, if_pos rfl, lex8, lexTo_eq 8 0 fun i _ hi => h i (by omega)]
theorem rowAt_mem {R : List (Nat → Int)} {k : Nat} (h : k < R.length) : rowAt R k ∈ R := by
  simp [rowAt, List.getD_eq_getElem?_getD, List.getElem?_eq_getElem h]
theorem drop_rowAt {R : List (Nat → Int)} {k : Nat} (h : k < R.length) : R.drop k = rowAt R k :: R.drop (k + 1) := by
  rw [List.drop_eq_getElem_cons h]
  simp [rowAt, List.getD_eq_getElem?_getD, List.getElem?_eq_getElem h]
theorem mul_bnd {x y X Y : Int} (h1 : -X ≤ x) (h2 : x ≤ X) (h3 : -Y ≤ y) (h4 : y ≤ Y) : -(X * Y) ≤ x * y ∧ x * y ≤ X * Y := by
  have hX : 0 ≤ X := by omega
  have hY : 0 ≤ Y := by omega
  have : (x * y).natAbs ≤ (X * Y).natAbs := by
    rw [Int.natAbs_mul, Int.natAbs_mul]
    exact Nat.mul_le_mul (by omega) (by omega)
  have := Int.mul_nonneg hX hY
  omega
theorem dot_in {r a b : Nat → Int} (hr : In8 r (-1000) 1000) (ha : In8 a (-1000000) 1000000) (hb : In8 b (-1000000) 1000000) : In8 (fun i => r i * (a i - b i)) (-2000000000) 2000000000 := fun i hi => by
  have h1 := hr i hi
  have h2 := ha i hi
  have h3 := hb i hi
  have := mul_bnd (x := r i) (y := a i - b i) (X := 1000) (Y := 2000000) (by omega) (by omega) (by omega) (by omega)
  exact ⟨by simpa using this.1, by simpa using this.2⟩

set_option maxRecDepth 100000 in
set_option maxHeartbeats 800000 in
theorem oCmp_any (v : Value) (R : List (Nat → Int)) (a b : Nat → Int) (w : World) (h : RowsAt .i64 35 w v R) (hR : ∀ r ∈ R, In8 r (-1000) 1000) (ha : In8 a (-1000000) 1000000) (hb : In8 b (-1000000) 1000000) :
    Calls Tryz.prog 8 #[v, .agg #[.int .i64 (a 0), .int .i64 (a 1), .int .i64 (a 2), .int .i64 (a 3), .int .i64 (a 4), .int .i64 (a 5), .int .i64 (a 6), .int .i64 (a 7)], .agg #[.int .i64 (b 0), .int .i64 (b 1), .int .i64 (b 2), .int .i64 (b 3), .int .i64 (b 4), .int .i64 (b 5), .int .i64 (b 6), .int .i64 (b 7)]] w fun e w' => e = .returned (.int .i64 (oCmp R a b)) ∧ Ext w w' := by
  obtain ⟨A, c, rfl, hc, hm, hx⟩ := h.open_
  clear h
  replace hx := hide hx
  replace hR := hide hR
  replace ha := hide ha
  replace hb := hide hb
  have hq := fun W => run_eq_mono a b W
  cases he : eqB a b with
  | true =>
    rw [he] at hq
    go_enter Tryz.func8, Tryz.ntmps8
    go_wp2
    go_ret
    refine ⟨?_, ((Ext.refl _).alloc _).alloc _⟩
    rw [oCmp_eq (eqB_true.1 he)]
    rfl
  | false =>
    rw [he] at hq
    have hA : Hid (Blk ((w.alloc (.cells #[.int .i64 (a 0), .int .i64 (a 1), .int .i64 (a 2), .int .i64 (a 3), .int .i64 (a 4), .int .i64 (a 5), .int .i64 (a 6), .int .i64 (a 7)] 36)).alloc (.cells #[.int .i64 (b 0), .int .i64 (b 1), .int .i64 (b 2), .int .i64 (b 3), .int .i64 (b 4), .int .i64 (b 5), .int .i64 (b 6), .int .i64 (b 7)] 36)) w.heap.size 36 (c8 a)) := (Blk.new _ _ _).alloc _
    have hB : Hid (Blk ((w.alloc (.cells #[.int .i64 (a 0), .int .i64 (a 1), .int .i64 (a 2), .int .i64 (a 3), .int .i64 (a 4), .int .i64 (a 5), .int .i64 (a 6), .int .i64 (a 7)] 36)).alloc (.cells #[.int .i64 (b 0), .int .i64 (b 1), .int .i64 (b 2), .int .i64 (b 3), .int .i64 (b 4), .int .i64 (b 5), .int .i64 (b 6), .int .i64 (b 7)] 36)) (w.heap.size + 1) 36 (c8 b)) := Blk.new' _ _ (by simp)
    have hE : Hid (Ext w ((w.alloc (.cells #[.int .i64 (a 0), .int .i64 (a 1), .int .i64 (a 2), .int .i64 (a 3), .int .i64 (a 4), .int .i64 (a 5), .int .i64 (a 6), .int .i64 (a 7)] 36)).alloc (.cells #[.int .i64 (b 0), .int .i64 (b 1), .int .i64 (b 2), .int .i64 (b 3), .int .i64 (b 4), .int .i64 (b 5), .int .i64 (b 6), .int .i64 (b 7)] 36))) := ((Ext.refl _).alloc _).alloc _
    go_enter Tryz.func8, Tryz.ntmps8
    go_wp2
    generalize ((w.alloc (.cells #[.int .i64 (a 0), .int .i64 (a 1), .int .i64 (a 2), .int .i64 (a 3), .int .i64 (a 4), .int .i64 (a 5), .int .i64 (a 6), .int .i64 (a 7)] 36)).alloc (.cells #[.int .i64 (b 0), .int .i64 (b 1), .int .i64 (b 2), .int .i64 (b 3), .int .i64 (b 4), .int .i64 (b 5), .int .i64 (b 6), .int .i64 (b 7)] 36)) = w1 at *
    go_loopw [17] (fun i wr => ∃ k : Nat, k ≤ R.length ∧ i = .int .i64 k ∧ Hid (cmpRows R a b = cmpRows (R.drop k) a b ∧ Blk wr w.heap.size 36 (c8 a) ∧ Blk wr (w.heap.size + 1) 36 (c8 b) ∧ Ext w wr)) (fun i _ => R.length - (intOf i).toNat)
    case atStart => exact ⟨0, by omega, rfl, rfl, hA.out, hB.out, hE.out⟩
    case round =>
      obtain ⟨k, hk, rfl, hI⟩ := hrel
      by_cases hlt : k < R.length
      · obtain ⟨g, o, rfl, hgl, hcl⟩ := hx.out (by omega)
        replace hcl := hide fun j (hj : j < 8) => (hI.out.2.2.2.cell (p := ⟨g, o + k * 8 + j, none⟩) hgl).trans (hcl k j hlt hj)
        have hrb : Hid (In8 (rowAt R k) (-1000) 1000) := hR.out _ (rowAt_mem hlt)
        have hdr : Hid (cmpRows (R.drop k) a b = if dotTo (rowAt R k) a b 8 < 0 then -1 else if 0 < dotTo (rowAt R k) a b 8 then 1 else cmpRows (R.drop (k + 1)) a b) := by rw [drop_rowAt hlt]; rfl
        generalize rowAt R k = r at *
        have r0 : (wr).cell? ⟨g, o + k * 8, none⟩ = some (.int .i64 (r 0)) := hcl.out 0 (by omega)
        have r1 : (wr).cell? ⟨g, o + k * 8 + 1, none⟩ = some (.int .i64 (r 1)) := hcl.out 1 (by omega)
        have r2 : (wr).cell? ⟨g, o + k * 8 + 2, none⟩ = some (.int .i64 (r 2)) := hcl.out 2 (by omega)
        have r3 : (wr).cell? ⟨g, o + k * 8 + 3, none⟩ = some (.int .i64 (r 3)) := hcl.out 3 (by omega)
        have r4 : (wr).cell? ⟨g, o + k * 8 + 4, none⟩ = some (.int .i64 (r 4)) := hcl.out 4 (by omega)
        have r5 : (wr).cell? ⟨g, o + k * 8 + 5, none⟩ = some (.int .i64 (r 5)) := hcl.out 5 (by omega)
        have r6 : (wr).cell? ⟨g, o + k * 8 + 6, none⟩ = some (.int .i64 (r 6)) := hcl.out 6 (by omega)
        have r7 : (wr).cell? ⟨g, o + k * 8 + 7, none⟩ = some (.int .i64 (r 7)) := hcl.out 7 (by omega)
        have hA1 : Hid (Blk (wr.alloc (.cells #[.int .i64 (r 0), .int .i64 (r 1), .int .i64 (r 2), .int .i64 (r 3), .int .i64 (r 4), .int .i64 (r 5), .int .i64 (r 6), .int .i64 (r 7)] 35)) w.heap.size 36 (c8 a)) := hI.out.2.1.alloc _
        have hB1 : Hid (Blk (wr.alloc (.cells #[.int .i64 (r 0), .int .i64 (r 1), .int .i64 (r 2), .int .i64 (r 3), .int .i64 (r 4), .int .i64 (r 5), .int .i64 (r 6), .int .i64 (r 7)] 35)) (w.heap.size + 1) 36 (c8 b)) := hI.out.2.2.1.alloc _
        have hE1 : Hid (Ext w (wr.alloc (.cells #[.int .i64 (r 0), .int .i64 (r 1), .int .i64 (r 2), .int .i64 (r 3), .int .i64 (r 4), .int .i64 (r 5), .int .i64 (r 6), .int .i64 (r 7)] 35))) := hI.out.2.2.2.alloc _
        replace hI := hide hI.out.1
        have hdb := hide (sumTo_bound (dot_in hrb.out ha.out hb.out))
        go_wp2
        generalize (wr.alloc (.cells #[.int .i64 (r 0), .int .i64 (r 1), .int .i64 (r 2), .int .i64 (r 3), .int .i64 (r 4), .int .i64 (r 5), .int .i64 (r 6), .int .i64 (r 7)] 35)) = w2 at *
        clear r0 r1 r2 r3 r4 r5 r6 r7 hcl
        go_loopw [9, 22] (fun s i wr => ∃ j : Nat, j ≤ 8 ∧ i = .int .i64 j ∧ s = .int .i64 (dotTo r a b j) ∧ Hid (Blk wr w.heap.size 36 (c8 a) ∧ Blk wr (w.heap.size + 1) 36 (c8 b) ∧ Ext w wr)) (fun _ i _ => 8 - (intOf i).toNat)
        case atStart => exact ⟨0, by omega, rfl, rfl, hA1.out, hB1.out, hE1.out⟩
        case round =>
          obtain ⟨j, hj, rfl, rfl, hJ⟩ := hrel
          by_cases hj8 : j < 8
          · have hix := fun W => run_index_row r j hj8 W
            have xa := hJ.out.1.at8 hj8
            have xb := hJ.out.2.1.at8 hj8
            have b1 := ha.out j hj8
            have b2 := hb.out j hj8
            have b3 := hrb.out j hj8
            have b4 := hdb.out j hj
            have b5 := hdb.out (j + 1) hj8
            have hst : Hid (dotTo r a b (j + 1) = dotTo r a b j + r j * (a j - b j)) := rfl
            have b6 := mul_bnd (x := r j) (y := a j - b j) (X := 1000) (Y := 2000000) (by omega) (by omega) (by omega) (by omega)
            change _ ≤ dotTo r a b j ∧ dotTo r a b j ≤ _ at b4
            clear b5
            generalize dotTo r a b j = s at *
            generalize a j = x at *
            generalize b j = y at *
            generalize r j = z at *
            simp only [Int.reduceMul] at b6
            go_wp2
            go_quiet (fail)
            go_wp2
            exact ⟨⟨j + 1, hj8, by simp, by rw [hst.out], hJ.out.1, hJ.out.2.1, hJ.out.2.2.drewN _⟩, by simp [intOf]; omega⟩
          · obtain rfl : j = 8 := by omega
            have b4 := hdb.out 8 (by omega)
            change _ ≤ dotTo r a b 8 ∧ dotTo r a b 8 ≤ _ at b4
            generalize dotTo r a b 8 = s at *
            have hdr' := hdr.out
            by_cases h1 : s < 0
            · rw [if_pos h1] at hdr'
              replace hdr' := hide hdr'
              clear hdr
              go_wp2
              go_ret
              exact ⟨by rw [oCmp, hI.out, hdr'.out]; rfl, hJ.out.2.2⟩
            · rw [if_neg h1] at hdr'
              by_cases h2 : 0 < s
              · rw [if_pos h2] at hdr'
                replace hdr' := hide hdr'
                clear hdr
                go_wp2
                go_ret
                exact ⟨by rw [oCmp, hI.out, hdr'.out]; rfl, hJ.out.2.2⟩
              · rw [if_neg h2] at hdr'
                replace hdr' := hide hdr'
                clear hdr
                go_wp2
                exact ⟨⟨k + 1, hlt, by simp, by rw [hI.out, hdr'.out], hJ.out.1, hJ.out.2.1, hJ.out.2.2⟩, by simp [intOf]; omega⟩
      · obtain rfl : k = R.length := by omega
        have a0 : (wr).cell? ⟨w.heap.size, 0, none⟩ = some (.int .i64 (a 0)) := (hI.out.2.1).cell 0
        have a1 : (wr).cell? ⟨w.heap.size, 1, none⟩ = some (.int .i64 (a 1)) := (hI.out.2.1).cell 1
        have a2 : (wr).cell? ⟨w.heap.size, 2, none⟩ = some (.int .i64 (a 2)) := (hI.out.2.1).cell 2
        have a3 : (wr).cell? ⟨w.heap.size, 3, none⟩ = some (.int .i64 (a 3)) := (hI.out.2.1).cell 3
        have a4 : (wr).cell? ⟨w.heap.size, 4, none⟩ = some (.int .i64 (a 4)) := (hI.out.2.1).cell 4
        have a5 : (wr).cell? ⟨w.heap.size, 5, none⟩ = some (.int .i64 (a 5)) := (hI.out.2.1).cell 5
        have a6 : (wr).cell? ⟨w.heap.size, 6, none⟩ = some (.int .i64 (a 6)) := (hI.out.2.1).cell 6
        have a7 : (wr).cell? ⟨w.heap.size, 7, none⟩ = some (.int .i64 (a 7)) := (hI.out.2.1).cell 7
        have b0 : (wr).cell? ⟨w.heap.size + 1, 0, none⟩ = some (.int .i64 (b 0)) := (hI.out.2.2.1).cell 0
        have b1 : (wr).cell? ⟨w.heap.size + 1, 1, none⟩ = some (.int .i64 (b 1)) := (hI.out.2.2.1).cell 1
        have b2 : (wr).cell? ⟨w.heap.size + 1, 2, none⟩ = some (.int .i64 (b 2)) := (hI.out.2.2.1).cell 2
        have b3 : (wr).cell? ⟨w.heap.size + 1, 3, none⟩ = some (.int .i64 (b 3)) := (hI.out.2.2.1).cell 3
        have b4 : (wr).cell? ⟨w.heap.size + 1, 4, none⟩ = some (.int .i64 (b 4)) := (hI.out.2.2.1).cell 4
        have b5 : (wr).cell? ⟨w.heap.size + 1, 5, none⟩ = some (.int .i64 (b 5)) := (hI.out.2.2.1).cell 5
        have b6 : (wr).cell? ⟨w.heap.size + 1, 6, none⟩ = some (.int .i64 (b 6)) := (hI.out.2.2.1).cell 6
        have b7 : (wr).cell? ⟨w.heap.size + 1, 7, none⟩ = some (.int .i64 (b 7)) := (hI.out.2.2.1).cell 7
        have hz : Hid (cmpRows R a b = 0) := by have := hI.out.1; rw [List.drop_length] at this; exact this
        go_wp2_with fail
        refine (mCmp_any a b _).mono ?_
        rintro e w2 ⟨rfl, hE2⟩
        go_wp2
        go_ret
        exact ⟨by rw [oCmp, hz.out]; rfl, hI.out.2.2.2.trans hE2⟩

end Go.Proofs.YteefhmdameeoaaaGreat
namespace Go.Proofs.YteefhmdameeoaaaGreat
open Go.RowKit

theorem c8_congr {a b : Nat → Int} (h : ∀ i, i < 8 → a i = b i) : c8 a = c8 b := by
  simp only [c8, h 0 (by omega), h 1 (by omega), h 2 (by omega), h 3 (by omega), h 4 (by omega), h 5 (by omega), h 6 (by omega), h 7 (by omega)]
theorem Blk.set8' {w : World} {g : Nat} {t : TypeId} {a a' : Nat → Int} (h : Blk w g t (c8 a)) {k : Nat} (hk : k < 8) (v : Int) (h1 : a' k = v) (h2 : ∀ i, i < 8 → i ≠ k → a' i = a i) : Blk (w.setCell ⟨g, k, none⟩ (.int .i64 v)) g t (c8 a') := by
  rw [show c8 a' = c8 (fun i => if i = k then v else a i) from c8_congr fun i hi => by
    by_cases e : i = k
    · rw [if_pos e, e, h1]
    · rw [if_neg e, h2 i hi e]]
  exact h.set8 hk v
/-- The first k places of a row, zero from there on. -/
def upTo (a : Nat → Int) (k : Nat) (i : Nat) : Int := if i < k then a i else 0
theorem upTo_lt {a : Nat → Int} {k i : Nat} (h : i < k) : upTo a k i = a i := if_pos h
theorem upTo_ge {a : Nat → Int} {k i : Nat} (h : ¬ i < k) : upTo a k i = 0 := if_neg h
theorem Blk.up8 {w : World} {g : Nat} {t : TypeId} {a : Nat → Int} {k : Nat} (h : Blk w g t (c8 (upTo a k))) (hk : k < 8) {v : Int} (hv : v = a k) : Blk (w.setCell ⟨g, k, none⟩ (.int .i64 v)) g t (c8 (upTo a (k + 1))) := by
  refine h.set8' hk v (by rw [upTo_lt (by omega), hv]) fun i hi hne => ?_
  by_cases h1 : i < k
  · rw [upTo_lt h1, upTo_lt (by omega)]
  · rw [upTo_ge h1, upTo_ge (by omega)]
theorem Blk.full8 {w : World} {g : Nat} {t : TypeId} {a : Nat → Int} (h : Blk w g t (c8 (upTo a 8))) : Blk w g t (c8 a) := by
  rw [← c8_congr (a := upTo a 8) fun i hi => upTo_lt hi]; exact h
/-- Eight cells of a block written. -/
def put8 (w : World) (b : Nat) (a : Nat → Int) : World := (((((((w.setCell ⟨b, 0, none⟩ (.int .i64 (a 0))).setCell ⟨b, 1, none⟩ (.int .i64 (a 1))).setCell ⟨b, 2, none⟩ (.int .i64 (a 2))).setCell ⟨b, 3, none⟩ (.int .i64 (a 3))).setCell ⟨b, 4, none⟩ (.int .i64 (a 4))).setCell ⟨b, 5, none⟩ (.int .i64 (a 5))).setCell ⟨b, 6, none⟩ (.int .i64 (a 6))).setCell ⟨b, 7, none⟩ (.int .i64 (a 7))
theorem Ext.put8 {w w1 : World} (h : Ext w w1) {b : Nat} (hb : w.heap.size ≤ b) (a : Nat → Int) : Ext w (put8 w1 b a) :=
  (((((((h.set (p := ⟨b, 0, none⟩) hb _).set (p := ⟨b, 1, none⟩) hb _).set (p := ⟨b, 2, none⟩) hb _).set (p := ⟨b, 3, none⟩) hb _).set (p := ⟨b, 4, none⟩) hb _).set (p := ⟨b, 5, none⟩) hb _).set (p := ⟨b, 6, none⟩) hb _).set (p := ⟨b, 7, none⟩) hb _

/-- The monomial of exponents. -/
def monoOf (x : Nat → Int) (i : Nat) : Int := x i % 20000
theorem monoOf_in {x : Nat → Int} (h : In8 x 0 65535) : In8 (monoOf x) 0 19999 := fun i hi => by
  have := h i hi
  unfold monoOf
  omega

theorem c16_get (a : Nat → Int) (k : Nat) (h : k < 8) : (#[.int .u16 (a 0), .int .u16 (a 1), .int .u16 (a 2), .int .u16 (a 3), .int .u16 (a 4), .int .u16 (a 5), .int .u16 (a 6), .int .u16 (a 7)] : Array Value)[k]? = some (.int .u16 (a k)) := by
  rcases lt8 h with rfl | rfl | rfl | rfl | rfl | rfl | rfl | rfl <;> rfl
def c16 (a : Nat → Int) : Array Value := #[.int .u16 (a 0), .int .u16 (a 1), .int .u16 (a 2), .int .u16 (a 3), .int .u16 (a 4), .int .u16 (a 5), .int .u16 (a 6), .int .u16 (a 7)]

set_option maxRecDepth 100000 in
set_option maxHeartbeats 800000 in
theorem mono_any (x : Nat → Int) (w : World) (h : In8 x 0 65535) :
    Calls Tryz.prog 32 #[.agg #[.int .u16 (x 0), .int .u16 (x 1), .int .u16 (x 2), .int .u16 (x 3), .int .u16 (x 4), .int .u16 (x 5), .int .u16 (x 6), .int .u16 (x 7)]] w fun e w' => e = .returned (.agg #[.int .i64 (monoOf x 0), .int .i64 (monoOf x 1), .int .i64 (monoOf x 2), .int .i64 (monoOf x 3), .int .i64 (monoOf x 4), .int .i64 (monoOf x 5), .int .i64 (monoOf x 6), .int .i64 (monoOf x 7)]) ∧ Ext w w' := by
  replace h := hide h
  go_enter Tryz.func32, Tryz.ntmps32
  go_wp2
  go_loopw [4] (fun i wr => ∃ k : Nat, k ≤ 8 ∧ i = .int .i64 k ∧ Hid (Blk wr w.heap.size 56 (c16 x) ∧ Blk wr (w.heap.size + 1) 36 (c8 (fun _ => 0)) ∧ Blk wr (w.heap.size + 2) 36 (c8 (upTo (monoOf x) k)) ∧ Ext w wr)) (fun i _ => 8 - (intOf i).toNat)
  case atStart => exact ⟨0, by omega, rfl, ((Blk.new _ _ _).alloc _).alloc _, (Blk.new' _ _ (by simp)).alloc _, Blk.new' _ _ (by simp), (((Ext.refl _).alloc _).alloc _).alloc _⟩
  case round =>
    obtain ⟨k, hk, rfl, hI⟩ := hrel
    by_cases hlt : k < 8
    · have hx : wr.cell? ⟨w.heap.size, k, none⟩ = some (.int .u16 (x k)) := by rw [hI.out.1.cell]; exact c16_get x k hlt
      have hy := hI.out.2.2.1.at8 hlt
      have hz := hI.out.2.2.1.frozen k
      have hb := h.out k hlt
      have hu : Hid (monoOf x k = x k % 20000) := rfl
      generalize x k = e at *
      go_wp2
      exact ⟨⟨k + 1, hlt, by simp, hI.out.1.far (by dsimp only; omega) _, hI.out.2.1.far (by dsimp only; omega) _, hI.out.2.2.1.up8 hlt (by rw [hu.out]), hI.out.2.2.2.set (p := ⟨w.heap.size + 2, k, none⟩) (by dsimp only; omega) _⟩, by simp [intOf]; omega⟩
    · obtain rfl : k = 8 := by omega
      have hf := hI.out.2.2.1.full8
      have x0 : (wr).cell? ⟨w.heap.size + 2, 0, none⟩ = some (.int .i64 (monoOf x 0)) := (hf).cell 0
      have x1 : (wr).cell? ⟨w.heap.size + 2, 1, none⟩ = some (.int .i64 (monoOf x 1)) := (hf).cell 1
      have x2 : (wr).cell? ⟨w.heap.size + 2, 2, none⟩ = some (.int .i64 (monoOf x 2)) := (hf).cell 2
      have x3 : (wr).cell? ⟨w.heap.size + 2, 3, none⟩ = some (.int .i64 (monoOf x 3)) := (hf).cell 3
      have x4 : (wr).cell? ⟨w.heap.size + 2, 4, none⟩ = some (.int .i64 (monoOf x 4)) := (hf).cell 4
      have x5 : (wr).cell? ⟨w.heap.size + 2, 5, none⟩ = some (.int .i64 (monoOf x 5)) := (hf).cell 5
      have x6 : (wr).cell? ⟨w.heap.size + 2, 6, none⟩ = some (.int .i64 (monoOf x 6)) := (hf).cell 6
      have x7 : (wr).cell? ⟨w.heap.size + 2, 7, none⟩ = some (.int .i64 (monoOf x 7)) := (hf).cell 7
      have hd := hI.out.2.1
      have y0 : (wr).cell? ⟨w.heap.size + 1, 0, none⟩ = some (.int .i64 0) := (hd).cell 0
      have y1 : (wr).cell? ⟨w.heap.size + 1, 1, none⟩ = some (.int .i64 0) := (hd).cell 1
      have y2 : (wr).cell? ⟨w.heap.size + 1, 2, none⟩ = some (.int .i64 0) := (hd).cell 2
      have y3 : (wr).cell? ⟨w.heap.size + 1, 3, none⟩ = some (.int .i64 0) := (hd).cell 3
      have y4 : (wr).cell? ⟨w.heap.size + 1, 4, none⟩ = some (.int .i64 0) := (hd).cell 4
      have y5 : (wr).cell? ⟨w.heap.size + 1, 5, none⟩ = some (.int .i64 0) := (hd).cell 5
      have y6 : (wr).cell? ⟨w.heap.size + 1, 6, none⟩ = some (.int .i64 0) := (hd).cell 6
      have y7 : (wr).cell? ⟨w.heap.size + 1, 7, none⟩ = some (.int .i64 0) := (hd).cell 7
      have z0 := (hd).frozen 0
      have z1 := (hd).frozen 1
      have z2 := (hd).frozen 2
      have z3 := (hd).frozen 3
      have z4 := (hd).frozen 4
      have z5 := (hd).frozen 5
      have z6 := (hd).frozen 6
      have z7 := (hd).frozen 7
      replace hd := hide hd
      replace hf := hide hf
      go_wp2
      refine bodyPost_ret (v := .agg #[.int .i64 (monoOf x 0), .int .i64 (monoOf x 1), .int .i64 (monoOf x 2), .int .i64 (monoOf x 3), .int .i64 (monoOf x 4), .int .i64 (monoOf x 5), .int .i64 (monoOf x 6), .int .i64 (monoOf x 7)]) (by simp [results, Tryz.results32, go_sem, y0, y1, y2, y3, y4, y5, y6, y7]) rfl ⟨rfl, ?_⟩
      exact hI.out.2.2.2.put8 (b := w.heap.size + 1) (by omega) (monoOf x)

/-- The comparison by the last place in which the rows differ: so many places are left. -/
def lastTo (a b : Nat → Int) : Nat → Int
  | 0 => 0
  | k + 1 => if a k < b k then 1 else if b k < a k then -1 else lastTo a b k

theorem wrap64_small {x : Int} (h0 : 0 ≤ x) (h1 : x < 9223372036854775808) : wrap64 x = x := by
  unfold wrap64; omega
theorem bit_eq : ∀ m : Nat, m < 256 → ∀ k : Nat, k < 8 → bits BinOp.and IntKind.u8 ((m : Int) / 2 ^ k) 1 = (m >>> k % 2 : Nat) := by decide +kernel
/-- The bits of a mask as a row. -/
def onesOf (m : Nat) (i : Nat) : Int := (m >>> i % 2 : Nat)

set_option maxRecDepth 100000 in
set_option maxHeartbeats 800000 in
theorem ones_any (m : Nat) (w : World) (hm : m < 256) :
    Calls Tryz.prog 38 #[.int .u8 m] w fun e w' => e = .returned (.agg #[.int .i64 (onesOf m 0), .int .i64 (onesOf m 1), .int .i64 (onesOf m 2), .int .i64 (onesOf m 3), .int .i64 (onesOf m 4), .int .i64 (onesOf m 5), .int .i64 (onesOf m 6), .int .i64 (onesOf m 7)]) ∧ Ext w w' := by
  go_enter Tryz.func38, Tryz.ntmps38
  go_wp2
  go_loopw [5] (fun i wr => ∃ k : Nat, k ≤ 8 ∧ i = .int .i64 k ∧ Hid (Blk wr w.heap.size 35 (c8 (fun _ => 0)) ∧ Blk wr (w.heap.size + 1) 35 (c8 (upTo (onesOf m) k)) ∧ Ext w wr)) (fun i _ => 8 - (intOf i).toNat)
  case atStart => exact ⟨0, by omega, rfl, (Blk.new _ _ _).alloc _, Blk.new' _ _ (by simp), ((Ext.refl _).alloc _).alloc _⟩
  case round =>
    obtain ⟨k, hk, rfl, hI⟩ := hrel
    by_cases hlt : k < 8
    · have hy := hI.out.2.1.at8 hlt
      have hz := hI.out.2.1.frozen k
      have hu : Hid (onesOf m k = (m >>> k % 2 : Nat)) := rfl
      go_wp2
      have hv : wrap64 (bits BinOp.and IntKind.u8 (m / 2 ^ k) 1) = onesOf m k := by
        rw [bit_eq m hm k hlt, onesOf, wrap64_small (by omega) (by omega)]
      exact ⟨⟨k + 1, hlt, by simp, hI.out.1.far (by dsimp only; omega) _, hI.out.2.1.up8 hlt hv, hI.out.2.2.set (p := ⟨w.heap.size + 1, k, none⟩) (by dsimp only; omega) _⟩, by simp [intOf]; omega⟩
    · obtain rfl : k = 8 := by omega
      have hf := hI.out.2.1.full8
      have x0 : (wr).cell? ⟨w.heap.size + 1, 0, none⟩ = some (.int .i64 (onesOf m 0)) := (hf).cell 0
      have x1 : (wr).cell? ⟨w.heap.size + 1, 1, none⟩ = some (.int .i64 (onesOf m 1)) := (hf).cell 1
      have x2 : (wr).cell? ⟨w.heap.size + 1, 2, none⟩ = some (.int .i64 (onesOf m 2)) := (hf).cell 2
      have x3 : (wr).cell? ⟨w.heap.size + 1, 3, none⟩ = some (.int .i64 (onesOf m 3)) := (hf).cell 3
      have x4 : (wr).cell? ⟨w.heap.size + 1, 4, none⟩ = some (.int .i64 (onesOf m 4)) := (hf).cell 4
      have x5 : (wr).cell? ⟨w.heap.size + 1, 5, none⟩ = some (.int .i64 (onesOf m 5)) := (hf).cell 5
      have x6 : (wr).cell? ⟨w.heap.size + 1, 6, none⟩ = some (.int .i64 (onesOf m 6)) := (hf).cell 6
      have x7 : (wr).cell? ⟨w.heap.size + 1, 7, none⟩ = some (.int .i64 (onesOf m 7)) := (hf).cell 7
      have hd := hI.out.1
      have y0 : (wr).cell? ⟨w.heap.size, 0, none⟩ = some (.int .i64 0) := (hd).cell 0
      have y1 : (wr).cell? ⟨w.heap.size, 1, none⟩ = some (.int .i64 0) := (hd).cell 1
      have y2 : (wr).cell? ⟨w.heap.size, 2, none⟩ = some (.int .i64 0) := (hd).cell 2
      have y3 : (wr).cell? ⟨w.heap.size, 3, none⟩ = some (.int .i64 0) := (hd).cell 3
      have y4 : (wr).cell? ⟨w.heap.size, 4, none⟩ = some (.int .i64 0) := (hd).cell 4
      have y5 : (wr).cell? ⟨w.heap.size, 5, none⟩ = some (.int .i64 0) := (hd).cell 5
      have y6 : (wr).cell? ⟨w.heap.size, 6, none⟩ = some (.int .i64 0) := (hd).cell 6
      have y7 : (wr).cell? ⟨w.heap.size, 7, none⟩ = some (.int .i64 0) := (hd).cell 7
      have z0 := (hd).frozen 0
      have z1 := (hd).frozen 1
      have z2 := (hd).frozen 2
      have z3 := (hd).frozen 3
      have z4 := (hd).frozen 4
      have z5 := (hd).frozen 5
      have z6 := (hd).frozen 6
      have z7 := (hd).frozen 7
      replace hd := hide hd
      replace hf := hide hf
      go_wp2
      refine bodyPost_ret (v := .agg #[.int .i64 (onesOf m 0), .int .i64 (onesOf m 1), .int .i64 (onesOf m 2), .int .i64 (onesOf m 3), .int .i64 (onesOf m 4), .int .i64 (onesOf m 5), .int .i64 (onesOf m 6), .int .i64 (onesOf m 7)]) (by simp [results, Tryz.results38, go_sem, y0, y1, y2, y3, y4, y5, y6, y7]) rfl ⟨rfl, ?_⟩
      exact hI.out.2.2.put8 (b := w.heap.size) (by omega) (onesOf m)

end Go.Proofs.YteefhmdameeoaaaGreat
namespace Go.Proofs.YteefhmdameeoaaaGreat
open Go.RowKit

/-- The cells of rows. -/
def rl (R : List (Nat → Int)) : List Value := R.flatMap fun a => (c8 a).toList
theorem rl_cons (a : Nat → Int) (R : List (Nat → Int)) : rl (a :: R) = (c8 a).toList ++ rl R := rfl
theorem rl_append (R S : List (Nat → Int)) : rl (R ++ S) = rl R ++ rl S := by simp [rl]
theorem rl_length : ∀ R : List (Nat → Int), (rl R).length = R.length * 8
  | [] => rfl
  | a :: R => by rw [rl_cons, List.length_append, rl_length R]; simp [c8]; omega
theorem rowAt_cons (a : Nat → Int) (R : List (Nat → Int)) (k : Nat) : rowAt (a :: R) (k + 1) = rowAt R k := by simp [rowAt]
theorem rl_get : ∀ (R : List (Nat → Int)) (k j : Nat), k < R.length → j < 8 → (rl R)[k * 8 + j]? = some (.int .i64 (rowAt R k j))
  | [], k, j, h, _ => by simp at h
  | a :: R, 0, j, _, hj => by
    rw [rl_cons, List.getElem?_append_left (by simp [c8]; omega), Nat.zero_mul, Nat.zero_add, Array.getElem?_toList, c8_get a j hj]
    rfl
  | a :: R, k + 1, j, hk, hj => by
    rw [rl_cons, List.getElem?_append_right (by simp [c8]; omega), rowAt_cons, ← rl_get R k j (by simpa using hk) hj]
    congr 1
    simp [c8]
    omega
theorem rl_int {R : List (Nat → Int)} {u : Value} (h : u ∈ rl R) : u.oneCell' = true := by
  simp only [rl, List.mem_flatMap] at h
  obtain ⟨a, _, hu⟩ := h
  simp [c8] at hu
  rcases hu with rfl | rfl | rfl | rfl | rfl | rfl | rfl | rfl <;> rfl

/-- A slice of rows in memory that was made since the world had base blocks. -/
def OwnRows (t : TypeId) (base : Nat) (w : World) (v : Value) (R : List (Nat → Int)) : Prop := w.ownsRow base t 8 v R.length (rl R)

theorem OwnRows.rows {t : TypeId} {base : Nat} {w : World} {v : Value} {R : List (Nat → Int)} (h : OwnRows t base w v R) : RowsAt .i64 t w v R := by
  obtain ⟨h1, h2⟩ := h
  rcases h2 with ⟨rfl, h0⟩ | ⟨g, cap, cur, rfl, _, hg, hc, hm, hsz, ht⟩
  · exact ⟨none, 0, by rw [h0], by omega, by omega, fun hp => by omega⟩
  · refine ⟨_, cap, rfl, hc, by simpa [maxLen] using hm, fun _ => ⟨g, 0, cur, (0, 0), rfl, hg, fun k j hk hj => ?_⟩⟩
    have e1 : (cur.toList.take (R.length * 8))[k * 8 + j]? = (rl R)[k * 8 + j]? := by rw [ht]
    rw [List.getElem?_take, if_pos (by omega), rl_get R k j hk hj] at e1
    rw [Nat.zero_add]
    simpa using e1
theorem OwnRows.form {t : TypeId} {base : Nat} {w : World} {v : Value} {R : List (Nat → Int)} (h : OwnRows t base w v R) : ∃ A c, v = .slice A R.length c := by
  obtain ⟨_, h2⟩ := h
  rcases h2 with ⟨rfl, h0⟩ | ⟨g, cap, cur, rfl, _⟩
  · exact ⟨none, 0, by rw [h0]⟩
  · exact ⟨_, _, rfl⟩
theorem OwnRows.nil (t : TypeId) (base : Nat) (w : World) : OwnRows t base w (.slice none 0 0) [] := ⟨rfl, .inl ⟨rfl, rfl⟩⟩
theorem OwnRows.ext {t : TypeId} {base : Nat} {w w' : World} {v : Value} {R : List (Nat → Int)} (h : OwnRows t base w v R) (he : Ext w w') : OwnRows t base w' v R := by
  obtain ⟨h1, h2⟩ := h
  refine ⟨h1, ?_⟩
  rcases h2 with h2 | ⟨g, cap, cur, h3, h4, hg, h5⟩
  · exact .inl h2
  · exact .inr ⟨g, cap, cur, h3, h4, (he.block (lt_of_heap hg)).trans hg, h5⟩
theorem OwnRows.blk {t : TypeId} {base g : Nat} {w : World} {R : List (Nat → Int)} {c : Nat} (hg : base ≤ g) (hb : Blk w g t (rl R).toArray) (hc : c = R.length) (hm : R.length ≤ 1000000000000) : OwnRows t base w (.slice (some ⟨g, 0, none⟩) R.length c) R := by
  subst hc
  exact ⟨rl_length R, .inr ⟨g, _, _, rfl, hg, hb, Nat.le_refl _, by simp only [maxLen]; omega, by simp [rl_length], by rw [List.toList_toArray, List.take_of_length_le (by rw [rl_length]; omega)]⟩⟩
theorem OwnRows.base_le {t : TypeId} {base : Nat} {w : World} {v : Value} {R : List (Nat → Int)} (h : OwnRows t base w v R) : ∀ k, v.ownBlock = some k → base ≤ k := by
  intro k hk
  obtain ⟨h1, h2⟩ := h
  rcases h2 with ⟨rfl, _⟩ | ⟨g, cap, cur, rfl, h4, hg, h5⟩
  · cases hk
  · cases hk; exact h4

/-- What append of rows leaves. -/
def AppendRows (t : TypeId) (ts base : Nat) (w : World) (v x : Value) (R S : List (Nat → Int)) : Prop :=
  ∃ A c w', (Builtin.append_ #[ts, ts] ts #[v, x]).run Tryz.prog w = .ok (.slice A (R.length + S.length) c) w' ∧ OwnRows t base w' (.slice A (R.length + S.length) c) (R ++ S) ∧ w.grownBy w' v.ownBlock

theorem append_order {base : Nat} {w : World} {v x : Value} {R S : List (Nat → Int)} (h : OwnRows 35 base w v R) (hx : RowsAt .i64 35 w x S) (h0 : 0 < S.length) (hn : R.length + S.length ≤ 1000000000000) (hb : base ≤ w.heap.size) : AppendRows 35 30 base w v x R S := by
  obtain ⟨i, hi, hz0, hz1, hz2⟩ := info_parts (show (Tryz.prog.info? 35).map (fun i => (i.zero, i.size, i.bytes)) = some (some (.agg (c8 fun _ => 0)), 8, 64) by kernel_rfl)
  obtain ⟨A, c, rfl, hc, hm, hcells⟩ := hx.open_
  obtain ⟨b, o, rfl, hbl, hcell⟩ := hcells h0
  have hnews : ∀ (q : Nat) (u : Value), (rl S)[q]? = some u → w.cell? ((⟨b, o, none⟩ : Addr).add q) = some u := by
    intro q u hu
    have hq : q < S.length * 8 := by rw [← rl_length]; exact (List.getElem?_eq_some_iff.1 hu).1
    have e : q = q / 8 * 8 + q % 8 := by omega
    have hu' := rl_get S (q / 8) (q % 8) (by omega) (by omega)
    rw [← e, hu] at hu'
    have e2 : o + q = o + q / 8 * 8 + q % 8 := by omega
    rw [hu', add_mk, e2]
    exact hcell (q / 8) (q % 8) (by omega) (by omega)
  obtain ⟨v', w', hrun, hown, hg, _⟩ := run_append_own (P := Tryz.prog) w base 30 30 35 i _ 8 64 Tryz.underlying30 hi hz0 hz1 hz2 rfl (by omega)
    v R.length (rl R) h ⟨b, o, none⟩ S.length c (rl S) (rl_length S) hnews (fun u hu => rl_int hu) (by simp only [maxLen]; omega) (by omega) hb
  have hO : OwnRows 35 base w' v' (R ++ S) := by
    unfold OwnRows
    rw [List.length_append, rl_append]
    exact hown
  obtain ⟨A, c', rfl⟩ := hO.form
  rw [List.length_append] at hrun hO
  exact ⟨A, c', w', hrun, hO, hg⟩

theorem append_monos {base : Nat} {w : World} {v x : Value} {R S : List (Nat → Int)} (h : OwnRows 36 base w v R) (hx : RowsAt .i64 36 w x S) (h0 : 0 < S.length) (hn : R.length + S.length ≤ 1000000000000) (hb : base ≤ w.heap.size) : AppendRows 36 32 base w v x R S := by
  obtain ⟨i, hi, hz0, hz1, hz2⟩ := info_parts (show (Tryz.prog.info? 36).map (fun i => (i.zero, i.size, i.bytes)) = some (some (.agg (c8 fun _ => 0)), 8, 64) by kernel_rfl)
  obtain ⟨A, c, rfl, hc, hm, hcells⟩ := hx.open_
  obtain ⟨b, o, rfl, hbl, hcell⟩ := hcells h0
  have hnews : ∀ (q : Nat) (u : Value), (rl S)[q]? = some u → w.cell? ((⟨b, o, none⟩ : Addr).add q) = some u := by
    intro q u hu
    have hq : q < S.length * 8 := by rw [← rl_length]; exact (List.getElem?_eq_some_iff.1 hu).1
    have e : q = q / 8 * 8 + q % 8 := by omega
    have hu' := rl_get S (q / 8) (q % 8) (by omega) (by omega)
    rw [← e, hu] at hu'
    have e2 : o + q = o + q / 8 * 8 + q % 8 := by omega
    rw [hu', add_mk, e2]
    exact hcell (q / 8) (q % 8) (by omega) (by omega)
  obtain ⟨v', w', hrun, hown, hg, _⟩ := run_append_own (P := Tryz.prog) w base 32 32 36 i _ 8 64 Tryz.underlying32 hi hz0 hz1 hz2 rfl (by omega)
    v R.length (rl R) h ⟨b, o, none⟩ S.length c (rl S) (rl_length S) hnews (fun u hu => rl_int hu) (by simp only [maxLen]; omega) (by omega) hb
  have hO : OwnRows 36 base w' v' (R ++ S) := by
    unfold OwnRows
    rw [List.length_append, rl_append]
    exact hown
  obtain ⟨A, c', rfl⟩ := hO.form
  rw [List.length_append] at hrun hO
  exact ⟨A, c', w', hrun, hO, hg⟩

end Go.Proofs.YteefhmdameeoaaaGreat
namespace Go.Proofs.YteefhmdameeoaaaGreat
open Go.RowKit

/-- The call returns an order in memory of its own. -/
def RetOrder (R : List (Nat → Int)) (w : World) (e : Ending) (w' : World) : Prop :=
  ∃ (A : Option Addr) (c : Nat), e = .returned (.slice A R.length c) ∧ OwnRows 35 w.heap.size w' (.slice A R.length c) R ∧ Ext w w'

set_option maxRecDepth 100000 in
theorem Lex_any (w : World) : Calls Tryz.prog 21 #[] w (RetOrder [] w) := by
  go_enter Tryz.func21, Tryz.ntmps21
  go_wp2
  go_ret
  exact ⟨_, _, rfl, OwnRows.blk (R := []) (Nat.le_refl _) (Blk.new _ _ _) rfl (by simp), (Ext.refl _).alloc _⟩

set_option maxRecDepth 100000 in
theorem Graded_any (w : World) : Calls Tryz.prog 23 #[] w (RetOrder [onesOf 255] w) := by
  go_enter Tryz.func23, Tryz.ntmps23
  go_wp2_with fail
  refine (ones_any 255 _ (by omega)).mono ?_
  rintro e w1 ⟨rfl, hE1⟩
  go_wp2
  go_ret
  exact ⟨_, _, rfl, OwnRows.blk (R := [onesOf 255]) hE1.size (Blk.new _ _ _) rfl (by simp), hE1.alloc _⟩

theorem Ext.grown' {a w w' : World} {row : Option Nat} (h : Ext a w) (hg : w.grownBy w' row) (hr : ∀ k, row = some k → a.heap.size ≤ k) : Ext a w' := Below.grown h hg h.size hr
/-- The row with -1 at one place. -/
def minusOne (k : Nat) (i : Nat) : Int := if i = k then -1 else 0
/-- The rows of Reverse from the k-th down. -/
def revTail : Nat → List (Nat → Int)
  | 0 => []
  | k + 1 => minusOne (k + 1) :: revTail k
def revRows : List (Nat → Int) := onesOf 255 :: revTail 7
theorem blk_zero_minus {w : World} {g : Nat} {t : TypeId} (h : Blk w g t (c8 fun _ => 0)) {k : Nat} (hk : k < 8) : Blk (w.setCell ⟨g, k, none⟩ (.int .i64 (-1))) g t (c8 (minusOne k)) :=
  h.set8' hk (-1) (by simp [minusOne]) fun i _ hne => by simp [minusOne, hne]

set_option maxRecDepth 100000 in
set_option maxHeartbeats 800000 in
theorem Reverse_any (w : World) : Calls Tryz.prog 25 #[] w (RetOrder revRows w) := by
  go_enter Tryz.func25, Tryz.ntmps25
  go_wp2_with fail
  refine (ones_any 255 _ (by omega)).mono ?_
  rintro e w1 ⟨rfl, hE1⟩
  have hs := hE1.size
  go_wp2
  go_loopw [1, 2] (fun v i wr => ∃ (k : Nat) (R : List (Nat → Int)) (A : Option Addr) (c : Nat), k ≤ 7 ∧ i = .int .i64 k ∧ v = .slice A R.length c ∧ Hid (R ++ revTail k = revRows ∧ OwnRows 35 w.heap.size wr (.slice A R.length c) R ∧ Ext w wr)) (fun _ i _ => (intOf i).toNat)
  case atStart => exact ⟨7, [onesOf 255], _, _, by omega, rfl, rfl, rfl, OwnRows.blk (R := [onesOf 255]) hs (Blk.new _ _ _) rfl (by simp), hE1.alloc _⟩
  case round =>
    obtain ⟨k, R, A, c, hk, rfl, rfl, hI⟩ := hrel
    match k, hk, hI with
    | 0, hk, hI =>
      have e : R = revRows := by have := hI.out.1; rwa [revTail, List.append_nil] at this
      subst e
      go_wp2
      go_ret
      exact ⟨A, c, rfl, hI.out.2.1, hI.out.2.2⟩
    | 1, hk, hI =>
      have hE2 : Hid (Ext wr (wr.alloc (.cells #[.int .i64 0, .int .i64 (-1), .int .i64 0, .int .i64 0, .int .i64 0, .int .i64 0, .int .i64 0, .int .i64 0] 35))) := (Ext.refl _).alloc _
      have hT : Hid (R ++ [minusOne 1] ++ revTail 0 = revRows) := by have := hI.out.1; rw [revTail] at this; rw [← this]; show _ ++ _ ++ _ = _; rw [List.append_assoc]; rfl
      have hl : R.length ≤ 8 := by have := congrArg List.length hI.out.1; simp [revRows, revTail] at this; omega
      obtain ⟨A', c', w', hrun, hO, hg⟩ := append_order (base := w.heap.size) (w := (wr.alloc (.cells #[.int .i64 0, .int .i64 (-1), .int .i64 0, .int .i64 0, .int .i64 0, .int .i64 0, .int .i64 0, .int .i64 0] 35)).alloc (.cells #[.int .i64 0, .int .i64 (-1), .int .i64 0, .int .i64 0, .int .i64 0, .int .i64 0, .int .i64 0, .int .i64 0] 35)) (S := [minusOne 1]) (x := .slice (some ⟨wr.heap.size + 1, 0, none⟩) 1 1)
        ((hI.out.2.1.ext hE2.out).ext ((Ext.refl _).alloc _)) (OwnRows.blk (R := [minusOne 1]) (c := 1) (base := 0) (g := wr.heap.size + 1) (Nat.zero_le _) (Blk.new' _ _ (by simp)) rfl (by simp)).rows (by simp) (by simp; omega) (by have := hI.out.2.2.size; simp; omega)
      have hE3 : Hid (Ext w w') := ((hI.out.2.2.trans hE2.out).alloc _).grown' hg hI.out.2.1.base_le
      replace hrun := hide hrun
      replace hO := hide hO
      clear hg
      go_wp2_with (at_builtin; go_loud (refine wpList_append_run rfl _ _ _ rfl _ _ rfl rfl hrun.out ?_))
      exact ⟨⟨0, R ++ [minusOne 1], A', c', by omega, rfl, by simp, hT.out, by simpa using hO.out, hE3.out⟩, by simp [intOf]⟩
    | 2, hk, hI =>
      have hE2 : Hid (Ext wr (wr.alloc (.cells #[.int .i64 0, .int .i64 0, .int .i64 (-1), .int .i64 0, .int .i64 0, .int .i64 0, .int .i64 0, .int .i64 0] 35))) := (Ext.refl _).alloc _
      have hT : Hid (R ++ [minusOne 2] ++ revTail 1 = revRows) := by have := hI.out.1; rw [revTail] at this; rw [← this]; show _ ++ _ ++ _ = _; rw [List.append_assoc]; rfl
      have hl : R.length ≤ 8 := by have := congrArg List.length hI.out.1; simp [revRows, revTail] at this; omega
      obtain ⟨A', c', w', hrun, hO, hg⟩ := append_order (base := w.heap.size) (w := (wr.alloc (.cells #[.int .i64 0, .int .i64 0, .int .i64 (-1), .int .i64 0, .int .i64 0, .int .i64 0, .int .i64 0, .int .i64 0] 35)).alloc (.cells #[.int .i64 0, .int .i64 0, .int .i64 (-1), .int .i64 0, .int .i64 0, .int .i64 0, .int .i64 0, .int .i64 0] 35)) (S := [minusOne 2]) (x := .slice (some ⟨wr.heap.size + 1, 0, none⟩) 1 1)
        ((hI.out.2.1.ext hE2.out).ext ((Ext.refl _).alloc _)) (OwnRows.blk (R := [minusOne 2]) (c := 1) (base := 0) (g := wr.heap.size + 1) (Nat.zero_le _) (Blk.new' _ _ (by simp)) rfl (by simp)).rows (by simp) (by simp; omega) (by have := hI.out.2.2.size; simp; omega)
      have hE3 : Hid (Ext w w') := ((hI.out.2.2.trans hE2.out).alloc _).grown' hg hI.out.2.1.base_le
      replace hrun := hide hrun
      replace hO := hide hO
      clear hg
      go_wp2_with (at_builtin; go_loud (refine wpList_append_run rfl _ _ _ rfl _ _ rfl rfl hrun.out ?_))
      exact ⟨⟨1, R ++ [minusOne 2], A', c', by omega, rfl, by simp, hT.out, by simpa using hO.out, hE3.out⟩, by simp [intOf]⟩
    | 3, hk, hI =>
      have hE2 : Hid (Ext wr (wr.alloc (.cells #[.int .i64 0, .int .i64 0, .int .i64 0, .int .i64 (-1), .int .i64 0, .int .i64 0, .int .i64 0, .int .i64 0] 35))) := (Ext.refl _).alloc _
      have hT : Hid (R ++ [minusOne 3] ++ revTail 2 = revRows) := by have := hI.out.1; rw [revTail] at this; rw [← this]; show _ ++ _ ++ _ = _; rw [List.append_assoc]; rfl
      have hl : R.length ≤ 8 := by have := congrArg List.length hI.out.1; simp [revRows, revTail] at this; omega
      obtain ⟨A', c', w', hrun, hO, hg⟩ := append_order (base := w.heap.size) (w := (wr.alloc (.cells #[.int .i64 0, .int .i64 0, .int .i64 0, .int .i64 (-1), .int .i64 0, .int .i64 0, .int .i64 0, .int .i64 0] 35)).alloc (.cells #[.int .i64 0, .int .i64 0, .int .i64 0, .int .i64 (-1), .int .i64 0, .int .i64 0, .int .i64 0, .int .i64 0] 35)) (S := [minusOne 3]) (x := .slice (some ⟨wr.heap.size + 1, 0, none⟩) 1 1)
        ((hI.out.2.1.ext hE2.out).ext ((Ext.refl _).alloc _)) (OwnRows.blk (R := [minusOne 3]) (c := 1) (base := 0) (g := wr.heap.size + 1) (Nat.zero_le _) (Blk.new' _ _ (by simp)) rfl (by simp)).rows (by simp) (by simp; omega) (by have := hI.out.2.2.size; simp; omega)
      have hE3 : Hid (Ext w w') := ((hI.out.2.2.trans hE2.out).alloc _).grown' hg hI.out.2.1.base_le
      replace hrun := hide hrun
      replace hO := hide hO
      clear hg
      go_wp2_with (at_builtin; go_loud (refine wpList_append_run rfl _ _ _ rfl _ _ rfl rfl hrun.out ?_))
      exact ⟨⟨2, R ++ [minusOne 3], A', c', by omega, rfl, by simp, hT.out, by simpa using hO.out, hE3.out⟩, by simp [intOf]⟩
    | 4, hk, hI =>
      have hE2 : Hid (Ext wr (wr.alloc (.cells #[.int .i64 0, .int .i64 0, .int .i64 0, .int .i64 0, .int .i64 (-1), .int .i64 0, .int .i64 0, .int .i64 0] 35))) := (Ext.refl _).alloc _
      have hT : Hid (R ++ [minusOne 4] ++ revTail 3 = revRows) := by have := hI.out.1; rw [revTail] at this; rw [← this]; show _ ++ _ ++ _ = _; rw [List.append_assoc]; rfl
      have hl : R.length ≤ 8 := by have := congrArg List.length hI.out.1; simp [revRows, revTail] at this; omega
      obtain ⟨A', c', w', hrun, hO, hg⟩ := append_order (base := w.heap.size) (w := (wr.alloc (.cells #[.int .i64 0, .int .i64 0, .int .i64 0, .int .i64 0, .int .i64 (-1), .int .i64 0, .int .i64 0, .int .i64 0] 35)).alloc (.cells #[.int .i64 0, .int .i64 0, .int .i64 0, .int .i64 0, .int .i64 (-1), .int .i64 0, .int .i64 0, .int .i64 0] 35)) (S := [minusOne 4]) (x := .slice (some ⟨wr.heap.size + 1, 0, none⟩) 1 1)
        ((hI.out.2.1.ext hE2.out).ext ((Ext.refl _).alloc _)) (OwnRows.blk (R := [minusOne 4]) (c := 1) (base := 0) (g := wr.heap.size + 1) (Nat.zero_le _) (Blk.new' _ _ (by simp)) rfl (by simp)).rows (by simp) (by simp; omega) (by have := hI.out.2.2.size; simp; omega)
      have hE3 : Hid (Ext w w') := ((hI.out.2.2.trans hE2.out).alloc _).grown' hg hI.out.2.1.base_le
      replace hrun := hide hrun
      replace hO := hide hO
      clear hg
      go_wp2_with (at_builtin; go_loud (refine wpList_append_run rfl _ _ _ rfl _ _ rfl rfl hrun.out ?_))
      exact ⟨⟨3, R ++ [minusOne 4], A', c', by omega, rfl, by simp, hT.out, by simpa using hO.out, hE3.out⟩, by simp [intOf]⟩
    | 5, hk, hI =>
      have hE2 : Hid (Ext wr (wr.alloc (.cells #[.int .i64 0, .int .i64 0, .int .i64 0, .int .i64 0, .int .i64 0, .int .i64 (-1), .int .i64 0, .int .i64 0] 35))) := (Ext.refl _).alloc _
      have hT : Hid (R ++ [minusOne 5] ++ revTail 4 = revRows) := by have := hI.out.1; rw [revTail] at this; rw [← this]; show _ ++ _ ++ _ = _; rw [List.append_assoc]; rfl
      have hl : R.length ≤ 8 := by have := congrArg List.length hI.out.1; simp [revRows, revTail] at this; omega
      obtain ⟨A', c', w', hrun, hO, hg⟩ := append_order (base := w.heap.size) (w := (wr.alloc (.cells #[.int .i64 0, .int .i64 0, .int .i64 0, .int .i64 0, .int .i64 0, .int .i64 (-1), .int .i64 0, .int .i64 0] 35)).alloc (.cells #[.int .i64 0, .int .i64 0, .int .i64 0, .int .i64 0, .int .i64 0, .int .i64 (-1), .int .i64 0, .int .i64 0] 35)) (S := [minusOne 5]) (x := .slice (some ⟨wr.heap.size + 1, 0, none⟩) 1 1)
        ((hI.out.2.1.ext hE2.out).ext ((Ext.refl _).alloc _)) (OwnRows.blk (R := [minusOne 5]) (c := 1) (base := 0) (g := wr.heap.size + 1) (Nat.zero_le _) (Blk.new' _ _ (by simp)) rfl (by simp)).rows (by simp) (by simp; omega) (by have := hI.out.2.2.size; simp; omega)
      have hE3 : Hid (Ext w w') := ((hI.out.2.2.trans hE2.out).alloc _).grown' hg hI.out.2.1.base_le
      replace hrun := hide hrun
      replace hO := hide hO
      clear hg
      go_wp2_with (at_builtin; go_loud (refine wpList_append_run rfl _ _ _ rfl _ _ rfl rfl hrun.out ?_))
      exact ⟨⟨4, R ++ [minusOne 5], A', c', by omega, rfl, by simp, hT.out, by simpa using hO.out, hE3.out⟩, by simp [intOf]⟩
    | 6, hk, hI =>
      have hE2 : Hid (Ext wr (wr.alloc (.cells #[.int .i64 0, .int .i64 0, .int .i64 0, .int .i64 0, .int .i64 0, .int .i64 0, .int .i64 (-1), .int .i64 0] 35))) := (Ext.refl _).alloc _
      have hT : Hid (R ++ [minusOne 6] ++ revTail 5 = revRows) := by have := hI.out.1; rw [revTail] at this; rw [← this]; show _ ++ _ ++ _ = _; rw [List.append_assoc]; rfl
      have hl : R.length ≤ 8 := by have := congrArg List.length hI.out.1; simp [revRows, revTail] at this; omega
      obtain ⟨A', c', w', hrun, hO, hg⟩ := append_order (base := w.heap.size) (w := (wr.alloc (.cells #[.int .i64 0, .int .i64 0, .int .i64 0, .int .i64 0, .int .i64 0, .int .i64 0, .int .i64 (-1), .int .i64 0] 35)).alloc (.cells #[.int .i64 0, .int .i64 0, .int .i64 0, .int .i64 0, .int .i64 0, .int .i64 0, .int .i64 (-1), .int .i64 0] 35)) (S := [minusOne 6]) (x := .slice (some ⟨wr.heap.size + 1, 0, none⟩) 1 1)
        ((hI.out.2.1.ext hE2.out).ext ((Ext.refl _).alloc _)) (OwnRows.blk (R := [minusOne 6]) (c := 1) (base := 0) (g := wr.heap.size + 1) (Nat.zero_le _) (Blk.new' _ _ (by simp)) rfl (by simp)).rows (by simp) (by simp; omega) (by have := hI.out.2.2.size; simp; omega)
      have hE3 : Hid (Ext w w') := ((hI.out.2.2.trans hE2.out).alloc _).grown' hg hI.out.2.1.base_le
      replace hrun := hide hrun
      replace hO := hide hO
      clear hg
      go_wp2_with (at_builtin; go_loud (refine wpList_append_run rfl _ _ _ rfl _ _ rfl rfl hrun.out ?_))
      exact ⟨⟨5, R ++ [minusOne 6], A', c', by omega, rfl, by simp, hT.out, by simpa using hO.out, hE3.out⟩, by simp [intOf]⟩
    | 7, hk, hI =>
      have hE2 : Hid (Ext wr (wr.alloc (.cells #[.int .i64 0, .int .i64 0, .int .i64 0, .int .i64 0, .int .i64 0, .int .i64 0, .int .i64 0, .int .i64 (-1)] 35))) := (Ext.refl _).alloc _
      have hT : Hid (R ++ [minusOne 7] ++ revTail 6 = revRows) := by have := hI.out.1; rw [revTail] at this; rw [← this]; show _ ++ _ ++ _ = _; rw [List.append_assoc]; rfl
      have hl : R.length ≤ 8 := by have := congrArg List.length hI.out.1; simp [revRows, revTail] at this; omega
      obtain ⟨A', c', w', hrun, hO, hg⟩ := append_order (base := w.heap.size) (w := (wr.alloc (.cells #[.int .i64 0, .int .i64 0, .int .i64 0, .int .i64 0, .int .i64 0, .int .i64 0, .int .i64 0, .int .i64 (-1)] 35)).alloc (.cells #[.int .i64 0, .int .i64 0, .int .i64 0, .int .i64 0, .int .i64 0, .int .i64 0, .int .i64 0, .int .i64 (-1)] 35)) (S := [minusOne 7]) (x := .slice (some ⟨wr.heap.size + 1, 0, none⟩) 1 1)
        ((hI.out.2.1.ext hE2.out).ext ((Ext.refl _).alloc _)) (OwnRows.blk (R := [minusOne 7]) (c := 1) (base := 0) (g := wr.heap.size + 1) (Nat.zero_le _) (Blk.new' _ _ (by simp)) rfl (by simp)).rows (by simp) (by simp; omega) (by have := hI.out.2.2.size; simp; omega)
      have hE3 : Hid (Ext w w') := ((hI.out.2.2.trans hE2.out).alloc _).grown' hg hI.out.2.1.base_le
      replace hrun := hide hrun
      replace hO := hide hO
      clear hg
      go_wp2_with (at_builtin; go_loud (refine wpList_append_run rfl _ _ _ rfl _ _ rfl rfl hrun.out ?_))
      exact ⟨⟨6, R ++ [minusOne 7], A', c', by omega, rfl, by simp, hT.out, by simpa using hO.out, hE3.out⟩, by simp [intOf]⟩

end Go.Proofs.YteefhmdameeoaaaGreat
namespace Go.Proofs.YteefhmdameeoaaaGreat
open Go.RowKit

theorem In8.of {a : Nat → Int} {lo hi : Int} (h : ∀ i, i < 8 → lo ≤ a i ∧ a i ≤ hi) : In8 a lo hi := h

/-- The sum of two rows up to a place, the first row from there on. -/
def addTo (a b : Nat → Int) (k i : Nat) : Int := if i < k then a i + b i else a i
def add8 (a b : Nat → Int) (i : Nat) : Int := a i + b i

theorem bits_or : ∀ m : Nat, m < 256 → ∀ k : Nat, k < 8 → bits BinOp.or IntKind.u8 (m : Int) (2 ^ k) = (m ||| 2 ^ k : Nat) := by decide +kernel
/-- The mask of the places of the first k at which a row is positive. -/
def suppTo (a : Nat → Int) : Nat → Nat
  | 0 => 0
  | k + 1 => if 0 < a k then suppTo a k ||| 2 ^ k else suppTo a k
theorem suppTo_lt (a : Nat → Int) : ∀ k, suppTo a k < 2 ^ k
  | 0 => by simp [suppTo]
  | k + 1 => by
    have ih := suppTo_lt a k
    have h2 : 2 ^ k < 2 ^ (k + 1) := Nat.pow_lt_pow_right (by omega) (by omega)
    rw [suppTo]
    split
    · exact Nat.or_lt_two_pow (by omega) h2
    · omega
theorem suppTo_bit (a : Nat → Int) : ∀ k i, i < k → (suppTo a k).testBit i = decide (0 < a i)
  | 0, i, h => by omega
  | k + 1, i, h => by
    have hl := suppTo_lt a k
    rw [suppTo]
    by_cases e : i = k
    · subst e
      split
      · rename_i h1; rw [Nat.testBit_or, Nat.testBit_two_pow_self, Bool.or_true]; simp [h1]
      · rename_i h1; rw [Nat.testBit_lt_two_pow hl]; simp [h1]
    · have ih := suppTo_bit a k i (by omega)
      split
      · rw [Nat.testBit_or, Nat.testBit_two_pow_of_ne (fun h => e h.symm), Bool.or_false, ih]
      · exact ih

theorem in_eq : ∀ m : Nat, m < 256 → ∀ k : Nat, k < 8 → (bits BinOp.and IntKind.u8 ((m : Int) / 2 ^ k) 1 == 1) = m.testBit k := by decide +kernel
set_option maxRecDepth 100000 in
theorem In_any (m k : Nat) (w : World) (hm : m < 256) (hk : k < 8) :
    Calls Tryz.prog 46 #[.int .u8 m, .int .i64 k] w fun e w' => e = .returned (.bool (m.testBit k)) ∧ w = w' := by
  go_enter Tryz.func46, Tryz.ntmps46
  go_wp2
  go_ret
  exact ⟨by rw [in_eq m hm k hk]; rfl, rfl⟩

/-- The power of a variable. -/
def powOf (i : Nat) (n : Int) (j : Nat) : Int := if j = i then n else 0
set_option maxRecDepth 100000 in
theorem Power_any (i : Nat) (n : Int) (w : World) (hi : i < 8) :
    Calls Tryz.prog 31 #[.int .i64 i, .int .i64 n] w fun e w' => e = .returned (.agg #[.int .i64 (powOf i n 0), .int .i64 (powOf i n 1), .int .i64 (powOf i n 2), .int .i64 (powOf i n 3), .int .i64 (powOf i n 4), .int .i64 (powOf i n 5), .int .i64 (powOf i n 6), .int .i64 (powOf i n 7)]) ∧ Ext w w' := by
  rcases lt8 hi with rfl | rfl | rfl | rfl | rfl | rfl | rfl | rfl
  all_goals
    go_enter Tryz.func31, Tryz.ntmps31
    go_wp2
    refine bodyPost_ret (v := .agg (c8 (powOf _ n))) ?_ rfl ⟨rfl, ?_⟩
    · simp [results, Tryz.results31, go_sem, powOf, c8]
    · exact ((Ext.refl _).alloc _).alloc _

end Go.Proofs.YteefhmdameeoaaaGreat
namespace Go.Proofs.YteefhmdameeoaaaGreat
open Go.RowKit

/-- Eight truth values as cells. -/
def cb8 (s : Nat → Bool) : Array Value := #[.bool (s 0), .bool (s 1), .bool (s 2), .bool (s 3), .bool (s 4), .bool (s 5), .bool (s 6), .bool (s 7)]
theorem cb8_get (s : Nat → Bool) (k : Nat) (h : k < 8) : (cb8 s)[k]? = some (.bool (s k)) := by
  rcases lt8 h with rfl | rfl | rfl | rfl | rfl | rfl | rfl | rfl <;> rfl
theorem cb8_congr {a b : Nat → Bool} (h : ∀ i, i < 8 → a i = b i) : cb8 a = cb8 b := by
  simp only [cb8, h 0 (by omega), h 1 (by omega), h 2 (by omega), h 3 (by omega), h 4 (by omega), h 5 (by omega), h 6 (by omega), h 7 (by omega)]
theorem cb8_set (a : Nat → Bool) (k : Nat) (v : Bool) (h : k < 8) : (cb8 a).setIfInBounds k (.bool v) = cb8 (fun i => if i = k then v else a i) := by
  rcases lt8 h with rfl | rfl | rfl | rfl | rfl | rfl | rfl | rfl <;> rfl
theorem Blk.atb {w : World} {g : Nat} {t : TypeId} {s : Nat → Bool} (h : Blk w g t (cb8 s)) {k : Nat} (hk : k < 8) : w.cell? ⟨g, k, none⟩ = some (.bool (s k)) := by
  rw [h.cell, cb8_get s k hk]
theorem Blk.setb {w : World} {g : Nat} {t : TypeId} {a a' : Nat → Bool} (h : Blk w g t (cb8 a)) {k : Nat} (hk : k < 8) (v : Bool) (h1 : a' k = v) (h2 : ∀ i, i < 8 → i ≠ k → a' i = a i) : Blk (w.setCell ⟨g, k, none⟩ (.bool v)) g t (cb8 a') := by
  rw [show cb8 a' = (cb8 a).setIfInBounds k (.bool v) by
    rw [cb8_set a k v hk]
    refine cb8_congr fun i hi => ?_
    by_cases e : i = k
    · rw [if_pos e, e, h1]
    · rw [if_neg e, h2 i hi e]]
  exact h.set k _

/-- A column has been seen in the first k rows. -/
def seenTo (R : List (Nat → Int)) : Nat → Nat → Bool
  | 0, _ => false
  | k + 1, j => seenTo R k j || (rowAt R k j != 0)
def seenMid (R : List (Nat → Int)) (k j i : Nat) : Bool := if i < j then seenTo R (k + 1) i else seenTo R k i
/-- A weight is fine. -/
def OkAt (R : List (Nat → Int)) (k j : Nat) : Prop := -1000 ≤ rowAt R k j ∧ rowAt R k j ≤ 1000 ∧ (rowAt R k j < 0 → seenTo R k j = true)
/-- The order is admissible. -/
def OValid (R : List (Nat → Int)) : Prop := R.length ≤ 24 ∧ ∀ k j, k < R.length → j < 8 → OkAt R k j
open Classical in
noncomputable def ovB (R : List (Nat → Int)) : Bool := decide (OValid R)
theorem ovB_true {R : List (Nat → Int)} (h : OValid R) : ovB R = true := by simp [ovB, h]
theorem ovB_false {R : List (Nat → Int)} (h : ¬ OValid R) : ovB R = false := by simp [ovB, h]
theorem OValid.in8 {R : List (Nat → Int)} (h : OValid R) : ∀ r ∈ R, In8 r (-1000) 1000 := fun r hr i hi => by
  obtain ⟨k, hk, rfl⟩ := List.mem_iff_getElem.1 hr
  have := h.2 k i hk hi
  have e : rowAt R k = R[k] := by simp [rowAt, List.getD_eq_getElem?_getD, List.getElem?_eq_getElem hk]
  unfold OkAt at this
  rw [e] at this
  exact ⟨this.1, this.2.1⟩

set_option maxRecDepth 100000 in
set_option maxHeartbeats 1600000 in
theorem oValid_any (v : Value) (R : List (Nat → Int)) (w : World) (h : RowsAt .i64 35 w v R) :
    Calls Tryz.prog 29 #[v] w fun e w' => e = .returned (.bool (ovB R)) ∧ Ext w w' := by
  obtain ⟨A, c, rfl, hc, hm, hx⟩ := h.open_
  clear h
  replace hx := hide hx
  by_cases hlen : 24 < R.length
  · have hF : Hid (ovB R = false) := ovB_false fun h => by have := h.1; omega
    go_enter Tryz.func29, Tryz.ntmps29
    go_wp2
    go_ret
    exact ⟨by rw [hF.out]; rfl, Ext.refl _⟩
  · go_enter Tryz.func29, Tryz.ntmps29
    go_wp2
    go_loopw [13] (fun i wr => ∃ k : Nat, k ≤ R.length ∧ i = .int .i64 k ∧ Hid ((∀ k' j, k' < k → j < 8 → OkAt R k' j) ∧ Blk wr w.heap.size 64 (cb8 (seenTo R k)) ∧ Ext w wr)) (fun i _ => R.length - (intOf i).toNat)
    case atStart => exact ⟨0, by omega, rfl, fun k' j h => by omega, Blk.new _ _ _, (Ext.refl _).alloc _⟩
    case round =>
      obtain ⟨k, hk, rfl, hI⟩ := hrel
      by_cases hlt : k < R.length
      · obtain ⟨g, o, rfl, hgl, hcl⟩ := hx.out (by omega)
        replace hcl := hide fun j (hj : j < 8) => (hI.out.2.2.cell (p := ⟨g, o + k * 8 + j, none⟩) hgl).trans (hcl k j hlt hj)
        have hok : Hid (∀ j, OkAt R k j ↔ -1000 ≤ rowAt R k j ∧ rowAt R k j ≤ 1000 ∧ (rowAt R k j < 0 → seenTo R k j = true)) := fun j => Iff.rfl
        have hse : Hid (∀ j, seenTo R (k + 1) j = (seenTo R k j || (rowAt R k j != 0))) := fun j => rfl
        generalize rowAt R k = r at *
        have r0 : (wr).cell? ⟨g, o + k * 8, none⟩ = some (.int .i64 (r 0)) := hcl.out 0 (by omega)
        have r1 : (wr).cell? ⟨g, o + k * 8 + 1, none⟩ = some (.int .i64 (r 1)) := hcl.out 1 (by omega)
        have r2 : (wr).cell? ⟨g, o + k * 8 + 2, none⟩ = some (.int .i64 (r 2)) := hcl.out 2 (by omega)
        have r3 : (wr).cell? ⟨g, o + k * 8 + 3, none⟩ = some (.int .i64 (r 3)) := hcl.out 3 (by omega)
        have r4 : (wr).cell? ⟨g, o + k * 8 + 4, none⟩ = some (.int .i64 (r 4)) := hcl.out 4 (by omega)
        have r5 : (wr).cell? ⟨g, o + k * 8 + 5, none⟩ = some (.int .i64 (r 5)) := hcl.out 5 (by omega)
        have r6 : (wr).cell? ⟨g, o + k * 8 + 6, none⟩ = some (.int .i64 (r 6)) := hcl.out 6 (by omega)
        have r7 : (wr).cell? ⟨g, o + k * 8 + 7, none⟩ = some (.int .i64 (r 7)) := hcl.out 7 (by omega)
        have hB1 : Hid (Blk (wr.alloc (.cells #[.int .i64 (r 0), .int .i64 (r 1), .int .i64 (r 2), .int .i64 (r 3), .int .i64 (r 4), .int .i64 (r 5), .int .i64 (r 6), .int .i64 (r 7)] 35)) w.heap.size 64 (cb8 (seenMid R k 0))) := by
          have := hI.out.2.1.alloc (.cells #[.int .i64 (r 0), .int .i64 (r 1), .int .i64 (r 2), .int .i64 (r 3), .int .i64 (r 4), .int .i64 (r 5), .int .i64 (r 6), .int .i64 (r 7)] 35)
          rw [cb8_congr (b := seenMid R k 0) fun i _ => by simp [seenMid]] at this
          exact this
        have hE1 : Hid (Ext w (wr.alloc (.cells #[.int .i64 (r 0), .int .i64 (r 1), .int .i64 (r 2), .int .i64 (r 3), .int .i64 (r 4), .int .i64 (r 5), .int .i64 (r 6), .int .i64 (r 7)] 35))) := hI.out.2.2.alloc _
        replace hI := hide hI.out.1
        go_wp2
        generalize (wr.alloc (.cells #[.int .i64 (r 0), .int .i64 (r 1), .int .i64 (r 2), .int .i64 (r 3), .int .i64 (r 4), .int .i64 (r 5), .int .i64 (r 6), .int .i64 (r 7)] 35)) = w2 at *
        clear r0 r1 r2 r3 r4 r5 r6 r7 hcl
        go_loopw [18] (fun i wr => ∃ j : Nat, j ≤ 8 ∧ i = .int .i64 j ∧ Hid ((∀ j', j' < j → OkAt R k j') ∧ Blk wr w.heap.size 64 (cb8 (seenMid R k j)) ∧ Ext w wr)) (fun i _ => 8 - (intOf i).toNat)
        case atStart => exact ⟨0, by omega, rfl, fun j' h => by omega, hB1.out, hE1.out⟩
        case round =>
          obtain ⟨j, hj, rfl, hJ⟩ := hrel
          by_cases hj8 : j < 8
          · have hix := fun W => run_index_row r j hj8 W
            have xs : wr.cell? ⟨w.heap.size, j, none⟩ = some (.bool (seenTo R k j)) := by rw [hJ.out.2.1.atb hj8]; simp [seenMid]
            have xf := hJ.out.2.1.frozen j
            have hok1 := hide (hok.out j)
            have hse1 := hide (hse.out j)
            have hbad : Hid (¬ OkAt R k j → ovB R = false) := fun hn => ovB_false fun hv => hn (hv.2 k j hlt hj8)
            have hgood : Hid (OkAt R k j → ∀ j', j' < j + 1 → OkAt R k j') := fun hg j' h' => by
              by_cases e : j' = j
              · rw [e]; exact hg
              · exact hJ.out.1 j' (by omega)
            have hset : Hid (∀ v, v = seenTo R (k + 1) j → Blk (wr.setCell ⟨w.heap.size, j, none⟩ (.bool v)) w.heap.size 64 (cb8 (seenMid R k (j + 1)))) := fun v hv => by
              refine hJ.out.2.1.setb hj8 _ (by simp [seenMid, hv]) fun i hi hne => ?_
              by_cases h1 : i < j
              · simp [seenMid, h1, show i < j + 1 by omega]
              · simp [seenMid, h1, show ¬ i < j + 1 by omega]
            have hE2 : Hid (∀ v, Ext w (wr.setCell ⟨w.heap.size, j, none⟩ (.bool v))) := fun v => hJ.out.2.2.set (p := ⟨w.heap.size, j, none⟩) (Nat.le_refl _) _
            have hE0 : Hid (Ext w wr) := hJ.out.2.2
            clear hJ
            generalize seenTo R k j = s at *
            generalize r j = x at *
            by_cases h1 : x < -1000
            · have h1' : decide (x < -1000) = true := by simpa using h1
              go_wp2
              go_ret
              exact ⟨by rw [hbad.out fun h => by have := hok1.out.1 h; omega]; rfl, hE0.out⟩
            · have h1' : decide (x < -1000) = false := by simpa using h1
              by_cases h2 : 1000 < x
              · have h2' : decide (1000 < x) = true := by simpa using h2
                go_wp2
                go_ret
                exact ⟨by rw [hbad.out fun h => by have := hok1.out.1 h; omega]; rfl, hE0.out⟩
              · have h2' : decide (1000 < x) = false := by simpa using h2
                by_cases h3 : x < 0
                · have h3' : decide (x < 0) = true := by simpa using h3
                  cases s with
                  | false =>
                    go_wp2
                    go_ret
                    exact ⟨by rw [hbad.out fun h => by have := (hok1.out.1 h).2.2 h3; cases this]; rfl, hE0.out⟩
                  | true =>
                    go_wp2
                    exact ⟨⟨j + 1, hj8, by simp, hgood.out (hok1.out.2 ⟨by omega, by omega, fun _ => rfl⟩), hset.out _ (by rw [hse1.out]; rfl), hE2.out _⟩, by simp [intOf]; omega⟩
                · have h3' : decide (x < 0) = false := by simpa using h3
                  cases s with
                  | false =>
                    by_cases h4 : x = 0
                    · subst h4
                      go_wp2
                      exact ⟨⟨j + 1, hj8, by simp, hgood.out (hok1.out.2 ⟨by omega, by omega, fun h => by omega⟩), hset.out _ (by rw [hse1.out]; rfl), hE2.out _⟩, by simp [intOf]; omega⟩
                    · have h4' : (x != 0) = true := by simpa using h4
                      go_wp2
                      exact ⟨⟨j + 1, hj8, by simp, hgood.out (hok1.out.2 ⟨by omega, by omega, fun h => by omega⟩), hset.out _ (by rw [hse1.out, h4']; rfl), hE2.out _⟩, by simp [intOf]; omega⟩
                  | true =>
                    go_wp2
                    exact ⟨⟨j + 1, hj8, by simp, hgood.out (hok1.out.2 ⟨by omega, by omega, fun h => by omega⟩), hset.out _ (by rw [hse1.out]; rfl), hE2.out _⟩, by simp [intOf]; omega⟩
          · obtain rfl : j = 8 := by omega
            go_wp2
            refine ⟨⟨k + 1, hlt, by simp, fun k' j' h1 h2 => ?_, ?_, hJ.out.2.2⟩, by simp [intOf]; omega⟩
            · by_cases e : k' = k
              · rw [e]; exact hJ.out.1 j' h2
              · exact hI.out k' j' (by omega) h2
            · have := hJ.out.2.1
              rwa [cb8_congr (b := seenTo R (k + 1)) fun i hi => by simp [seenMid, hi]] at this
      · obtain rfl : k = R.length := by omega
        have hT : Hid (ovB R = true) := ovB_true ⟨by omega, fun k j h1 h2 => hI.out.1 k j h1 h2⟩
        go_wp2
        go_ret
        exact ⟨by rw [hT.out]; rfl, hI.out.2.2⟩

end Go.Proofs.YteefhmdameeoaaaGreat
namespace Go.Proofs.YteefhmdameeoaaaGreat
open Go.RowKit

set_option maxRecDepth 100000 in
theorem Eliminating_any (m : Nat) (w : World) (hm : m < 256) : Calls Tryz.prog 27 #[.int .u8 m] w (RetOrder (onesOf m :: revRows) w) := by
  go_enter Tryz.func27, Tryz.ntmps27
  go_wp2_with fail
  refine (ones_any m _ hm).mono ?_
  rintro e w1 ⟨rfl, hE1⟩
  have hO : Hid (OwnRows 35 w.heap.size (w1.alloc (.cells #[.int .i64 (onesOf m 0), .int .i64 (onesOf m 1), .int .i64 (onesOf m 2), .int .i64 (onesOf m 3), .int .i64 (onesOf m 4), .int .i64 (onesOf m 5), .int .i64 (onesOf m 6), .int .i64 (onesOf m 7)] 35)) (.slice (some ⟨w1.heap.size, 0, none⟩) 1 1) [onesOf m]) := OwnRows.blk (R := [onesOf m]) hE1.size (Blk.new _ _ _) rfl (by simp)
  have hE2 : Hid (Ext w (w1.alloc (.cells #[.int .i64 (onesOf m 0), .int .i64 (onesOf m 1), .int .i64 (onesOf m 2), .int .i64 (onesOf m 3), .int .i64 (onesOf m 4), .int .i64 (onesOf m 5), .int .i64 (onesOf m 6), .int .i64 (onesOf m 7)] 35))) := hE1.alloc _
  go_wp2_with fail
  refine (Reverse_any _).mono ?_
  rintro e w2 ⟨A, c, rfl, hR, hE3⟩
  have hs := hE2.out.size
  obtain ⟨A', c', w', hrun, hO', hg⟩ := append_order (base := w.heap.size) (w := w2) (S := revRows) (x := .slice A revRows.length c) (hO.out.ext hE3) hR.rows (by simp [revRows]) (by simp [revRows, revTail]) (by have := hE3.size; omega)
  have hE4 : Hid (Ext w w') := (hE2.out.trans hE3).grown' hg hO.out.base_le
  replace hrun := hide hrun
  replace hO' := hide hO'
  replace hR := hide hR
  replace hE3 := hide hE3
  clear hg
  go_wp2_with (at_builtin; go_loud (refine wpList_append_run rfl _ _ _ rfl _ _ rfl rfl hrun.out ?_))
  go_ret
  refine ⟨A', c', ?_, ?_, hE4.out⟩
  · rw [List.length_cons, Nat.add_comm]; rfl
  · have := hO'.out; rw [List.length_cons, Nat.add_comm]; exact this

theorem bit0 : ∀ m : Nat, m < 256 → ∀ k : Nat, k < 8 → (bits BinOp.and IntKind.u8 ((m : Int) / 2 ^ k) 1 == 0) = !m.testBit k := by decide +kernel

/-- The order eliminates the variables of a mask. -/
def Elim (R : List (Nat → Int)) (m : Nat) : Prop := ∀ i j, i < 8 → j < 8 → m.testBit i = true → m.testBit j = false → 0 < oCmp R (powOf i 1) (powOf j 65535)
def ElimTo (R : List (Nat → Int)) (m k : Nat) : Prop := ∀ i j, i < k → j < 8 → m.testBit i = true → m.testBit j = false → 0 < oCmp R (powOf i 1) (powOf j 65535)
def ElimRow (R : List (Nat → Int)) (m k j : Nat) : Prop := ∀ j', j' < j → m.testBit k = true → m.testBit j' = false → 0 < oCmp R (powOf k 1) (powOf j' 65535)
open Classical in
noncomputable def elimB (R : List (Nat → Int)) (m : Nat) : Bool := decide (Elim R m)
theorem elimB_true {R : List (Nat → Int)} {m : Nat} (h : Elim R m) : elimB R m = true := by simp [elimB, h]
theorem elimB_false {R : List (Nat → Int)} {m : Nat} (h : ¬ Elim R m) : elimB R m = false := by simp [elimB, h]
theorem powOf_in (i : Nat) {n : Int} (h0 : 0 ≤ n) (h1 : n ≤ 65535) : In8 (powOf i n) (-1000000) 1000000 := fun j _ => by unfold powOf; split <;> omega
theorem Blk.zeroPow {w : World} {g : Nat} {t : TypeId} (h : Blk w g t (c8 fun _ => 0)) {k : Nat} (hk : k < 8) (n : Int) : Blk (w.setCell ⟨g, k, none⟩ (.int .i64 n)) g t (c8 (powOf k n)) :=
  h.set8' hk n (by simp [powOf]) fun i _ hne => by simp [powOf, hne]

set_option maxRecDepth 100000 in
set_option maxHeartbeats 1600000 in
theorem Eliminates_any (v : Value) (R : List (Nat → Int)) (m : Nat) (w : World) (h : RowsAt .i64 35 w v R) (hR : ∀ r ∈ R, In8 r (-1000) 1000) (hm : m < 256) :
    Calls Tryz.prog 19 #[v, .int .u8 m] w fun e w' => e = .returned (.bool (elimB R m)) ∧ Ext w w' := by
  replace h := hide h
  replace hR := hide hR
  go_enter Tryz.func19, Tryz.ntmps19
  go_wp2
  go_loopw [9] (fun i wr => ∃ k : Nat, k ≤ 8 ∧ i = .int .i64 k ∧ Hid (ElimTo R m k ∧ Ext w wr)) (fun i _ => 8 - (intOf i).toNat)
  case atStart => exact ⟨0, by omega, rfl, fun i j h => by omega, Ext.refl _⟩
  case round =>
    obtain ⟨k, hk, rfl, hI⟩ := hrel
    by_cases hlt : k < 8
    · have hd8 : decide ((k : Int) < 8) = true := by simp; omega
      go_wp2
      go_loopw [12] (fun i wr => ∃ j : Nat, j ≤ 8 ∧ i = .int .i64 j ∧ Hid (ElimRow R m k j ∧ Ext w wr)) (fun i _ => 8 - (intOf i).toNat)
      case atStart => exact ⟨0, by omega, rfl, fun j' h => by omega, hI.out.2⟩
      case round =>
        obtain ⟨j, hj, rfl, hJ⟩ := hrel
        by_cases hj8 : j < 8
        · have hgood : Hid ((m.testBit k = true → m.testBit j = false → 0 < oCmp R (powOf k 1) (powOf j 65535)) → ElimRow R m k (j + 1)) := fun hg j' h' => by
            by_cases e : j' = j
            · rw [e]; exact hg
            · exact hJ.out.1 j' (by omega)
          have hbad : Hid (m.testBit k = true → m.testBit j = false → ¬ 0 < oCmp R (powOf k 1) (powOf j 65535) → elimB R m = false) := fun h1 h2 h3 => elimB_false fun he => h3 (he k j hlt hj8 h1 h2)
          have hb1 := bit0 m hm k hlt
          have hb2 := in_eq m hm j hj8
          cases hk1 : m.testBit k with
          | false =>
            rw [hk1] at hb1
            have hg := hide (hgood.out fun h => by rw [hk1] at h; cases h)
            clear hk1 hgood hbad hb2
            go_wp2
            exact ⟨⟨j + 1, hj8, by simp, hg.out, hJ.out.2⟩, by simp [intOf]; omega⟩
          | true =>
            rw [hk1] at hb1
            cases hj1 : m.testBit j with
            | true =>
              rw [hj1] at hb2
              have hg := hide (hgood.out fun _ h => by rw [hj1] at h; cases h)
              replace hk1 := hide hk1
              clear hgood hbad hj1
              go_wp2
              exact ⟨⟨j + 1, hj8, by simp, hg.out, hJ.out.2⟩, by simp [intOf]; omega⟩
            | false =>
              rw [hj1] at hb2
              have hg := hide fun h : 0 < oCmp R (powOf k 1) (powOf j 65535) => hgood.out fun _ _ => h
              have hbd := hide (hbad.out hk1 hj1)
              replace hk1 := hide hk1
              replace hj1 := hide hj1
              clear hgood hbad
              have hW1 : Hid (Blk ((wr.alloc (.cells #[.int .i64 0, .int .i64 0, .int .i64 0, .int .i64 0, .int .i64 0, .int .i64 0, .int .i64 0, .int .i64 0] 36)).alloc (.cells #[.int .i64 0, .int .i64 0, .int .i64 0, .int .i64 0, .int .i64 0, .int .i64 0, .int .i64 0, .int .i64 0] 36)) wr.heap.size 36 (c8 fun _ => 0)) := (Blk.new _ _ _).alloc _
              have hW2 : Hid (Blk ((wr.alloc (.cells #[.int .i64 0, .int .i64 0, .int .i64 0, .int .i64 0, .int .i64 0, .int .i64 0, .int .i64 0, .int .i64 0] 36)).alloc (.cells #[.int .i64 0, .int .i64 0, .int .i64 0, .int .i64 0, .int .i64 0, .int .i64 0, .int .i64 0, .int .i64 0] 36)) (wr.heap.size + 1) 36 (c8 fun _ => 0)) := Blk.new' _ _ (by simp)
              have hE1 : Hid (Ext w ((wr.alloc (.cells #[.int .i64 0, .int .i64 0, .int .i64 0, .int .i64 0, .int .i64 0, .int .i64 0, .int .i64 0, .int .i64 0] 36)).alloc (.cells #[.int .i64 0, .int .i64 0, .int .i64 0, .int .i64 0, .int .i64 0, .int .i64 0, .int .i64 0, .int .i64 0] 36))) := (hJ.out.2.alloc _).alloc _
              have hsz : w.heap.size ≤ wr.heap.size := hJ.out.2.size
              go_upto_region 9 with (fail)
              generalize ((wr.alloc (.cells #[.int .i64 0, .int .i64 0, .int .i64 0, .int .i64 0, .int .i64 0, .int .i64 0, .int .i64 0, .int .i64 0] 36)).alloc (.cells #[.int .i64 0, .int .i64 0, .int .i64 0, .int .i64 0, .int .i64 0, .int .i64 0, .int .i64 0, .int .i64 0] 36)) = w2 at *
              have hc1 := hW1.out.at8 hlt
              have hz1 := hW1.out.frozen k
              have hW3 : Hid (Blk (w2.setCell ⟨wr.heap.size, k, none⟩ (.int .i64 1)) wr.heap.size 36 (c8 (powOf k 1))) := hW1.out.zeroPow hlt 1
              have hW4 : Hid (Blk (w2.setCell ⟨wr.heap.size, k, none⟩ (.int .i64 1)) (wr.heap.size + 1) 36 (c8 fun _ => 0)) := hW2.out.far (by dsimp only; omega) _
              have hE2 : Hid (Ext w (w2.setCell ⟨wr.heap.size, k, none⟩ (.int .i64 1))) := hE1.out.set (p := ⟨wr.heap.size, k, none⟩) hsz _
              clear hW1 hW2 hE1
              go_upto_region 10 with (fail)
              generalize (w2.setCell ⟨wr.heap.size, k, none⟩ (.int .i64 1)) = w3 at *
              clear hc1 hz1
              have hc1 := hW4.out.at8 hj8
              have hz1 := hW4.out.frozen j
              have hW1 : Hid (Blk (w3.setCell ⟨wr.heap.size + 1, j, none⟩ (.int .i64 65535)) wr.heap.size 36 (c8 (powOf k 1))) := hW3.out.far (by dsimp only; omega) _
              have hW2 : Hid (Blk (w3.setCell ⟨wr.heap.size + 1, j, none⟩ (.int .i64 65535)) (wr.heap.size + 1) 36 (c8 (powOf j 65535))) := hW4.out.zeroPow hj8 65535
              have hE1 : Hid (Ext w (w3.setCell ⟨wr.heap.size + 1, j, none⟩ (.int .i64 65535))) := hE2.out.set (p := ⟨wr.heap.size + 1, j, none⟩) (by dsimp only; omega) _
              clear hW3 hW4 hE2
              go_upto_region 11 with (fail)
              generalize (w3.setCell ⟨wr.heap.size + 1, j, none⟩ (.int .i64 65535)) = w4 at *
              clear hc1 hz1
              have p0 : (w4).cell? ⟨wr.heap.size, 0, none⟩ = some (.int .i64 (powOf k 1 0)) := (hW1.out).cell 0
              have p1 : (w4).cell? ⟨wr.heap.size, 1, none⟩ = some (.int .i64 (powOf k 1 1)) := (hW1.out).cell 1
              have p2 : (w4).cell? ⟨wr.heap.size, 2, none⟩ = some (.int .i64 (powOf k 1 2)) := (hW1.out).cell 2
              have p3 : (w4).cell? ⟨wr.heap.size, 3, none⟩ = some (.int .i64 (powOf k 1 3)) := (hW1.out).cell 3
              have p4 : (w4).cell? ⟨wr.heap.size, 4, none⟩ = some (.int .i64 (powOf k 1 4)) := (hW1.out).cell 4
              have p5 : (w4).cell? ⟨wr.heap.size, 5, none⟩ = some (.int .i64 (powOf k 1 5)) := (hW1.out).cell 5
              have p6 : (w4).cell? ⟨wr.heap.size, 6, none⟩ = some (.int .i64 (powOf k 1 6)) := (hW1.out).cell 6
              have p7 : (w4).cell? ⟨wr.heap.size, 7, none⟩ = some (.int .i64 (powOf k 1 7)) := (hW1.out).cell 7
              have q0 : (w4).cell? ⟨wr.heap.size + 1, 0, none⟩ = some (.int .i64 (powOf j 65535 0)) := (hW2.out).cell 0
              have q1 : (w4).cell? ⟨wr.heap.size + 1, 1, none⟩ = some (.int .i64 (powOf j 65535 1)) := (hW2.out).cell 1
              have q2 : (w4).cell? ⟨wr.heap.size + 1, 2, none⟩ = some (.int .i64 (powOf j 65535 2)) := (hW2.out).cell 2
              have q3 : (w4).cell? ⟨wr.heap.size + 1, 3, none⟩ = some (.int .i64 (powOf j 65535 3)) := (hW2.out).cell 3
              have q4 : (w4).cell? ⟨wr.heap.size + 1, 4, none⟩ = some (.int .i64 (powOf j 65535 4)) := (hW2.out).cell 4
              have q5 : (w4).cell? ⟨wr.heap.size + 1, 5, none⟩ = some (.int .i64 (powOf j 65535 5)) := (hW2.out).cell 5
              have q6 : (w4).cell? ⟨wr.heap.size + 1, 6, none⟩ = some (.int .i64 (powOf j 65535 6)) := (hW2.out).cell 6
              have q7 : (w4).cell? ⟨wr.heap.size + 1, 7, none⟩ = some (.int .i64 (powOf j 65535 7)) := (hW2.out).cell 7
              have hRw := hide (h.out.ext hE1.out)
              go_wp2_with fail
              refine (oCmp_any v R (powOf k 1) (powOf j 65535) _ hRw.out hR.out (powOf_in _ (by omega) (by omega)) (powOf_in _ (by omega) (by omega))).mono ?_
              rintro e w5 ⟨rfl, hE5⟩
              have hE6 := hide (hE1.out.trans hE5)
              clear hE1 hE5 hW1 hW2 hRw p0 p1 p2 p3 p4 p5 p6 p7 q0 q1 q2 q3 q4 q5 q6 q7
              generalize oCmp R (powOf k 1) (powOf j 65535) = n at *
              by_cases hn : n ≤ 0
              · go_wp2
                go_ret
                exact ⟨by rw [hbd.out (by omega)]; rfl, hE6.out⟩
              · go_wp2
                exact ⟨⟨j + 1, hj8, by simp, hg.out (by omega), hE6.out⟩, by simp [intOf]; omega⟩
        · obtain rfl : j = 8 := by omega
          go_wp2
          refine ⟨⟨k + 1, hlt, by simp, fun i' j' h1 h2 h3 h4 => ?_, hJ.out.2⟩, by simp [intOf]; omega⟩
          by_cases e : i' = k
          · subst e; exact hJ.out.1 j' h2 h3 h4
          · exact hI.out.1 i' j' (by omega) h2 h3 h4
    · obtain rfl : k = 8 := by omega
      have hT : Hid (elimB R m = true) := elimB_true fun i j h1 h2 => hI.out.1 i j h1 h2
      go_wp2
      go_ret
      exact ⟨by rw [hT.out]; rfl, hI.out.2⟩

end Go.Proofs.YteefhmdameeoaaaGreat
namespace Go.Proofs.YteefhmdameeoaaaGreat
open Go.RowKit

def rowsOf (n : Nat) (f : Nat → Nat → Int) : List (Nat → Int) := (List.range n).map f
theorem rowsOf_length (n : Nat) (f : Nat → Nat → Int) : (rowsOf n f).length = n := by simp [rowsOf]
theorem rowAt_rowsOf {n : Nat} (f : Nat → Nat → Int) {k : Nat} (h : k < n) : rowAt (rowsOf n f) k = f k := by
  simp [rowAt, rowsOf, List.getD_eq_getElem?_getD, h]
theorem mem_rowsOf {n : Nat} {f : Nat → Nat → Int} {r : Nat → Int} (h : r ∈ rowsOf n f) : ∃ k, k < n ∧ r = f k := by
  simp only [rowsOf, List.mem_map, List.mem_range] at h
  obtain ⟨k, h1, h2⟩ := h
  exact ⟨k, h1, h2.symm⟩

/-- Block g holds n rows (and room for c). -/
def GridAt (w : World) (g c : Nat) (t : TypeId) (n : Nat) (f : Nat → Nat → Int) : Prop :=
  ∃ cur : Array Value, w.heap[g]? = some (.cells cur t (0, 0)) ∧ cur.size = c * 8 ∧ n ≤ c ∧ c ≤ maxLen ∧ ∀ i j, i < n → j < 8 → cur[i * 8 + j]? = some (.int .i64 (f i j))
theorem GridAt.cell {w : World} {g c : Nat} {t : TypeId} {n : Nat} {f : Nat → Nat → Int} (h : GridAt w g c t n f) {i j : Nat} (hi : i < n) (hj : j < 8) : w.cell? ⟨g, i * 8 + j, none⟩ = some (.int .i64 (f i j)) := by
  obtain ⟨cur, h1, _, _, _, h5⟩ := h
  exact (cell_of_block h1).trans (h5 i j hi hj)
theorem GridAt.frozen {w : World} {g c : Nat} {t : TypeId} {n : Nat} {f : Nat → Nat → Int} (h : GridAt w g c t n f) (i : Nat) : w.frozen? ⟨g, i, none⟩ = false := by
  obtain ⟨cur, h1, _⟩ := h
  exact Blk.frozen (cs := cur) h1 i
theorem GridAt.set {w : World} {g c : Nat} {t : TypeId} {n : Nat} {f f' : Nat → Nat → Int} (h : GridAt w g c t n f) {i j : Nat} (hi : i < n) (hj : j < 8) {v : Int} (h1 : v = f' i j) (h2 : ∀ a b, a < n → b < 8 → ¬ (a = i ∧ b = j) → f' a b = f a b) : GridAt (w.setCell ⟨g, i * 8 + j, none⟩ (.int .i64 v)) g c t n f' := by
  obtain ⟨cur, k1, k2, k3, k4, k5⟩ := h
  refine ⟨_, Blk.set (cs := cur) k1 (i * 8 + j) (.int .i64 v), by simpa using k2, k3, k4, fun a b ha hb => ?_⟩
  by_cases e : a = i ∧ b = j
  · obtain ⟨rfl, rfl⟩ := e
    rw [Array.getElem?_setIfInBounds_self_of_lt (by omega), h1]
  · rw [Array.getElem?_setIfInBounds_ne (by omega), k5 a b ha hb, h2 a b ha hb e]
theorem GridAt.congr {w : World} {g c : Nat} {t : TypeId} {n : Nat} {f f' : Nat → Nat → Int} (h : GridAt w g c t n f) (he : ∀ a b, a < n → b < 8 → f' a b = f a b) : GridAt w g c t n f' := by
  obtain ⟨cur, k1, k2, k3, k4, k5⟩ := h
  exact ⟨cur, k1, k2, k3, k4, fun a b ha hb => by rw [k5 a b ha hb, he a b ha hb]⟩
theorem GridAt.ext {w w' : World} {g c : Nat} {t : TypeId} {n : Nat} {f : Nat → Nat → Int} (h : GridAt w g c t n f) (he : Ext w w') : GridAt w' g c t n f := by
  obtain ⟨cur, k1, k2⟩ := h
  exact ⟨cur, (he.block (lt_of_heap k1)).trans k1, k2⟩
theorem GridAt.drew {w : World} {g c : Nat} {t : TypeId} {n : Nat} {f : Nat → Nat → Int} (h : GridAt w g c t n f) : GridAt w.drew g c t n f := h
theorem GridAt.drewN {w : World} {g c : Nat} {t : TypeId} {n : Nat} {f : Nat → Nat → Int} (h : GridAt w g c t n f) (m : Nat) : GridAt (w.drewN m) g c t n f := h

theorem rl_get' (n : Nat) (f : Nat → Nat → Int) {q : Nat} (h : q < n * 8) : (rl (rowsOf n f))[q]? = some (.int .i64 (f (q / 8) (q % 8))) := by
  have := rl_get (rowsOf n f) (q / 8) (q % 8) (by rw [rowsOf_length]; omega) (by omega)
  rw [show q / 8 * 8 + q % 8 = q by omega, rowAt_rowsOf f (show q / 8 < n by omega)] at this
  exact this
theorem GridAt.own {w : World} {g c : Nat} {t : TypeId} {n base : Nat} {f : Nat → Nat → Int} (h : GridAt w g c t n f) (hb : base ≤ g) : OwnRows t base w (.slice (some ⟨g, 0, none⟩) n c) (rowsOf n f) := by
  obtain ⟨cur, k1, k2, k3, k4, k5⟩ := h
  refine ⟨by rw [rl_length], .inr ⟨g, c, cur, by rw [rowsOf_length], hb, k1, by rw [rowsOf_length]; exact k3, k4, k2, ?_⟩⟩
  rw [rowsOf_length]
  refine List.ext_getElem? fun q => ?_
  rw [List.getElem?_take]
  by_cases hq : q < n * 8
  · rw [if_pos hq, rl_get' n f hq, Array.getElem?_toList]
    have := k5 (q / 8) (q % 8) (by omega) (by omega)
    rwa [show q / 8 * 8 + q % 8 = q by omega] at this
  · rw [if_neg hq, List.getElem?_eq_none (by rw [rl_length, rowsOf_length]; omega)]

/-- A slice of n rows of one's own, as a grid. -/
def OwnGrid (t : TypeId) (base : Nat) (w : World) (A : Option Addr) (c n : Nat) (f : Nat → Nat → Int) : Prop :=
  (n = 0 ∧ OwnRows t base w (.slice A 0 c) []) ∨ (0 < n ∧ ∃ g, A = some ⟨g, 0, none⟩ ∧ base ≤ g ∧ GridAt w g c t n f)
theorem OwnRows.grid {t : TypeId} {base : Nat} {w : World} {A : Option Addr} {c n : Nat} {R : List (Nat → Int)} (h : OwnRows t base w (.slice A n c) R) (hn : R.length = n) : OwnGrid t base w A c n (rowAt R) := by
  subst hn
  by_cases h0 : R.length = 0
  · have e : R = [] := List.eq_nil_of_length_eq_zero h0
    subst e
    exact .inl ⟨rfl, h⟩
  · refine .inr ⟨by omega, ?_⟩
    obtain ⟨h1, h2⟩ := h
    rcases h2 with ⟨h3, h4⟩ | ⟨g, cap, cur, h3, hb, hg, hc, hm, hsz, ht⟩
    · omega
    · cases h3
      refine ⟨g, rfl, hb, cur, hg, hsz, hc, hm, fun i j hi hj => ?_⟩
      have e1 : (cur.toList.take (R.length * 8))[i * 8 + j]? = (rl R)[i * 8 + j]? := by rw [ht]
      rw [List.getElem?_take, if_pos (by omega), rl_get R i j hi hj] at e1
      simpa using e1
theorem OwnGrid.own {t : TypeId} {base : Nat} {w : World} {A : Option Addr} {c n : Nat} {f : Nat → Nat → Int} (h : OwnGrid t base w A c n f) : OwnRows t base w (.slice A n c) (rowsOf n f) := by
  rcases h with ⟨rfl, h⟩ | ⟨_, g, rfl, hb, h⟩
  · exact h
  · exact h.own hb
theorem OwnGrid.congr {t : TypeId} {base : Nat} {w : World} {A : Option Addr} {c n : Nat} {f f' : Nat → Nat → Int} (h : OwnGrid t base w A c n f) (he : ∀ a b, a < n → b < 8 → f' a b = f a b) : OwnGrid t base w A c n f' := by
  rcases h with ⟨rfl, h⟩ | ⟨h0, g, rfl, hb, h⟩
  · exact .inl ⟨rfl, h⟩
  · exact .inr ⟨h0, g, rfl, hb, h.congr he⟩
theorem OwnGrid.drewN {t : TypeId} {base : Nat} {w : World} {A : Option Addr} {c n : Nat} {f : Nat → Nat → Int} (h : OwnGrid t base w A c n f) (m : Nat) : OwnGrid t base (w.drewN m) A c n f := h
theorem OwnGrid.ext {t : TypeId} {base : Nat} {w w' : World} {A : Option Addr} {c n : Nat} {f : Nat → Nat → Int} (h : OwnGrid t base w A c n f) (he : Ext w w') : OwnGrid t base w' A c n f := by
  rcases h with ⟨rfl, h⟩ | ⟨h0, g, rfl, hb, h⟩
  · exact .inl ⟨rfl, h.ext he⟩
  · exact .inr ⟨h0, g, rfl, hb, h.ext he⟩
theorem OwnGrid.at {t : TypeId} {base : Nat} {w : World} {A : Option Addr} {c n : Nat} {f : Nat → Nat → Int} (h : OwnGrid t base w A c n f) (h0 : 0 < n) : ∃ g, A = some ⟨g, 0, none⟩ ∧ base ≤ g ∧ GridAt w g c t n f := by
  rcases h with ⟨rfl, h⟩ | ⟨h0, h⟩
  · omega
  · exact h

theorem OwnRows.base_mono {t : TypeId} {base base' : Nat} {w : World} {v : Value} {R : List (Nat → Int)} (h : OwnRows t base w v R) (hb : base' ≤ base) : OwnRows t base' w v R := by
  obtain ⟨h1, h2⟩ := h
  refine ⟨h1, ?_⟩
  rcases h2 with h2 | ⟨g, cap, cur, h3, h4, h5⟩
  · exact .inl h2
  · exact .inr ⟨g, cap, cur, h3, by omega, h5⟩

/-- Rows of eight numbers that a slice leads to. -/
def RowsIn (κ : IntKind) (w : World) (v : Value) (R : List (Nat → Int)) : Prop :=
  ∃ (A : Option Addr) (c : Nat), v = .slice A R.length c ∧ R.length ≤ c ∧ c ≤ 9223372036854775807 ∧
    (0 < R.length → ∃ (b o : Nat), A = some ⟨b, o, none⟩ ∧ b < w.heap.size ∧ ∀ k j, k < R.length → j < 8 → w.cell? ⟨b, o + k * 8 + j, none⟩ = some (.int κ (rowAt R k j)))
theorem RowsIn.ext {κ : IntKind} {w w' : World} {v : Value} {R : List (Nat → Int)} (h : RowsIn κ w v R) (he : Ext w w') : RowsIn κ w' v R := by
  obtain ⟨A, c, h1, h2, h3, h4⟩ := h
  refine ⟨A, c, h1, h2, h3, fun hp => ?_⟩
  obtain ⟨b, o, h5, h6, h7⟩ := h4 hp
  exact ⟨b, o, h5, Nat.lt_of_lt_of_le h6 he.size, fun k j hk hj => he.cellv (h7 k j hk hj)⟩
/-- The first number of a column, among the first n, that is not 0. -/
def firstTo (X : List (Nat → Int)) (j : Nat) : Nat → Int
  | 0 => 0
  | n + 1 => if firstTo X j n = 0 then rowAt X n j else firstTo X j n
def madeAt (X : List (Nat → Int)) (n i j : Nat) : Int := if firstTo X j n < 0 then -(rowAt X i j) else rowAt X i j
def madeLen (X : List (Nat → Int)) : Nat := min X.length 6
/-- The rows of Made. -/
def madeRows (X : List (Nat → Int)) : List (Nat → Int) := rowsOf (madeLen X) (madeAt X (madeLen X))
def gAt (X : List (Nat → Int)) (n k i j : Nat) : Int := if j < k then madeAt X n i j else rowAt X i j
def gMid (X : List (Nat → Int)) (n k m i j : Nat) : Int := if j < k ∨ (j = k ∧ i < m) then madeAt X n i j else rowAt X i j

theorem take_append_row {R : List (Nat → Int)} {k : Nat} (h : k < R.length) : R.take k ++ [rowAt R k] = R.take (k + 1) := by
  rw [List.take_succ_eq_append_getElem h]
  simp [rowAt, List.getD_eq_getElem?_getD, List.getElem?_eq_getElem h]

set_option maxRecDepth 100000 in
set_option maxHeartbeats 1600000 in
theorem Made_any (v : Value) (X : List (Nat → Int)) (w : World) (h : RowsIn .i8 w v X) (hX : ∀ r ∈ X, In8 r (-128) 127) :
    Calls Tryz.prog 6 #[.agg #[v]] w (RetOrder (madeRows X) w) := by
  obtain ⟨A0, c0, rfl, hc0, hm0, hx0⟩ := h
  replace hx0 := hide hx0
  replace hX := hide hX
  have hlX : X.length ≤ 9223372036854775807 := by omega
  clear hc0 hm0
  go_enter Tryz.func6, Tryz.ntmps6
  go_wp2
  go_loopw [3, 4] (fun v i wr => ∃ (k : Nat) (A : Option Addr) (c : Nat), k ≤ X.length ∧ k ≤ 6 ∧ i = .int .i64 k ∧ v = .slice A k c ∧ Hid (OwnRows 35 (w.heap.size + 1) wr (.slice A k c) (X.take k) ∧ Ext (w.alloc (.cells #[.slice A0 X.length c0] 24)) wr)) (fun _ i _ => 6 - (intOf i).toNat)
  case atStart => exact ⟨0, _, _, by omega, by omega, rfl, rfl, OwnRows.blk (R := []) (Nat.le_refl _) (Blk.new' _ _ (by simp)) rfl (by simp), (Ext.refl _).alloc _⟩
  case round =>
    obtain ⟨k, A, c, hk, hk6, rfl, rfl, hI⟩ := hrel
    have hfld := ((Blk.new w 24 #[.slice A0 X.length c0]).ext hI.out.2).cell 0
    simp only [List.getElem?_toArray, List.getElem?_cons_zero] at hfld
    have hEw : Hid (Ext w wr) := ((Ext.refl w).alloc _).trans hI.out.2
    by_cases hlt : k < X.length ∧ k < 6
    · obtain ⟨hlt, hlt6⟩ := hlt
      have hd1 : decide ((k : Int) < X.length) = true := by simp; omega
      obtain ⟨g, o, rfl, hgl, hcl⟩ := hx0.out (by omega)
      replace hcl := hide fun j (hj : j < 8) => (hcl k j hlt hj)
      have hrb : Hid (In8 (rowAt X k) (-128) 127) := hX.out _ (rowAt_mem hlt)
      have hta := hide (take_append_row hlt)
      generalize rowAt X k = x at *
      obtain ⟨wo, rfl⟩ : ∃ wo : World, wo = wr := ⟨_, rfl⟩
      go_wp2
      go_loopw [6] (fun i wr => ∃ j : Nat, j ≤ 8 ∧ i = .int .i64 j ∧ Hid (Blk wr wo.heap.size 35 (c8 (upTo x j)) ∧ Ext wo wr)) (fun i _ => 8 - (intOf i).toNat)
      case atStart => exact ⟨0, by omega, rfl, Blk.new _ _ _, (Ext.refl _).alloc _⟩
      case round =>
        obtain ⟨j, hj, rfl, hJ⟩ := hrel
        by_cases hj8 : j < 8
        · have hf2 : wr.cell? ⟨w.heap.size, 0, none⟩ = some (.slice (some ⟨g, o, none⟩) X.length c0) := hJ.out.2.cellv hfld
          have hcx : wr.cell? ⟨g, o + k * 8 + j, none⟩ = some (.int .i8 (x j)) := hJ.out.2.cellv (hEw.out.cellv (hcl.out j hj8))
          have hc1 := hJ.out.1.at8 hj8
          have hz1 := hJ.out.1.frozen j
          have hb := hrb.out j hj8
          have hup := hide (fun (v : Int) (hv : v = x j) => hJ.out.1.up8 hj8 hv)
          have hE2 : Hid (∀ v, Ext wo (wr.setCell ⟨wo.heap.size, j, none⟩ v)) := fun v => hJ.out.2.set (p := ⟨wo.heap.size, j, none⟩) (Nat.le_refl _) _
          generalize x j = y at *
          clear hfld
          go_wp2
          exact ⟨⟨j + 1, hj8, by simp, hup.out _ rfl, hE2.out _⟩, by simp [intOf]; omega⟩
        · obtain rfl : j = 8 := by omega
          have hf := hJ.out.1.full8
          have x0 : (wr).cell? ⟨wo.heap.size, 0, none⟩ = some (.int .i64 (x 0)) := (hf).cell 0
          have x1 : (wr).cell? ⟨wo.heap.size, 1, none⟩ = some (.int .i64 (x 1)) := (hf).cell 1
          have x2 : (wr).cell? ⟨wo.heap.size, 2, none⟩ = some (.int .i64 (x 2)) := (hf).cell 2
          have x3 : (wr).cell? ⟨wo.heap.size, 3, none⟩ = some (.int .i64 (x 3)) := (hf).cell 3
          have x4 : (wr).cell? ⟨wo.heap.size, 4, none⟩ = some (.int .i64 (x 4)) := (hf).cell 4
          have x5 : (wr).cell? ⟨wo.heap.size, 5, none⟩ = some (.int .i64 (x 5)) := (hf).cell 5
          have x6 : (wr).cell? ⟨wo.heap.size, 6, none⟩ = some (.int .i64 (x 6)) := (hf).cell 6
          have x7 : (wr).cell? ⟨wo.heap.size, 7, none⟩ = some (.int .i64 (x 7)) := (hf).cell 7
          obtain ⟨A', c', w', hrun, hO, hg⟩ := append_order (base := w.heap.size + 1) (w := wr.alloc (.cells #[.int .i64 (x 0), .int .i64 (x 1), .int .i64 (x 2), .int .i64 (x 3), .int .i64 (x 4), .int .i64 (x 5), .int .i64 (x 6), .int .i64 (x 7)] 35)) (v := .slice A k c) (R := X.take k) (S := [x]) (x := .slice (some ⟨wr.heap.size, 0, none⟩) 1 1)
            ((hI.out.1.ext hJ.out.2).ext ((Ext.refl _).alloc _)) (OwnRows.blk (R := [x]) (c := 1) (base := 0) (g := wr.heap.size) (Nat.zero_le _) (Blk.new _ _ _) rfl (by simp)).rows (by simp) (by simp; omega) (by have := hI.out.2.size; have := hJ.out.2.size; simp at *; omega)
          have hE3 : Hid (Ext (w.alloc (.cells #[.slice (some ⟨g, o, none⟩) X.length c0] 24)) w') := ((hI.out.2.trans hJ.out.2).alloc _).grown' hg fun k hk => by simpa using hI.out.1.base_le k hk
          rw [List.length_take, Nat.min_eq_left hk] at hrun hO
          replace hrun := hide hrun
          replace hO := hide hO
          clear hg
          replace hf := hide hf
          clear hfld
          go_wp2_with (at_builtin; go_loud (refine wpList_append_run rfl _ _ _ rfl _ _ rfl rfl hrun.out ?_))
          refine ⟨⟨k + 1, A', c', hlt, by omega, by simp, rfl, ?_, hE3.out⟩, by simp [intOf]; omega⟩
          rw [← hta.out]
          exact hO.out
    · have hn : k = madeLen X := by unfold madeLen; omega
      have hO := hide (hI.out.1.grid (by rw [List.length_take]; omega))
      have hO2 : Hid (OwnGrid 35 (w.heap.size + 1) wr A c k (gAt X k 0)) := hO.out.congr fun a b ha hb => by
        simp only [gAt, Nat.not_lt_zero, if_false, rowAt, List.getD_eq_getElem?_getD, List.getElem?_take, ha, if_true]
      have hn1 := hide hn
      clear hn hO
      have hbn : Hid (∀ i j, i < k → j < 8 → -128 ≤ rowAt X i j ∧ rowAt X i j ≤ 127) := fun i j hi hj => hX.out _ (rowAt_mem (by omega)) j hj
      have h67 : (k < X.length ∧ decide (k < X.length) = true ∧ ¬ k < 6 ∧ decide ((k : Int) < 6) = false) ∨ (¬ k < X.length ∧ decide (k < X.length) = false) := by
        by_cases h1 : k < X.length
        · exact .inl ⟨h1, by simpa using h1, by omega, by simp; omega⟩
        · exact .inr ⟨h1, by simpa using h1⟩
      clear hlt
      have hO3 : Hid (OwnGrid 35 (w.heap.size + 1) wr A c k (gAt X k 0) ∧ Ext w wr) := ⟨hO2.out, hEw.out⟩
      clear hO2 hEw hI
      rcases h67 with ⟨h6, h6', h7, h7'⟩ | ⟨h6, h6'⟩
      all_goals
        go_wp2
        clear hfld
        go_loopw [7] (fun i wr => ∃ q : Nat, q ≤ 8 ∧ i = .int .i64 q ∧ Hid (OwnGrid 35 (w.heap.size + 1) wr A c k (gAt X k q) ∧ Ext w wr)) (fun i _ => 8 - (intOf i).toNat)
        case atStart => exact ⟨0, by omega, rfl, hO3.out⟩
        case round =>
          clear hO3
          obtain ⟨q, hq, rfl, hI⟩ := hrel
          by_cases hq8 : q < 8
          · have hd8 : decide ((q : Int) < 8) = true := by simp; omega
            go_wp2
            go_loopw [8, 9] (fun f i wr => ∃ m : Nat, m ≤ k ∧ i = .int .i64 m ∧ f = .int .i64 (firstTo X q m) ∧ Hid (OwnGrid 35 (w.heap.size + 1) wr A c k (gAt X k q) ∧ Ext w wr)) (fun _ i _ => k - (intOf i).toNat)
            case atStart => exact ⟨0, by omega, rfl, rfl, hI.out⟩
            case round =>
              obtain ⟨m, hm, rfl, rfl, hJ⟩ := hrel
              by_cases hmk : m < k
              · obtain ⟨g, rfl, hgb, hG⟩ := hJ.out.1.at (by omega)
                have hcx : wr.cell? ⟨g, m * 8 + q, none⟩ = some (.int .i64 (rowAt X m q)) := by
                  rw [hG.cell hmk hq8]; simp [gAt]
                have hs : Hid (firstTo X q (m + 1) = if firstTo X q m = 0 then rowAt X m q else firstTo X q m) := rfl
                clear hG
                generalize rowAt X m q = y at *
                generalize firstTo X q m = f at *
                by_cases hf : f = 0
                · have hs' := hs.out
                  rw [if_pos hf] at hs'
                  replace hs' := hide hs'
                  subst hf
                  clear hs
                  go_wp2
                  exact ⟨⟨m + 1, hmk, by simp, by rw [hs'.out], hJ.out⟩, by simp [intOf]; omega⟩
                · have hs' := hs.out
                  rw [if_neg hf] at hs'
                  replace hs' := hide hs'
                  have hf' : (f == 0) = false := by simpa using hf
                  clear hs
                  go_wp2
                  exact ⟨⟨m + 1, hmk, by simp, by rw [hs'.out], hJ.out⟩, by simp [intOf]; omega⟩
              · obtain rfl : m = k := by omega
                have hJ2 : Hid (OwnGrid 35 (w.heap.size + 1) wr A c m (gMid X m q 0) ∧ Ext w wr) := ⟨hJ.out.1.congr fun a b ha hb => by simp [gMid, gAt], hJ.out.2⟩
                have hmade : Hid (∀ i, madeAt X m i q = if firstTo X q m < 0 then -(rowAt X i q) else rowAt X i q) := fun i => rfl
                generalize firstTo X q m = f at *
                go_wp2
                go_loopw [10] (fun i wr => ∃ p : Nat, p ≤ m ∧ (¬ f < 0 → p = 0) ∧ i = .int .i64 p ∧ Hid (OwnGrid 35 (w.heap.size + 1) wr A c m (gMid X m q p) ∧ Ext w wr)) (fun i _ => m - (intOf i).toNat)
                case atStart => exact ⟨0, by omega, fun _ => rfl, rfl, hJ2.out⟩
                case round =>
                  clear hJ2
                  obtain ⟨p, hp, hp0, rfl, hJ2⟩ := hrel
                  by_cases hf : f < 0
                  · clear hp0
                    have hf' : decide (f < 0) = true := by simpa using hf
                    by_cases hpm : p < m
                    · have hpm' : decide (p < m) = true := by simpa using hpm
                      obtain ⟨g, rfl, hgb, hG⟩ := hJ2.out.1.at (by omega)
                      have hcx : wr.cell? ⟨g, p * 8 + q, none⟩ = some (.int .i64 (rowAt X p q)) := by
                        rw [hG.cell hpm hq8]; simp [gMid]
                      have hz := hG.frozen (p * 8 + q)
                      have hy := hbn.out p q hpm hq8
                      have hmd := hmade.out p
                      rw [if_pos hf] at hmd
                      have hset : Hid (OwnGrid 35 (w.heap.size + 1) (wr.setCell ⟨g, p * 8 + q, none⟩ (.int .i64 (-(rowAt X p q)))) (some ⟨g, 0, none⟩) c m (gMid X m q (p + 1))) := by
                        refine .inr ⟨by omega, g, rfl, hgb, hG.set hpm hq8 (by simp [gMid, hmd]) fun a b ha hb hne => ?_⟩
                        unfold gMid
                        by_cases hb1 : b < q
                        · simp [hb1]
                        · by_cases hb2 : b = q
                          · have : a ≠ p := fun e => hne ⟨e, hb2⟩
                            by_cases ha1 : a < p
                            · simp [hb2, ha1, show a < p + 1 by omega]
                            · simp [hb2, ha1, show ¬ a < p + 1 by omega]
                          · simp [hb1, hb2]
                      have hE4 : Hid (Ext w (wr.setCell ⟨g, p * 8 + q, none⟩ (.int .i64 (-(rowAt X p q))))) := hJ2.out.2.set (p := ⟨g, p * 8 + q, none⟩) (by dsimp only; omega) _
                      clear hG hmd
                      generalize rowAt X p q = y at *
                      go_wp2
                      go_region
                      go_wp2
                      exact ⟨⟨p + 1, hpm, fun h => absurd hf h, by simp, hset.out, hE4.out.drew⟩, by simp [intOf]; omega⟩
                    · obtain rfl : p = m := by omega
                      have hpm' : decide (p < p) = false := by simp
                      go_wp2
                      refine ⟨⟨q + 1, hq8, by simp, hJ2.out.1.congr fun a b ha hb => ?_, hJ2.out.2⟩, by simp [intOf]; omega⟩
                      unfold gMid gAt
                      by_cases hb1 : b < q
                      · simp [hb1, show b < q + 1 by omega]
                      · by_cases hb2 : b = q
                        · simp [hb2, ha]
                        · simp [hb1, hb2, show ¬ b < q + 1 by omega]
                  · obtain rfl : p = 0 := hp0 hf
                    have hf' : decide (f < 0) = false := by simpa using hf
                    have hfin : Hid (OwnGrid 35 (w.heap.size + 1) wr A c m (gAt X m (q + 1))) := hJ2.out.1.congr fun a b ha hb => by
                      unfold gMid gAt
                      by_cases hb1 : b < q
                      · simp [hb1, show b < q + 1 by omega]
                      · by_cases hb2 : b = q
                        · have := hmade.out a
                          rw [if_neg hf] at this
                          simp [hb2, this]
                        · simp [hb1, hb2, show ¬ b < q + 1 by omega]
                    by_cases hm0 : 0 < m
                    · have hm0' : decide ((0 : Int) < m) = true := by simp; omega
                      go_wp2
                      exact ⟨⟨q + 1, hq8, by simp, hfin.out, hJ2.out.2⟩, by simp [intOf]; omega⟩
                    · obtain rfl : m = 0 := by omega
                      go_wp2
                      exact ⟨⟨q + 1, hq8, by simp, hfin.out, hJ2.out.2⟩, by simp [intOf]; omega⟩
          · obtain rfl : q = 8 := by omega
            have hfin : Hid (OwnRows 35 (w.heap.size + 1) wr (.slice A k c) (rowsOf k (madeAt X k))) := (hI.out.1.congr fun a b ha hb => by simp [gAt, hb]).own
            have hlen : Hid ((madeRows X).length = k) := hide (by rw [madeRows, rowsOf_length, hn1.out])
            have hrw : Hid (madeRows X = rowsOf k (madeAt X k)) := hide (by rw [madeRows, ← hn1.out])
            go_wp2
            go_ret
            refine ⟨A, c, ?_, ?_, hI.out.2⟩
            · rw [hlen.out]; rfl
            · rw [hlen.out, hrw.out]; exact hfin.out.base_mono (by omega)

end Go.Proofs.YteefhmdameeoaaaGreat
namespace Go.Proofs.YteefhmdameeoaaaGreat
open Go.RowKit

/-- The call returns monomials in memory of its own. -/
def RetMonos (R : List (Nat → Int)) (w : World) (e : Ending) (w' : World) : Prop :=
  ∃ (A : Option Addr) (c : Nat), e = .returned (.slice A R.length c) ∧ OwnRows 36 w.heap.size w' (.slice A R.length c) R ∧ Ext w w'
def monosOf (L : List (Nat → Int)) (k : Nat) : List (Nat → Int) := (L.take k).map monoOf
theorem monosOf_length {L : List (Nat → Int)} {k : Nat} (h : k ≤ L.length) : (monosOf L k).length = k := by simp [monosOf, h]
theorem monosOf_snoc {L : List (Nat → Int)} {k : Nat} (h : k < L.length) : monosOf L k ++ [monoOf (rowAt L k)] = monosOf L (k + 1) := by
  rw [monosOf, monosOf, ← take_append_row h, List.map_append]; rfl

set_option maxRecDepth 100000 in
set_option maxHeartbeats 1600000 in
theorem monos_any (v : Value) (L : List (Nat → Int)) (w : World) (h : RowsIn .u16 w v L) (hL : ∀ r ∈ L, In8 r 0 65535) :
    Calls Tryz.prog 7 #[v] w (RetMonos (monosOf L (min L.length 8)) w) := by
  obtain ⟨A0, c0, rfl, hc0, hm0, hx0⟩ := h
  replace hx0 := hide hx0
  replace hL := hide hL
  have hlX : L.length ≤ 9223372036854775807 := by omega
  clear hc0 hm0
  go_enter Tryz.func7, Tryz.ntmps7
  go_wp2
  go_loopw [3, 4] (fun v i wr => ∃ (k : Nat) (A : Option Addr) (c : Nat), k ≤ L.length ∧ k ≤ 8 ∧ i = .int .i64 k ∧ v = .slice A k c ∧ Hid (OwnRows 36 w.heap.size wr (.slice A k c) (monosOf L k) ∧ Ext w wr)) (fun _ i _ => 8 - (intOf i).toNat)
  case atStart => exact ⟨0, _, _, by omega, by omega, rfl, rfl, OwnRows.blk (R := []) (Nat.le_refl _) (Blk.new _ _ _) rfl (by simp), (Ext.refl _).alloc _⟩
  case round =>
    obtain ⟨k, A, c, hk, hk8, rfl, rfl, hI⟩ := hrel
    by_cases hlt : k < L.length ∧ k < 8
    · obtain ⟨hlt, hlt8⟩ := hlt
      have hd1 : decide (k < L.length) = true := by simpa using hlt
      obtain ⟨g, o, rfl, hgl, hcl⟩ := hx0.out (by omega)
      replace hcl := hide fun j (hj : j < 8) => hI.out.2.cellv (hcl k j hlt hj)
      have hrb : Hid (In8 (rowAt L k) 0 65535) := hL.out _ (rowAt_mem hlt)
      have hta := hide (monosOf_snoc hlt)
      generalize rowAt L k = x at *
      have r0 : (wr).cell? ⟨g, o + k * 8, none⟩ = some (.int .u16 (x 0)) := hcl.out 0 (by omega)
      have r1 : (wr).cell? ⟨g, o + k * 8 + 1, none⟩ = some (.int .u16 (x 1)) := hcl.out 1 (by omega)
      have r2 : (wr).cell? ⟨g, o + k * 8 + 2, none⟩ = some (.int .u16 (x 2)) := hcl.out 2 (by omega)
      have r3 : (wr).cell? ⟨g, o + k * 8 + 3, none⟩ = some (.int .u16 (x 3)) := hcl.out 3 (by omega)
      have r4 : (wr).cell? ⟨g, o + k * 8 + 4, none⟩ = some (.int .u16 (x 4)) := hcl.out 4 (by omega)
      have r5 : (wr).cell? ⟨g, o + k * 8 + 5, none⟩ = some (.int .u16 (x 5)) := hcl.out 5 (by omega)
      have r6 : (wr).cell? ⟨g, o + k * 8 + 6, none⟩ = some (.int .u16 (x 6)) := hcl.out 6 (by omega)
      have r7 : (wr).cell? ⟨g, o + k * 8 + 7, none⟩ = some (.int .u16 (x 7)) := hcl.out 7 (by omega)
      go_wp2_with fail
      refine (mono_any x _ hrb.out).mono ?_
      rintro e w1 ⟨rfl, hE1⟩
      obtain ⟨A', c', w', hrun, hO, hg⟩ := append_monos (base := w.heap.size) (w := w1.alloc (.cells #[.int .i64 (monoOf x 0), .int .i64 (monoOf x 1), .int .i64 (monoOf x 2), .int .i64 (monoOf x 3), .int .i64 (monoOf x 4), .int .i64 (monoOf x 5), .int .i64 (monoOf x 6), .int .i64 (monoOf x 7)] 36)) (v := .slice A k c) (R := monosOf L k) (S := [monoOf x]) (x := .slice (some ⟨w1.heap.size, 0, none⟩) 1 1)
        ((hI.out.1.ext hE1).ext ((Ext.refl _).alloc _)) (OwnRows.blk (R := [monoOf x]) (c := 1) (base := 0) (g := w1.heap.size) (Nat.zero_le _) (Blk.new _ _ _) rfl (by simp)).rows (by simp) (by simp [monosOf]; omega) (by have := hI.out.2.size; have := hE1.size; simp; omega)
      have hE3 : Hid (Ext w w') := ((hI.out.2.trans hE1).alloc _).grown' hg hI.out.1.base_le
      rw [monosOf_length hk] at hrun hO
      replace hrun := hide hrun
      replace hO := hide hO
      replace hE1 := hide hE1
      clear hg r0 r1 r2 r3 r4 r5 r6 r7
      go_wp2_with (at_builtin; go_loud (refine wpList_append_run rfl _ _ _ rfl _ _ rfl rfl hrun.out ?_))
      refine ⟨⟨k + 1, A', c', hlt, by omega, by simp, rfl, ?_, hE3.out⟩, by simp [intOf]; omega⟩
      rw [← hta.out]
      exact hO.out
    · have hn : Hid (min L.length 8 = k) := hide (by omega)
      have hlen : Hid ((monosOf L (min L.length 8)).length = k) := hide (by rw [monosOf_length (by omega)]; omega)
      by_cases h1 : k < L.length
      · have hd1 : decide (k < L.length) = true := by simpa using h1
        have hd2 : decide ((k : Int) < 8) = false := by simp; omega
        go_wp2
        go_ret
        refine ⟨A, c, ?_, ?_, hI.out.2⟩
        · rw [hlen.out]; rfl
        · rw [hlen.out, hn.out]; exact hI.out.1
      · have hd1 : decide (k < L.length) = false := by simpa using h1
        go_wp2
        go_ret
        refine ⟨A, c, ?_, ?_, hI.out.2⟩
        · rw [hlen.out]; rfl
        · rw [hlen.out, hn.out]; exact hI.out.1

/-- A list of rows holds a row. -/
def hasTo (R : List (Nat → Int)) (a : Nat → Int) (k : Nat) : Bool := (R.drop k).any fun r => eqB r a
theorem hasTo_step {R : List (Nat → Int)} {a : Nat → Int} {k : Nat} (h : k < R.length) : hasTo R a k = (eqB (rowAt R k) a || hasTo R a (k + 1)) := by
  rw [hasTo, drop_rowAt h, List.any_cons]; rfl

/-- Two lists of rows are alike. -/
def alikeTo (R S : List (Nat → Int)) (k : Nat) : Bool := (List.range (R.length - k)).all fun i => eqB (rowAt R (k + i)) (rowAt S (k + i))
theorem alikeTo_step {R S : List (Nat → Int)} {k : Nat} (h : k < R.length) : alikeTo R S k = (eqB (rowAt R k) (rowAt S k) && alikeTo R S (k + 1)) := by
  rw [alikeTo, alikeTo, show R.length - k = R.length - (k + 1) + 1 by omega, List.range_succ_eq_map, List.all_cons, List.all_map]
  congr 1
  refine congrArg (fun f => List.all _ f) (funext fun i => ?_)
  show eqB _ _ = eqB _ _
  rw [show k + Nat.succ i = k + 1 + i by omega]
def alikeB (R S : List (Nat → Int)) : Bool := decide (R.length = S.length) && alikeTo R S 0
theorem run_eq_row (a b : Nat → Int) (W : World) : (Op.equalIn 10000 35 (.agg #[.int .i64 (a 0), .int .i64 (a 1), .int .i64 (a 2), .int .i64 (a 3), .int .i64 (a 4), .int .i64 (a 5), .int .i64 (a 6), .int .i64 (a 7)]) (.agg #[.int .i64 (b 0), .int .i64 (b 1), .int .i64 (b 2), .int .i64 (b 3), .int .i64 (b 4), .int .i64 (b 5), .int .i64 (b 6), .int .i64 (b 7)])).run Tryz.prog W = .ok (eqB a b) W := by
  obtain ⟨i, hi⟩ : ∃ i, Tryz.prog.info? 3 = some i := Option.isSome_iff_exists.1 (by kernel_rfl)
  have := run_equalIn_array (P := Tryz.prog) W 9999 (t := 35) (e := 3) (n := 8) (c8 a) (c8 b) (by kernel_rfl) hi
  rw [run_eqItems8 9998 a b W (List.range 8) (by simp)] at this
  exact this

set_option maxRecDepth 100000 in
set_option maxHeartbeats 1600000 in
theorem alike_any (v u : Value) (R S : List (Nat → Int)) (w : World) (h : RowsAt .i64 36 w v R) (h2 : RowsAt .i64 36 w u S) :
    Calls Tryz.prog 16 #[v, u] w fun e w' => e = .returned (.bool (alikeB R S)) ∧ Ext w w' := by
  obtain ⟨A0, c0, rfl, hc0, hm0, hx0⟩ := h.open_
  obtain ⟨A1, c1, rfl, hc1, hm1, hx1⟩ := h2.open_
  clear h h2
  replace hx0 := hide hx0
  replace hx1 := hide hx1
  have hlX : R.length ≤ 9223372036854775807 := by omega
  have hlY : S.length ≤ 9223372036854775807 := by omega
  clear hc0 hm0 hc1 hm1
  by_cases hl : R.length = S.length
  · have hal : Hid (alikeB R S = alikeTo R S 0) := hide (by simp [alikeB, hl])
    have hl' := hide hl
    rw [← hl]
    rw [← hl] at hx1
    clear hl hlY
    go_enter Tryz.func16, Tryz.ntmps16
    go_wp2
    go_loopw [5] (fun i wr => ∃ k : Nat, k ≤ R.length ∧ i = .int .i64 k ∧ Hid (alikeTo R S 0 = alikeTo R S k ∧ Ext w wr)) (fun i _ => R.length - (intOf i).toNat)
    case atStart => exact ⟨0, by omega, rfl, rfl, Ext.refl _⟩
    case round =>
      obtain ⟨k, hk, rfl, hI⟩ := hrel
      by_cases hlt : k < R.length
      · obtain ⟨g, o, rfl, hgl, hcl⟩ := hx0.out (by omega)
        obtain ⟨g', o', rfl, hgl', hcl'⟩ := hx1.out (by omega)
        replace hcl := hide fun j (hj : j < 8) => hI.out.2.cellv (hcl k j hlt hj)
        replace hcl' := hide fun j (hj : j < 8) => hI.out.2.cellv (hcl' k j hlt hj)
        have hst := hide (alikeTo_step (S := S) hlt)
        generalize rowAt R k = x at *
        generalize rowAt S k = y at *
        have r0 : (wr).cell? ⟨g, o + k * 8, none⟩ = some (.int .i64 (x 0)) := hcl.out 0 (by omega)
        have r1 : (wr).cell? ⟨g, o + k * 8 + 1, none⟩ = some (.int .i64 (x 1)) := hcl.out 1 (by omega)
        have r2 : (wr).cell? ⟨g, o + k * 8 + 2, none⟩ = some (.int .i64 (x 2)) := hcl.out 2 (by omega)
        have r3 : (wr).cell? ⟨g, o + k * 8 + 3, none⟩ = some (.int .i64 (x 3)) := hcl.out 3 (by omega)
        have r4 : (wr).cell? ⟨g, o + k * 8 + 4, none⟩ = some (.int .i64 (x 4)) := hcl.out 4 (by omega)
        have r5 : (wr).cell? ⟨g, o + k * 8 + 5, none⟩ = some (.int .i64 (x 5)) := hcl.out 5 (by omega)
        have r6 : (wr).cell? ⟨g, o + k * 8 + 6, none⟩ = some (.int .i64 (x 6)) := hcl.out 6 (by omega)
        have r7 : (wr).cell? ⟨g, o + k * 8 + 7, none⟩ = some (.int .i64 (x 7)) := hcl.out 7 (by omega)
        have s0 : (wr).cell? ⟨g', o' + k * 8, none⟩ = some (.int .i64 (y 0)) := hcl'.out 0 (by omega)
        have s1 : (wr).cell? ⟨g', o' + k * 8 + 1, none⟩ = some (.int .i64 (y 1)) := hcl'.out 1 (by omega)
        have s2 : (wr).cell? ⟨g', o' + k * 8 + 2, none⟩ = some (.int .i64 (y 2)) := hcl'.out 2 (by omega)
        have s3 : (wr).cell? ⟨g', o' + k * 8 + 3, none⟩ = some (.int .i64 (y 3)) := hcl'.out 3 (by omega)
        have s4 : (wr).cell? ⟨g', o' + k * 8 + 4, none⟩ = some (.int .i64 (y 4)) := hcl'.out 4 (by omega)
        have s5 : (wr).cell? ⟨g', o' + k * 8 + 5, none⟩ = some (.int .i64 (y 5)) := hcl'.out 5 (by omega)
        have s6 : (wr).cell? ⟨g', o' + k * 8 + 6, none⟩ = some (.int .i64 (y 6)) := hcl'.out 6 (by omega)
        have s7 : (wr).cell? ⟨g', o' + k * 8 + 7, none⟩ = some (.int .i64 (y 7)) := hcl'.out 7 (by omega)
        have hq := fun W => run_eq_mono x y W
        cases he : eqB x y with
        | true =>
          rw [he] at hq hst
          go_wp2
          go_quiet (fail)
          go_wp2
          exact ⟨⟨k + 1, hlt, by simp, by rw [hI.out.1, hst.out]; rfl, hI.out.2.drewN _⟩, by simp [intOf]; omega⟩
        | false =>
          rw [he] at hq hst
          go_wp2
          go_quiet (fail)
          go_wp2
          go_ret
          exact ⟨by rw [hal.out, hI.out.1, hst.out]; rfl, hI.out.2.drewN _⟩
      · obtain rfl : k = R.length := by omega
        have hz : Hid (alikeTo R S R.length = true) := hide (by simp [alikeTo])
        go_wp2
        go_ret
        exact ⟨by rw [hal.out, hI.out.1, hz.out]; rfl, hI.out.2⟩
  · have hal : Hid (alikeB R S = false) := hide (by simp [alikeB, hl])
    have hl' : (((R.length : Nat) : Int) != (S.length : Nat)) = true := by simp; omega
    have hl'' : (R.length != S.length) = true := by simp [hl]
    go_enter Tryz.func16, Tryz.ntmps16
    go_wp2
    go_ret
    exact ⟨by rw [hal.out]; rfl, Ext.refl _⟩
set_option maxRecDepth 100000 in
set_option maxHeartbeats 1600000 in
theorem Same_any (v u : Value) (R S : List (Nat → Int)) (w : World) (h : RowsAt .i64 35 w v R) (h2 : RowsAt .i64 35 w u S) :
    Calls Tryz.prog 15 #[v, u] w fun e w' => e = .returned (.bool (alikeB R S)) ∧ Ext w w' := by
  obtain ⟨A0, c0, rfl, hc0, hm0, hx0⟩ := h.open_
  obtain ⟨A1, c1, rfl, hc1, hm1, hx1⟩ := h2.open_
  clear h h2
  replace hx0 := hide hx0
  replace hx1 := hide hx1
  have hlX : R.length ≤ 9223372036854775807 := by omega
  have hlY : S.length ≤ 9223372036854775807 := by omega
  clear hc0 hm0 hc1 hm1
  by_cases hl : R.length = S.length
  · have hal : Hid (alikeB R S = alikeTo R S 0) := hide (by simp [alikeB, hl])
    have hl' := hide hl
    rw [← hl]
    rw [← hl] at hx1
    clear hl hlY
    go_enter Tryz.func15, Tryz.ntmps15
    go_wp2
    go_loopw [5] (fun i wr => ∃ k : Nat, k ≤ R.length ∧ i = .int .i64 k ∧ Hid (alikeTo R S 0 = alikeTo R S k ∧ Ext w wr)) (fun i _ => R.length - (intOf i).toNat)
    case atStart => exact ⟨0, by omega, rfl, rfl, Ext.refl _⟩
    case round =>
      obtain ⟨k, hk, rfl, hI⟩ := hrel
      by_cases hlt : k < R.length
      · obtain ⟨g, o, rfl, hgl, hcl⟩ := hx0.out (by omega)
        obtain ⟨g', o', rfl, hgl', hcl'⟩ := hx1.out (by omega)
        replace hcl := hide fun j (hj : j < 8) => hI.out.2.cellv (hcl k j hlt hj)
        replace hcl' := hide fun j (hj : j < 8) => hI.out.2.cellv (hcl' k j hlt hj)
        have hst := hide (alikeTo_step (S := S) hlt)
        generalize rowAt R k = x at *
        generalize rowAt S k = y at *
        have r0 : (wr).cell? ⟨g, o + k * 8, none⟩ = some (.int .i64 (x 0)) := hcl.out 0 (by omega)
        have r1 : (wr).cell? ⟨g, o + k * 8 + 1, none⟩ = some (.int .i64 (x 1)) := hcl.out 1 (by omega)
        have r2 : (wr).cell? ⟨g, o + k * 8 + 2, none⟩ = some (.int .i64 (x 2)) := hcl.out 2 (by omega)
        have r3 : (wr).cell? ⟨g, o + k * 8 + 3, none⟩ = some (.int .i64 (x 3)) := hcl.out 3 (by omega)
        have r4 : (wr).cell? ⟨g, o + k * 8 + 4, none⟩ = some (.int .i64 (x 4)) := hcl.out 4 (by omega)
        have r5 : (wr).cell? ⟨g, o + k * 8 + 5, none⟩ = some (.int .i64 (x 5)) := hcl.out 5 (by omega)
        have r6 : (wr).cell? ⟨g, o + k * 8 + 6, none⟩ = some (.int .i64 (x 6)) := hcl.out 6 (by omega)
        have r7 : (wr).cell? ⟨g, o + k * 8 + 7, none⟩ = some (.int .i64 (x 7)) := hcl.out 7 (by omega)
        have s0 : (wr).cell? ⟨g', o' + k * 8, none⟩ = some (.int .i64 (y 0)) := hcl'.out 0 (by omega)
        have s1 : (wr).cell? ⟨g', o' + k * 8 + 1, none⟩ = some (.int .i64 (y 1)) := hcl'.out 1 (by omega)
        have s2 : (wr).cell? ⟨g', o' + k * 8 + 2, none⟩ = some (.int .i64 (y 2)) := hcl'.out 2 (by omega)
        have s3 : (wr).cell? ⟨g', o' + k * 8 + 3, none⟩ = some (.int .i64 (y 3)) := hcl'.out 3 (by omega)
        have s4 : (wr).cell? ⟨g', o' + k * 8 + 4, none⟩ = some (.int .i64 (y 4)) := hcl'.out 4 (by omega)
        have s5 : (wr).cell? ⟨g', o' + k * 8 + 5, none⟩ = some (.int .i64 (y 5)) := hcl'.out 5 (by omega)
        have s6 : (wr).cell? ⟨g', o' + k * 8 + 6, none⟩ = some (.int .i64 (y 6)) := hcl'.out 6 (by omega)
        have s7 : (wr).cell? ⟨g', o' + k * 8 + 7, none⟩ = some (.int .i64 (y 7)) := hcl'.out 7 (by omega)
        have hq := fun W => run_eq_row x y W
        cases he : eqB x y with
        | true =>
          rw [he] at hq hst
          go_wp2
          go_quiet (fail)
          go_wp2
          exact ⟨⟨k + 1, hlt, by simp, by rw [hI.out.1, hst.out]; rfl, hI.out.2.drewN _⟩, by simp [intOf]; omega⟩
        | false =>
          rw [he] at hq hst
          go_wp2
          go_quiet (fail)
          go_wp2
          go_ret
          exact ⟨by rw [hal.out, hI.out.1, hst.out]; rfl, hI.out.2.drewN _⟩
      · obtain rfl : k = R.length := by omega
        have hz : Hid (alikeTo R S R.length = true) := hide (by simp [alikeTo])
        go_wp2
        go_ret
        exact ⟨by rw [hal.out, hI.out.1, hz.out]; rfl, hI.out.2⟩
  · have hal : Hid (alikeB R S = false) := hide (by simp [alikeB, hl])
    have hl' : (((R.length : Nat) : Int) != (S.length : Nat)) = true := by simp; omega
    have hl'' : (R.length != S.length) = true := by simp [hl]
    go_enter Tryz.func15, Tryz.ntmps15
    go_wp2
    go_ret
    exact ⟨by rw [hal.out]; rfl, Ext.refl _⟩
end Go.Proofs.YteefhmdameeoaaaGreat
namespace Go.Proofs.YteefhmdameeoaaaGreat
open Go.RowKit

/-- Numbers as integers. -/
def castP (p : Nat → Nat) (i : Nat) : Int := p i
/-- The first k places of a row moved by a permutation. -/
def movedTo (a : Nat → Int) (p : Nat → Nat) : Nat → Nat → Int
  | 0, _ => 0
  | k + 1, j => if j = p k then a k else movedTo a p k j

end Go.Proofs.YteefhmdameeoaaaGreat
