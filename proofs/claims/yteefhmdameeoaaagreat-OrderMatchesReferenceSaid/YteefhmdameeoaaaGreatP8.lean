/-
  order.rank: its matrix is filled.
  order.Full.
  The fixed examples, plainly.
  The fixed examples of the law's package return true.
-/
import Derived.Test.YteefhmdameeoaaaGreatP6
import Derived.Test.YteefhmdameeoaaaGreatP7
import Derived.WalkKit
import Derived.WalkSpells
import Derived.WalkLawsBesides
import Derived.BigQuiet
import Derived.Deep.QuietTactic
import Derived.Laws.AppendOwnNone
import Derived.Deep.RegionHeld3
import Derived.Deep.DeepCutAuto
import Derived.Deep.CutBlock
import Derived.Deep.LoopGhost
import Derived.ChangeKeysEq
import Derived.RegionTactic
import Derived.ChangeAlike
import Derived.Deep.Cut
import Derived.Deep.Upon
import Derived.Lib.SliceRun
import Derived.Shelf.SlSortCmp.NoneTotal
set_option linter.unusedSimpArgs false
set_option linter.unusedVariables false
namespace Go.Proofs.YteefhmdameeoaaaGreat
open Go.RowKit

def zRow : Array Value := #[.bool false, .slice none 0 0, .bool false, .slice none 0 0, .bool false, .slice none 0 0, .bool false, .slice none 0 0, .bool false, .slice none 0 0, .bool false, .slice none 0 0, .bool false, .slice none 0 0, .bool false, .slice none 0 0, .bool false, .slice none 0 0, .bool false, .slice none 0 0, .bool false, .slice none 0 0, .bool false, .slice none 0 0, .bool false, .slice none 0 0, .bool false, .slice none 0 0, .bool false, .slice none 0 0, .bool false, .slice none 0 0]
def zMat (n : Nat) : Array Value := madeCells (Value.agg zRow).cells (n * 32)
theorem zMat_size (n : Nat) : (zMat n).size = n * 32 := by simp [zMat, madeCells]
theorem run_make_mat (n : Nat) (hn : n ≤ 1000000) (kl kc : IntKind) (W : World) :
    (Instr.makeSlice 69 (.int kl (n : Int)) (.int kc (n : Int))).run Tryz.prog W = .ok (.slice (some ⟨W.heap.size, 0, none⟩) n n) (W.alloc (.cells (zMat n) 76)) := by
  obtain ⟨i, hi, hz0, hz1, hz2⟩ := info_parts (show (Tryz.prog.info? 76).map (fun i => (i.zero, i.size, i.bytes)) = some (some (.agg zRow), 32, 512) by kernel_rfl)
  have hb : (i.bytes : Int) * (n : Int) ≤ 281474976710656 := by rw [hz2]; omega
  have hr := run_make (P := Tryz.prog) W 69 76 i (.agg zRow) Tryz.underlying69 hi hz0 kl kc n n (by omega) (by omega) hb (by omega)
  simp only [Int.toNat_natCast] at hr
  rw [hr, hz1]
  rfl
theorem setCells_some {g : Nat} {p : Addr} {v : Value} : ∀ (vs : List Value) (o : Nat) (w : World), w.cell? p = some v → ∃ v', (w.setCells g o vs).cell? p = some v'
  | [], _, _, h => ⟨v, h⟩
  | u :: vs, o, w, h => by
    obtain ⟨v', h'⟩ := cell?_setCell_some (p := ⟨g, o, none⟩) (x := u) h
    exact setCells_some (v := v') vs (o + 1) _ h'
/-- The rows of an order as rational numbers. -/
def ratRows (R : List (Nat → Int)) (k j : Nat) : Rat := (rowAt R k j : Int)
/-- The entries that are filled. -/
def FillTo (k i a b : Nat) : Prop := a < k ∨ (a = k ∧ b < i)
/-- The numbers of words after so many steps. -/
def szOf : Nat → Nat
  | 0 => 1
  | i + 1 => 4 * szOf i + 1
theorem szOf_le {i : Nat} (h : i ≤ 8) : szOf i ≤ 87381 := by
  have : i = 0 ∨ i = 1 ∨ i = 2 ∨ i = 3 ∨ i = 4 ∨ i = 5 ∨ i = 6 ∨ i = 7 ∨ i = 8 := by omega
  rcases this with rfl | rfl | rfl | rfl | rfl | rfl | rfl | rfl | rfl <;> decide
theorem Ty.lt {w : World} {b : Nat} {t : TypeId} (h : Ty w b t) : b < w.heap.size := by obtain ⟨_, _, h⟩ := h; exact lt_of_heap h
theorem swapW_far (w : World) {g : Nat} (r p : Nat) {q : Addr} (h : q.block ≠ g) : (swapW w g r p).cell? q = w.cell? q := by
  unfold swapW
  rw [World.cell?_setCells_out g _ _ _ q fun e => absurd e h, World.cell?_setCells_out g _ _ _ q fun e => absurd e h]
theorem arr4 {cs : Array Value} (h : cs.size = 4) : ∃ a b c d, cs = #[a, b, c, d] := by
  cases cs with
  | mk l => match l, h with
    | [a, b, c, d], _ => exact ⟨a, b, c, d, rfl⟩
theorem opE_val {P : Program} {o : Oper} {ev : Operand → Value} {w w' : World} {v : Value} {Rl : Value → World → Prop} (h : (execOp ev o).run P w = .ok (.value v) w') (hR : Rl v w') : OpStep P o ev w Rl := by
  unfold OpStep
  rw [h]
  exact hR
theorem opE_skip {P : Program} {o : Oper} {ev : Operand → Value} {w w' : World} {Rl : Value → World → Prop} (h : (execOp ev o).run P w = .ok .skip w') (hR : Rl undef w') : OpStep P o ev w Rl := by
  unfold OpStep
  rw [h]
  exact hR
theorem opE_call {P : Program} {o : Oper} {ev : Operand → Value} {w : World} {f : FuncId} {args : Array Value} {Rc : Ending → World → Prop} {Rl : Value → World → Prop} (h : (execOp ev o).run P w = .ok (.enter f args) w) (hc : Calls P f args w Rc) (hR : ∀ e w', Rc e w' → ∃ v, e = .returned v ∧ Rl v w') : OpStep P o ev w Rl := by
  unfold OpStep
  rw [h]
  exact hc.mono hR
theorem unF_self {F : VFact} {g : Nat → Value} {i : Nat} {v : Value} {w : World} (h : F v w) : unF F ([i].map (upd g i v)) w := by
  show F (upd g i v i) w
  simp only [upd, if_true]; exact h
theorem holds_put4 {w : World} {k : Nat} (hk : RegE.RatBlk w k) {b b' : Bool} {A A' : Option Addr} {n c n' c' : Nat} {q : Rat} (hI : IsRat w (.bool b) (.slice A n c) (.bool b') (.slice A' n' c') q) : RegE.HoldsR (put4 w k (.bool b) (.slice A n c) (.bool b') (.slice A' n' c')) k q := by
  obtain ⟨cs, h1, h2⟩ := hk
  refine ⟨b, b', A, A', n, c, n', c', ?_, hI.put4 (b := k) ⟨cs, _, h1⟩ (by decide) _ _ _ _⟩
  have := (((Blk.set (cs := cs) h1 0 (.bool b)).set 1 (.slice A n c)).set 2 (.bool b')).set 3 (.slice A' n' c')
  have e : (((cs.setIfInBounds 0 (.bool b)).setIfInBounds 1 (.slice A n c)).setIfInBounds 2 (.bool b')).setIfInBounds 3 (.slice A' n' c') = #[.bool b, .slice A n c, .bool b', .slice A' n' c'] := by
    obtain ⟨a0, a1, a2, a3, rfl⟩ := arr4 h2
    rfl
  rw [e] at this
  exact this
section
variable [Inhabited RegE.Base]
theorem cellE {w w' : World} {g : Nat} {t : TypeId} {cur : Array Value} (hb : Blk w g t cur) (ht : t ≠ 74) (h : RegE.Ext w w') (o : Nat) : w'.cell? ⟨g, o, none⟩ = w.cell? ⟨g, o, none⟩ := by
  have h2 : Blk w' g t cur := h.block ht hb
  rw [h2.cell, hb.cell]
theorem ext_of_E {w w' : World} (h : RegE.Ext w w') (hb : (default : RegE.Base).b = w.heap.size) : Ext w w' :=
  ⟨h.1.1, h.1.2.1, h.1.2.2.1, h.1.2.2.2, fun k hk => by
    have hk' : w.heap[k]? = some w.heap[k] := Array.getElem?_eq_getElem hk
    rcases h.2 k _ hk' with h1 | ⟨h1, _⟩
    · rw [h1, hk']
    · omega⟩
theorem ext_put4 {w : World} {k : Nat} (hk : RegE.RatBlk w k) (hb : (default : RegE.Base).b ≤ k) {b b' : Bool} {A A' : Option Addr} {n c n' c' : Nat} {q : Rat} (hq : (default : RegE.Base).q = q) (hI : IsRat w (.bool b) (.slice A n c) (.bool b') (.slice A' n' c') q) : RegE.Ext w (put4 w k (.bool b) (.slice A n c) (.bool b') (.slice A' n' c')) := by
  have hh := holds_put4 hk hI
  obtain ⟨cs, h1, h2⟩ := hk
  refine ⟨⟨rfl, rfl, rfl, by simp [put4]⟩, fun i o ho => ?_⟩
  by_cases e : i = k
  · subst e
    rw [h1] at ho
    cases ho
    exact .inr ⟨hb, ⟨cs, _, rfl⟩, by rw [hq]; exact hh⟩
  · refine .inl ?_
    have hs : ∀ (W : World) (q : Nat) (u : Value), W.heap[i]? = some o → (W.setCell ⟨k, q, none⟩ u).heap[i]? = some o := fun W q u hW => (Below.heap_setCell W ⟨k, q, none⟩ u i e).trans hW
    exact hs _ 3 _ (hs _ 2 _ (hs _ 1 _ (hs _ 0 _ ho)))
end
theorem blk_swapW {w : World} {g B : Nat} {t : TypeId} {cur : Array Value} (h : Blk w B t cur) (hne : B ≠ g) (r p : Nat) : Blk (swapW w g r p) B t cur := by
  have : ∀ (vs : List Value) (o : Nat) (w : World), Blk w B t cur → Blk (w.setCells g o vs) B t cur := by
    intro vs
    induction vs with
    | nil => intro o w h; exact h
    | cons v vs ih => intro o w h; exact ih (o + 1) _ (h.far (p := ⟨g, o, none⟩) hne v)
  exact this _ _ _ (this _ _ _ h)
theorem RatAt.rat4 {w : World} {k o : Nat} {q : Rat} (h : RatAt w k o q) {g : Nat} (ht : Ty w g 76) (hne : g ≠ k) (a : Nat) (u0 u1 u2 u3 : Value) : RatAt (rat4 w g a u0 u1 u2 u3) k o q :=
  (((h.set (p := ⟨g, a, none⟩) ht (by decide) (.inl hne) u0).set (p := ⟨g, a + 1, none⟩) (ht.set _ _) (by decide) (.inl hne) u1).set (p := ⟨g, a + 2, none⟩) ((ht.set _ _).set _ _) (by decide) (.inl hne) u2).set (p := ⟨g, a + 3, none⟩) (((ht.set _ _).set _ _).set _ _) (by decide) (.inl hne) u3
theorem Blk.rat4 {w : World} {B : Nat} {t : TypeId} {cur : Array Value} (h : Blk w B t cur) {g : Nat} (hne : B ≠ g) (a : Nat) (u0 u1 u2 u3 : Value) : Blk (rat4 w g a u0 u1 u2 u3) B t cur :=
  (((h.far (p := ⟨g, a, none⟩) hne u0).far (p := ⟨g, a + 1, none⟩) hne u1).far (p := ⟨g, a + 2, none⟩) hne u2).far (p := ⟨g, a + 3, none⟩) hne u3
/-- Row m in the middle of its reduction. -/
def elimMid (M : Nat → Nat → Rat) (i r m j a b : Nat) : Rat := if a = m ∧ i ≤ b ∧ b < j then M m b - M m i / M r i * M r b else elimQ M i r m a b
theorem RSz.sub {p q : Rat} {N M : Nat} (hp : RSz p N) (hq : RSz q M) : RSz (p - q) (N + M + 1) := by rw [Rat.sub_eq_add_neg]; exact hp.add hq.neg
theorem num_ne {q : Rat} (h : q ≠ 0) : q.num ≠ 0 := fun h' => h (Rat.num_eq_zero.1 h')
theorem RSz.div {p q : Rat} {N M : Nat} (hp : RSz p N) (hq : RSz q M) (h : q ≠ 0) : RSz (p / q) (N + M) := by rw [Rat.div_def]; exact hp.mul (hq.inv (num_ne h))
def SzM (M : Nat → Nat → Rat) (n S : Nat) : Prop := ∀ k j, k < n → j < 8 → RSz (M k j) S
theorem SzM.mono {M : Nat → Nat → Rat} {n S T : Nat} (h : SzM M n S) (hs : S ≤ T) : SzM M n T := fun k j hk hj => (h k j hk hj).mono hs
theorem rsz_small {x : Int} (h0 : -1000 ≤ x) (h1 : x ≤ 1000) : RSz ((x : Int) : Rat) 1 := by
  refine ⟨?_, ?_⟩
  · show (digs (x : Int).natAbs).length ≤ 1
    exact len_of_lt (by simp only [BB, Nat.pow_one]; omega)
  · show (digs 1).length ≤ 1
    exact len_of_lt (by simp only [BB, Nat.pow_one]; omega)
theorem szM_start {R : List (Nat → Int)} (hR : ∀ r ∈ R, In8 r (-1000) 1000) : SzM (ratRows R) R.length (szOf 0) := fun k j hk hj => by
  have := hR _ (rowAt_mem hk) j hj
  exact rsz_small this.1 this.2


set_option maxRecDepth 100000 in
set_option maxHeartbeats 3200000 in
theorem rank_any (v : Value) (R : List (Nat → Int)) (w : World) (h : RowsAt .i64 35 w v R) (hR : ∀ r ∈ R, In8 r (-1000) 1000) (hn : R.length ≤ 1000000) :
    Calls Tryz.prog 37 #[v] w fun e w' => ∃ z : Int, e = .returned (.int .i64 z) ∧ (z = 8 ↔ KerTriv (ratRows R) R.length) ∧ Ext w w' := by
  obtain ⟨A, c, rfl, hc, hm, hx⟩ := h.open_
  clear h
  replace hx := hide hx
  replace hR := hide hR
  have hmk := fun W => run_make_mat R.length hn .i64 .i64 W
  obtain ⟨g, hg⟩ : ∃ g, g = w.heap.size := ⟨_, rfl⟩
  have hM0 : Hid (MatP (w.alloc (.cells (zMat R.length) 76)) g R.length (FillTo 0 0) (ratRows R) ∧ Ext w (w.alloc (.cells (zMat R.length) 76))) := ⟨⟨⟨_, Blk.new' _ _ hg, zMat_size _⟩, fun k i _ _ h => by rcases h with h | h <;> omega⟩, (Ext.refl w).alloc _⟩
  go_enter Tryz.func37, Tryz.ntmps37
  go_wp2
  rw [← hg]
  generalize (w.alloc (.cells (zMat R.length) 76)) = w0 at *
  clear hmk
  replace hg := hide hg
  go_loopw [20] (fun s wr => ∃ k : Nat, k ≤ R.length ∧ s = .int .i64 k ∧ Hid (MatP wr g R.length (FillTo k 0) (ratRows R) ∧ Ext w wr)) (fun s _ => R.length - (intOf s).toNat)
  case atStart => exact ⟨0, by omega, rfl, hM0.out⟩
  case round =>
    clear hM0
    obtain ⟨k, hk, rfl, hI⟩ := hrel
    by_cases hlt : k < R.length
    · obtain ⟨gg, o, rfl, hgl, hcl⟩ := hx.out (by omega)
      replace hcl := hide fun j (hj : j < 8) => hI.out.2.cellv (hcl k j hlt hj)
      have hrb : Hid (In8 (rowAt R k) (-1000) 1000) := hR.out _ (rowAt_mem hlt)
      have hrr : Hid (∀ j, ratRows R k j = ((rowAt R k j : Int) : Rat)) := fun j => rfl
      generalize rowAt R k = r at *
      have r0 : (wr).cell? ⟨gg, o + k * 8, none⟩ = some (.int .i64 (r 0)) := hcl.out 0 (by omega)
      have r1 : (wr).cell? ⟨gg, o + k * 8 + 1, none⟩ = some (.int .i64 (r 1)) := hcl.out 1 (by omega)
      have r2 : (wr).cell? ⟨gg, o + k * 8 + 2, none⟩ = some (.int .i64 (r 2)) := hcl.out 2 (by omega)
      have r3 : (wr).cell? ⟨gg, o + k * 8 + 3, none⟩ = some (.int .i64 (r 3)) := hcl.out 3 (by omega)
      have r4 : (wr).cell? ⟨gg, o + k * 8 + 4, none⟩ = some (.int .i64 (r 4)) := hcl.out 4 (by omega)
      have r5 : (wr).cell? ⟨gg, o + k * 8 + 5, none⟩ = some (.int .i64 (r 5)) := hcl.out 5 (by omega)
      have r6 : (wr).cell? ⟨gg, o + k * 8 + 6, none⟩ = some (.int .i64 (r 6)) := hcl.out 6 (by omega)
      have r7 : (wr).cell? ⟨gg, o + k * 8 + 7, none⟩ = some (.int .i64 (r 7)) := hcl.out 7 (by omega)
      have hI2 : Hid (MatP (wr.alloc (.cells #[.int .i64 (r 0), .int .i64 (r 1), .int .i64 (r 2), .int .i64 (r 3), .int .i64 (r 4), .int .i64 (r 5), .int .i64 (r 6), .int .i64 (r 7)] 35)) g R.length (FillTo k 0) (ratRows R) ∧ Ext w (wr.alloc (.cells #[.int .i64 (r 0), .int .i64 (r 1), .int .i64 (r 2), .int .i64 (r 3), .int .i64 (r 4), .int .i64 (r 5), .int .i64 (r 6), .int .i64 (r 7)] 35))) := ⟨hI.out.1.ext ((Ext.refl _).alloc _), hI.out.2.alloc _⟩
      have hd1 : decide (k < R.length) = true := by simpa using hlt
      go_wp2
      generalize (wr.alloc (.cells #[.int .i64 (r 0), .int .i64 (r 1), .int .i64 (r 2), .int .i64 (r 3), .int .i64 (r 4), .int .i64 (r 5), .int .i64 (r 6), .int .i64 (r 7)] 35)) = w2 at *
      clear r0 r1 r2 r3 r4 r5 r6 r7 hcl hI
      go_loopw [26] (fun s wr => ∃ i : Nat, i ≤ 8 ∧ s = .int .i64 i ∧ Hid (MatP wr g R.length (FillTo k i) (ratRows R) ∧ Ext w wr)) (fun s _ => 8 - (intOf s).toNat)
      case atStart => exact ⟨0, by omega, rfl, hI2.out⟩
      case round =>
        clear hI2
        obtain ⟨i, hi, rfl, hJ⟩ := hrel
        by_cases hi8 : i < 8
        · have hix := fun W => run_index_row r i hi8 W
          have hb := hrb.out i hi8
          have hrr1 := hide (hrr.out i)
          have hd8 : decide ((i : Int) < 8) = true := by simp; omega
          generalize r i = x at *
          go_wp2
          have hk1 : (k : Int) < R.length := by omega
          have hk2 : (0 : Int) ≤ k := by omega
          have hi1 : (i : Int) < 8 := by omega
          have hi2 : (0 : Int) ≤ i := by omega

          refine wp_region_v (by kernel_rfl) [[], [], [], [], [(33, 3)], [(30, 0), (31, 1)], [(35, 5), (32, 2)]] [[], [], [], [], [3], [0, 1], [0, 1, 2, 3, 4, 5]]
            [fun v _ => v = .slice (some ⟨g, 0, none⟩) R.length R.length, fun v _ => v = .int .i64 (k : Int), fun v _ => v = .int .i64 (i : Int), fun v _ => v = .int .i64 (x : Int), fun v w' => ∃ b A n c b' A' n' c', v = .agg #[.bool b, .slice A n c, .bool b', .slice A' n' c'] ∧ IsRat w' (.bool b) (.slice A n c) (.bool b') (.slice A' n' c') ((x : Rat)), fun v _ => v = .pointer (some ⟨g, k * 32, none⟩), fun v _ => v = .pointer (some ⟨g, k * 32 + i * 4, none⟩)]
            rfl (by kernel_rfl) (by kernel_rfl) ?stab ?steps ?fin
          case stab => exact .cons (Stab.eq _) (.cons (Stab.eq _) (.cons (Stab.eq _) (.cons (Stab.eq _) (.cons (fun _ _ _ he ⟨b, A, n, c, b', A', n', c', h1, h2⟩ => ⟨b, A, n, c, b', A', n', c', h1, h2.ext he⟩) (.cons (Stab.eq _) (.cons (Stab.eq _) .nil))))))
          case steps =>
            refine .cons ?s0 (.cons ?s1 (.cons ?s2 (.cons ?s3 (.cons ?s4 (.cons ?s5 (.cons ?s6 .nil))))))
            case s0 =>
              intro w' ev hE hk ha hc hf
              have e3 : ev (.tmp 3) = .slice (some ⟨g, 0, none⟩) R.length R.length := ha 3 (by decide)
              exact opStep_val (by simp [execOp, e3, go_sem]) rfl
            case s1 =>
              intro w' ev hE hk ha hc hf
              have e4 : ev (.tmp 4) = .int .i64 (k : Int) := ha 4 (by decide)
              exact opStep_val (by simp [execOp, e4, go_sem]) rfl
            case s2 =>
              intro w' ev hE hk ha hc hf
              have e6 : ev (.tmp 6) = .int .i64 (i : Int) := ha 6 (by decide)
              exact opStep_val (by simp [execOp, e6, go_sem]) rfl
            case s3 =>
              intro w' ev hE hk ha hc hf
              have e7 : ev (.tmp 7) = .int .i64 (x : Int) := ha 7 (by decide)
              exact opStep_val (by simp [execOp, e7, go_sem]) rfl
            case s4 =>
              intro w' ev hE hk ha hc hf
              have e33 : ev (.tmp 33) = .int .i64 (x : Int) := hk.1 _ rfl
              refine opStep_call (by simp [execOp, resolve, invoke, hf, e33, go_sem]) (Whole_any x _ (by omega) (by omega)) ?_
              rintro e w1 ⟨b1, b2, A1, A2, n1, d1, n2, d2, rfl, hI1, hE1⟩
              exact ⟨_, rfl, hE1, b1, A1, n1, d1, b2, A2, n2, d2, rfl, hI1⟩
            case s5 =>
              intro w' ev hE hk ha hc hf
              have e30 : ev (.tmp 30) = .slice (some ⟨g, 0, none⟩) R.length R.length := hk.1 _ rfl
              have e31 : ev (.tmp 31) = .int .i64 (k : Int) := hk.2.1 _ rfl
              exact opStep_val (by simp [execOp, e30, e31, hk1, hk2, go_sem]) rfl
            case s6 =>
              intro w' ev hE hk ha hc hf
              have e35 : ev (.tmp 35) = .pointer (some ⟨g, k * 32, none⟩) := hk.1 _ rfl
              have e32 : ev (.tmp 32) = .int .i64 (i : Int) := hk.2.1 _ rfl
              exact opStep_val (by simp [execOp, e35, e32, hi1, hi2, go_sem]) rfl
          case fin =>
            intro gf w' hE hF

            obtain ⟨b5, A5, n5, c5, b6, A6, n6, c6, e5, hI5⟩ := hF 4 _ rfl
            have e6 := hF 6 _ rfl
            simp only [List.length_cons, List.length_nil, Nat.reduceAdd, List.drop_succ_cons, List.drop_zero, List.take_succ_cons, List.take_zero, putG, Act.put, List.setIfInBounds_toArray, List.set_cons_succ, List.set_cons_zero, e5, e6, hF 0 _ rfl, hF 1 _ rfl, hF 2 _ rfl, hF 3 _ rfl, hF 5 _ rfl]
            have hM1 := hJ.out.1.ext ((Ext.refl _).drew.trans hE)
            obtain ⟨v0, s0⟩ := hM1.some (o := k * 32 + i * 4) (by omega)
            obtain ⟨v1, s1⟩ := hM1.some (o := k * 32 + i * 4 + 1) (by omega)
            obtain ⟨v2, s2⟩ := hM1.some (o := k * 32 + i * 4 + 2) (by omega)
            obtain ⟨v3, s3⟩ := hM1.some (o := k * 32 + i * 4 + 3) (by omega)
            have z := hM1.frozen
            have hM3 : Hid (MatP (rat4 w' g (k * 32 + i * 4) (.bool b5) (.slice A5 n5 c5) (.bool b6) (.slice A6 n6 c6)) g R.length (FillTo k (i + 1)) (ratRows R)) := hM1.put hlt hi8 hI5 hrr1.out fun a b ha hb hd hne => ⟨by unfold FillTo at *; omega, rfl⟩
            have hE3 : Hid (Ext w (rat4 w' g (k * 32 + i * 4) (.bool b5) (.slice A5 n5 c5) (.bool b6) (.slice A6 n6 c6))) := (hJ.out.2.drew.trans hE).rat4 (by rw [hg.out]; omega) _ _ _ _ _
            replace hM1 := hide hM1
            replace hI5 := hide hI5
            replace hE := hide hE
            clear hF e5 e6 hk1 hk2 hi1 hi2
            go_wp2
            exact ⟨⟨i + 1, hi8, by simp, hM3.out, hE3.out⟩, by simp [intOf]; omega⟩
        · obtain rfl : i = 8 := by omega
          go_wp2
          exact ⟨⟨k + 1, hlt, by simp, hJ.out.1.congr fun a b ha hb hd => ⟨by unfold FillTo at *; omega, rfl⟩, hJ.out.2⟩, by simp [intOf]; omega⟩
    · obtain rfl : k = R.length := by omega
      have hMr : Hid (MatAt wr g R.length (ratRows R) ∧ Ext w wr) := ⟨hI.out.1.congr fun a b ha hb hd => ⟨.inl ha, rfl⟩, hI.out.2⟩
      have hst : Hid (∃ M, RankInv (ratRows R) R.length 0 0 M ∧ SzM M R.length (szOf 0) ∧ MatAt wr g R.length M ∧ Ext w wr) := ⟨_, RankInv.start _ _, szM_start hR.out, hMr.out.1, hMr.out.2⟩
      go_wp2
      clear hI hMr hx hR
      go_loopw [8, 39] (fun rs s wr => ∃ i r : Nat, i ≤ 8 ∧ r ≤ i ∧ r ≤ R.length ∧ s = .int .i64 i ∧ rs = .int .i64 r ∧ Hid (∃ M, RankInv (ratRows R) R.length i r M ∧ SzM M R.length (szOf i) ∧ MatAt wr g R.length M ∧ Ext w wr)) (fun _ s _ => 8 - (intOf s).toNat)
      case atStart => exact ⟨0, 0, by omega, by omega, by omega, rfl, rfl, hst.out⟩
      case round =>
        clear hst
        obtain ⟨i, r, hi, hri, hrn, rfl, rfl, hJ⟩ := hrel
        obtain ⟨M, hJ⟩ := hJ.out
        replace hJ := hide hJ
        by_cases hi8 : i < 8
        · have hd8 : decide ((i : Int) < 8) = true := by simp; omega
          have hW : Hid (MatAt (wr.alloc (.cells #[.int .i64 i] 3)) g R.length M ∧ Ext w (wr.alloc (.cells #[.int .i64 i] 3)) ∧ w.heap.size ≤ wr.heap.size ∧ Blk (wr.alloc (.cells #[.int .i64 i] 3)) wr.heap.size 3 #[.int .i64 i]) := ⟨hJ.out.2.2.1.ext ((Ext.refl _).alloc _), hJ.out.2.2.2.alloc _, hJ.out.2.2.2.size, Blk.new _ _ _⟩
          go_upto_region 15 with (fail)
          generalize (wr.alloc (.cells #[.int .i64 i] 3)) = w2 at *
          by_cases hrn' : r < R.length
          · have hbx : w2.cell? ⟨wr.heap.size, 0, none⟩ = some (.int .i64 i) := hW.out.2.2.2.cell 0
            have hrd : decide (r < R.length) = true := by simpa using hrn'
            go_wp2_with fail
            refine (IndexFunc_any g R.length _ wr.heap.size i r M _ hW.out.1 hi8 hrn' hn hbx).mono ?_
            rintro e w3 ⟨z, rfl, hz, hE3⟩
            replace hz := hide hz
            have hW3 : Hid (MatAt w3 g R.length M ∧ Ext w w3 ∧ Blk w3 wr.heap.size 3 #[.int .i64 i]) := ⟨hW.out.1.ext hE3, hW.out.2.1.trans hE3, hW.out.2.2.2.ext hE3⟩
            clear hE3 hbx
            rcases hz.out with ⟨rfl, hzero⟩ | ⟨k, rfl, hkn, hpiv⟩
            · replace hzero := hide hzero
              clear hz
              go_wp2
              exact ⟨⟨i + 1, r, by omega, by omega, by omega, by simp, rfl, M, hJ.out.1.skip hi8 hzero.out, hJ.out.2.1.mono (by simp only [szOf]; omega), hW3.out.1, hW3.out.2.1⟩, by simp [intOf]; omega⟩
            · replace hpiv := hide hpiv
              clear hz
              have i1 : IntKind.i64.wrap ((r : Int) + k) = (r : Int) + k := IntWalk.i64_in _ (by omega)
              have i2 : (0 : Int) ≤ (r : Int) + k := by omega
              have i3 : ((r : Int) + k).toNat = r + k := by omega
              have i4 : (r : Int) + k < R.length := by omega
              have i6 : (r : Int) < R.length := by omega
              have hM3 : Hid (MatAt w3.drew g R.length M) := hW3.out.1
              obtain ⟨W, hW⟩ : ∃ W : Nat → World, Hid (W 0 = w3.drew ∧ W 1 = w3.drew.setCells g (r * 32) (rowCells w3.drew g ((r + k) * 32)).toList ∧ W 2 = swapW w3.drew g r (r + k)) := ⟨fun c => if c = 0 then w3.drew else if c = 1 then w3.drew.setCells g (r * 32) (rowCells w3.drew g ((r + k) * 32)).toList else swapW w3.drew g r (r + k), rfl, rfl, rfl⟩
              have hBg : wr.heap.size ≠ g := by
                have := Ty.lt hJ.out.2.2.1.ty
                omega
              go_wp2
              refine wp_region_d (by kernel_rfl) [[], [], [], [], [], [(52, 3), (53, 4)], [], [], [], [(56, 7), (57, 8)], [(55, 6), (58, 9)], [(59, 10)], [], [], [(61, 12), (62, 13)], [(63, 14)], [(49, 0), (50, 1)], [(65, 16), (60, 11)], [(51, 2), (54, 5)], [(66, 18), (64, 15)]] [[], [], [], [], [], [3, 4], [], [], [], [7, 8], [6, 7, 8, 9], [6, 7, 8, 9, 10], [], [], [12, 13], [12, 13, 14], [0, 1, 6, 7, 8, 9, 10, 11, 12, 13, 14, 15], [0, 1, 6, 7, 8, 9, 10, 11, 12, 13, 14, 15, 16], [0, 1, 2, 3, 4, 5, 6, 7, 8, 9, 10, 11, 12, 13, 14, 15, 16, 17], [0, 1, 2, 3, 4, 5, 6, 7, 8, 9, 10, 11, 12, 13, 14, 15, 16, 17, 18]] [17, 19] (fun i => [.slice (some ⟨g, 0, none⟩) R.length R.length, .int .i64 (r : Int), .slice (some ⟨g, 0, none⟩) R.length R.length, .int .i64 (r : Int), .int .i64 (k : Int), .int .i64 ((r : Int) + k), .slice (some ⟨g, 0, none⟩) R.length R.length, .int .i64 (r : Int), .int .i64 (k : Int), .int .i64 ((r : Int) + k), .pointer (some ⟨g, (r + k) * 32, none⟩), .agg (rowCells w3.drew g ((r + k) * 32)), .slice (some ⟨g, 0, none⟩) R.length R.length, .int .i64 (r : Int), .pointer (some ⟨g, r * 32, none⟩), .agg (rowCells w3.drew g (r * 32)), .pointer (some ⟨g, r * 32, none⟩), undef, .pointer (some ⟨g, (r + k) * 32, none⟩), undef].getD i undef) W (by kernel_rfl) (by kernel_rfl) (by kernel_rfl) (by kernel_rfl) (by kernel_rfl) (by kernel_rfl) hW.out.1 ?steps ?fin
              case steps =>
                refine ⟨?s0, ?s1, ?s2, ?s3, ?s4, ?s5, ?s6, ?s7, ?s8, ?s9, ?s10, ?s11, ?s12, ?s13, ?s14, ?s15, ?s16, ?s17, ?s18, ?s19, trivial⟩
                case s0 =>
                  intro c ev he ha hc hf hcl h1 h2 h3
                  have e3 : ev (.tmp 3) = .slice (some ⟨g, 0, none⟩) R.length R.length := ha 3 (by decide)
                  refine dstep_val (v := .slice (some ⟨g, 0, none⟩) R.length R.length) ?_ rfl rfl
                  simp [execOp, e3, go_sem]
                case s1 =>
                  intro c ev he ha hc hf hcl h1 h2 h3
                  have e8 : ev (.tmp 8) = .int .i64 (r : Int) := ha 8 (by decide)
                  refine dstep_val (v := .int .i64 (r : Int)) ?_ rfl rfl
                  simp [execOp, e8, go_sem]
                case s2 =>
                  intro c ev he ha hc hf hcl h1 h2 h3
                  have e3 : ev (.tmp 3) = .slice (some ⟨g, 0, none⟩) R.length R.length := ha 3 (by decide)
                  refine dstep_val (v := .slice (some ⟨g, 0, none⟩) R.length R.length) ?_ rfl rfl
                  simp [execOp, e3, go_sem]
                case s3 =>
                  intro c ev he ha hc hf hcl h1 h2 h3
                  have e8 : ev (.tmp 8) = .int .i64 (r : Int) := ha 8 (by decide)
                  refine dstep_val (v := .int .i64 (r : Int)) ?_ rfl rfl
                  simp [execOp, e8, go_sem]
                case s4 =>
                  intro c ev he ha hc hf hcl h1 h2 h3
                  have e10 : ev (.tmp 10) = .int .i64 (k : Int) := ha 10 (by decide)
                  refine dstep_val (v := .int .i64 (k : Int)) ?_ rfl rfl
                  simp [execOp, e10, go_sem]
                case s5 =>
                  intro c ev he ha hc hf hcl h1 h2 h3
                  have e52 : ev (.tmp 52) = .int .i64 (r : Int) := he.1
                  have e53 : ev (.tmp 53) = .int .i64 (k : Int) := he.2.1
                  refine dstep_val (v := .int .i64 ((r : Int) + k)) ?_ rfl rfl
                  simp [execOp, e52, e53, i1, go_sem]
                case s6 =>
                  intro c ev he ha hc hf hcl h1 h2 h3
                  have e3 : ev (.tmp 3) = .slice (some ⟨g, 0, none⟩) R.length R.length := ha 3 (by decide)
                  refine dstep_val (v := .slice (some ⟨g, 0, none⟩) R.length R.length) ?_ rfl rfl
                  simp [execOp, e3, go_sem]
                case s7 =>
                  intro c ev he ha hc hf hcl h1 h2 h3
                  have e8 : ev (.tmp 8) = .int .i64 (r : Int) := ha 8 (by decide)
                  refine dstep_val (v := .int .i64 (r : Int)) ?_ rfl rfl
                  simp [execOp, e8, go_sem]
                case s8 =>
                  intro c ev he ha hc hf hcl h1 h2 h3
                  have e10 : ev (.tmp 10) = .int .i64 (k : Int) := ha 10 (by decide)
                  refine dstep_val (v := .int .i64 (k : Int)) ?_ rfl rfl
                  simp [execOp, e10, go_sem]
                case s9 =>
                  intro c ev he ha hc hf hcl h1 h2 h3
                  have e56 : ev (.tmp 56) = .int .i64 (r : Int) := he.1
                  have e57 : ev (.tmp 57) = .int .i64 (k : Int) := he.2.1
                  refine dstep_val (v := .int .i64 ((r : Int) + k)) ?_ rfl rfl
                  simp [execOp, e56, e57, i1, go_sem]
                case s10 =>
                  intro c ev he ha hc hf hcl h1 h2 h3
                  have e55 : ev (.tmp 55) = .slice (some ⟨g, 0, none⟩) R.length R.length := he.1
                  have e58 : ev (.tmp 58) = .int .i64 ((r : Int) + k) := he.2.1
                  refine dstep_val (v := .pointer (some ⟨g, (r + k) * 32, none⟩)) ?_ rfl rfl
                  simp [execOp, e55, e58, i2, i3, i4, hkn, go_sem]
                case s11 =>
                  intro c ev he ha hc hf hcl h1 h2 h3
                  have e59 : ev (.tmp 59) = .pointer (some ⟨g, (r + k) * 32, none⟩) := he.1
                  have hc0 : c = 0 := by have := h1 0 17 rfl (by decide); omega
                  subst hc0
                  refine dstep_val (v := .agg (rowCells w3.drew g ((r + k) * 32))) ?_ rfl rfl
                  rw [hW.out.1]
                  exact opRun_load rfl e59 (run_load_row32 w3.drew g ((r + k) * 32) fun j hj => hM3.out.some (by omega))
                case s12 =>
                  intro c ev he ha hc hf hcl h1 h2 h3
                  have e3 : ev (.tmp 3) = .slice (some ⟨g, 0, none⟩) R.length R.length := ha 3 (by decide)
                  refine dstep_val (v := .slice (some ⟨g, 0, none⟩) R.length R.length) ?_ rfl rfl
                  simp [execOp, e3, go_sem]
                case s13 =>
                  intro c ev he ha hc hf hcl h1 h2 h3
                  have e8 : ev (.tmp 8) = .int .i64 (r : Int) := ha 8 (by decide)
                  refine dstep_val (v := .int .i64 (r : Int)) ?_ rfl rfl
                  simp [execOp, e8, go_sem]
                case s14 =>
                  intro c ev he ha hc hf hcl h1 h2 h3
                  have e61 : ev (.tmp 61) = .slice (some ⟨g, 0, none⟩) R.length R.length := he.1
                  have e62 : ev (.tmp 62) = .int .i64 (r : Int) := he.2.1
                  refine dstep_val (v := .pointer (some ⟨g, r * 32, none⟩)) ?_ rfl rfl
                  simp [execOp, e61, e62, i6, hrn', go_sem]
                case s15 =>
                  intro c ev he ha hc hf hcl h1 h2 h3
                  have e63 : ev (.tmp 63) = .pointer (some ⟨g, r * 32, none⟩) := he.1
                  have hc0 : c = 0 := by have := h1 0 17 rfl (by decide); omega
                  subst hc0
                  refine dstep_val (v := .agg (rowCells w3.drew g (r * 32))) ?_ rfl rfl
                  rw [hW.out.1]
                  exact opRun_load rfl e63 (run_load_row32 w3.drew g (r * 32) fun j hj => hM3.out.some (by omega))
                case s16 =>
                  intro c ev he ha hc hf hcl h1 h2 h3
                  have e49 : ev (.tmp 49) = .slice (some ⟨g, 0, none⟩) R.length R.length := he.1
                  have e50 : ev (.tmp 50) = .int .i64 (r : Int) := he.2.1
                  refine dstep_val (v := .pointer (some ⟨g, r * 32, none⟩)) ?_ rfl rfl
                  simp [execOp, e49, e50, i6, hrn', go_sem]
                case s17 =>
                  intro c ev he ha hc hf hcl h1 h2 h3
                  have e65 : ev (.tmp 65) = .pointer (some ⟨g, r * 32, none⟩) := he.1
                  have e60 : ev (.tmp 60) = .agg (rowCells w3.drew g ((r + k) * 32)) := he.2.1
                  have hc0 : c = 0 := h3 0 rfl
                  subst hc0
                  refine dstep_store (w1 := W 1) ?_ rfl rfl
                  rw [hW.out.1, hW.out.2.1]
                  exact opRun_store rfl e65 e60 (run_store_row32 _ g (r * 32) _ (rowCells_size _ _ _) (rowCells_one hM3.out hkn) (fun j hj => hM3.out.some (by omega)) (fun j => hM3.out.frozen j))
                case s18 =>
                  intro c ev he ha hc hf hcl h1 h2 h3
                  have e51 : ev (.tmp 51) = .slice (some ⟨g, 0, none⟩) R.length R.length := he.1
                  have e54 : ev (.tmp 54) = .int .i64 ((r : Int) + k) := he.2.1
                  refine dstep_val (v := .pointer (some ⟨g, (r + k) * 32, none⟩)) ?_ rfl rfl
                  simp [execOp, e51, e54, i2, i3, i4, hkn, go_sem]
                case s19 =>
                  intro c ev he ha hc hf hcl h1 h2 h3
                  have e66 : ev (.tmp 66) = .pointer (some ⟨g, (r + k) * 32, none⟩) := he.1
                  have e64 : ev (.tmp 64) = .agg (rowCells w3.drew g (r * 32)) := he.2.1
                  have hc0 : c = 1 := h3 1 rfl
                  subst hc0
                  refine dstep_store (w1 := W 2) ?_ rfl rfl
                  rw [hW.out.2.1, hW.out.2.2]
                  exact opRun_store rfl e66 e64 (run_store_row32 _ g ((r + k) * 32) _ (rowCells_size _ _ _) (rowCells_one hM3.out hrn') (fun j hj => by obtain ⟨v, hv⟩ := hM3.out.some (o := (r + k) * 32 + j) (by omega); exact setCells_some _ _ _ hv) (fun j => by rw [World.frozen?_setCells]; exact hM3.out.frozen j))
              case fin =>
                simp only [putG, Act.put, List.setIfInBounds_toArray, List.set_cons_succ, List.set_cons_zero, List.getD_cons_zero, List.getD_cons_succ, List.length_cons, List.length_nil, Nat.reduceAdd]
                rw [hW.out.2.2]
                have hS : Hid (MatAt (swapW w3.drew g r (r + k)) g R.length (swapQ M r (r + k)) ∧ Ext w (swapW w3.drew g r (r + k)) ∧ Blk (swapW w3.drew g r (r + k)) wr.heap.size 3 #[.int .i64 i]) := ⟨hM3.out.swap hrn' hkn, swapW_ext hW3.out.2.1.drew (by rw [hg.out]; omega) _ _, blk_swapW hW3.out.2.2.drew hBg _ _⟩
                generalize swapW w3.drew g r (r + k) = w4 at *
                have hnx := hide (hJ.out.1.elim hi8 (show r ≤ r + k by omega) hkn hpiv.out)
                have hp1 : Hid (swapQ M r (r + k) r i ≠ 0) := hide (by simp only [swapQ, if_true]; exact hpiv.out)
                have hz1 : Hid (∀ a, r ≤ a → a < R.length → ∀ b, b < i → swapQ M r (r + k) a b = 0) := fun a h1 h2 b hb => by
                  simp only [swapQ]
                  split
                  · exact hJ.out.1.zero _ (by omega) hkn b hb
                  · split
                    · exact hJ.out.1.zero _ (Nat.le_refl _) hrn' b hb
                    · exact hJ.out.1.zero a h1 h2 b hb
                have hs1 : Hid (SzM (swapQ M r (r + k)) R.length (szOf i)) := fun a b ha hb => by
                  simp only [swapQ]
                  split
                  · exact hJ.out.2.1 _ b hkn hb
                  · split
                    · exact hJ.out.2.1 _ b hrn' hb
                    · exact hJ.out.2.1 a b ha hb
                generalize swapQ M r (r + k) = M1 at *
                clear i1 i2 i3 i4 i6 hM3 hW hpiv
                clear hW3 hJ
                have hSz := szOf_le hi
                have hS1 : Hid (szOf (i + 1) = 4 * szOf i + 1) := rfl
                generalize szOf i = S at *
                generalize wr.heap.size = B at *
                go_wp2
                clear W
                have hst4 : Hid (MatAt w4 g R.length (elimQ M1 i r (r + 1)) ∧ Ext w w4 ∧ Blk w4 B 3 #[.int .i64 i]) := ⟨hS.out.1.congr fun a b ha hb _ => ⟨trivial, by simp only [elimQ]; rw [if_neg (by omega)]⟩, hS.out.2⟩
                go_loopw [11] (fun s wr => ∃ m : Nat, r + 1 ≤ m ∧ m ≤ R.length ∧ s = .int .i64 m ∧ Hid (MatAt wr g R.length (elimQ M1 i r m) ∧ Ext w wr ∧ Blk wr B 3 #[.int .i64 i])) (fun s _ => R.length - (intOf s).toNat)
                case atStart => exact ⟨r + 1, by omega, by omega, by simp, hst4.out⟩
                case round =>
                  clear hst4 hS
                  obtain ⟨m, hm1, hmn, rfl, hI⟩ := hrel
                  by_cases hmlt : m < R.length
                  · have hd4 : decide (m < R.length) = true := by simpa using hmlt
                    obtain ⟨x, x', X, X', o, k1, o', k1', p0, p1, p2, p3, pI⟩ := hI.out.1.2 m i hmlt hi8 trivial
                    obtain ⟨y, y', Y, Y', l, k2, l', k2', q0, q1, q2, q3, qI⟩ := hI.out.1.2 r i hrn' hi8 trivial
                    have hv1 : Hid (elimQ M1 i r m m i = M1 m i) := hide (by simp only [elimQ]; rw [if_neg (by omega)])
                    have hv2 : Hid (elimQ M1 i r m r i = M1 r i) := hide (by simp only [elimQ]; rw [if_neg (by omega)])
                    rw [hv1.out] at pI
                    rw [hv2.out] at qI
                    replace pI := hide pI
                    replace qI := hide qI
                    have hsp := hide (hs1.out m i hmlt hi8)
                    have hsq := hide (hs1.out r i hrn' hi8)
                    obtain ⟨inst, hinst⟩ : ∃ inst : Inhabited RegE.Base, Hid (inst.default.b = wr.heap.size ∧ inst.default.q = M1 m i / M1 r i) := ⟨⟨⟨wr.heap.size, M1 m i / M1 r i⟩⟩, rfl, rfl⟩
                    have hcg : Hid (∀ w' : World, RegE.Ext wr.drew w' → ∀ o, w'.cell? ⟨g, o, none⟩ = wr.cell? ⟨g, o, none⟩) := fun w' h o => by
                      obtain ⟨⟨cur, hb, _⟩, _⟩ := hI.out.1
                      exact cellE (w := wr.drew) hb (by decide) h o
                    have hcb : Hid (∀ w' : World, RegE.Ext wr.drew w' → w'.cell? ⟨B, 0, none⟩ = some (.int .i64 i)) := fun w' h => (cellE (w := wr.drew) hI.out.2.2 (by decide) h 0).trans (hI.out.2.2.cell 0)
                    replace p0 := hide p0
                    replace p1 := hide p1
                    replace p2 := hide p2
                    replace p3 := hide p3
                    replace q0 := hide q0
                    replace q1 := hide q1
                    replace q2 := hide q2
                    replace q3 := hide q3
                    go_upto_region 21 with (fail)
                    have i1 : (m : Int) < R.length := by omega
                    have i2 : (r : Int) < R.length := by omega
                    have i3 : (i : Int) < 8 := by omega
                    refine RegE.wp_region_ext (by kernel_rfl) [⟨[], [], [0]⟩, ⟨[], [], [1]⟩, ⟨[], [], [2]⟩, ⟨[(76, 0), (77, 1)], [0, 1], [3]⟩, ⟨[(79, 3), (78, 2)], [0, 1, 2, 3], [4]⟩, ⟨[(80, 4)], [0, 1, 2, 3, 4], [5]⟩, ⟨[], [], [6]⟩, ⟨[], [], [7]⟩, ⟨[], [], [8]⟩, ⟨[(82, 6), (83, 7)], [6, 7], [9]⟩, ⟨[(85, 9), (84, 8)], [6, 7, 8, 9], [10]⟩, ⟨[(86, 10)], [6, 7, 8, 9, 10], [11]⟩, ⟨[(81, 5), (87, 11)], [0, 1, 2, 3, 4, 5, 6, 7, 8, 9, 10, 11], [12]⟩, ⟨[(88, 12)], [0, 1, 2, 3, 4, 5, 6, 7, 8, 9, 10, 11, 12], [13]⟩, ⟨[(75, 13)], [0, 1, 2, 3, 4, 5, 6, 7, 8, 9, 10, 11, 12, 13], [14]⟩, ⟨[(75, 13)], [0, 1, 2, 3, 4, 5, 6, 7, 8, 9, 10, 11, 12, 13], [15]⟩, ⟨[], [], [16]⟩, ⟨[(12, 16), (89, 14)], [0, 1, 2, 3, 4, 5, 6, 7, 8, 9, 10, 11, 12, 13, 14, 16], [16, 17]⟩] [unF (fun v _ => v = .slice (some ⟨g, 0, none⟩) R.length R.length), unF (fun v _ => v = .int .i64 (m : Int)), unF (fun v _ => v = .int .i64 (i : Int)), unF (fun v _ => v = .pointer (some ⟨g, m * 32, none⟩)), unF (fun v _ => v = .pointer (some ⟨g, m * 32 + i * 4, none⟩)), unF (fun v _ => v = .agg #[.bool x, .slice X o k1, .bool x', .slice X' o' k1']), unF (fun v _ => v = .slice (some ⟨g, 0, none⟩) R.length R.length), unF (fun v _ => v = .int .i64 (r : Int)), unF (fun v _ => v = .int .i64 (i : Int)), unF (fun v _ => v = .pointer (some ⟨g, r * 32, none⟩)), unF (fun v _ => v = .pointer (some ⟨g, r * 32 + i * 4, none⟩)), unF (fun v _ => v = .agg #[.bool y, .slice Y l k2, .bool y', .slice Y' l' k2']), unF (fun v w' => ∃ b A n c b' A' n' c', v = .tuple #[.agg #[.bool b, .slice A n c, .bool b', .slice A' n' c'], .int .i64 0] ∧ IsRat w' (.bool b) (.slice A n c) (.bool b') (.slice A' n' c') (M1 m i / M1 r i)), unF (fun v w' => ∃ b A n c b' A' n' c', v = .tuple #[.agg #[.bool b, .slice A n c, .bool b', .slice A' n' c'], .int .i64 0] ∧ IsRat w' (.bool b) (.slice A n c) (.bool b') (.slice A' n' c') (M1 m i / M1 r i)), unF (fun v w' => ∃ b A n c b' A' n' c', v = .agg #[.bool b, .slice A n c, .bool b', .slice A' n' c'] ∧ IsRat w' (.bool b) (.slice A n c) (.bool b') (.slice A' n' c') (M1 m i / M1 r i)), unF (fun v _ => v = .int .i64 0), unF (fun v w' => ∃ B2, v = .pointer (some ⟨B2, 0, none⟩) ∧ wr.heap.size ≤ B2 ∧ RegE.RatBlk w' B2), RegE.biF (fun u w' => ∃ B2, u = .pointer (some ⟨B2, 0, none⟩) ∧ RegE.HoldsR w' B2 (default : RegE.Base).q)] (by kernel_rfl) (by kernel_rfl) ?stab ?steps ?fin
                    case stab =>
                      exact (List.forall_mem_cons.2 ⟨RegE.stab_un (fun _ _ _ _ h => h), (List.forall_mem_cons.2 ⟨RegE.stab_un (fun _ _ _ _ h => h), (List.forall_mem_cons.2 ⟨RegE.stab_un (fun _ _ _ _ h => h), (List.forall_mem_cons.2 ⟨RegE.stab_un (fun _ _ _ _ h => h), (List.forall_mem_cons.2 ⟨RegE.stab_un (fun _ _ _ _ h => h), (List.forall_mem_cons.2 ⟨RegE.stab_un (fun _ _ _ _ h => h), (List.forall_mem_cons.2 ⟨RegE.stab_un (fun _ _ _ _ h => h), (List.forall_mem_cons.2 ⟨RegE.stab_un (fun _ _ _ _ h => h), (List.forall_mem_cons.2 ⟨RegE.stab_un (fun _ _ _ _ h => h), (List.forall_mem_cons.2 ⟨RegE.stab_un (fun _ _ _ _ h => h), (List.forall_mem_cons.2 ⟨RegE.stab_un (fun _ _ _ _ h => h), (List.forall_mem_cons.2 ⟨RegE.stab_un (fun _ _ _ _ h => h), (List.forall_mem_cons.2 ⟨RegE.stab_un (fun _ _ _ he ⟨b, A, n, c, b', A', n', c', h1, h2⟩ => ⟨b, A, n, c, b', A', n', c', h1, he.isRat h2⟩), (List.forall_mem_cons.2 ⟨RegE.stab_un (fun _ _ _ he ⟨b, A, n, c, b', A', n', c', h1, h2⟩ => ⟨b, A, n, c, b', A', n', c', h1, he.isRat h2⟩), (List.forall_mem_cons.2 ⟨RegE.stab_un (fun _ _ _ he ⟨b, A, n, c, b', A', n', c', h1, h2⟩ => ⟨b, A, n, c, b', A', n', c', h1, he.isRat h2⟩), (List.forall_mem_cons.2 ⟨RegE.stab_un (fun _ _ _ _ h => h), (List.forall_mem_cons.2 ⟨RegE.stab_un (fun _ _ _ he ⟨B2, h1, h2, h3⟩ => ⟨B2, h1, h2, he.ratBlk h3⟩), (List.forall_mem_cons.2 ⟨RegE.stab_bi (fun _ _ _ he ⟨B2, h1, h2⟩ => ⟨B2, h1, he.holds h2⟩), (fun _ h => by cases h)⟩)⟩)⟩)⟩)⟩)⟩)⟩)⟩)⟩)⟩)⟩)⟩)⟩)⟩)⟩)⟩)⟩)⟩)
                    case steps =>
                      refine ⟨?s0, ?s1, ?s2, ?s3, ?s4, ?s5, ?s6, ?s7, ?s8, ?s9, ?s10, ?s11, ?s12, ?s13, ?s14, ?s15, ?s16, ?s17, trivial⟩
                      case s0 =>
                        intro gf w' ev hE hk he ha hc hf
                        refine ⟨fun _ => ?_, fun h => by cases h⟩
                        have e3 : ev (.tmp 3) = .slice (some ⟨g, 0, none⟩) R.length R.length := ha 3 (by decide)
                        exact opE_val (v := .slice (some ⟨g, 0, none⟩) R.length R.length) (by simp [execOp, e3, go_sem]) ⟨RegE.Ext.refl _, unF_self rfl⟩
                      case s1 =>
                        intro gf w' ev hE hk he ha hc hf
                        refine ⟨fun _ => ?_, fun h => by cases h⟩
                        have e11 : ev (.tmp 11) = .int .i64 (m : Int) := ha 11 (by decide)
                        exact opE_val (v := .int .i64 (m : Int)) (by simp [execOp, e11, go_sem]) ⟨RegE.Ext.refl _, unF_self rfl⟩
                      case s2 =>
                        intro gf w' ev hE hk he ha hc hf
                        refine ⟨fun _ => ?_, fun h => by cases h⟩
                        have e9 : ev (.tmp 9) = .pointer (some ⟨B, 0, none⟩) := ha 9 (by decide)
                        have c0 := hcb.out w' hE
                        exact opE_val (v := .int .i64 (i : Int)) (by simp [execOp, e9, c0, go_sem]) ⟨RegE.Ext.refl _, unF_self rfl⟩
                      case s3 =>
                        intro gf w' ev hE hk he ha hc hf
                        refine ⟨fun _ => ?_, fun h => by cases h⟩
                        have e76 : ev (.tmp 76) = .slice (some ⟨g, 0, none⟩) R.length R.length := he.1.trans (show gf 0 = .slice (some ⟨g, 0, none⟩) R.length R.length from hk _ rfl 0 (by decide) _ _ rfl rfl)
                        have e77 : ev (.tmp 77) = .int .i64 (m : Int) := he.2.1.trans (show gf 1 = .int .i64 (m : Int) from hk _ rfl 1 (by decide) _ _ rfl rfl)
                        exact opE_val (v := .pointer (some ⟨g, m * 32, none⟩)) (by simp [execOp, e76, e77, i1, go_sem]) ⟨RegE.Ext.refl _, unF_self rfl⟩
                      case s4 =>
                        intro gf w' ev hE hk he ha hc hf
                        refine ⟨fun _ => ?_, fun h => by cases h⟩
                        have e79 : ev (.tmp 79) = .pointer (some ⟨g, m * 32, none⟩) := he.1.trans (show gf 3 = .pointer (some ⟨g, m * 32, none⟩) from hk _ rfl 3 (by decide) _ _ rfl rfl)
                        have e78 : ev (.tmp 78) = .int .i64 (i : Int) := he.2.1.trans (show gf 2 = .int .i64 (i : Int) from hk _ rfl 2 (by decide) _ _ rfl rfl)
                        exact opE_val (v := .pointer (some ⟨g, m * 32 + i * 4, none⟩)) (by simp [execOp, e79, e78, i3, go_sem]) ⟨RegE.Ext.refl _, unF_self rfl⟩
                      case s5 =>
                        intro gf w' ev hE hk he ha hc hf
                        refine ⟨fun _ => ?_, fun h => by cases h⟩
                        have e80 : ev (.tmp 80) = .pointer (some ⟨g, m * 32 + i * 4, none⟩) := he.1.trans (show gf 4 = .pointer (some ⟨g, m * 32 + i * 4, none⟩) from hk _ rfl 4 (by decide) _ _ rfl rfl)
                        have c0 : w'.cell? ⟨g, m * 32 + i * 4, none⟩ = some (.bool x) := (hcg.out w' hE _).trans p0.out
                        have c1 : w'.cell? ⟨g, m * 32 + i * 4 + 1, none⟩ = some (.slice X o k1) := (hcg.out w' hE _).trans p1.out
                        have c2 : w'.cell? ⟨g, m * 32 + i * 4 + 2, none⟩ = some (.bool x') := (hcg.out w' hE _).trans p2.out
                        have c3 : w'.cell? ⟨g, m * 32 + i * 4 + 3, none⟩ = some (.slice X' o' k1') := (hcg.out w' hE _).trans p3.out
                        exact opE_val (v := .agg #[.bool x, .slice X o k1, .bool x', .slice X' o' k1']) (by simp [execOp, e80, c0, c1, c2, c3, go_sem]) ⟨RegE.Ext.refl _, unF_self rfl⟩
                      case s6 =>
                        intro gf w' ev hE hk he ha hc hf
                        refine ⟨fun _ => ?_, fun h => by cases h⟩
                        have e3 : ev (.tmp 3) = .slice (some ⟨g, 0, none⟩) R.length R.length := ha 3 (by decide)
                        exact opE_val (v := .slice (some ⟨g, 0, none⟩) R.length R.length) (by simp [execOp, e3, go_sem]) ⟨RegE.Ext.refl _, unF_self rfl⟩
                      case s7 =>
                        intro gf w' ev hE hk he ha hc hf
                        refine ⟨fun _ => ?_, fun h => by cases h⟩
                        have e8 : ev (.tmp 8) = .int .i64 (r : Int) := ha 8 (by decide)
                        exact opE_val (v := .int .i64 (r : Int)) (by simp [execOp, e8, go_sem]) ⟨RegE.Ext.refl _, unF_self rfl⟩
                      case s8 =>
                        intro gf w' ev hE hk he ha hc hf
                        refine ⟨fun _ => ?_, fun h => by cases h⟩
                        have e9 : ev (.tmp 9) = .pointer (some ⟨B, 0, none⟩) := ha 9 (by decide)
                        have c0 := hcb.out w' hE
                        exact opE_val (v := .int .i64 (i : Int)) (by simp [execOp, e9, c0, go_sem]) ⟨RegE.Ext.refl _, unF_self rfl⟩
                      case s9 =>
                        intro gf w' ev hE hk he ha hc hf
                        refine ⟨fun _ => ?_, fun h => by cases h⟩
                        have e82 : ev (.tmp 82) = .slice (some ⟨g, 0, none⟩) R.length R.length := he.1.trans (show gf 6 = .slice (some ⟨g, 0, none⟩) R.length R.length from hk _ rfl 6 (by decide) _ _ rfl rfl)
                        have e83 : ev (.tmp 83) = .int .i64 (r : Int) := he.2.1.trans (show gf 7 = .int .i64 (r : Int) from hk _ rfl 7 (by decide) _ _ rfl rfl)
                        exact opE_val (v := .pointer (some ⟨g, r * 32, none⟩)) (by simp [execOp, e82, e83, i2, go_sem]) ⟨RegE.Ext.refl _, unF_self rfl⟩
                      case s10 =>
                        intro gf w' ev hE hk he ha hc hf
                        refine ⟨fun _ => ?_, fun h => by cases h⟩
                        have e85 : ev (.tmp 85) = .pointer (some ⟨g, r * 32, none⟩) := he.1.trans (show gf 9 = .pointer (some ⟨g, r * 32, none⟩) from hk _ rfl 9 (by decide) _ _ rfl rfl)
                        have e84 : ev (.tmp 84) = .int .i64 (i : Int) := he.2.1.trans (show gf 8 = .int .i64 (i : Int) from hk _ rfl 8 (by decide) _ _ rfl rfl)
                        exact opE_val (v := .pointer (some ⟨g, r * 32 + i * 4, none⟩)) (by simp [execOp, e85, e84, i3, go_sem]) ⟨RegE.Ext.refl _, unF_self rfl⟩
                      case s11 =>
                        intro gf w' ev hE hk he ha hc hf
                        refine ⟨fun _ => ?_, fun h => by cases h⟩
                        have e86 : ev (.tmp 86) = .pointer (some ⟨g, r * 32 + i * 4, none⟩) := he.1.trans (show gf 10 = .pointer (some ⟨g, r * 32 + i * 4, none⟩) from hk _ rfl 10 (by decide) _ _ rfl rfl)
                        have c0 : w'.cell? ⟨g, r * 32 + i * 4, none⟩ = some (.bool y) := (hcg.out w' hE _).trans q0.out
                        have c1 : w'.cell? ⟨g, r * 32 + i * 4 + 1, none⟩ = some (.slice Y l k2) := (hcg.out w' hE _).trans q1.out
                        have c2 : w'.cell? ⟨g, r * 32 + i * 4 + 2, none⟩ = some (.bool y') := (hcg.out w' hE _).trans q2.out
                        have c3 : w'.cell? ⟨g, r * 32 + i * 4 + 3, none⟩ = some (.slice Y' l' k2') := (hcg.out w' hE _).trans q3.out
                        exact opE_val (v := .agg #[.bool y, .slice Y l k2, .bool y', .slice Y' l' k2']) (by simp [execOp, e86, c0, c1, c2, c3, go_sem]) ⟨RegE.Ext.refl _, unF_self rfl⟩
                      case s12 =>
                        intro gf w' ev hE hk he ha hc hf
                        refine ⟨fun _ => ?_, fun h => by cases h⟩
                        have e81 : ev (.tmp 81) = .agg #[.bool x, .slice X o k1, .bool x', .slice X' o' k1'] := he.1.trans (show gf 5 = .agg #[.bool x, .slice X o k1, .bool x', .slice X' o' k1'] from hk _ rfl 5 (by decide) _ _ rfl rfl)
                        have e87 : ev (.tmp 87) = .agg #[.bool y, .slice Y l k2, .bool y', .slice Y' l' k2'] := he.2.1.trans (show gf 11 = .agg #[.bool y, .slice Y l k2, .bool y', .slice Y' l' k2'] from hk _ rfl 11 (by decide) _ _ rfl rfl)
                        refine opE_call (by simp [execOp, resolve, invoke, hf, e81, e87, go_sem]) (Div_any _ _ _ _ _ _ _ _ _ _ _ _ _ _ _ _ (M1 m i) (M1 r i) S S _ (hE.isRat pI.out) (hE.isRat qI.out) hsp.out hsq.out (by omega) (num_ne hp1.out)) ?_
                        rintro e w1 ⟨b1, b2, A1, A2, n1, d1, n2, d2, rfl, hI1, hE1⟩
                        exact ⟨_, rfl, RegE.Ext.of hE1, unF_self ⟨b1, A1, n1, d1, b2, A2, n2, d2, rfl, hI1⟩⟩
                      case s13 =>
                        intro gf w' ev hE hk he ha hc hf
                        refine ⟨fun _ => ?_, fun h => by cases h⟩
                        have t88 : ev (.tmp 88) = gf 12 := he.1
                        have f88 := hk _ rfl 12 (by decide) _ _ rfl rfl
                        obtain ⟨b1, A1, n1, d1, b2, A2, n2, d2, hv, hI1⟩ := f88
                        have e88 := t88.trans hv
                        exact opE_val (v := .tuple #[.agg #[.bool b1, .slice A1 n1 d1, .bool b2, .slice A2 n2 d2], .int .i64 0]) (by simp [execOp, e88, go_sem]) ⟨RegE.Ext.refl _, unF_self ⟨b1, A1, n1, d1, b2, A2, n2, d2, rfl, hI1⟩⟩
                      case s14 =>
                        intro gf w' ev hE hk he ha hc hf
                        refine ⟨fun _ => ?_, fun h => by cases h⟩
                        have t75 : ev (.tmp 75) = gf 13 := he.1
                        have f75 := hk _ rfl 13 (by decide) _ _ rfl rfl
                        obtain ⟨b1, A1, n1, d1, b2, A2, n2, d2, hv, hI1⟩ := f75
                        have e75 := t75.trans hv
                        exact opE_val (v := .agg #[.bool b1, .slice A1 n1 d1, .bool b2, .slice A2 n2 d2]) (by simp [execOp, e75, go_sem]) ⟨RegE.Ext.refl _, unF_self ⟨b1, A1, n1, d1, b2, A2, n2, d2, rfl, hI1⟩⟩
                      case s15 =>
                        intro gf w' ev hE hk he ha hc hf
                        refine ⟨fun _ => ?_, fun h => by cases h⟩
                        have t75 : ev (.tmp 75) = gf 13 := he.1
                        have f75 := hk _ rfl 13 (by decide) _ _ rfl rfl
                        obtain ⟨b1, A1, n1, d1, b2, A2, n2, d2, hv, hI1⟩ := f75
                        have e75 := t75.trans hv
                        exact opE_val (v := .int .i64 0) (by simp [execOp, e75, go_sem]) ⟨RegE.Ext.refl _, unF_self rfl⟩
                      case s16 =>
                        intro gf w' ev hE hk he ha hc hf
                        refine ⟨fun _ => ?_, fun h => by cases h⟩
                        exact opE_val (v := .pointer (some ⟨w'.heap.size, 0, none⟩)) (w' := w'.alloc (.cells #[.bool false, .slice none 0 0, .bool false, .slice none 0 0] 74)) (by simp [execOp, go_sem]) ⟨RegE.Ext.of ((Ext.refl _).alloc _), unF_self ⟨_, rfl, hE.1.2.2.2, _, Blk.new _ _ _, rfl⟩⟩
                      case s17 =>
                        intro gf w' ev hE hk he ha hc hf
                        refine ⟨fun _ => ?_, fun h => by cases h⟩
                        have t12 : ev (.tmp 12) = gf 16 := he.1
                        have f12 := hk _ rfl 16 (by decide) _ _ rfl rfl
                        have t89 : ev (.tmp 89) = gf 14 := he.2.1
                        have f89 := hk _ rfl 14 (by decide) _ _ rfl rfl
                        obtain ⟨b1, A1, n1, d1, b2, A2, n2, d2, hv, hI1⟩ := f89
                        have e89 := t89.trans hv
                        obtain ⟨B2, hv2, hs2, hrb⟩ := f12
                        have e12 := t12.trans hv2
                        obtain ⟨cs, hcs, hcz⟩ := hrb
                        have z := fun q => Blk.frozen (cs := cs) hcs q
                        have c0 : w'.cell? ⟨B2, 0, none⟩ = some cs[0] := (Blk.cell (cs := cs) hcs 0).trans (Array.getElem?_eq_getElem _)
                        have c1 : w'.cell? ⟨B2, 1, none⟩ = some cs[1] := (Blk.cell (cs := cs) hcs 1).trans (Array.getElem?_eq_getElem _)
                        have c2 : w'.cell? ⟨B2, 2, none⟩ = some cs[2] := (Blk.cell (cs := cs) hcs 2).trans (Array.getElem?_eq_getElem _)
                        have c3 : w'.cell? ⟨B2, 3, none⟩ = some cs[3] := (Blk.cell (cs := cs) hcs 3).trans (Array.getElem?_eq_getElem _)
                        refine opE_skip (w' := put4 w' B2 (.bool b1) (.slice A1 n1 d1) (.bool b2) (.slice A2 n2 d2)) (by simp [execOp, e12, e89, c0, c1, c2, c3, z, go_sem]; rfl) ⟨ext_put4 ⟨cs, hcs, hcz⟩ (by rw [hinst.out.1]; exact hs2) hinst.out.2 hI1, ?_⟩
                        refine ⟨B2, ?_, ?_⟩
                        · show upd gf 17 undef 16 = _
                          simp only [upd]; exact hv2
                        · rw [hinst.out.2]; exact holds_put4 ⟨cs, hcs, hcz⟩ hI1
                    case fin =>
                      intro gf w' hE hF
                      obtain ⟨B2, e16, hB2⟩ := hF 17 _ _ rfl rfl
                      have e15 := hF 15 _ _ rfl rfl
                      replace e16 : gf 16 = .pointer (some ⟨B2, 0, none⟩) := e16
                      replace e15 : gf 15 = .int .i64 0 := e15
                      have hE' : Ext wr w' := ext_of_E hE hinst.out.1
                      have hsB : wr.heap.size ≤ B2 := by
                        obtain ⟨B3, e3, h3, _⟩ := hF 16 _ _ rfl rfl
                        replace e3 : gf 16 = .pointer (some ⟨B3, 0, none⟩) := e3
                        rw [e16] at e3; cases e3; exact h3
                      simp only [List.length_cons, List.length_nil, Nat.reduceAdd, List.drop_succ_cons, List.drop_zero, List.take_succ_cons, List.take_zero, putG, Act.put, List.setIfInBounds_toArray, List.set_cons_succ, List.set_cons_zero, e16, e15]
                      have hR2 : RatAt w' B2 0 (M1 m i / M1 r i) := by
                        rw [hinst.out.2] at hB2
                        obtain ⟨x, x', X, X', n, c, n', c', h3, h4⟩ := hB2
                        have hb := fun q => Blk.cell (cs := #[.bool x, .slice X n c, .bool x', .slice X' n' c']) h3 q
                        exact ⟨x, x', X, X', n, c, n', c', hb 0, hb 1, hb 2, hb 3, h4⟩
                      have hgB : g ≠ B2 := by have := Ty.lt hI.out.1.ty; omega
                      have hst5 : Hid (MatAt w' g R.length (elimMid M1 i r m i) ∧ Ext w w' ∧ Blk w' B 3 #[.int .i64 i] ∧ RatAt w' B2 0 (M1 m i / M1 r i)) := ⟨(hI.out.1.ext hE').congr fun a b ha hb _ => ⟨trivial, by simp only [elimMid]; rw [if_neg (by omega)]⟩, hI.out.2.1.trans hE', hI.out.2.2.ext hE', hR2⟩
                      have hbx : w'.cell? ⟨B, 0, none⟩ = some (.int .i64 i) := hst5.out.2.2.1.cell 0
                      clear hF e15 e16 hE hE' hR2 hB2 hcg hcb p0 p1 p2 p3 q0 q1 q2 q3 pI qI hv1 hv2 i1 i2 i3 hsB
                      replace hinst := hide trivial
                      go_wp2
                      clear hbx
                      go_loopw [14] (fun s wr => ∃ j : Nat, i ≤ j ∧ j ≤ 8 ∧ s = .int .i64 j ∧ Hid (MatAt wr g R.length (elimMid M1 i r m j) ∧ Ext w wr ∧ Blk wr B 3 #[.int .i64 i] ∧ RatAt wr B2 0 (M1 m i / M1 r i))) (fun s _ => 8 - (intOf s).toNat)
                      case atStart => exact ⟨i, by omega, by omega, rfl, hst5.out⟩
                      case round =>
                        clear hst5 hI
                        obtain ⟨j, hij, hj, rfl, hK⟩ := hrel
                        by_cases hj8 : j < 8
                        · have hd8 : decide ((j : Int) < 8) = true := by simp; omega
                          obtain ⟨x, x', X, X', o, k1, o', k1', p0, p1, p2, p3, pI⟩ := hK.out.1.2 m j hmlt hj8 trivial
                          obtain ⟨y, y', Y, Y', l, k2, l', k2', q0, q1, q2, q3, qI⟩ := hK.out.1.2 r j hrn' hj8 trivial
                          obtain ⟨zz, z', Z, Z', t, k3, t', k3', r0, r1, r2, r3, rI⟩ := hK.out.2.2.2
                          have hv1 : Hid (elimMid M1 i r m j m j = M1 m j) := hide (by simp only [elimMid, elimQ]; rw [if_neg (by omega), if_neg (by omega)])
                          have hv2 : Hid (elimMid M1 i r m j r j = M1 r j) := hide (by simp only [elimMid, elimQ]; rw [if_neg (by omega), if_neg (by omega)])
                          rw [hv1.out] at pI
                          rw [hv2.out] at qI
                          replace pI := hide pI
                          replace qI := hide qI
                          replace rI := hide rI
                          have hsp := hide (hs1.out m j hmlt hj8)
                          have hsq := hide (hs1.out r j hrn' hj8)
                          have hsr : Hid (RSz (M1 m i / M1 r i) (S + S)) := (hs1.out m i hmlt hi8).div (hs1.out r i hrn' hi8) hp1.out
                          generalize hff : M1 m i / M1 r i = ff at *
                          replace hff := hide hff
                          replace p0 := hide p0
                          replace p1 := hide p1
                          replace p2 := hide p2
                          replace p3 := hide p3
                          replace q0 := hide q0
                          replace q1 := hide q1
                          replace q2 := hide q2
                          replace q3 := hide q3
                          replace r0 := hide r0
                          replace r1 := hide r1
                          replace r2 := hide r2
                          replace r3 := hide r3
                          go_upto_region 25 with (fail)
                          have i1 : (m : Int) < R.length := by omega
                          have i2 : (r : Int) < R.length := by omega
                          have i3 : (j : Int) < 8 := by omega
                          refine wp_region_v (by kernel_rfl) [[], [], [], [], [], [], [(99, 3), (100, 4)], [(102, 6), (101, 5)], [(103, 7)], [], [], [], [], [(106, 10), (107, 11)], [(109, 13), (108, 12)], [(110, 14)], [(105, 9), (111, 15)], [(104, 8), (112, 16)], [(96, 0), (97, 1)], [(114, 18), (98, 2)]] [[], [], [], [], [], [], [3, 4], [3, 4, 5, 6], [3, 4, 5, 6, 7], [], [], [], [], [10, 11], [10, 11, 12, 13], [10, 11, 12, 13, 14], [9, 10, 11, 12, 13, 14, 15], [3, 4, 5, 6, 7, 8, 9, 10, 11, 12, 13, 14, 15, 16], [0, 1], [0, 1, 2, 3, 4, 5, 6, 7, 8, 9, 10, 11, 12, 13, 14, 15, 16, 17, 18]]
                            [fun v _ => v = .slice (some ⟨g, 0, none⟩) R.length R.length, fun v _ => v = .int .i64 (m : Int), fun v _ => v = .int .i64 (j : Int), fun v _ => v = .slice (some ⟨g, 0, none⟩) R.length R.length, fun v _ => v = .int .i64 (m : Int), fun v _ => v = .int .i64 (j : Int), fun v _ => v = .pointer (some ⟨g, m * 32, none⟩), fun v _ => v = .pointer (some ⟨g, m * 32 + j * 4, none⟩), fun v _ => v = .agg #[.bool x, .slice X o k1, .bool x', .slice X' o' k1'], fun v _ => v = .agg #[.bool zz, .slice Z t k3, .bool z', .slice Z' t' k3'], fun v _ => v = .slice (some ⟨g, 0, none⟩) R.length R.length, fun v _ => v = .int .i64 (r : Int), fun v _ => v = .int .i64 (j : Int), fun v _ => v = .pointer (some ⟨g, r * 32, none⟩), fun v _ => v = .pointer (some ⟨g, r * 32 + j * 4, none⟩), fun v _ => v = .agg #[.bool y, .slice Y l k2, .bool y', .slice Y' l' k2'], fun v w' => ∃ b A n c b' A' n' c', v = .agg #[.bool b, .slice A n c, .bool b', .slice A' n' c'] ∧ IsRat w' (.bool b) (.slice A n c) (.bool b') (.slice A' n' c') (ff * M1 r j), fun v w' => ∃ b A n c b' A' n' c', v = .agg #[.bool b, .slice A n c, .bool b', .slice A' n' c'] ∧ IsRat w' (.bool b) (.slice A n c) (.bool b') (.slice A' n' c') (M1 m j - ff * M1 r j), fun v _ => v = .pointer (some ⟨g, m * 32, none⟩), fun v _ => v = .pointer (some ⟨g, m * 32 + j * 4, none⟩)]
                            rfl (by kernel_rfl) (by kernel_rfl) ?stab ?steps ?fin
                          case stab => exact .cons (Stab.eq _) (.cons (Stab.eq _) (.cons (Stab.eq _) (.cons (Stab.eq _) (.cons (Stab.eq _) (.cons (Stab.eq _) (.cons (Stab.eq _) (.cons (Stab.eq _) (.cons (Stab.eq _) (.cons (Stab.eq _) (.cons (Stab.eq _) (.cons (Stab.eq _) (.cons (Stab.eq _) (.cons (Stab.eq _) (.cons (Stab.eq _) (.cons (Stab.eq _) (.cons (fun _ _ _ he ⟨b, A, n, c, b', A', n', c', h1, h2⟩ => ⟨b, A, n, c, b', A', n', c', h1, h2.ext he⟩) (.cons (fun _ _ _ he ⟨b, A, n, c, b', A', n', c', h1, h2⟩ => ⟨b, A, n, c, b', A', n', c', h1, h2.ext he⟩) (.cons (Stab.eq _) (.cons (Stab.eq _) .nil)))))))))))))))))))
                          case steps =>
                            refine .cons ?s0 (.cons ?s1 (.cons ?s2 (.cons ?s3 (.cons ?s4 (.cons ?s5 (.cons ?s6 (.cons ?s7 (.cons ?s8 (.cons ?s9 (.cons ?s10 (.cons ?s11 (.cons ?s12 (.cons ?s13 (.cons ?s14 (.cons ?s15 (.cons ?s16 (.cons ?s17 (.cons ?s18 (.cons ?s19 .nil)))))))))))))))))))
                            case s0 =>
                              intro w' ev hE hk ha hc hf
                              have e3 : ev (.tmp 3) = .slice (some ⟨g, 0, none⟩) R.length R.length := ha 3 (by decide)
                              exact opStep_val (by simp [execOp, e3, go_sem]) rfl
                            case s1 =>
                              intro w' ev hE hk ha hc hf
                              have e11 : ev (.tmp 11) = .int .i64 (m : Int) := ha 11 (by decide)
                              exact opStep_val (by simp [execOp, e11, go_sem]) rfl
                            case s2 =>
                              intro w' ev hE hk ha hc hf
                              have e14 : ev (.tmp 14) = .int .i64 (j : Int) := ha 14 (by decide)
                              exact opStep_val (by simp [execOp, e14, go_sem]) rfl
                            case s3 =>
                              intro w' ev hE hk ha hc hf
                              have e3 : ev (.tmp 3) = .slice (some ⟨g, 0, none⟩) R.length R.length := ha 3 (by decide)
                              exact opStep_val (by simp [execOp, e3, go_sem]) rfl
                            case s4 =>
                              intro w' ev hE hk ha hc hf
                              have e11 : ev (.tmp 11) = .int .i64 (m : Int) := ha 11 (by decide)
                              exact opStep_val (by simp [execOp, e11, go_sem]) rfl
                            case s5 =>
                              intro w' ev hE hk ha hc hf
                              have e14 : ev (.tmp 14) = .int .i64 (j : Int) := ha 14 (by decide)
                              exact opStep_val (by simp [execOp, e14, go_sem]) rfl
                            case s6 =>
                              intro w' ev hE hk ha hc hf
                              have e99 : ev (.tmp 99) = .slice (some ⟨g, 0, none⟩) R.length R.length := hk.1 _ rfl
                              have e100 : ev (.tmp 100) = .int .i64 (m : Int) := hk.2.1 _ rfl
                              exact opStep_val (by simp [execOp, e99, e100, i1, go_sem]) rfl
                            case s7 =>
                              intro w' ev hE hk ha hc hf
                              have e102 : ev (.tmp 102) = .pointer (some ⟨g, m * 32, none⟩) := hk.1 _ rfl
                              have e101 : ev (.tmp 101) = .int .i64 (j : Int) := hk.2.1 _ rfl
                              exact opStep_val (by simp [execOp, e102, e101, i3, go_sem]) rfl
                            case s8 =>
                              intro w' ev hE hk ha hc hf
                              have e103 : ev (.tmp 103) = .pointer (some ⟨g, m * 32 + j * 4, none⟩) := hk.1 _ rfl
                              have c0 : w'.cell? ⟨g, m * 32 + j * 4, none⟩ = some (.bool x) := hE.cellv p0.out
                              have c1 : w'.cell? ⟨g, m * 32 + j * 4 + 1, none⟩ = some (.slice X o k1) := hE.cellv p1.out
                              have c2 : w'.cell? ⟨g, m * 32 + j * 4 + 2, none⟩ = some (.bool x') := hE.cellv p2.out
                              have c3 : w'.cell? ⟨g, m * 32 + j * 4 + 3, none⟩ = some (.slice X' o' k1') := hE.cellv p3.out
                              exact opStep_val (by simp [execOp, e103, c0, c1, c2, c3, go_sem]) rfl
                            case s9 =>
                              intro w' ev hE hk ha hc hf
                              have e12 : ev (.tmp 12) = .pointer (some ⟨B2, 0, none⟩) := ha 12 (by decide)
                              have c0 : w'.cell? ⟨B2, 0, none⟩ = some (.bool zz) := hE.cellv r0.out
                              have c1 : w'.cell? ⟨B2, 1, none⟩ = some (.slice Z t k3) := hE.cellv r1.out
                              have c2 : w'.cell? ⟨B2, 2, none⟩ = some (.bool z') := hE.cellv r2.out
                              have c3 : w'.cell? ⟨B2, 3, none⟩ = some (.slice Z' t' k3') := hE.cellv r3.out
                              exact opStep_val (by simp [execOp, e12, c0, c1, c2, c3, go_sem]) rfl
                            case s10 =>
                              intro w' ev hE hk ha hc hf
                              have e3 : ev (.tmp 3) = .slice (some ⟨g, 0, none⟩) R.length R.length := ha 3 (by decide)
                              exact opStep_val (by simp [execOp, e3, go_sem]) rfl
                            case s11 =>
                              intro w' ev hE hk ha hc hf
                              have e8 : ev (.tmp 8) = .int .i64 (r : Int) := ha 8 (by decide)
                              exact opStep_val (by simp [execOp, e8, go_sem]) rfl
                            case s12 =>
                              intro w' ev hE hk ha hc hf
                              have e14 : ev (.tmp 14) = .int .i64 (j : Int) := ha 14 (by decide)
                              exact opStep_val (by simp [execOp, e14, go_sem]) rfl
                            case s13 =>
                              intro w' ev hE hk ha hc hf
                              have e106 : ev (.tmp 106) = .slice (some ⟨g, 0, none⟩) R.length R.length := hk.1 _ rfl
                              have e107 : ev (.tmp 107) = .int .i64 (r : Int) := hk.2.1 _ rfl
                              exact opStep_val (by simp [execOp, e106, e107, i2, go_sem]) rfl
                            case s14 =>
                              intro w' ev hE hk ha hc hf
                              have e109 : ev (.tmp 109) = .pointer (some ⟨g, r * 32, none⟩) := hk.1 _ rfl
                              have e108 : ev (.tmp 108) = .int .i64 (j : Int) := hk.2.1 _ rfl
                              exact opStep_val (by simp [execOp, e109, e108, i3, go_sem]) rfl
                            case s15 =>
                              intro w' ev hE hk ha hc hf
                              have e110 : ev (.tmp 110) = .pointer (some ⟨g, r * 32 + j * 4, none⟩) := hk.1 _ rfl
                              have c0 : w'.cell? ⟨g, r * 32 + j * 4, none⟩ = some (.bool y) := hE.cellv q0.out
                              have c1 : w'.cell? ⟨g, r * 32 + j * 4 + 1, none⟩ = some (.slice Y l k2) := hE.cellv q1.out
                              have c2 : w'.cell? ⟨g, r * 32 + j * 4 + 2, none⟩ = some (.bool y') := hE.cellv q2.out
                              have c3 : w'.cell? ⟨g, r * 32 + j * 4 + 3, none⟩ = some (.slice Y' l' k2') := hE.cellv q3.out
                              exact opStep_val (by simp [execOp, e110, c0, c1, c2, c3, go_sem]) rfl
                            case s16 =>
                              intro w' ev hE hk ha hc hf
                              have e105 : ev (.tmp 105) = .agg #[.bool zz, .slice Z t k3, .bool z', .slice Z' t' k3'] := hk.1 _ rfl
                              have e111 : ev (.tmp 111) = .agg #[.bool y, .slice Y l k2, .bool y', .slice Y' l' k2'] := hk.2.1 _ rfl
                              refine opStep_call (by simp [execOp, resolve, invoke, hf, e105, e111, go_sem]) (Mul_any _ _ _ _ _ _ _ _ _ _ _ _ _ _ _ _ ff (M1 r j) (S + S) S _ (rI.out.ext ((Ext.refl _).drew.trans hE)) (qI.out.ext ((Ext.refl _).drew.trans hE)) hsr.out hsq.out (by omega)) ?_
                              rintro e w1 ⟨b1, b2, A1, A2, n1, d1, n2, d2, rfl, hI1, hE1⟩
                              exact ⟨_, rfl, hE1, b1, A1, n1, d1, b2, A2, n2, d2, rfl, hI1⟩
                            case s17 =>
                              intro w' ev hE hk ha hc hf
                              have e104 : ev (.tmp 104) = .agg #[.bool x, .slice X o k1, .bool x', .slice X' o' k1'] := hk.1 _ rfl
                              have f112 := hk.2.1 _ rfl
                              obtain ⟨b1, A1, n1, d1, b2, A2, n2, d2, e112, hI1⟩ := f112
                              refine opStep_call (by simp [execOp, resolve, invoke, hf, e104, e112, go_sem]) (Sub_any _ _ _ _ _ _ _ _ _ _ _ _ _ _ _ _ (M1 m j) (ff * M1 r j) S (S + S + S) _ (pI.out.ext ((Ext.refl _).drew.trans hE)) hI1 hsp.out (hsr.out.mul hsq.out) (by omega)) ?_
                              rintro e w1 ⟨b1, b2, A1, A2, n1, d1, n2, d2, rfl, hI1, hE1⟩
                              exact ⟨_, rfl, hE1, b1, A1, n1, d1, b2, A2, n2, d2, rfl, hI1⟩
                            case s18 =>
                              intro w' ev hE hk ha hc hf
                              have e96 : ev (.tmp 96) = .slice (some ⟨g, 0, none⟩) R.length R.length := hk.1 _ rfl
                              have e97 : ev (.tmp 97) = .int .i64 (m : Int) := hk.2.1 _ rfl
                              exact opStep_val (by simp [execOp, e96, e97, i1, go_sem]) rfl
                            case s19 =>
                              intro w' ev hE hk ha hc hf
                              have e114 : ev (.tmp 114) = .pointer (some ⟨g, m * 32, none⟩) := hk.1 _ rfl
                              have e98 : ev (.tmp 98) = .int .i64 (j : Int) := hk.2.1 _ rfl
                              exact opStep_val (by simp [execOp, e114, e98, i3, go_sem]) rfl
                          case fin =>
                            intro gf w' hE hF
                            obtain ⟨b5, A5, n5, c5, b6, A6, n6, c6, e17, hI5⟩ := hF 17 _ rfl
                            have e19 := hF 19 _ rfl
                            simp only [List.length_cons, List.length_nil, Nat.reduceAdd, List.drop_succ_cons, List.drop_zero, List.take_succ_cons, List.take_zero, putG, Act.put, List.setIfInBounds_toArray, List.set_cons_succ, List.set_cons_zero, e17, e19]
                            have hM5 := hK.out.1.ext ((Ext.refl _).drew.trans hE)
                            obtain ⟨v0, s0⟩ := hM5.some (o := m * 32 + j * 4) (by omega)
                            obtain ⟨v1, s1⟩ := hM5.some (o := m * 32 + j * 4 + 1) (by omega)
                            obtain ⟨v2, s2⟩ := hM5.some (o := m * 32 + j * 4 + 2) (by omega)
                            obtain ⟨v3, s3⟩ := hM5.some (o := m * 32 + j * 4 + 3) (by omega)
                            have z := hM5.frozen
                            have hM6 : Hid (MatAt (rat4 w' g (m * 32 + j * 4) (.bool b5) (.slice A5 n5 c5) (.bool b6) (.slice A6 n6 c6)) g R.length (elimMid M1 i r m (j + 1)) ∧ Ext w (rat4 w' g (m * 32 + j * 4) (.bool b5) (.slice A5 n5 c5) (.bool b6) (.slice A6 n6 c6)) ∧ Blk (rat4 w' g (m * 32 + j * 4) (.bool b5) (.slice A5 n5 c5) (.bool b6) (.slice A6 n6 c6)) B 3 #[.int .i64 i] ∧ RatAt (rat4 w' g (m * 32 + j * 4) (.bool b5) (.slice A5 n5 c5) (.bool b6) (.slice A6 n6 c6)) B2 0 ff) := by
                              have hE0 := (Ext.refl wr).drew.trans hE
                              refine ⟨hM5.put hmlt hj8 hI5 ?_ fun a b ha hb _ hne => ⟨trivial, ?_⟩, (hK.out.2.1.trans hE0).rat4 (by rw [hg.out]; omega) _ _ _ _ _, (hK.out.2.2.1.ext hE0).rat4 hBg _ _ _ _ _, (hK.out.2.2.2.ext hE0).rat4 hM5.ty hgB _ _ _ _ _⟩
                              · simp only [elimMid]; rw [if_pos ⟨trivial, hij, by omega⟩, hff.out]
                              · simp only [elimMid]
                                by_cases h1 : a = m ∧ i ≤ b ∧ b < j
                                · rw [if_pos h1, if_pos ⟨h1.1, h1.2.1, by omega⟩]
                                · rw [if_neg h1, if_neg (by omega)]
                            replace hM5 := hide hM5
                            replace hI5 := hide hI5
                            replace hE := hide hE
                            clear hF e17 e19 i1 i2 i3
                            go_wp2
                            exact ⟨⟨j + 1, by omega, hj8, by simp, hM6.out⟩, by simp [intOf]; omega⟩
                        · obtain rfl : j = 8 := by omega
                          have hM7 : Hid (MatAt wr g R.length (elimQ M1 i r (m + 1)) ∧ Ext w wr ∧ Blk wr B 3 #[.int .i64 i]) := ⟨hK.out.1.congr fun a b ha hb _ => ⟨trivial, by
                            simp only [elimMid, elimQ]
                            by_cases h1 : a = m
                            · subst h1
                              by_cases h2 : i ≤ b
                              · rw [if_pos ⟨by omega, by omega⟩, if_pos ⟨rfl, h2, hb⟩]
                              · rw [if_pos ⟨by omega, by omega⟩, if_neg (by omega), if_neg (by omega), hz1.out a (by omega) ha b (by omega), hz1.out r (Nat.le_refl _) hrn' b (by omega)]; grind
                            · by_cases h3 : r < a ∧ a < m
                              · rw [if_pos ⟨h3.1, by omega⟩, if_neg (fun h => h1 h.1), if_pos h3]
                              · rw [if_neg (by omega), if_neg (fun h => h1 h.1), if_neg h3]⟩, hK.out.2.1, hK.out.2.2.1⟩
                          go_wp2
                          exact ⟨⟨m + 1, by omega, hmlt, by simp, hM7.out⟩, by simp [intOf]; omega⟩
                  · obtain rfl : m = R.length := by omega
                    have hsz : Hid (SzM (elimQ M1 i r R.length) R.length (4 * S + 1)) := fun a b ha hb => by
                      simp only [elimQ]
                      split
                      · exact ((hs1.out a b ha hb).sub (((hs1.out a i ha hi8).div (hs1.out r i hrn' hi8) hp1.out).mul (hs1.out r b hrn' hb))).mono (by omega)
                      · exact (hs1.out a b ha hb).mono (by omega)
                    go_wp2
                    exact ⟨⟨i + 1, r + 1, by omega, by omega, by omega, by simp, by simp, _, hnx.out, by rw [hS1.out]; exact hsz.out, hI.out.1, hI.out.2.1⟩, by simp [intOf]; omega⟩
          · obtain rfl : r = R.length := by omega
            go_wp2_with fail
            refine (IndexFunc_none _ _ _ _).mono ?_
            rintro e w3 ⟨rfl, rfl⟩
            go_wp2
            exact ⟨⟨i + 1, R.length, by omega, by omega, by omega, by simp, rfl, M, hJ.out.1.skip hi8 (fun k h1 h2 => by omega), hJ.out.2.1.mono (by simp only [szOf]; omega), hW.out.1, hW.out.2.1⟩, by simp [intOf]; omega⟩
        · obtain rfl : i = 8 := by omega
          have hf := hide hJ.out.1.fin
          go_wp2
          go_ret
          refine ⟨r, rfl, ?_, hJ.out.2.2.2⟩
          rw [← hf.out]
          omega

end Go.Proofs.YteefhmdameeoaaaGreat
namespace Go.Proofs.YteefhmdameeoaaaGreat
open Go.RowKit

/-- The call returns an order and no error. -/
def RetFull (R : List (Nat → Int)) (w : World) (e : Ending) (w' : World) : Prop :=
  ∃ (A : Option Addr) (c : Nat), e = .returned (.tuple #[.slice A R.length c, .int .i64 0]) ∧ OwnRows 35 w.heap.size w' (.slice A R.length c) R ∧ Ext w w'
def RetErr (n : Int) (w : World) (e : Ending) (w' : World) : Prop := e = .returned (.tuple #[.slice none 0 0, .int .i64 n]) ∧ Ext w w'
/-- Only 0 is orthogonal to the rows of an order. -/
def Total (R : List (Nat → Int)) : Prop := KerTriv (ratRows R) R.length
def unitRows (k : Nat) : List (Nat → Int) := (List.range k).map fun i => onesOf (2 ^ i)
theorem unitRows_length (k : Nat) : (unitRows k).length = k := by simp [unitRows]
theorem unitRows_snoc (k : Nat) : unitRows k ++ [onesOf (2 ^ k)] = unitRows (k + 1) := by simp [unitRows, List.range_succ]
theorem ones_x (x : Int) (m : Nat) (w : World) (hx : x = (m : Int)) (hm : m < 256) :
    Calls Tryz.prog 38 #[.int .u8 x] w fun e w' => e = .returned (.agg #[.int .i64 (onesOf m 0), .int .i64 (onesOf m 1), .int .i64 (onesOf m 2), .int .i64 (onesOf m 3), .int .i64 (onesOf m 4), .int .i64 (onesOf m 5), .int .i64 (onesOf m 6), .int .i64 (onesOf m 7)]) ∧ Ext w w' := by
  subst hx; exact ones_any m w hm
theorem pow_mod {k : Nat} (h : k < 8) : (2 : Int) ^ k % 256 = ((2 ^ k : Nat) : Int) ∧ 2 ^ k < 256 := by
  rcases lt8 h with rfl | rfl | rfl | rfl | rfl | rfl | rfl | rfl <;> decide

set_option maxRecDepth 100000 in
theorem Full_bad (v : Value) (R : List (Nat → Int)) (w : World) (h : RowsAt .i64 35 w v R) (hv : ¬ OValid R) :
    Calls Tryz.prog 11 #[v] w (RetErr 50 w) := by
  replace h := hide h
  go_enter Tryz.func11, Tryz.ntmps11
  go_wp2_with fail
  refine (oValid_any v R _ h.out).mono ?_
  rw [ovB_false hv]
  rintro e w1 ⟨rfl, hE1⟩
  replace hE1 := hide hE1
  go_wp2
  go_ret2
  exact ⟨rfl, hE1.out⟩

set_option maxRecDepth 100000 in
theorem Full_tot (v : Value) (R : List (Nat → Int)) (w : World) (h : RowsAt .i64 35 w v R) (hv : OValid R) (ht : Total R) :
    Calls Tryz.prog 11 #[v] w (RetFull R w) := by
  replace h := hide h
  have hl := hv.1
  replace ht := hide ht
  go_enter Tryz.func11, Tryz.ntmps11
  go_wp2_with fail
  refine (oValid_any v R _ h.out).mono ?_
  rw [ovB_true hv]
  rintro e w1 ⟨rfl, hE1⟩
  have h1 := hide (h.out.ext hE1)
  replace hE1 := hide hE1
  go_wp2_with fail
  refine (CloneO_any v R _ h1.out (by omega)).mono ?_
  rintro e w2 ⟨A, c, rfl, hO, hE2⟩
  have h2 := hide (h1.out.ext hE2)
  replace hO := hide hO
  replace hE2 := hide hE2
  go_wp2_with fail
  refine (rank_any v R _ h2.out hv.in8 (by omega)).mono ?_
  rintro e w3 ⟨z, rfl, hz, hE3⟩
  obtain rfl : z = 8 := hz.2 ht.out
  have hO3 : Hid (OwnRows 35 w.heap.size w3 (.slice A R.length c) R) := (hO.out.base_mono hE1.out.size).ext hE3
  have hE4 := hide ((hE1.out.trans hE2.out).trans hE3)
  clear hz hE3
  go_wp2
  go_ret2
  exact ⟨A, c, rfl, hO3.out, hE4.out⟩

set_option maxRecDepth 100000 in
set_option maxHeartbeats 800000 in
theorem Full_app (v : Value) (R : List (Nat → Int)) (w : World) (h : RowsAt .i64 35 w v R) (hv : OValid R) (ht : ¬ Total R) (h16 : R.length ≤ 16) :
    Calls Tryz.prog 11 #[v] w (RetFull (R ++ unitRows 8) w) := by
  replace h := hide h
  replace ht := hide ht
  obtain ⟨A0, c0, rfl, hc0, hm0, _⟩ := h.out.open_
  clear hc0 hm0
  go_enter Tryz.func11, Tryz.ntmps11
  go_wp2_with fail
  refine (oValid_any _ R _ h.out).mono ?_
  rw [ovB_true hv]
  rintro e w1 ⟨rfl, hE1⟩
  have h1 := hide (h.out.ext hE1)
  replace hE1 := hide hE1
  go_wp2_with fail
  refine (CloneO_any _ R _ h1.out (by omega)).mono ?_
  rintro e w2 ⟨A, c, rfl, hO, hE2⟩
  have h2 := hide (h1.out.ext hE2)
  replace hO := hide hO
  replace hE2 := hide hE2
  go_wp2_with fail
  refine (rank_any _ R _ h2.out hv.in8 (by omega)).mono ?_
  rintro e w3 ⟨z, rfl, hz, hE3⟩
  have hz8 : ¬ z = 8 := fun h => ht.out (hz.1 h)
  have hzb : (z == 8) = false := by simpa using hz8
  have hO3 : Hid (OwnRows 35 w.heap.size w3 (.slice A R.length c) (R ++ unitRows 0)) := by
    have := (hO.out.base_mono hE1.out.size).ext hE3
    rw [show R ++ unitRows 0 = R by simp [unitRows]]; exact this
  have hE4 := hide ((hE1.out.trans hE2.out).trans hE3)
  clear hz hE3 hz8 h h1 h2 hO hE1 hE2
  go_wp2
  go_loopw [4, 19] (fun v i wr => ∃ (k : Nat) (A : Option Addr) (c : Nat), k ≤ 8 ∧ i = .int .i64 k ∧ v = .slice A (R.length + k) c ∧ Hid (OwnRows 35 w.heap.size wr (.slice A (R.length + k) c) (R ++ unitRows k) ∧ Ext w wr)) (fun _ i _ => 8 - (intOf i).toNat)
  case atStart => exact ⟨0, A, c, by omega, rfl, rfl, hO3.out, hE4.out⟩
  case round =>
    clear hO3 hE4
    obtain ⟨k, A, c, hk, rfl, rfl, hI⟩ := hrel
    by_cases hlt : k < 8
    · obtain ⟨hp1, hp2⟩ := pow_mod hlt
      replace hp1 := hide hp1
      go_wp2_with fail
      refine (ones_x _ (2 ^ k) _ hp1.out hp2).mono ?_
      rintro e w1 ⟨rfl, hE1⟩
      obtain ⟨A', c', w', hrun, hO, hg⟩ := append_order (base := w.heap.size) (w := w1.alloc (.cells #[.int .i64 (onesOf (2 ^ k) 0), .int .i64 (onesOf (2 ^ k) 1), .int .i64 (onesOf (2 ^ k) 2), .int .i64 (onesOf (2 ^ k) 3), .int .i64 (onesOf (2 ^ k) 4), .int .i64 (onesOf (2 ^ k) 5), .int .i64 (onesOf (2 ^ k) 6), .int .i64 (onesOf (2 ^ k) 7)] 35)) (v := .slice A (R.length + k) c) (R := R ++ unitRows k) (S := [onesOf (2 ^ k)]) (x := .slice (some ⟨w1.heap.size, 0, none⟩) 1 1)
        ((hI.out.1.ext hE1).ext ((Ext.refl _).alloc _)) (OwnRows.blk (R := [onesOf (2 ^ k)]) (c := 1) (base := 0) (g := w1.heap.size) (Nat.zero_le _) (Blk.new _ _ _) rfl (by simp)).rows (by simp) (by simp [unitRows_length]; omega) (by have := hI.out.2.size; have := hE1.size; simp; omega)
      have hE3 : Hid (Ext w w') := ((hI.out.2.trans hE1).alloc _).grown' hg hI.out.1.base_le
      rw [List.length_append, unitRows_length] at hrun hO
      replace hrun := hide hrun
      have hO2 : Hid (OwnRows 35 w.heap.size w' (.slice A' (R.length + (k + 1)) c') (R ++ unitRows (k + 1))) := by
        have := hO; rw [List.append_assoc, unitRows_snoc] at this; exact this
      replace hE1 := hide hE1
      clear hg hO
      go_wp2_with (at_builtin; go_loud (refine wpList_append_run rfl _ _ _ rfl _ _ rfl rfl hrun.out ?_))
      exact ⟨⟨k + 1, A', c', hlt, by simp, rfl, hO2.out, hE3.out⟩, by simp [intOf]; omega⟩
    · obtain rfl : k = 8 := by omega
      have hlen : Hid ((R ++ unitRows 8).length = R.length + 8) := hide (by simp [unitRows_length])
      go_wp2
      go_ret2
      refine ⟨A, c, ?_, ?_, hI.out.2⟩
      · rw [hlen.out]; rfl
      · rw [hlen.out]; exact hI.out.1

set_option maxRecDepth 100000 in
theorem Full_big (v : Value) (R : List (Nat → Int)) (w : World) (h : RowsAt .i64 35 w v R) (hv : OValid R) (ht : ¬ Total R) (h16 : 16 < R.length) :
    Calls Tryz.prog 11 #[v] w (RetErr 2 w) := by
  replace h := hide h
  have hl := hv.1
  replace ht := hide ht
  obtain ⟨A0, c0, rfl, hc0, hm0, _⟩ := h.out.open_
  clear hc0 hm0
  go_enter Tryz.func11, Tryz.ntmps11
  go_wp2_with fail
  refine (oValid_any _ R _ h.out).mono ?_
  rw [ovB_true hv]
  rintro e w1 ⟨rfl, hE1⟩
  have h1 := hide (h.out.ext hE1)
  replace hE1 := hide hE1
  go_wp2_with fail
  refine (CloneO_any _ R _ h1.out (by omega)).mono ?_
  rintro e w2 ⟨A, c, rfl, hO, hE2⟩
  have h2 := hide (h1.out.ext hE2)
  replace hO := hide hO
  replace hE2 := hide hE2
  go_wp2_with fail
  refine (rank_any _ R _ h2.out hv.in8 (by omega)).mono ?_
  rintro e w3 ⟨z, rfl, hz, hE3⟩
  have hz8 : ¬ z = 8 := fun h => ht.out (hz.1 h)
  have hzb : (z == 8) = false := by simpa using hz8
  have hE4 := hide ((hE1.out.trans hE2.out).trans hE3)
  clear hz hE3 hz8
  go_wp2
  go_ret2
  exact ⟨rfl, hE4.out⟩

end Go.Proofs.YteefhmdameeoaaaGreat
namespace Go.Proofs.YteefhmdameeoaaaGreat
open Go.RowKit

def aM (i : Nat) : Int := if i = 0 ∨ i = 2 then 1 else 0
def wRow (i : Nat) : Int := if i = 0 then 1 else if i = 1 then 3 else 0
def nRow (i : Nat) : Int := if i = 0 then -1 else 0
theorem ex1 : oCmp [] (powOf 0 1) (powOf 1 5) = 1 := by decide +kernel
theorem ex2 : oCmp [onesOf 255] (powOf 0 1) (powOf 1 5) = -1 := by decide +kernel
theorem ex3 : oCmp revRows aM (powOf 1 2) = -1 := by decide +kernel
theorem ex4 : oCmp [onesOf 255] aM (powOf 1 2) = 1 := by decide +kernel
theorem ex5 : oCmp [wRow] (powOf 1 1) (powOf 0 3) = -1 := by decide +kernel
theorem aM_in : In8 aM (-1000000) 1000000 := fun i _ => by unfold aM; split <;> omega
theorem onesOf_in (m : Nat) : In8 (onesOf m) 0 1 := fun i _ => by unfold onesOf; omega
theorem minusOne_in (k : Nat) : In8 (minusOne k) (-1) 0 := fun i _ => by unfold minusOne; split <;> omega
theorem revTail_in : ∀ k, ∀ r ∈ revTail k, In8 r (-1) 0
  | 0, r, h => by simp [revTail] at h
  | k + 1, r, h => by
    rw [revTail, List.mem_cons] at h
    rcases h with rfl | h
    · exact minusOne_in _
    · exact revTail_in k r h
theorem revRows_in : ∀ r ∈ revRows, In8 r (-1000) 1000 := fun r h => by
  rw [revRows, List.mem_cons] at h
  rcases h with rfl | h
  · exact (onesOf_in _).mono (by omega) (by omega)
  · exact (revTail_in 7 r h).mono (by omega) (by omega)
theorem elim_in (m : Nat) : ∀ r ∈ onesOf m :: revRows, In8 r (-1000) 1000 := fun r h => by
  rw [List.mem_cons] at h
  rcases h with rfl | h
  · exact (onesOf_in _).mono (by omega) (by omega)
  · exact revRows_in r h
theorem graded_in : ∀ r ∈ [onesOf 255], In8 r (-1000) 1000 := fun r h => by
  simp at h; subst h; exact (onesOf_in _).mono (by omega) (by omega)
theorem w_in : ∀ r ∈ [wRow], In8 r (-1000) 1000 := fun r h => by
  simp at h; subst h; intro i _; unfold wRow; split
  · omega
  · split <;> omega

theorem onesOf_bit {m i : Nat} : onesOf m i = if m.testBit i then 1 else 0 := by
  unfold onesOf
  rw [Nat.testBit, Nat.shiftRight_eq_div_pow]
  have h2 : m / 2 ^ i % 2 = 0 ∨ m / 2 ^ i % 2 = 1 := by omega
  rcases h2 with h | h
  · rw [h]; simp [h]
  · rw [h]; simp [h]
theorem dotTo_eq_dotOf (r a b : Nat → Int) : dotTo r a b 8 = dotOf r (sub8 a b) := rfl
/-- An order whose first row is the mask eliminates the mask's variables. -/
theorem elim_mask (m : Nat) (R : List (Nat → Int)) : Elim (onesOf m :: R) m := fun i j hi hj h1 h2 => by
  have hd : dotTo (onesOf m) (powOf i 1) (powOf j 65535) 8 = 1 := by
    have hij : i ≠ j := fun e => by rw [e, h2] at h1; cases h1
    have e1 : onesOf m i = 1 := by rw [onesOf_bit, h1]; rfl
    have e2 : onesOf m j = 0 := by rw [onesOf_bit, h2]; rfl
    have key : ∀ k, k ≤ 8 → dotTo (onesOf m) (powOf i 1) (powOf j 65535) k = if i < k then 1 else 0 := by
      intro k
      induction k with
      | zero => intro _; simp [dotTo, sumTo]
      | succ k ih =>
        intro hk
        have ih := ih (by omega)
        show dotTo (onesOf m) (powOf i 1) (powOf j 65535) k + onesOf m k * (powOf i 1 k - powOf j 65535 k) = _
        rw [ih]
        by_cases e : k = i
        · subst e
          rw [e1, if_neg (by omega), if_pos (by omega)]
          simp [powOf, hij]
        · by_cases e' : k = j
          · subst e'; rw [e2]; simp only [Int.zero_mul, Int.add_zero]
            by_cases h : i < k
            · rw [if_pos h, if_pos (by omega)]
            · rw [if_neg h, if_neg (by omega)]
          · simp only [powOf, if_neg e, if_neg e', Int.sub_self, Int.mul_zero, Int.add_zero]
            by_cases h : i < k
            · rw [if_pos h, if_pos (by omega)]
            · rw [if_neg h, if_neg (by omega)]
    rw [key 8 (by omega), if_pos hi]
  have hc : cmpRows (onesOf m :: R) (powOf i 1) (powOf j 65535) = 1 := by rw [cmpRows, hd]; simp
  rw [oCmp, hc]; simp
theorem not_elim_rev : ¬ Elim revRows 1 := fun h => by
  have := h 0 1 (by omega) (by omega) (by decide) (by decide)
  have e : oCmp revRows (powOf 0 1) (powOf 1 65535) = -1 := by decide +kernel
  omega

theorem valid_nil : OValid [] := ⟨by simp, fun k j h => by simp at h⟩
theorem valid_pos {r : Nat → Int} (h : In8 r 0 1000) : OValid [r] := ⟨by simp, fun k j hk hj => by
  simp at hk; subst hk
  have := h j hj
  exact ⟨by simp [rowAt]; omega, by simp [rowAt]; omega, fun h0 => by simp [rowAt] at h0; omega⟩⟩
theorem valid_graded : OValid [onesOf 255] := valid_pos ((onesOf_in _).mono (by omega) (by omega))
theorem wRow_pos : In8 wRow 0 1000 := fun i _ => by
  unfold wRow
  split
  · omega
  · split <;> omega
theorem valid_w : OValid [wRow] := valid_pos wRow_pos
theorem not_valid_n : ¬ OValid [nRow] := fun h => by
  have := (h.2 0 0 (by simp) (by omega)).2.2 (by decide)
  exact absurd this (by decide)
theorem ones255 {i : Nat} (h : i < 8) : onesOf 255 i = 1 := by
  rcases lt8 h with rfl | rfl | rfl | rfl | rfl | rfl | rfl | rfl <;> rfl
theorem seen_mono {R : List (Nat → Int)} {k k' j : Nat} (h : k ≤ k') (hs : seenTo R k j = true) : seenTo R k' j = true := by
  induction k' with
  | zero => obtain rfl : k = 0 := by omega
            exact hs
  | succ n ih =>
    by_cases e : k = n + 1
    · rw [← e]; exact hs
    · rw [seenTo, ih (by omega)]; rfl
theorem revTail_length : ∀ k, (revTail k).length = k
  | 0 => rfl
  | k + 1 => by rw [revTail, List.length_cons, revTail_length k]
theorem revRows_length : revRows.length = 8 := by rw [revRows, List.length_cons, revTail_length]
/-- Rows behind a row of ones may have any weights. -/
theorem valid_behind {R : List (Nat → Int)} (hl : R.length ≤ 24) (hR : ∀ r ∈ R, In8 r (-1000) 1000) {p : Nat} (hp : p < R.length) (h1 : ∀ k, k ≤ p → ∀ j, j < 8 → 0 ≤ rowAt R k j) (h2 : ∀ j, j < 8 → rowAt R p j ≠ 0) : OValid R := by
  refine ⟨hl, fun k j hk hj => ?_⟩
  have hb := hR _ (rowAt_mem hk) j hj
  refine ⟨hb.1, hb.2, fun hneg => ?_⟩
  by_cases h : k ≤ p
  · have := h1 k h j hj; omega
  · have : seenTo R (p + 1) j = true := by
      rw [seenTo]; simp [h2 j hj]
    exact seen_mono (by omega) this
theorem valid_rev : OValid revRows := valid_behind (by rw [revRows_length]; omega) revRows_in (p := 0) (by rw [revRows_length]; omega) (fun k hk j hj => by
  obtain rfl : k = 0 := by omega
  show 0 ≤ onesOf 255 j
  exact (onesOf_in 255 j hj).1) (fun j hj => by show onesOf 255 j ≠ 0; rw [ones255 hj]; decide)
theorem valid_elim (m : Nat) : OValid (onesOf m :: revRows) := valid_behind (by rw [List.length_cons, revRows_length]; omega) (elim_in m) (p := 1) (by rw [List.length_cons, revRows_length]; omega) (fun k hk j hj => by
  have : k = 0 ∨ k = 1 := by omega
  rcases this with rfl | rfl
  · show 0 ≤ onesOf m j; exact (onesOf_in m j hj).1
  · show 0 ≤ onesOf 255 j; exact (onesOf_in 255 j hj).1) (fun j hj => by show onesOf 255 j ≠ 0; rw [ones255 hj]; decide)

theorem not_total_nil : ¬ Total [] := fun h => by
  have := h (fun i => if i = 0 then 1 else 0) (fun k hk => by simp at hk) 0 (by omega)
  exact absurd this (by decide)
theorem not_total_graded : ¬ Total [onesOf 255] := fun h => by
  have := h (fun i => if i = 0 then 1 else if i = 1 then -1 else 0) (fun k hk => by
    simp at hk; subst hk
    decide +kernel) 0 (by omega)
  exact absurd this (by decide)
theorem total_rev : Total revRows := fun x hx => by
  have h0 := hx 0 (by rw [revRows_length]; omega)
  have hk : ∀ k, 1 ≤ k → k < 8 → x k = 0 := fun k h1 h2 => by
    have h3 := hx (8 - k) (by rw [revRows_length]; omega)
    rw [dotQ_single (p := k) h2 fun j hj hne => by
      have : ratRows revRows (8 - k) j = 0 := by
        rcases lt8 h2 with rfl | rfl | rfl | rfl | rfl | rfl | rfl | rfl <;> rcases lt8 hj with rfl | rfl | rfl | rfl | rfl | rfl | rfl | rfl <;> first | omega | rfl
      rw [this]; grind] at h3
    have : ratRows revRows (8 - k) k = -1 := by
      rcases lt8 h2 with rfl | rfl | rfl | rfl | rfl | rfl | rfl | rfl <;> first | omega | rfl
    rw [this] at h3
    grind
  intro i hi
  by_cases e : i = 0
  · subst e
    rw [dotQ_single (p := 0) (by omega) fun j hj hne => by rw [hk j (by omega) hj]; grind] at h0
    have : ratRows revRows 0 0 = 1 := rfl
    rw [this] at h0
    grind
  · exact hk i (by omega) hi

/-- The example of Sort. -/
theorem sort_ex {S : List (Nat → Int)} (h : SortOf [] [powOf 1 5, powOf 0 1, powOf 1 5] S) : S.length = 2 := by
  have hne : ¬ Eqv (powOf 1 5) (powOf 0 1) := fun h => by have := h 0 (by omega); simp [powOf] at this
  have two : ∀ i, i < S.length → Eqv (rowAt S i) (powOf 1 5) ∨ Eqv (rowAt S i) (powOf 0 1) := fun i hi => by
    obtain ⟨b, hb, hb2⟩ := h.sub _ (rowAt_mem hi)
    simp at hb
    rcases hb with rfl | rfl | rfl
    · exact .inl hb2
    · exact .inr hb2
    · exact .inl hb2
  have diff : ∀ i j, i < j → j < S.length → ¬ Eqv (rowAt S i) (rowAt S j) := fun i j hij hj he => by
    have := h.dec i j hij hj
    rw [oCmp_zero.2 he] at this
    omega
  have lo : 2 ≤ S.length := by
    obtain ⟨a, ha, ha2⟩ := h.sup (powOf 1 5) (by simp)
    obtain ⟨b, hb, hb2⟩ := h.sup (powOf 0 1) (by simp)
    match S, ha, hb with
    | [], ha, _ => cases ha
    | [x], ha, hb => simp at ha hb; subst ha; subst hb; exact absurd (ha2.symm.trans hb2) hne
    | _ :: _ :: _, _, _ => simp
  rcases Nat.lt_or_ge 2 S.length with h3 | h3
  · exfalso
    have d01 := diff 0 1 (by omega) (by omega)
    have d02 := diff 0 2 (by omega) (by omega)
    have d12 := diff 1 2 (by omega) (by omega)
    rcases two 0 (by omega) with a | a <;> rcases two 1 (by omega) with b | b <;> rcases two 2 (by omega) with c | c
    · exact d01 (a.trans b.symm)
    · exact d01 (a.trans b.symm)
    · exact d02 (a.trans c.symm)
    · exact d12 (b.trans c.symm)
    · exact d12 (b.trans c.symm)
    · exact d02 (a.trans c.symm)
    · exact d01 (a.trans b.symm)
    · exact d01 (a.trans b.symm)
  · omega

end Go.Proofs.YteefhmdameeoaaaGreat
namespace Go.Proofs.YteefhmdameeoaaaGreat
open Go.RowKit

def RetLen (n : Nat) (w : World) (e : Ending) (w' : World) : Prop := ∃ (A : Option Addr) (c : Nat), e = .returned (.tuple #[.slice A n c, .int .i64 0]) ∧ Ext w w'
theorem full_lex (v : Value) (w : World) (h : RowsAt .i64 35 w v []) : Calls Tryz.prog 11 #[v] w (RetLen 8 w) :=
  (Full_app v [] w h valid_nil not_total_nil (by simp)).mono fun e w' ⟨A, c, h1, _, h3⟩ => ⟨A, c, h1, h3⟩
theorem full_graded (v : Value) (w : World) (h : RowsAt .i64 35 w v [onesOf 255]) : Calls Tryz.prog 11 #[v] w (RetLen 9 w) :=
  (Full_app v [onesOf 255] w h valid_graded not_total_graded (by simp)).mono fun e w' ⟨A, c, h1, _, h3⟩ => ⟨A, c, h1, h3⟩
theorem full_rev (v : Value) (w : World) (h : RowsAt .i64 35 w v revRows) : Calls Tryz.prog 11 #[v] w (RetLen 8 w) :=
  (Full_tot v revRows w h valid_rev total_rev).mono fun e w' ⟨A, c, h1, _, h3⟩ => ⟨A, c, h1, h3⟩
theorem sort_in : ∀ r ∈ [powOf 1 5, powOf 0 1, powOf 1 5], In8 r (-1000000) 1000000 := fun r h => by
  simp at h
  rcases h with rfl | rfl | rfl <;> exact powOf_in _ (by omega) (by omega)

set_option maxRecDepth 100000 in
set_option maxHeartbeats 3200000 in
theorem examples_any (w : World) : Calls Tryz.prog 5 #[] w fun e w' => e = .returned (.bool true) ∧ Ext w w' := by
  go_enter Tryz.func5, Tryz.ntmps5
  go_wp2_with fail
  refine (Power_any 1 5 _ (by omega)).mono ?_
  rintro e w1 ⟨rfl, hE1⟩
  replace hE1 := hide hE1
  go_wp2_with fail
  refine (Power_any 0 1 _ (by omega)).mono ?_
  rintro e w2 ⟨rfl, hE2⟩
  have hB1 : Hid (Blk ((w2.alloc (.cells #[.int .i64 (powOf 1 5 0), .int .i64 (powOf 1 5 1), .int .i64 (powOf 1 5 2), .int .i64 (powOf 1 5 3), .int .i64 (powOf 1 5 4), .int .i64 (powOf 1 5 5), .int .i64 (powOf 1 5 6), .int .i64 (powOf 1 5 7)] 36)).alloc (.cells #[.int .i64 (powOf 0 1 0), .int .i64 (powOf 0 1 1), .int .i64 (powOf 0 1 2), .int .i64 (powOf 0 1 3), .int .i64 (powOf 0 1 4), .int .i64 (powOf 0 1 5), .int .i64 (powOf 0 1 6), .int .i64 (powOf 0 1 7)] 36)) w2.heap.size 36 (c8 (powOf 1 5))) := (Blk.new _ _ _).alloc _
  have hB2 : Hid (Blk ((w2.alloc (.cells #[.int .i64 (powOf 1 5 0), .int .i64 (powOf 1 5 1), .int .i64 (powOf 1 5 2), .int .i64 (powOf 1 5 3), .int .i64 (powOf 1 5 4), .int .i64 (powOf 1 5 5), .int .i64 (powOf 1 5 6), .int .i64 (powOf 1 5 7)] 36)).alloc (.cells #[.int .i64 (powOf 0 1 0), .int .i64 (powOf 0 1 1), .int .i64 (powOf 0 1 2), .int .i64 (powOf 0 1 3), .int .i64 (powOf 0 1 4), .int .i64 (powOf 0 1 5), .int .i64 (powOf 0 1 6), .int .i64 (powOf 0 1 7)] 36)) (w2.heap.size + 1) 36 (c8 (powOf 0 1))) := Blk.new' _ _ (by simp)
  have hEa : Hid (Ext w ((w2.alloc (.cells #[.int .i64 (powOf 1 5 0), .int .i64 (powOf 1 5 1), .int .i64 (powOf 1 5 2), .int .i64 (powOf 1 5 3), .int .i64 (powOf 1 5 4), .int .i64 (powOf 1 5 5), .int .i64 (powOf 1 5 6), .int .i64 (powOf 1 5 7)] 36)).alloc (.cells #[.int .i64 (powOf 0 1 0), .int .i64 (powOf 0 1 1), .int .i64 (powOf 0 1 2), .int .i64 (powOf 0 1 3), .int .i64 (powOf 0 1 4), .int .i64 (powOf 0 1 5), .int .i64 (powOf 0 1 6), .int .i64 (powOf 0 1 7)] 36))) := ((hE1.out.trans hE2).alloc _).alloc _
  clear hE1 hE2
  go_wp2_with fail
  generalize ((w2.alloc (.cells #[.int .i64 (powOf 1 5 0), .int .i64 (powOf 1 5 1), .int .i64 (powOf 1 5 2), .int .i64 (powOf 1 5 3), .int .i64 (powOf 1 5 4), .int .i64 (powOf 1 5 5), .int .i64 (powOf 1 5 6), .int .i64 (powOf 1 5 7)] 36)).alloc (.cells #[.int .i64 (powOf 0 1 0), .int .i64 (powOf 0 1 1), .int .i64 (powOf 0 1 2), .int .i64 (powOf 0 1 3), .int .i64 (powOf 0 1 4), .int .i64 (powOf 0 1 5), .int .i64 (powOf 0 1 6), .int .i64 (powOf 0 1 7)] 36)) = w3 at *
  generalize w2.heap.size = g1 at *
  refine (Power_any 1 2 _ (by omega)).mono ?_
  rintro e w4 ⟨rfl, hE4⟩
  have hB3 : Hid (Blk (((w4.alloc (.cells #[.int .i64 1, .int .i64 0, .int .i64 1, .int .i64 0, .int .i64 0, .int .i64 0, .int .i64 0, .int .i64 0] 36)).alloc (.cells #[.int .i64 (powOf 1 2 0), .int .i64 (powOf 1 2 1), .int .i64 (powOf 1 2 2), .int .i64 (powOf 1 2 3), .int .i64 (powOf 1 2 4), .int .i64 (powOf 1 2 5), .int .i64 (powOf 1 2 6), .int .i64 (powOf 1 2 7)] 36)).alloc (.cells #[.int .i64 1, .int .i64 3, .int .i64 0, .int .i64 0, .int .i64 0, .int .i64 0, .int .i64 0, .int .i64 0] 35)) w4.heap.size 36 (c8 aM)) := ((Blk.new _ _ _).alloc _).alloc _
  have hB4 : Hid (Blk (((w4.alloc (.cells #[.int .i64 1, .int .i64 0, .int .i64 1, .int .i64 0, .int .i64 0, .int .i64 0, .int .i64 0, .int .i64 0] 36)).alloc (.cells #[.int .i64 (powOf 1 2 0), .int .i64 (powOf 1 2 1), .int .i64 (powOf 1 2 2), .int .i64 (powOf 1 2 3), .int .i64 (powOf 1 2 4), .int .i64 (powOf 1 2 5), .int .i64 (powOf 1 2 6), .int .i64 (powOf 1 2 7)] 36)).alloc (.cells #[.int .i64 1, .int .i64 3, .int .i64 0, .int .i64 0, .int .i64 0, .int .i64 0, .int .i64 0, .int .i64 0] 35)) (w4.heap.size + 1) 36 (c8 (powOf 1 2))) := (Blk.new' _ _ (by simp)).alloc _
  have hB5 : Hid (Blk (((w4.alloc (.cells #[.int .i64 1, .int .i64 0, .int .i64 1, .int .i64 0, .int .i64 0, .int .i64 0, .int .i64 0, .int .i64 0] 36)).alloc (.cells #[.int .i64 (powOf 1 2 0), .int .i64 (powOf 1 2 1), .int .i64 (powOf 1 2 2), .int .i64 (powOf 1 2 3), .int .i64 (powOf 1 2 4), .int .i64 (powOf 1 2 5), .int .i64 (powOf 1 2 6), .int .i64 (powOf 1 2 7)] 36)).alloc (.cells #[.int .i64 1, .int .i64 3, .int .i64 0, .int .i64 0, .int .i64 0, .int .i64 0, .int .i64 0, .int .i64 0] 35)) (w4.heap.size + 2) 35 (c8 wRow)) := Blk.new' _ _ (by simp)
  have hEb : Hid (Ext w3 (((w4.alloc (.cells #[.int .i64 1, .int .i64 0, .int .i64 1, .int .i64 0, .int .i64 0, .int .i64 0, .int .i64 0, .int .i64 0] 36)).alloc (.cells #[.int .i64 (powOf 1 2 0), .int .i64 (powOf 1 2 1), .int .i64 (powOf 1 2 2), .int .i64 (powOf 1 2 3), .int .i64 (powOf 1 2 4), .int .i64 (powOf 1 2 5), .int .i64 (powOf 1 2 6), .int .i64 (powOf 1 2 7)] 36)).alloc (.cells #[.int .i64 1, .int .i64 3, .int .i64 0, .int .i64 0, .int .i64 0, .int .i64 0, .int .i64 0, .int .i64 0] 35))) := ((hE4.alloc _).alloc _).alloc _
  clear hE4
  go_upto_region 4 with (fail)
  generalize (((w4.alloc (.cells #[.int .i64 1, .int .i64 0, .int .i64 1, .int .i64 0, .int .i64 0, .int .i64 0, .int .i64 0, .int .i64 0] 36)).alloc (.cells #[.int .i64 (powOf 1 2 0), .int .i64 (powOf 1 2 1), .int .i64 (powOf 1 2 2), .int .i64 (powOf 1 2 3), .int .i64 (powOf 1 2 4), .int .i64 (powOf 1 2 5), .int .i64 (powOf 1 2 6), .int .i64 (powOf 1 2 7)] 36)).alloc (.cells #[.int .i64 1, .int .i64 3, .int .i64 0, .int .i64 0, .int .i64 0, .int .i64 0, .int .i64 0, .int .i64 0] 35)) = w6 at *
  generalize w4.heap.size = g3 at *
  replace hB1 := hide (hB1.out.ext hEb.out)
  replace hB2 := hide (hB2.out.ext hEb.out)
  have hE6 := hide (hEa.out.trans hEb.out)
  have hWS : Hid (RowsAt .i64 35 w6 (.slice (some ⟨g3 + 2, 0, none⟩) 1 1) [wRow]) := (OwnRows.blk (R := [wRow]) (c := 1) (base := 0) (g := g3 + 2) (Nat.zero_le _) hB5.out rfl (by simp)).rows
  clear hEa hEb hB5
  refine wp_region_v (by kernel_rfl) [[], [], [], [(18, 0), (19, 1), (20, 2)], [(21, 3)], [(22, 4)], [], [], [], [(24, 6), (25, 7), (26, 8)], [(27, 9)], [(23, 5), (28, 10)], [(29, 11)], [], [], [], [(31, 13), (32, 14), (33, 15)], [(34, 16)], [(30, 12), (35, 17)], [(36, 18)], [], [], [], [(38, 20), (39, 21), (40, 22)], [(41, 23)], [(37, 19), (42, 24)], [(43, 25)], [], [], [], [(45, 27), (46, 28), (47, 29)], [(48, 30)], [(44, 26), (49, 31)]] [[], [], [], [0, 1, 2], [0, 1, 2, 3], [0, 1, 2, 3, 4], [0, 1, 2, 3, 4, 5], [0, 1, 2, 3, 4, 5], [0, 1, 2, 3, 4, 5], [0, 1, 2, 3, 4, 5, 6, 7, 8], [0, 1, 2, 3, 4, 5, 6, 7, 8, 9], [0, 1, 2, 3, 4, 5, 6, 7, 8, 9, 10], [0, 1, 2, 3, 4, 5, 6, 7, 8, 9, 10, 11], [0, 1, 2, 3, 4, 5, 6, 7, 8, 9, 10, 11, 12], [0, 1, 2, 3, 4, 5, 6, 7, 8, 9, 10, 11, 12], [0, 1, 2, 3, 4, 5, 6, 7, 8, 9, 10, 11, 12], [0, 1, 2, 3, 4, 5, 6, 7, 8, 9, 10, 11, 12, 13, 14, 15], [0, 1, 2, 3, 4, 5, 6, 7, 8, 9, 10, 11, 12, 13, 14, 15, 16], [0, 1, 2, 3, 4, 5, 6, 7, 8, 9, 10, 11, 12, 13, 14, 15, 16, 17], [0, 1, 2, 3, 4, 5, 6, 7, 8, 9, 10, 11, 12, 13, 14, 15, 16, 17, 18], [0, 1, 2, 3, 4, 5, 6, 7, 8, 9, 10, 11, 12, 13, 14, 15, 16, 17, 18, 19], [0, 1, 2, 3, 4, 5, 6, 7, 8, 9, 10, 11, 12, 13, 14, 15, 16, 17, 18, 19], [0, 1, 2, 3, 4, 5, 6, 7, 8, 9, 10, 11, 12, 13, 14, 15, 16, 17, 18, 19], [0, 1, 2, 3, 4, 5, 6, 7, 8, 9, 10, 11, 12, 13, 14, 15, 16, 17, 18, 19, 20, 21, 22], [0, 1, 2, 3, 4, 5, 6, 7, 8, 9, 10, 11, 12, 13, 14, 15, 16, 17, 18, 19, 20, 21, 22, 23], [0, 1, 2, 3, 4, 5, 6, 7, 8, 9, 10, 11, 12, 13, 14, 15, 16, 17, 18, 19, 20, 21, 22, 23, 24], [0, 1, 2, 3, 4, 5, 6, 7, 8, 9, 10, 11, 12, 13, 14, 15, 16, 17, 18, 19, 20, 21, 22, 23, 24, 25], [0, 1, 2, 3, 4, 5, 6, 7, 8, 9, 10, 11, 12, 13, 14, 15, 16, 17, 18, 19, 20, 21, 22, 23, 24, 25, 26], [0, 1, 2, 3, 4, 5, 6, 7, 8, 9, 10, 11, 12, 13, 14, 15, 16, 17, 18, 19, 20, 21, 22, 23, 24, 25, 26], [0, 1, 2, 3, 4, 5, 6, 7, 8, 9, 10, 11, 12, 13, 14, 15, 16, 17, 18, 19, 20, 21, 22, 23, 24, 25, 26, 28], [0, 1, 2, 3, 4, 5, 6, 7, 8, 9, 10, 11, 12, 13, 14, 15, 16, 17, 18, 19, 20, 21, 22, 23, 24, 25, 26, 27, 28, 29], [0, 1, 2, 3, 4, 5, 6, 7, 8, 9, 10, 11, 12, 13, 14, 15, 16, 17, 18, 19, 20, 21, 22, 23, 24, 25, 26, 27, 28, 29, 30], [0, 1, 2, 3, 4, 5, 6, 7, 8, 9, 10, 11, 12, 13, 14, 15, 16, 17, 18, 19, 20, 21, 22, 23, 24, 25, 26, 27, 28, 29, 30, 31]]
    [fun v w' => RowsAt .i64 35 w' v ([]), fun v _ => v = .agg #[.int .i64 (powOf 0 1 0), .int .i64 (powOf 0 1 1), .int .i64 (powOf 0 1 2), .int .i64 (powOf 0 1 3), .int .i64 (powOf 0 1 4), .int .i64 (powOf 0 1 5), .int .i64 (powOf 0 1 6), .int .i64 (powOf 0 1 7)], fun v _ => v = .agg #[.int .i64 (powOf 1 5 0), .int .i64 (powOf 1 5 1), .int .i64 (powOf 1 5 2), .int .i64 (powOf 1 5 3), .int .i64 (powOf 1 5 4), .int .i64 (powOf 1 5 5), .int .i64 (powOf 1 5 6), .int .i64 (powOf 1 5 7)], fun v _ => v = .int .i64 1, fun v _ => v = .bool false, fun v _ => v = .bool false, fun v w' => RowsAt .i64 35 w' v ([onesOf 255]), fun v _ => v = .agg #[.int .i64 (powOf 0 1 0), .int .i64 (powOf 0 1 1), .int .i64 (powOf 0 1 2), .int .i64 (powOf 0 1 3), .int .i64 (powOf 0 1 4), .int .i64 (powOf 0 1 5), .int .i64 (powOf 0 1 6), .int .i64 (powOf 0 1 7)], fun v _ => v = .agg #[.int .i64 (powOf 1 5 0), .int .i64 (powOf 1 5 1), .int .i64 (powOf 1 5 2), .int .i64 (powOf 1 5 3), .int .i64 (powOf 1 5 4), .int .i64 (powOf 1 5 5), .int .i64 (powOf 1 5 6), .int .i64 (powOf 1 5 7)], fun v _ => v = .int .i64 (-1), fun v _ => v = .bool false, fun v _ => v = .bool false, fun v _ => v = .bool false, fun v w' => RowsAt .i64 35 w' v (revRows), fun v _ => v = .agg #[.int .i64 (aM 0), .int .i64 (aM 1), .int .i64 (aM 2), .int .i64 (aM 3), .int .i64 (aM 4), .int .i64 (aM 5), .int .i64 (aM 6), .int .i64 (aM 7)], fun v _ => v = .agg #[.int .i64 (powOf 1 2 0), .int .i64 (powOf 1 2 1), .int .i64 (powOf 1 2 2), .int .i64 (powOf 1 2 3), .int .i64 (powOf 1 2 4), .int .i64 (powOf 1 2 5), .int .i64 (powOf 1 2 6), .int .i64 (powOf 1 2 7)], fun v _ => v = .int .i64 (-1), fun v _ => v = .bool false, fun v _ => v = .bool false, fun v _ => v = .bool false, fun v w' => RowsAt .i64 35 w' v ([onesOf 255]), fun v _ => v = .agg #[.int .i64 (aM 0), .int .i64 (aM 1), .int .i64 (aM 2), .int .i64 (aM 3), .int .i64 (aM 4), .int .i64 (aM 5), .int .i64 (aM 6), .int .i64 (aM 7)], fun v _ => v = .agg #[.int .i64 (powOf 1 2 0), .int .i64 (powOf 1 2 1), .int .i64 (powOf 1 2 2), .int .i64 (powOf 1 2 3), .int .i64 (powOf 1 2 4), .int .i64 (powOf 1 2 5), .int .i64 (powOf 1 2 6), .int .i64 (powOf 1 2 7)], fun v _ => v = .int .i64 1, fun v _ => v = .bool false, fun v _ => v = .bool false, fun v _ => v = .bool false, fun v _ => v = .slice (some ⟨g3 + 2, 0, none⟩) 1 1, fun v _ => v = .agg #[.int .i64 (powOf 1 1 0), .int .i64 (powOf 1 1 1), .int .i64 (powOf 1 1 2), .int .i64 (powOf 1 1 3), .int .i64 (powOf 1 1 4), .int .i64 (powOf 1 1 5), .int .i64 (powOf 1 1 6), .int .i64 (powOf 1 1 7)], fun v _ => v = .agg #[.int .i64 (powOf 0 3 0), .int .i64 (powOf 0 3 1), .int .i64 (powOf 0 3 2), .int .i64 (powOf 0 3 3), .int .i64 (powOf 0 3 4), .int .i64 (powOf 0 3 5), .int .i64 (powOf 0 3 6), .int .i64 (powOf 0 3 7)], fun v _ => v = .int .i64 (-1), fun v _ => v = .bool false, fun v _ => v = .bool false]
    rfl (by kernel_rfl) (by kernel_rfl) ?stab ?steps ?fin
  case stab => exact .cons (fun _ _ _ he h => h.ext he) (.cons (Stab.eq _) (.cons (Stab.eq _) (.cons (Stab.eq _) (.cons (Stab.eq _) (.cons (Stab.eq _) (.cons (fun _ _ _ he h => h.ext he) (.cons (Stab.eq _) (.cons (Stab.eq _) (.cons (Stab.eq _) (.cons (Stab.eq _) (.cons (Stab.eq _) (.cons (Stab.eq _) (.cons (fun _ _ _ he h => h.ext he) (.cons (Stab.eq _) (.cons (Stab.eq _) (.cons (Stab.eq _) (.cons (Stab.eq _) (.cons (Stab.eq _) (.cons (Stab.eq _) (.cons (fun _ _ _ he h => h.ext he) (.cons (Stab.eq _) (.cons (Stab.eq _) (.cons (Stab.eq _) (.cons (Stab.eq _) (.cons (Stab.eq _) (.cons (Stab.eq _) (.cons (Stab.eq _) (.cons (Stab.eq _) (.cons (Stab.eq _) (.cons (Stab.eq _) (.cons (Stab.eq _) (.cons (Stab.eq _) .nil))))))))))))))))))))))))))))))))
  case steps =>
    refine .cons ?s0 (.cons ?s1 (.cons ?s2 (.cons ?s3 (.cons ?s4 (.cons ?s5 (.cons ?s6 (.cons ?s7 (.cons ?s8 (.cons ?s9 (.cons ?s10 (.cons ?s11 (.cons ?s12 (.cons ?s13 (.cons ?s14 (.cons ?s15 (.cons ?s16 (.cons ?s17 (.cons ?s18 (.cons ?s19 (.cons ?s20 (.cons ?s21 (.cons ?s22 (.cons ?s23 (.cons ?s24 (.cons ?s25 (.cons ?s26 (.cons ?s27 (.cons ?s28 (.cons ?s29 (.cons ?s30 (.cons ?s31 (.cons ?s32 .nil))))))))))))))))))))))))))))))))
    case s0 =>
      intro w' ev hE hk ha hc hf
      refine opStep_call (by simp [execOp, resolve, invoke, hf, hc, go_sem]) (Lex_any _) ?_
      rintro e w1 ⟨A, c, rfl, hO, hE1⟩
      exact ⟨_, rfl, hE1, hO.rows⟩
    case s1 =>
      intro w' ev hE hk ha hc hf
      have e2 : ev (.tmp 2) = .pointer (some ⟨g1 + 1, 0, none⟩) := ha 2 (by decide)
      have c0 : w'.cell? ⟨g1 + 1, 0, none⟩ = some (.int .i64 (powOf 0 1 0)) := hE.cellv (hB2.out.cell 0)
      have c1 : w'.cell? ⟨g1 + 1, 1, none⟩ = some (.int .i64 (powOf 0 1 1)) := hE.cellv (hB2.out.cell 1)
      have c2 : w'.cell? ⟨g1 + 1, 2, none⟩ = some (.int .i64 (powOf 0 1 2)) := hE.cellv (hB2.out.cell 2)
      have c3 : w'.cell? ⟨g1 + 1, 3, none⟩ = some (.int .i64 (powOf 0 1 3)) := hE.cellv (hB2.out.cell 3)
      have c4 : w'.cell? ⟨g1 + 1, 4, none⟩ = some (.int .i64 (powOf 0 1 4)) := hE.cellv (hB2.out.cell 4)
      have c5 : w'.cell? ⟨g1 + 1, 5, none⟩ = some (.int .i64 (powOf 0 1 5)) := hE.cellv (hB2.out.cell 5)
      have c6 : w'.cell? ⟨g1 + 1, 6, none⟩ = some (.int .i64 (powOf 0 1 6)) := hE.cellv (hB2.out.cell 6)
      have c7 : w'.cell? ⟨g1 + 1, 7, none⟩ = some (.int .i64 (powOf 0 1 7)) := hE.cellv (hB2.out.cell 7)
      exact opStep_val (by simp [execOp, e2, c0, c1, c2, c3, c4, c5, c6, c7, go_sem]) rfl
    case s2 =>
      intro w' ev hE hk ha hc hf
      have e1 : ev (.tmp 1) = .pointer (some ⟨g1, 0, none⟩) := ha 1 (by decide)
      have c0 : w'.cell? ⟨g1, 0, none⟩ = some (.int .i64 (powOf 1 5 0)) := hE.cellv (hB1.out.cell 0)
      have c1 : w'.cell? ⟨g1, 1, none⟩ = some (.int .i64 (powOf 1 5 1)) := hE.cellv (hB1.out.cell 1)
      have c2 : w'.cell? ⟨g1, 2, none⟩ = some (.int .i64 (powOf 1 5 2)) := hE.cellv (hB1.out.cell 2)
      have c3 : w'.cell? ⟨g1, 3, none⟩ = some (.int .i64 (powOf 1 5 3)) := hE.cellv (hB1.out.cell 3)
      have c4 : w'.cell? ⟨g1, 4, none⟩ = some (.int .i64 (powOf 1 5 4)) := hE.cellv (hB1.out.cell 4)
      have c5 : w'.cell? ⟨g1, 5, none⟩ = some (.int .i64 (powOf 1 5 5)) := hE.cellv (hB1.out.cell 5)
      have c6 : w'.cell? ⟨g1, 6, none⟩ = some (.int .i64 (powOf 1 5 6)) := hE.cellv (hB1.out.cell 6)
      have c7 : w'.cell? ⟨g1, 7, none⟩ = some (.int .i64 (powOf 1 5 7)) := hE.cellv (hB1.out.cell 7)
      exact opStep_val (by simp [execOp, e1, c0, c1, c2, c3, c4, c5, c6, c7, go_sem]) rfl
    case s3 =>
      intro w' ev hE hk ha hc hf
      have f18 := hk.1 _ rfl
      have e19 : ev (.tmp 19) = .agg #[.int .i64 (powOf 0 1 0), .int .i64 (powOf 0 1 1), .int .i64 (powOf 0 1 2), .int .i64 (powOf 0 1 3), .int .i64 (powOf 0 1 4), .int .i64 (powOf 0 1 5), .int .i64 (powOf 0 1 6), .int .i64 (powOf 0 1 7)] := hk.2.1 _ rfl
      have e20 : ev (.tmp 20) = .agg #[.int .i64 (powOf 1 5 0), .int .i64 (powOf 1 5 1), .int .i64 (powOf 1 5 2), .int .i64 (powOf 1 5 3), .int .i64 (powOf 1 5 4), .int .i64 (powOf 1 5 5), .int .i64 (powOf 1 5 6), .int .i64 (powOf 1 5 7)] := hk.2.2.1 _ rfl
      refine opStep_call (by simp [execOp, resolve, invoke, hf, e19, e20, go_sem]) (oCmp_any (ev (.tmp 18)) ([]) (powOf 0 1) (powOf 1 5) _ f18 (fun r h => by cases h) (powOf_in _ (by omega) (by omega)) (powOf_in _ (by omega) (by omega))) ?_
      rintro e w1 ⟨rfl, hE1⟩
      exact ⟨_, rfl, hE1, by rw [ex1]⟩
    case s4 =>
      intro w' ev hE hk ha hc hf
      have e21 : ev (.tmp 21) = .int .i64 1 := hk.1 _ rfl
      exact opStep_val (by simp [execOp, e21, hc, go_sem]) rfl
    case s5 =>
      intro w' ev hE hk ha hc hf
      have e22 : ev (.tmp 22) = .bool false := hk.1 _ rfl
      exact opStep_val (by simp [execOp, e22, go_sem]) rfl
    case s6 =>
      intro w' ev hE hk ha hc hf
      intro gv hg
      have hgv := hg _ rfl
      refine ⟨fun hgt => ?_, fun hgf => ?_⟩
      · skip
        refine opStep_call (by simp [execOp, resolve, invoke, hf, hc, go_sem]) (Graded_any _) ?_
        rintro e w1 ⟨A, c, rfl, hO, hE1⟩
        exact ⟨_, rfl, hE1, hO.rows⟩
      · exact absurd hgv hgf
    case s7 =>
      intro w' ev hE hk ha hc hf
      intro gv hg
      have hgv := hg _ rfl
      refine ⟨fun hgt => ?_, fun hgf => ?_⟩
      · skip
        have e2 : ev (.tmp 2) = .pointer (some ⟨g1 + 1, 0, none⟩) := ha 2 (by decide)
        have c0 : w'.cell? ⟨g1 + 1, 0, none⟩ = some (.int .i64 (powOf 0 1 0)) := hE.cellv (hB2.out.cell 0)
        have c1 : w'.cell? ⟨g1 + 1, 1, none⟩ = some (.int .i64 (powOf 0 1 1)) := hE.cellv (hB2.out.cell 1)
        have c2 : w'.cell? ⟨g1 + 1, 2, none⟩ = some (.int .i64 (powOf 0 1 2)) := hE.cellv (hB2.out.cell 2)
        have c3 : w'.cell? ⟨g1 + 1, 3, none⟩ = some (.int .i64 (powOf 0 1 3)) := hE.cellv (hB2.out.cell 3)
        have c4 : w'.cell? ⟨g1 + 1, 4, none⟩ = some (.int .i64 (powOf 0 1 4)) := hE.cellv (hB2.out.cell 4)
        have c5 : w'.cell? ⟨g1 + 1, 5, none⟩ = some (.int .i64 (powOf 0 1 5)) := hE.cellv (hB2.out.cell 5)
        have c6 : w'.cell? ⟨g1 + 1, 6, none⟩ = some (.int .i64 (powOf 0 1 6)) := hE.cellv (hB2.out.cell 6)
        have c7 : w'.cell? ⟨g1 + 1, 7, none⟩ = some (.int .i64 (powOf 0 1 7)) := hE.cellv (hB2.out.cell 7)
        exact opStep_val (by simp [execOp, e2, c0, c1, c2, c3, c4, c5, c6, c7, go_sem]) rfl
      · exact absurd hgv hgf
    case s8 =>
      intro w' ev hE hk ha hc hf
      intro gv hg
      have hgv := hg _ rfl
      refine ⟨fun hgt => ?_, fun hgf => ?_⟩
      · skip
        have e1 : ev (.tmp 1) = .pointer (some ⟨g1, 0, none⟩) := ha 1 (by decide)
        have c0 : w'.cell? ⟨g1, 0, none⟩ = some (.int .i64 (powOf 1 5 0)) := hE.cellv (hB1.out.cell 0)
        have c1 : w'.cell? ⟨g1, 1, none⟩ = some (.int .i64 (powOf 1 5 1)) := hE.cellv (hB1.out.cell 1)
        have c2 : w'.cell? ⟨g1, 2, none⟩ = some (.int .i64 (powOf 1 5 2)) := hE.cellv (hB1.out.cell 2)
        have c3 : w'.cell? ⟨g1, 3, none⟩ = some (.int .i64 (powOf 1 5 3)) := hE.cellv (hB1.out.cell 3)
        have c4 : w'.cell? ⟨g1, 4, none⟩ = some (.int .i64 (powOf 1 5 4)) := hE.cellv (hB1.out.cell 4)
        have c5 : w'.cell? ⟨g1, 5, none⟩ = some (.int .i64 (powOf 1 5 5)) := hE.cellv (hB1.out.cell 5)
        have c6 : w'.cell? ⟨g1, 6, none⟩ = some (.int .i64 (powOf 1 5 6)) := hE.cellv (hB1.out.cell 6)
        have c7 : w'.cell? ⟨g1, 7, none⟩ = some (.int .i64 (powOf 1 5 7)) := hE.cellv (hB1.out.cell 7)
        exact opStep_val (by simp [execOp, e1, c0, c1, c2, c3, c4, c5, c6, c7, go_sem]) rfl
      · exact absurd hgv hgf
    case s9 =>
      intro w' ev hE hk ha hc hf
      intro gv hg
      have hgv := hg _ rfl
      refine ⟨fun hgt => ?_, fun hgf => ?_⟩
      · skip
        have f24 := hk.1 _ rfl
        have e25 : ev (.tmp 25) = .agg #[.int .i64 (powOf 0 1 0), .int .i64 (powOf 0 1 1), .int .i64 (powOf 0 1 2), .int .i64 (powOf 0 1 3), .int .i64 (powOf 0 1 4), .int .i64 (powOf 0 1 5), .int .i64 (powOf 0 1 6), .int .i64 (powOf 0 1 7)] := hk.2.1 _ rfl
        have e26 : ev (.tmp 26) = .agg #[.int .i64 (powOf 1 5 0), .int .i64 (powOf 1 5 1), .int .i64 (powOf 1 5 2), .int .i64 (powOf 1 5 3), .int .i64 (powOf 1 5 4), .int .i64 (powOf 1 5 5), .int .i64 (powOf 1 5 6), .int .i64 (powOf 1 5 7)] := hk.2.2.1 _ rfl
        refine opStep_call (by simp [execOp, resolve, invoke, hf, e25, e26, go_sem]) (oCmp_any (ev (.tmp 24)) ([onesOf 255]) (powOf 0 1) (powOf 1 5) _ f24 (graded_in) (powOf_in _ (by omega) (by omega)) (powOf_in _ (by omega) (by omega))) ?_
        rintro e w1 ⟨rfl, hE1⟩
        exact ⟨_, rfl, hE1, by rw [ex2]⟩
      · exact absurd hgv hgf
    case s10 =>
      intro w' ev hE hk ha hc hf
      intro gv hg
      have hgv := hg _ rfl
      refine ⟨fun hgt => ?_, fun hgf => ?_⟩
      · skip
        have e27 : ev (.tmp 27) = .int .i64 (-1) := hk.1 _ rfl
        exact opStep_val (by simp [execOp, e27, hc, go_sem]) rfl
      · exact absurd hgv hgf
    case s11 =>
      intro w' ev hE hk ha hc hf
      have e23 : ev (.tmp 23) = .bool false := hk.1 _ rfl
      have e28 : ev (.tmp 28) = .bool false := hk.2.1 _ rfl
      exact opStep_val (by simp [execOp, e23, e28, hc, go_sem]) rfl
    case s12 =>
      intro w' ev hE hk ha hc hf
      have e29 : ev (.tmp 29) = .bool false := hk.1 _ rfl
      exact opStep_val (by simp [execOp, e29, go_sem]) rfl
    case s13 =>
      intro w' ev hE hk ha hc hf
      intro gv hg
      have hgv := hg _ rfl
      refine ⟨fun hgt => ?_, fun hgf => ?_⟩
      · skip
        refine opStep_call (by simp [execOp, resolve, invoke, hf, hc, go_sem]) (Reverse_any _) ?_
        rintro e w1 ⟨A, c, rfl, hO, hE1⟩
        exact ⟨_, rfl, hE1, hO.rows⟩
      · exact absurd hgv hgf
    case s14 =>
      intro w' ev hE hk ha hc hf
      intro gv hg
      have hgv := hg _ rfl
      refine ⟨fun hgt => ?_, fun hgf => ?_⟩
      · skip
        have e3 : ev (.tmp 3) = .pointer (some ⟨g3, 0, none⟩) := ha 3 (by decide)
        have c0 : w'.cell? ⟨g3, 0, none⟩ = some (.int .i64 (aM 0)) := hE.cellv (hB3.out.cell 0)
        have c1 : w'.cell? ⟨g3, 1, none⟩ = some (.int .i64 (aM 1)) := hE.cellv (hB3.out.cell 1)
        have c2 : w'.cell? ⟨g3, 2, none⟩ = some (.int .i64 (aM 2)) := hE.cellv (hB3.out.cell 2)
        have c3 : w'.cell? ⟨g3, 3, none⟩ = some (.int .i64 (aM 3)) := hE.cellv (hB3.out.cell 3)
        have c4 : w'.cell? ⟨g3, 4, none⟩ = some (.int .i64 (aM 4)) := hE.cellv (hB3.out.cell 4)
        have c5 : w'.cell? ⟨g3, 5, none⟩ = some (.int .i64 (aM 5)) := hE.cellv (hB3.out.cell 5)
        have c6 : w'.cell? ⟨g3, 6, none⟩ = some (.int .i64 (aM 6)) := hE.cellv (hB3.out.cell 6)
        have c7 : w'.cell? ⟨g3, 7, none⟩ = some (.int .i64 (aM 7)) := hE.cellv (hB3.out.cell 7)
        exact opStep_val (by simp [execOp, e3, c0, c1, c2, c3, c4, c5, c6, c7, go_sem]) rfl
      · exact absurd hgv hgf
    case s15 =>
      intro w' ev hE hk ha hc hf
      intro gv hg
      have hgv := hg _ rfl
      refine ⟨fun hgt => ?_, fun hgf => ?_⟩
      · skip
        have e4 : ev (.tmp 4) = .pointer (some ⟨g3 + 1, 0, none⟩) := ha 4 (by decide)
        have c0 : w'.cell? ⟨g3 + 1, 0, none⟩ = some (.int .i64 (powOf 1 2 0)) := hE.cellv (hB4.out.cell 0)
        have c1 : w'.cell? ⟨g3 + 1, 1, none⟩ = some (.int .i64 (powOf 1 2 1)) := hE.cellv (hB4.out.cell 1)
        have c2 : w'.cell? ⟨g3 + 1, 2, none⟩ = some (.int .i64 (powOf 1 2 2)) := hE.cellv (hB4.out.cell 2)
        have c3 : w'.cell? ⟨g3 + 1, 3, none⟩ = some (.int .i64 (powOf 1 2 3)) := hE.cellv (hB4.out.cell 3)
        have c4 : w'.cell? ⟨g3 + 1, 4, none⟩ = some (.int .i64 (powOf 1 2 4)) := hE.cellv (hB4.out.cell 4)
        have c5 : w'.cell? ⟨g3 + 1, 5, none⟩ = some (.int .i64 (powOf 1 2 5)) := hE.cellv (hB4.out.cell 5)
        have c6 : w'.cell? ⟨g3 + 1, 6, none⟩ = some (.int .i64 (powOf 1 2 6)) := hE.cellv (hB4.out.cell 6)
        have c7 : w'.cell? ⟨g3 + 1, 7, none⟩ = some (.int .i64 (powOf 1 2 7)) := hE.cellv (hB4.out.cell 7)
        exact opStep_val (by simp [execOp, e4, c0, c1, c2, c3, c4, c5, c6, c7, go_sem]) rfl
      · exact absurd hgv hgf
    case s16 =>
      intro w' ev hE hk ha hc hf
      intro gv hg
      have hgv := hg _ rfl
      refine ⟨fun hgt => ?_, fun hgf => ?_⟩
      · skip
        have f31 := hk.1 _ rfl
        have e32 : ev (.tmp 32) = .agg #[.int .i64 (aM 0), .int .i64 (aM 1), .int .i64 (aM 2), .int .i64 (aM 3), .int .i64 (aM 4), .int .i64 (aM 5), .int .i64 (aM 6), .int .i64 (aM 7)] := hk.2.1 _ rfl
        have e33 : ev (.tmp 33) = .agg #[.int .i64 (powOf 1 2 0), .int .i64 (powOf 1 2 1), .int .i64 (powOf 1 2 2), .int .i64 (powOf 1 2 3), .int .i64 (powOf 1 2 4), .int .i64 (powOf 1 2 5), .int .i64 (powOf 1 2 6), .int .i64 (powOf 1 2 7)] := hk.2.2.1 _ rfl
        refine opStep_call (by simp [execOp, resolve, invoke, hf, e32, e33, go_sem]) (oCmp_any (ev (.tmp 31)) (revRows) (aM) (powOf 1 2) _ f31 (revRows_in) (aM_in) (powOf_in _ (by omega) (by omega))) ?_
        rintro e w1 ⟨rfl, hE1⟩
        exact ⟨_, rfl, hE1, by rw [ex3]⟩
      · exact absurd hgv hgf
    case s17 =>
      intro w' ev hE hk ha hc hf
      intro gv hg
      have hgv := hg _ rfl
      refine ⟨fun hgt => ?_, fun hgf => ?_⟩
      · skip
        have e34 : ev (.tmp 34) = .int .i64 (-1) := hk.1 _ rfl
        exact opStep_val (by simp [execOp, e34, hc, go_sem]) rfl
      · exact absurd hgv hgf
    case s18 =>
      intro w' ev hE hk ha hc hf
      have e30 : ev (.tmp 30) = .bool false := hk.1 _ rfl
      have e35 : ev (.tmp 35) = .bool false := hk.2.1 _ rfl
      exact opStep_val (by simp [execOp, e30, e35, hc, go_sem]) rfl
    case s19 =>
      intro w' ev hE hk ha hc hf
      have e36 : ev (.tmp 36) = .bool false := hk.1 _ rfl
      exact opStep_val (by simp [execOp, e36, go_sem]) rfl
    case s20 =>
      intro w' ev hE hk ha hc hf
      intro gv hg
      have hgv := hg _ rfl
      refine ⟨fun hgt => ?_, fun hgf => ?_⟩
      · skip
        refine opStep_call (by simp [execOp, resolve, invoke, hf, hc, go_sem]) (Graded_any _) ?_
        rintro e w1 ⟨A, c, rfl, hO, hE1⟩
        exact ⟨_, rfl, hE1, hO.rows⟩
      · exact absurd hgv hgf
    case s21 =>
      intro w' ev hE hk ha hc hf
      intro gv hg
      have hgv := hg _ rfl
      refine ⟨fun hgt => ?_, fun hgf => ?_⟩
      · skip
        have e3 : ev (.tmp 3) = .pointer (some ⟨g3, 0, none⟩) := ha 3 (by decide)
        have c0 : w'.cell? ⟨g3, 0, none⟩ = some (.int .i64 (aM 0)) := hE.cellv (hB3.out.cell 0)
        have c1 : w'.cell? ⟨g3, 1, none⟩ = some (.int .i64 (aM 1)) := hE.cellv (hB3.out.cell 1)
        have c2 : w'.cell? ⟨g3, 2, none⟩ = some (.int .i64 (aM 2)) := hE.cellv (hB3.out.cell 2)
        have c3 : w'.cell? ⟨g3, 3, none⟩ = some (.int .i64 (aM 3)) := hE.cellv (hB3.out.cell 3)
        have c4 : w'.cell? ⟨g3, 4, none⟩ = some (.int .i64 (aM 4)) := hE.cellv (hB3.out.cell 4)
        have c5 : w'.cell? ⟨g3, 5, none⟩ = some (.int .i64 (aM 5)) := hE.cellv (hB3.out.cell 5)
        have c6 : w'.cell? ⟨g3, 6, none⟩ = some (.int .i64 (aM 6)) := hE.cellv (hB3.out.cell 6)
        have c7 : w'.cell? ⟨g3, 7, none⟩ = some (.int .i64 (aM 7)) := hE.cellv (hB3.out.cell 7)
        exact opStep_val (by simp [execOp, e3, c0, c1, c2, c3, c4, c5, c6, c7, go_sem]) rfl
      · exact absurd hgv hgf
    case s22 =>
      intro w' ev hE hk ha hc hf
      intro gv hg
      have hgv := hg _ rfl
      refine ⟨fun hgt => ?_, fun hgf => ?_⟩
      · skip
        have e4 : ev (.tmp 4) = .pointer (some ⟨g3 + 1, 0, none⟩) := ha 4 (by decide)
        have c0 : w'.cell? ⟨g3 + 1, 0, none⟩ = some (.int .i64 (powOf 1 2 0)) := hE.cellv (hB4.out.cell 0)
        have c1 : w'.cell? ⟨g3 + 1, 1, none⟩ = some (.int .i64 (powOf 1 2 1)) := hE.cellv (hB4.out.cell 1)
        have c2 : w'.cell? ⟨g3 + 1, 2, none⟩ = some (.int .i64 (powOf 1 2 2)) := hE.cellv (hB4.out.cell 2)
        have c3 : w'.cell? ⟨g3 + 1, 3, none⟩ = some (.int .i64 (powOf 1 2 3)) := hE.cellv (hB4.out.cell 3)
        have c4 : w'.cell? ⟨g3 + 1, 4, none⟩ = some (.int .i64 (powOf 1 2 4)) := hE.cellv (hB4.out.cell 4)
        have c5 : w'.cell? ⟨g3 + 1, 5, none⟩ = some (.int .i64 (powOf 1 2 5)) := hE.cellv (hB4.out.cell 5)
        have c6 : w'.cell? ⟨g3 + 1, 6, none⟩ = some (.int .i64 (powOf 1 2 6)) := hE.cellv (hB4.out.cell 6)
        have c7 : w'.cell? ⟨g3 + 1, 7, none⟩ = some (.int .i64 (powOf 1 2 7)) := hE.cellv (hB4.out.cell 7)
        exact opStep_val (by simp [execOp, e4, c0, c1, c2, c3, c4, c5, c6, c7, go_sem]) rfl
      · exact absurd hgv hgf
    case s23 =>
      intro w' ev hE hk ha hc hf
      intro gv hg
      have hgv := hg _ rfl
      refine ⟨fun hgt => ?_, fun hgf => ?_⟩
      · skip
        have f38 := hk.1 _ rfl
        have e39 : ev (.tmp 39) = .agg #[.int .i64 (aM 0), .int .i64 (aM 1), .int .i64 (aM 2), .int .i64 (aM 3), .int .i64 (aM 4), .int .i64 (aM 5), .int .i64 (aM 6), .int .i64 (aM 7)] := hk.2.1 _ rfl
        have e40 : ev (.tmp 40) = .agg #[.int .i64 (powOf 1 2 0), .int .i64 (powOf 1 2 1), .int .i64 (powOf 1 2 2), .int .i64 (powOf 1 2 3), .int .i64 (powOf 1 2 4), .int .i64 (powOf 1 2 5), .int .i64 (powOf 1 2 6), .int .i64 (powOf 1 2 7)] := hk.2.2.1 _ rfl
        refine opStep_call (by simp [execOp, resolve, invoke, hf, e39, e40, go_sem]) (oCmp_any (ev (.tmp 38)) ([onesOf 255]) (aM) (powOf 1 2) _ f38 (graded_in) (aM_in) (powOf_in _ (by omega) (by omega))) ?_
        rintro e w1 ⟨rfl, hE1⟩
        exact ⟨_, rfl, hE1, by rw [ex4]⟩
      · exact absurd hgv hgf
    case s24 =>
      intro w' ev hE hk ha hc hf
      intro gv hg
      have hgv := hg _ rfl
      refine ⟨fun hgt => ?_, fun hgf => ?_⟩
      · skip
        have e41 : ev (.tmp 41) = .int .i64 1 := hk.1 _ rfl
        exact opStep_val (by simp [execOp, e41, hc, go_sem]) rfl
      · exact absurd hgv hgf
    case s25 =>
      intro w' ev hE hk ha hc hf
      have e37 : ev (.tmp 37) = .bool false := hk.1 _ rfl
      have e42 : ev (.tmp 42) = .bool false := hk.2.1 _ rfl
      exact opStep_val (by simp [execOp, e37, e42, hc, go_sem]) rfl
    case s26 =>
      intro w' ev hE hk ha hc hf
      have e43 : ev (.tmp 43) = .bool false := hk.1 _ rfl
      exact opStep_val (by simp [execOp, e43, go_sem]) rfl
    case s27 =>
      intro w' ev hE hk ha hc hf
      intro gv hg
      have hgv := hg _ rfl
      refine ⟨fun hgt => ?_, fun hgf => ?_⟩
      · skip
        have e5 : ev (.tmp 5) = .slice (some ⟨g3 + 2, 0, none⟩) 1 1 := ha 5 (by decide)
        exact opStep_val (by simp [execOp, e5, go_sem]) rfl
      · exact absurd hgv hgf
    case s28 =>
      intro w' ev hE hk ha hc hf
      intro gv hg
      have hgv := hg _ rfl
      refine ⟨fun hgt => ?_, fun hgf => ?_⟩
      · skip
        refine opStep_call (by simp [execOp, resolve, invoke, hf, hc, go_sem]) (Power_any 1 1 _ (by omega)) ?_
        rintro e w1 ⟨rfl, hE1⟩
        exact ⟨_, rfl, hE1, rfl⟩
      · exact absurd hgv hgf
    case s29 =>
      intro w' ev hE hk ha hc hf
      intro gv hg
      have hgv := hg _ rfl
      refine ⟨fun hgt => ?_, fun hgf => ?_⟩
      · skip
        refine opStep_call (by simp [execOp, resolve, invoke, hf, hc, go_sem]) (Power_any 0 3 _ (by omega)) ?_
        rintro e w1 ⟨rfl, hE1⟩
        exact ⟨_, rfl, hE1, rfl⟩
      · exact absurd hgv hgf
    case s30 =>
      intro w' ev hE hk ha hc hf
      intro gv hg
      have hgv := hg _ rfl
      refine ⟨fun hgt => ?_, fun hgf => ?_⟩
      · skip
        have e45 : ev (.tmp 45) = .slice (some ⟨g3 + 2, 0, none⟩) 1 1 := hk.1 _ rfl
        have e46 : ev (.tmp 46) = .agg #[.int .i64 (powOf 1 1 0), .int .i64 (powOf 1 1 1), .int .i64 (powOf 1 1 2), .int .i64 (powOf 1 1 3), .int .i64 (powOf 1 1 4), .int .i64 (powOf 1 1 5), .int .i64 (powOf 1 1 6), .int .i64 (powOf 1 1 7)] := hk.2.1 _ rfl
        have e47 : ev (.tmp 47) = .agg #[.int .i64 (powOf 0 3 0), .int .i64 (powOf 0 3 1), .int .i64 (powOf 0 3 2), .int .i64 (powOf 0 3 3), .int .i64 (powOf 0 3 4), .int .i64 (powOf 0 3 5), .int .i64 (powOf 0 3 6), .int .i64 (powOf 0 3 7)] := hk.2.2.1 _ rfl
        refine opStep_call (by simp [execOp, resolve, invoke, hf, e45, e46, e47, go_sem]) (oCmp_any _ [wRow] (powOf 1 1) (powOf 0 3) _ (hWS.out.ext ((Ext.refl _).drew.trans hE)) w_in (powOf_in _ (by omega) (by omega)) (powOf_in _ (by omega) (by omega))) ?_
        rintro e w1 ⟨rfl, hE1⟩
        exact ⟨_, rfl, hE1, by rw [ex5]⟩
      · exact absurd hgv hgf
    case s31 =>
      intro w' ev hE hk ha hc hf
      intro gv hg
      have hgv := hg _ rfl
      refine ⟨fun hgt => ?_, fun hgf => ?_⟩
      · skip
        have e48 : ev (.tmp 48) = .int .i64 (-1) := hk.1 _ rfl
        exact opStep_val (by simp [execOp, e48, hc, go_sem]) rfl
      · exact absurd hgv hgf
    case s32 =>
      intro w' ev hE hk ha hc hf
      have e44 : ev (.tmp 44) = .bool false := hk.1 _ rfl
      have e49 : ev (.tmp 49) = .bool false := hk.2.1 _ rfl
      exact opStep_val (by simp [execOp, e44, e49, hc, go_sem]) rfl
  case fin =>
    intro gf w' hE hF
    have e32 := hF 32 _ rfl
    simp only [List.length_cons, List.length_nil, Nat.reduceAdd, List.drop_succ_cons, List.drop_zero, List.take_succ_cons, List.take_zero, putG, Act.put, List.setIfInBounds_toArray, List.set_cons_succ, List.set_cons_zero, e32]
    have hEn : Ext w6 w' := (Ext.refl _).drew.trans hE
    replace hB1 := hide (hB1.out.ext hEn)
    replace hB2 := hide (hB2.out.ext hEn)
    replace hWS := hide (hWS.out.ext hEn)
    replace hE6 := hide (hE6.out.trans hEn)
    clear hF e32 hE hEn hB3 hB4
    go_wp2_with fail
    refine (Lex_any _).mono ?_
    rintro e w7 ⟨A, c, rfl, hO, hE7⟩
    go_wp2_with fail
    refine (full_lex _ _ hO.rows).mono ?_
    rintro e w8 ⟨A8, c8', rfl, hE8⟩
    replace hE6 := hide ((hE6.out.trans hE7).trans hE8)
    replace hB1 := hide ((hB1.out.ext hE7).ext hE8)
    replace hB2 := hide ((hB2.out.ext hE7).ext hE8)
    replace hWS := hide ((hWS.out.ext hE7).ext hE8)
    clear hO hE7 hE8
    go_wp2_with fail
    refine (Graded_any _).mono ?_
    rintro e w9 ⟨A1, c1, rfl, hO, hE7⟩
    go_wp2_with fail
    refine (full_graded _ _ hO.rows).mono ?_
    rintro e w10 ⟨A9, c9, rfl, hE8⟩
    replace hE6 := hide ((hE6.out.trans hE7).trans hE8)
    replace hB1 := hide ((hB1.out.ext hE7).ext hE8)
    replace hB2 := hide ((hB2.out.ext hE7).ext hE8)
    replace hWS := hide ((hWS.out.ext hE7).ext hE8)
    clear hO hE7 hE8
    go_wp2_with fail
    refine (Reverse_any _).mono ?_
    rintro e w11 ⟨A2, c2, rfl, hO, hE7⟩
    go_wp2_with fail
    refine (full_rev _ _ hO.rows).mono ?_
    rintro e w12 ⟨A10, c10, rfl, hE8⟩
    replace hE6 := hide ((hE6.out.trans hE7).trans hE8)
    replace hB1 := hide ((hB1.out.ext hE7).ext hE8)
    replace hB2 := hide ((hB2.out.ext hE7).ext hE8)
    replace hWS := hide ((hWS.out.ext hE7).ext hE8)
    clear hO hE7 hE8
    go_upto_region 9 with (fail)
    refine wp_region_v (by kernel_rfl) [[], [(66, 0)], [(67, 1)], [], [(69, 3)], [(70, 4)], [(68, 2), (71, 5)], [(72, 6)], [], [], [], [], [(75, 9), (76, 10), (77, 11)], [(74, 8), (78, 12)], [(79, 13)], [(80, 14)], [(73, 7), (81, 15)]] [[], [0], [0, 1], [0, 1, 2], [0, 1, 2, 3], [0, 1, 2, 3, 4], [0, 1, 2, 3, 4, 5], [0, 1, 2, 3, 4, 5, 6], [0, 1, 2, 3, 4, 5, 6, 7], [0, 1, 2, 3, 4, 5, 6, 7], [0, 1, 2, 3, 4, 5, 6, 7], [0, 1, 2, 3, 4, 5, 6, 7], [0, 1, 2, 3, 4, 5, 6, 7, 9, 10, 11], [0, 1, 2, 3, 4, 5, 6, 7, 8, 9, 10, 11, 12], [0, 1, 2, 3, 4, 5, 6, 7, 8, 9, 10, 11, 12, 13], [0, 1, 2, 3, 4, 5, 6, 7, 8, 9, 10, 11, 12, 13, 14], [0, 1, 2, 3, 4, 5, 6, 7, 8, 9, 10, 11, 12, 13, 14, 15]]
      [fun v w' => RowsAt .i64 35 w' v (revRows), fun v _ => v = .bool false, fun v _ => v = .bool false, fun v w' => RowsAt .i64 35 w' v (onesOf 2 :: revRows), fun v _ => v = .bool true, fun v _ => v = .bool false, fun v _ => v = .bool false, fun v _ => v = .bool false, fun v w' => RowsAt .i64 35 w' v ([]), fun v _ => v = .agg #[.int .i64 (powOf 1 5 0), .int .i64 (powOf 1 5 1), .int .i64 (powOf 1 5 2), .int .i64 (powOf 1 5 3), .int .i64 (powOf 1 5 4), .int .i64 (powOf 1 5 5), .int .i64 (powOf 1 5 6), .int .i64 (powOf 1 5 7)], fun v _ => v = .agg #[.int .i64 (powOf 0 1 0), .int .i64 (powOf 0 1 1), .int .i64 (powOf 0 1 2), .int .i64 (powOf 0 1 3), .int .i64 (powOf 0 1 4), .int .i64 (powOf 0 1 5), .int .i64 (powOf 0 1 6), .int .i64 (powOf 0 1 7)], fun v _ => v = .agg #[.int .i64 (powOf 1 5 0), .int .i64 (powOf 1 5 1), .int .i64 (powOf 1 5 2), .int .i64 (powOf 1 5 3), .int .i64 (powOf 1 5 4), .int .i64 (powOf 1 5 5), .int .i64 (powOf 1 5 6), .int .i64 (powOf 1 5 7)], fun v w' => RowsAt .i64 36 w' v [powOf 1 5, powOf 0 1, powOf 1 5], fun v _ => ∃ A c, v = .slice A 2 c, fun v _ => v = .int .i64 2, fun v _ => v = .bool false, fun v _ => v = .bool false]
      rfl (by kernel_rfl) (by kernel_rfl) ?stab ?steps ?fin
    case stab => exact .cons (fun _ _ _ he h => h.ext he) (.cons (Stab.eq _) (.cons (Stab.eq _) (.cons (fun _ _ _ he h => h.ext he) (.cons (Stab.eq _) (.cons (Stab.eq _) (.cons (Stab.eq _) (.cons (Stab.eq _) (.cons (fun _ _ _ he h => h.ext he) (.cons (Stab.eq _) (.cons (Stab.eq _) (.cons (Stab.eq _) (.cons (fun _ _ _ he h => h.ext he) (.cons (fun _ _ _ _ h => h) (.cons (Stab.eq _) (.cons (Stab.eq _) (.cons (Stab.eq _) .nil))))))))))))))))
    case steps =>
      refine .cons ?s0 (.cons ?s1 (.cons ?s2 (.cons ?s3 (.cons ?s4 (.cons ?s5 (.cons ?s6 (.cons ?s7 (.cons ?s8 (.cons ?s9 (.cons ?s10 (.cons ?s11 (.cons ?s12 (.cons ?s13 (.cons ?s14 (.cons ?s15 (.cons ?s16 .nil))))))))))))))))
      case s0 =>
        intro w' ev hE hk ha hc hf
        refine opStep_call (by simp [execOp, resolve, invoke, hf, hc, go_sem]) (Reverse_any _) ?_
        rintro e w1 ⟨A, c, rfl, hO, hE1⟩
        exact ⟨_, rfl, hE1, hO.rows⟩
      case s1 =>
        intro w' ev hE hk ha hc hf
        have f66 := hk.1 _ rfl
        refine opStep_call (by simp [execOp, resolve, invoke, hf, hc, go_sem]) (Eliminates_any (ev (.tmp 66)) revRows 1 _ f66 revRows_in (by omega)) ?_
        rintro e w1 ⟨rfl, hE1⟩
        exact ⟨_, rfl, hE1, by rw [elimB_false not_elim_rev]⟩
      case s2 =>
        intro w' ev hE hk ha hc hf
        have e67 : ev (.tmp 67) = .bool false := hk.1 _ rfl
        exact opStep_val (by simp [execOp, e67, go_sem]) rfl
      case s3 =>
        intro w' ev hE hk ha hc hf
        intro gv hg
        have hgv := hg _ rfl
        refine ⟨fun hgt => ?_, fun hgf => ?_⟩
        · skip
          refine opStep_call (by simp [execOp, resolve, invoke, hf, hc, go_sem]) (Eliminating_any 2 _ (by omega)) ?_
          rintro e w1 ⟨A, c, rfl, hO, hE1⟩
          exact ⟨_, rfl, hE1, hO.rows⟩
        · exact absurd hgv hgf
      case s4 =>
        intro w' ev hE hk ha hc hf
        intro gv hg
        have hgv := hg _ rfl
        refine ⟨fun hgt => ?_, fun hgf => ?_⟩
        · skip
          have f69 := hk.1 _ rfl
          refine opStep_call (by simp [execOp, resolve, invoke, hf, hc, go_sem]) (Eliminates_any (ev (.tmp 69)) (onesOf 2 :: revRows) 2 _ f69 (elim_in 2) (by omega)) ?_
          rintro e w1 ⟨rfl, hE1⟩
          exact ⟨_, rfl, hE1, by rw [elimB_true (elim_mask 2 revRows)]⟩
        · exact absurd hgv hgf
      case s5 =>
        intro w' ev hE hk ha hc hf
        intro gv hg
        have hgv := hg _ rfl
        refine ⟨fun hgt => ?_, fun hgf => ?_⟩
        · skip
          have e70 : ev (.tmp 70) = .bool true := hk.1 _ rfl
          exact opStep_val (by simp [execOp, e70, go_sem]) rfl
        · exact absurd hgv hgf
      case s6 =>
        intro w' ev hE hk ha hc hf
        have e68 : ev (.tmp 68) = .bool false := hk.1 _ rfl
        have e71 : ev (.tmp 71) = .bool false := hk.2.1 _ rfl
        exact opStep_val (by simp [execOp, e68, e71, hc, go_sem]) rfl
      case s7 =>
        intro w' ev hE hk ha hc hf
        have e72 : ev (.tmp 72) = .bool false := hk.1 _ rfl
        exact opStep_val (by simp [execOp, e72, go_sem]) rfl
      case s8 =>
        intro w' ev hE hk ha hc hf
        intro gv hg
        have hgv := hg _ rfl
        refine ⟨fun hgt => ?_, fun hgf => ?_⟩
        · skip
          refine opStep_call (by simp [execOp, resolve, invoke, hf, hc, go_sem]) (Lex_any _) ?_
          rintro e w1 ⟨A, c, rfl, hO, hE1⟩
          exact ⟨_, rfl, hE1, hO.rows⟩
        · exact absurd hgv hgf
      case s9 =>
        intro w' ev hE hk ha hc hf
        intro gv hg
        have hgv := hg _ rfl
        refine ⟨fun hgt => ?_, fun hgf => ?_⟩
        · skip
          have e1 : ev (.tmp 1) = .pointer (some ⟨g1, 0, none⟩) := ha 1 (by decide)
          have c0 : w'.cell? ⟨g1, 0, none⟩ = some (.int .i64 (powOf 1 5 0)) := hE.cellv (hB1.out.cell 0)
          have c1 : w'.cell? ⟨g1, 1, none⟩ = some (.int .i64 (powOf 1 5 1)) := hE.cellv (hB1.out.cell 1)
          have c2 : w'.cell? ⟨g1, 2, none⟩ = some (.int .i64 (powOf 1 5 2)) := hE.cellv (hB1.out.cell 2)
          have c3 : w'.cell? ⟨g1, 3, none⟩ = some (.int .i64 (powOf 1 5 3)) := hE.cellv (hB1.out.cell 3)
          have c4 : w'.cell? ⟨g1, 4, none⟩ = some (.int .i64 (powOf 1 5 4)) := hE.cellv (hB1.out.cell 4)
          have c5 : w'.cell? ⟨g1, 5, none⟩ = some (.int .i64 (powOf 1 5 5)) := hE.cellv (hB1.out.cell 5)
          have c6 : w'.cell? ⟨g1, 6, none⟩ = some (.int .i64 (powOf 1 5 6)) := hE.cellv (hB1.out.cell 6)
          have c7 : w'.cell? ⟨g1, 7, none⟩ = some (.int .i64 (powOf 1 5 7)) := hE.cellv (hB1.out.cell 7)
          exact opStep_val (by simp [execOp, e1, c0, c1, c2, c3, c4, c5, c6, c7, go_sem]) rfl
        · exact absurd hgv hgf
      case s10 =>
        intro w' ev hE hk ha hc hf
        intro gv hg
        have hgv := hg _ rfl
        refine ⟨fun hgt => ?_, fun hgf => ?_⟩
        · skip
          have e2 : ev (.tmp 2) = .pointer (some ⟨g1 + 1, 0, none⟩) := ha 2 (by decide)
          have c0 : w'.cell? ⟨g1 + 1, 0, none⟩ = some (.int .i64 (powOf 0 1 0)) := hE.cellv (hB2.out.cell 0)
          have c1 : w'.cell? ⟨g1 + 1, 1, none⟩ = some (.int .i64 (powOf 0 1 1)) := hE.cellv (hB2.out.cell 1)
          have c2 : w'.cell? ⟨g1 + 1, 2, none⟩ = some (.int .i64 (powOf 0 1 2)) := hE.cellv (hB2.out.cell 2)
          have c3 : w'.cell? ⟨g1 + 1, 3, none⟩ = some (.int .i64 (powOf 0 1 3)) := hE.cellv (hB2.out.cell 3)
          have c4 : w'.cell? ⟨g1 + 1, 4, none⟩ = some (.int .i64 (powOf 0 1 4)) := hE.cellv (hB2.out.cell 4)
          have c5 : w'.cell? ⟨g1 + 1, 5, none⟩ = some (.int .i64 (powOf 0 1 5)) := hE.cellv (hB2.out.cell 5)
          have c6 : w'.cell? ⟨g1 + 1, 6, none⟩ = some (.int .i64 (powOf 0 1 6)) := hE.cellv (hB2.out.cell 6)
          have c7 : w'.cell? ⟨g1 + 1, 7, none⟩ = some (.int .i64 (powOf 0 1 7)) := hE.cellv (hB2.out.cell 7)
          exact opStep_val (by simp [execOp, e2, c0, c1, c2, c3, c4, c5, c6, c7, go_sem]) rfl
        · exact absurd hgv hgf
      case s11 =>
        intro w' ev hE hk ha hc hf
        intro gv hg
        have hgv := hg _ rfl
        refine ⟨fun hgt => ?_, fun hgf => ?_⟩
        · skip
          have e1 : ev (.tmp 1) = .pointer (some ⟨g1, 0, none⟩) := ha 1 (by decide)
          have c0 : w'.cell? ⟨g1, 0, none⟩ = some (.int .i64 (powOf 1 5 0)) := hE.cellv (hB1.out.cell 0)
          have c1 : w'.cell? ⟨g1, 1, none⟩ = some (.int .i64 (powOf 1 5 1)) := hE.cellv (hB1.out.cell 1)
          have c2 : w'.cell? ⟨g1, 2, none⟩ = some (.int .i64 (powOf 1 5 2)) := hE.cellv (hB1.out.cell 2)
          have c3 : w'.cell? ⟨g1, 3, none⟩ = some (.int .i64 (powOf 1 5 3)) := hE.cellv (hB1.out.cell 3)
          have c4 : w'.cell? ⟨g1, 4, none⟩ = some (.int .i64 (powOf 1 5 4)) := hE.cellv (hB1.out.cell 4)
          have c5 : w'.cell? ⟨g1, 5, none⟩ = some (.int .i64 (powOf 1 5 5)) := hE.cellv (hB1.out.cell 5)
          have c6 : w'.cell? ⟨g1, 6, none⟩ = some (.int .i64 (powOf 1 5 6)) := hE.cellv (hB1.out.cell 6)
          have c7 : w'.cell? ⟨g1, 7, none⟩ = some (.int .i64 (powOf 1 5 7)) := hE.cellv (hB1.out.cell 7)
          exact opStep_val (by simp [execOp, e1, c0, c1, c2, c3, c4, c5, c6, c7, go_sem]) rfl
        · exact absurd hgv hgf
      case s12 =>
        intro w' ev hE hk ha hc hf
        intro gv hg
        have hgv := hg _ rfl
        refine ⟨fun hgt => ?_, fun hgf => ?_⟩
        · skip
          have e75 : ev (.tmp 75) = .agg #[.int .i64 (powOf 1 5 0), .int .i64 (powOf 1 5 1), .int .i64 (powOf 1 5 2), .int .i64 (powOf 1 5 3), .int .i64 (powOf 1 5 4), .int .i64 (powOf 1 5 5), .int .i64 (powOf 1 5 6), .int .i64 (powOf 1 5 7)] := hk.1 _ rfl
          have e76 : ev (.tmp 76) = .agg #[.int .i64 (powOf 0 1 0), .int .i64 (powOf 0 1 1), .int .i64 (powOf 0 1 2), .int .i64 (powOf 0 1 3), .int .i64 (powOf 0 1 4), .int .i64 (powOf 0 1 5), .int .i64 (powOf 0 1 6), .int .i64 (powOf 0 1 7)] := hk.2.1 _ rfl
          have e77 : ev (.tmp 77) = .agg #[.int .i64 (powOf 1 5 0), .int .i64 (powOf 1 5 1), .int .i64 (powOf 1 5 2), .int .i64 (powOf 1 5 3), .int .i64 (powOf 1 5 4), .int .i64 (powOf 1 5 5), .int .i64 (powOf 1 5 6), .int .i64 (powOf 1 5 7)] := hk.2.2.1 _ rfl
          exact opStep_grow (w' := w'.alloc (.cells #[.int .i64 (powOf 1 5 0), .int .i64 (powOf 1 5 1), .int .i64 (powOf 1 5 2), .int .i64 (powOf 1 5 3), .int .i64 (powOf 1 5 4), .int .i64 (powOf 1 5 5), .int .i64 (powOf 1 5 6), .int .i64 (powOf 1 5 7), .int .i64 (powOf 0 1 0), .int .i64 (powOf 0 1 1), .int .i64 (powOf 0 1 2), .int .i64 (powOf 0 1 3), .int .i64 (powOf 0 1 4), .int .i64 (powOf 0 1 5), .int .i64 (powOf 0 1 6), .int .i64 (powOf 0 1 7), .int .i64 (powOf 1 5 0), .int .i64 (powOf 1 5 1), .int .i64 (powOf 1 5 2), .int .i64 (powOf 1 5 3), .int .i64 (powOf 1 5 4), .int .i64 (powOf 1 5 5), .int .i64 (powOf 1 5 6), .int .i64 (powOf 1 5 7)] 36)) (v := .slice (some ⟨w'.heap.size, 0, none⟩) 3 3) (by simp [execOp, e75, e76, e77, go_sem]) ((Ext.refl _).alloc _) (OwnRows.blk (R := [powOf 1 5, powOf 0 1, powOf 1 5]) (c := 3) (base := 0) (g := w'.heap.size) (Nat.zero_le _) (Blk.new _ _ _) rfl (by simp)).rows
        · exact absurd hgv hgf
      case s13 =>
        intro w' ev hE hk ha hc hf
        intro gv hg
        have hgv := hg _ rfl
        refine ⟨fun hgt => ?_, fun hgf => ?_⟩
        · skip
          have f74 := hk.1 _ rfl
          have f78 := hk.2.1 _ rfl
          refine opStep_call (by simp [execOp, resolve, invoke, hf, go_sem]) (Sort_any (ev (.tmp 74)) (ev (.tmp 78)) [] [powOf 1 5, powOf 0 1, powOf 1 5] _ f74 (fun r h => by cases h) f78 sort_in (by simp)) ?_
          rintro e w1 ⟨S, hS, A, c, rfl, hO, hE1⟩
          exact ⟨_, rfl, hE1, A, c, by rw [sort_ex hS]⟩
        · exact absurd hgv hgf
      case s14 =>
        intro w' ev hE hk ha hc hf
        intro gv hg
        have hgv := hg _ rfl
        refine ⟨fun hgt => ?_, fun hgf => ?_⟩
        · skip
          have f79 := hk.1 _ rfl
          obtain ⟨A, c, e79⟩ := f79
          exact opStep_val (by simp [execOp, resolve, invoke, e79, go_sem]) rfl
        · exact absurd hgv hgf
      case s15 =>
        intro w' ev hE hk ha hc hf
        intro gv hg
        have hgv := hg _ rfl
        refine ⟨fun hgt => ?_, fun hgf => ?_⟩
        · skip
          have e80 : ev (.tmp 80) = .int .i64 2 := hk.1 _ rfl
          exact opStep_val (by simp [execOp, e80, hc, go_sem]) rfl
        · exact absurd hgv hgf
      case s16 =>
        intro w' ev hE hk ha hc hf
        have e73 : ev (.tmp 73) = .bool false := hk.1 _ rfl
        have e81 : ev (.tmp 81) = .bool false := hk.2.1 _ rfl
        exact opStep_val (by simp [execOp, e73, e81, hc, go_sem]) rfl
    case fin =>
      intro gh w' hE hF
      have e16 := hF 16 _ rfl
      simp only [List.length_cons, List.length_nil, Nat.reduceAdd, List.drop_succ_cons, List.drop_zero, List.take_succ_cons, List.take_zero, putG, Act.put, List.setIfInBounds_toArray, List.set_cons_succ, List.set_cons_zero, e16]
      have hEn : Ext w12 w' := (Ext.refl _).drew.trans hE
      replace hWS := hide (hWS.out.ext hEn)
      replace hE6 := hide (hE6.out.trans hEn)
      clear hF e16 hE hEn hB1 hB2
      go_wp2_with fail
      refine (oValid_any _ [wRow] _ hWS.out).mono ?_
      rw [ovB_true valid_w]
      rintro e w13 ⟨rfl, hE7⟩
      have hN : Hid (RowsAt .i64 35 (w13.alloc (.cells #[.int .i64 (-1), .int .i64 0, .int .i64 0, .int .i64 0, .int .i64 0, .int .i64 0, .int .i64 0, .int .i64 0] 35)) (.slice (some ⟨w13.heap.size, 0, none⟩) 1 1) [nRow]) := (OwnRows.blk (R := [nRow]) (c := 1) (base := 0) (g := w13.heap.size) (Nat.zero_le _) (Blk.new _ _ _) rfl (by simp)).rows
      replace hE6 := hide ((hE6.out.trans hE7).alloc (.cells #[.int .i64 (-1), .int .i64 0, .int .i64 0, .int .i64 0, .int .i64 0, .int .i64 0, .int .i64 0, .int .i64 0] 35))
      clear hE7 hWS
      go_wp2_with fail
      refine (oValid_any _ [nRow] _ hN.out).mono ?_
      rw [ovB_false not_valid_n]
      rintro e w14 ⟨rfl, hE7⟩
      replace hE6 := hide (hE6.out.trans hE7)
      clear hE7
      go_wp2
      go_ret
      exact ⟨rfl, hE6.out⟩

end Go.Proofs.YteefhmdameeoaaaGreat
