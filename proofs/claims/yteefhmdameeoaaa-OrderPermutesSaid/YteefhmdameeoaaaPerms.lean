/-
  The law OrderPermutes returns true for every input: the full order compares like the order, by its rows alone; the permuted order compares permuted monomials as the order compares the monomials; and permuting back gives an order that compares as before.
-/
import Derived.Test.YteefhmdameeoaaaStores
import Derived.Test.YteefhmdameeoaaaRegh
import Derived.Test.YteefhmdameeoaaaLaw5
import Derived.Test.YteefhmdameeoaaaBridge
set_option linter.unusedSimpArgs false
set_option linter.unusedVariables false
namespace Go.Proofs.Yteefhmdameeoaaa
open Go.ChangeShapes Go.WideShapes Go.ChangeAt Go.RowKit Go.Deep

def PermV (v : Value) : Prop := ∃ p : Nat → Nat, IsPerm p ∧ v = .agg #[.int .i64 (castP p 0), .int .i64 (castP p 1), .int .i64 (castP p 2), .int .i64 (castP p 3), .int .i64 (castP p 4), .int .i64 (castP p 5), .int .i64 (castP p 6), .int .i64 (castP p 7)]
/-- A new variable for a row. -/
def NewR (n : Nat) (v : Value) (w : World) : Prop := ∃ B, v = .pointer (some ⟨B, 0, none⟩) ∧ n ≤ B ∧ Blk w B 34 (Go.Proofs.Yteefhmdameeoaaa.c8 fun _ => 0)
theorem NewR.ext {n : Nat} {v : Value} {w w' : World} (h : NewR n v w) (he : Ext w w') : NewR n v w' := by
  obtain ⟨B, h1, h2, h3⟩ := h
  exact ⟨B, h1, h2, h3.ext he⟩
theorem OwnRows.fr {t : TypeId} {base : Nat} {w : World} {v : Value} {R : List (Nat → Int)} (h : OwnRows t base w v R) : ∀ b, RegH.frB v = some b → base ≤ b ∧ b < w.heap.size := fun b hb => by
  obtain ⟨_, h2⟩ := h
  rcases h2 with ⟨rfl, _⟩ | ⟨g, cap, cur, rfl, h4, hg, _⟩
  · cases hb
  · cases hb; exact ⟨h4, lt_of_heap hg⟩
theorem RowsAt.putN {κ : IntKind} {t : TypeId} {w : World} {A : Option Addr} {n c : Nat} {R : List (Nat → Int)} (h : RowsAt κ t w (.slice A n c) R) {B : Nat} (hne : RegH.frB (.slice A n c) ≠ some B) (a : Nat → Int) : RowsAt κ t (Go.Proofs.Yteefhmdameeoaaa.putM w B a) (.slice A n c) R := by
  obtain ⟨A', c', h1, h2, h3, h4⟩ := h
  cases h1
  refine ⟨A, c, rfl, h2, h3, fun hp => ?_⟩
  obtain ⟨b, o, cs', fz, h5, h6, h7⟩ := h4 hp
  subst h5
  have hb : b ≠ B := fun e => hne (by rw [← e]; rfl)
  have : ∀ (vs : List Value) (q : Nat) (W : World), W.heap[b]? = some (.cells cs' t fz) → (W.setCells B q vs).heap[b]? = some (.cells cs' t fz) := by
    intro vs
    induction vs with
    | nil => intro q W h; exact h
    | cons v vs ih => intro q W h; exact ih (q + 1) _ ((Below.heap_setCell W ⟨B, q, none⟩ v b hb).trans h)
  exact ⟨b, o, cs', fz, rfl, (setCells8 w B a) ▸ this _ _ _ h6, h7⟩
theorem Permute_ok' (v : Value) (R Fr M : List (Nat → Int)) (p : Nat → Nat) (w : World) (h : RowsAt .i64 34 w v R) (hv : OValid R) (hf : FullOf R Fr) (hp : IsPerm p) (hM : M = Fr.map (permRow p)) :
    Calls Try.prog 30 #[v, .agg #[.int .i64 (castP p 0), .int .i64 (castP p 1), .int .i64 (castP p 2), .int .i64 (castP p 3), .int .i64 (castP p 4), .int .i64 (castP p 5), .int .i64 (castP p 6), .int .i64 (castP p 7)]] w (RetFull M w) := by
  subst hM
  exact Permute_ok v R Fr p w h hv hf hp.lt hp.inj
theorem movedTo_in {a : Nat → Int} {p : Nat → Nat} {lo hi : Int} (h : In8 a lo hi) (h0 : lo ≤ 0) (h1 : 0 ≤ hi) (j : Nat) : ∀ k, k ≤ 8 → lo ≤ movedTo a p k j ∧ movedTo a p k j ≤ hi
  | 0, _ => ⟨h0, h1⟩
  | k + 1, hk => by
    rw [movedTo]
    split
    · exact h k (by omega)
    · exact movedTo_in h h0 h1 j k (by omega)
theorem full_of {R : List (Nat → Int)} (h : R.length ≤ 16) : ∃ Fr, FullOf R Fr := by
  by_cases ht : Total R
  · exact ⟨R, .inl ⟨ht, rfl⟩⟩
  · exact ⟨_, .inr ⟨ht, h, rfl⟩⟩
theorem madeRows_le (X : List (Nat → Int)) : (madeRows X).length ≤ 16 := by rw [madeRows, rowsOf_length]; unfold madeLen; omega

set_option maxRecDepth 100000 in
set_option maxHeartbeats 16000000 in
theorem perms_walk (v : Value) (X : List (Nat → Int)) (x0 x1 : Nat → Int) (N : Nat) (w : World) (hv : RowsIn .i8 w v X) (hX : ∀ r ∈ X, In8 r (-128) 127) (hx0 : In8 x0 0 65535) (hx1 : In8 x1 0 65535) (hN : N < 65536) :
    Calls Try.prog 7 #[.agg #[v], .agg #[.int .u16 (x0 0), .int .u16 (x0 1), .int .u16 (x0 2), .int .u16 (x0 3), .int .u16 (x0 4), .int .u16 (x0 5), .int .u16 (x0 6), .int .u16 (x0 7), .int .u16 (x1 0), .int .u16 (x1 1), .int .u16 (x1 2), .int .u16 (x1 3), .int .u16 (x1 4), .int .u16 (x1 5), .int .u16 (x1 6), .int .u16 (x1 7)], .int .u16 N] w fun e w' => e = .returned (.bool true) ∧ Ext w w' := by
  obtain ⟨A0, c0, rfl, k0⟩ := id hv
  clear k0
  have hb3 : Hid (Blk ((w.alloc (.cells #[.slice A0 X.length c0] 24)).alloc (.cells #[.int .u16 (x0 0), .int .u16 (x0 1), .int .u16 (x0 2), .int .u16 (x0 3), .int .u16 (x0 4), .int .u16 (x0 5), .int .u16 (x0 6), .int .u16 (x0 7), .int .u16 (x1 0), .int .u16 (x1 1), .int .u16 (x1 2), .int .u16 (x1 3), .int .u16 (x1 4), .int .u16 (x1 5), .int .u16 (x1 6), .int .u16 (x1 7)] 42)) w.heap.size 24 #[.slice A0 X.length c0]) := (Blk.new _ _ _).alloc _
  have hb4 : Hid (Blk ((w.alloc (.cells #[.slice A0 X.length c0] 24)).alloc (.cells #[.int .u16 (x0 0), .int .u16 (x0 1), .int .u16 (x0 2), .int .u16 (x0 3), .int .u16 (x0 4), .int .u16 (x0 5), .int .u16 (x0 6), .int .u16 (x0 7), .int .u16 (x1 0), .int .u16 (x1 1), .int .u16 (x1 2), .int .u16 (x1 3), .int .u16 (x1 4), .int .u16 (x1 5), .int .u16 (x1 6), .int .u16 (x1 7)] 42)) (w.heap.size + 1) 42 #[.int .u16 (x0 0), .int .u16 (x0 1), .int .u16 (x0 2), .int .u16 (x0 3), .int .u16 (x0 4), .int .u16 (x0 5), .int .u16 (x0 6), .int .u16 (x0 7), .int .u16 (x1 0), .int .u16 (x1 1), .int .u16 (x1 2), .int .u16 (x1 3), .int .u16 (x1 4), .int .u16 (x1 5), .int .u16 (x1 6), .int .u16 (x1 7)]) := Blk.new' _ _ (by simp)
  have hE0 : Hid (Ext w ((w.alloc (.cells #[.slice A0 X.length c0] 24)).alloc (.cells #[.int .u16 (x0 0), .int .u16 (x0 1), .int .u16 (x0 2), .int .u16 (x0 3), .int .u16 (x0 4), .int .u16 (x0 5), .int .u16 (x0 6), .int .u16 (x0 7), .int .u16 (x1 0), .int .u16 (x1 1), .int .u16 (x1 2), .int .u16 (x1 3), .int .u16 (x1 4), .int .u16 (x1 5), .int .u16 (x1 6), .int .u16 (x1 7)] 42))) := ((Ext.refl w).alloc _).alloc _
  replace hv := hide hv
  replace hX := hide hX
  replace hx0 := hide hx0
  replace hx1 := hide hx1
  go_enter Try.func7, Try.ntmps7
  go_wp2_with fail
  generalize ((w.alloc (.cells #[.slice A0 X.length c0] 24)).alloc (.cells #[.int .u16 (x0 0), .int .u16 (x0 1), .int .u16 (x0 2), .int .u16 (x0 3), .int .u16 (x0 4), .int .u16 (x0 5), .int .u16 (x0 6), .int .u16 (x0 7), .int .u16 (x1 0), .int .u16 (x1 1), .int .u16 (x1 2), .int .u16 (x1 3), .int .u16 (x1 4), .int .u16 (x1 5), .int .u16 (x1 6), .int .u16 (x1 7)] 42)) = wa at *
  refine (examples_any _).mono ?_
  rintro e wq ⟨rfl, hE1⟩
  have hEq := hide (hE0.out.trans hE1)
  replace hb3 := hide (hb3.out.ext hE1)
  replace hb4 := hide (hb4.out.ext hE1)
  clear hE1 hE0
  have hsq : w.heap.size ≤ wq.heap.size := hEq.out.size
  go_upto_region 4 with (fail)
  obtain ⟨B3, hB3⟩ : ∃ B3, B3 = w.heap.size := ⟨_, rfl⟩
  obtain ⟨B4, hB4⟩ : ∃ B4, B4 = w.heap.size + 1 := ⟨_, rfl⟩
  rw [← hB4] at hb4 ⊢
  rw [← hB3] at hb3 ⊢
  replace hB3 := hide hB3
  replace hB4 := hide hB4
  refine RegH.wp_region_v (by kernel_rfl) [[], [(24, 0)], [], [(26, 2)], [(27, 3)], [], [(29, 5)], [(30, 6)], [], [(32, 8)], [], [], []] [[], [0], [], [2], [0, 1, 2, 3], [], [5], [0, 1, 2, 3, 4, 5, 6], [], [0, 1, 2, 3, 4, 5, 6, 7, 8], [], [], []]
    [fun v _ => v = .agg #[.slice A0 X.length c0], fun v w' => RowsAt .i64 34 w' v (madeRows X), fun v _ => v = .pointer (some ⟨B4, 0, none⟩), fun v _ => v = .agg #[.int .u16 (x0 0), .int .u16 (x0 1), .int .u16 (x0 2), .int .u16 (x0 3), .int .u16 (x0 4), .int .u16 (x0 5), .int .u16 (x0 6), .int .u16 (x0 7)], fun v _ => v = .agg #[.int .i64 (monoOf x0 0), .int .i64 (monoOf x0 1), .int .i64 (monoOf x0 2), .int .i64 (monoOf x0 3), .int .i64 (monoOf x0 4), .int .i64 (monoOf x0 5), .int .i64 (monoOf x0 6), .int .i64 (monoOf x0 7)], fun v _ => v = .pointer (some ⟨B4, 8, none⟩), fun v _ => v = .agg #[.int .u16 (x1 0), .int .u16 (x1 1), .int .u16 (x1 2), .int .u16 (x1 3), .int .u16 (x1 4), .int .u16 (x1 5), .int .u16 (x1 6), .int .u16 (x1 7)], fun v _ => v = .agg #[.int .i64 (monoOf x1 0), .int .i64 (monoOf x1 1), .int .i64 (monoOf x1 2), .int .i64 (monoOf x1 3), .int .i64 (monoOf x1 4), .int .i64 (monoOf x1 5), .int .i64 (monoOf x1 6), .int .i64 (monoOf x1 7)], fun v _ => v = .int .u16 (N : Int), fun v _ => PermV v, NewM wq.heap.size, NewM wq.heap.size, NewR wq.heap.size]
    rfl (by kernel_rfl) (by kernel_rfl) ?stab ?steps ?fin
  case stab => exact .cons (Stab.eq _) (.cons (fun _ _ _ he h => h.ext he) (.cons (Stab.eq _) (.cons (Stab.eq _) (.cons (Stab.eq _) (.cons (Stab.eq _) (.cons (Stab.eq _) (.cons (Stab.eq _) (.cons (Stab.eq _) (.cons (fun _ _ _ _ h => h) (.cons (fun _ _ _ he h => h.ext he) (.cons (fun _ _ _ he h => h.ext he) (.cons (fun _ _ _ he h => h.ext he) .nil))))))))))))
  case steps =>
    refine .cons ?s0 (.cons ?s1 (.cons ?s2 (.cons ?s3 (.cons ?s4 (.cons ?s5 (.cons ?s6 (.cons ?s7 (.cons ?s8 (.cons ?s9 (.cons ?s10 (.cons ?s11 (.cons ?s12 .nil))))))))))))
    case s0 =>
      intro w' ev hE hk ha hc hf
      have e3 : ev (.tmp 3) = .pointer (some ⟨B3, 0, none⟩) := ha 3 (by decide)
      have c0 : w'.cell? ⟨B3, 0, none⟩ = some (.slice A0 X.length c0) := hE.cellv (hb3.out.cell 0)
      exact RegH.opStep_val rfl (by simp [execOp, e3, c0, go_sem]) rfl
    case s1 =>
      intro w' ev hE hk ha hc hf
      have e24 : ev (.tmp 24) = .agg #[.slice A0 X.length c0] := hk.1 _ rfl
      refine RegH.opStep_call (by simp [execOp, resolve, invoke, hf, e24, go_sem]) (Made_any _ X _ (hv.out.ext (hEq.out.trans ((Ext.refl _).drew.trans hE))) hX.out) ?_
      rintro e w1 ⟨A, c, rfl, hO, hE1⟩
      exact ⟨_, rfl, hE1, hO.rows, hO.fr⟩
    case s2 =>
      intro w' ev hE hk ha hc hf
      have e4 : ev (.tmp 4) = .pointer (some ⟨B4, 0, none⟩) := ha 4 (by decide)
      exact RegH.opStep_val rfl (by simp [execOp, e4, hc, go_sem]) rfl
    case s3 =>
      intro w' ev hE hk ha hc hf
      have e26 : ev (.tmp 26) = .pointer (some ⟨B4, 0, none⟩) := hk.1 _ rfl
      have c0 : w'.cell? ⟨B4, 0, none⟩ = some (.int .u16 (x0 0)) := hE.cellv (hb4.out.cell 0)
      have c1 : w'.cell? ⟨B4, 1, none⟩ = some (.int .u16 (x0 1)) := hE.cellv (hb4.out.cell 1)
      have c2 : w'.cell? ⟨B4, 2, none⟩ = some (.int .u16 (x0 2)) := hE.cellv (hb4.out.cell 2)
      have c3 : w'.cell? ⟨B4, 3, none⟩ = some (.int .u16 (x0 3)) := hE.cellv (hb4.out.cell 3)
      have c4 : w'.cell? ⟨B4, 4, none⟩ = some (.int .u16 (x0 4)) := hE.cellv (hb4.out.cell 4)
      have c5 : w'.cell? ⟨B4, 5, none⟩ = some (.int .u16 (x0 5)) := hE.cellv (hb4.out.cell 5)
      have c6 : w'.cell? ⟨B4, 6, none⟩ = some (.int .u16 (x0 6)) := hE.cellv (hb4.out.cell 6)
      have c7 : w'.cell? ⟨B4, 7, none⟩ = some (.int .u16 (x0 7)) := hE.cellv (hb4.out.cell 7)
      exact RegH.opStep_val rfl (by simp [execOp, e26, c0, c1, c2, c3, c4, c5, c6, c7, go_sem]) rfl
    case s4 =>
      intro w' ev hE hk ha hc hf
      have e27 : ev (.tmp 27) = .agg #[.int .u16 (x0 0), .int .u16 (x0 1), .int .u16 (x0 2), .int .u16 (x0 3), .int .u16 (x0 4), .int .u16 (x0 5), .int .u16 (x0 6), .int .u16 (x0 7)] := hk.1 _ rfl
      refine RegH.opStep_call (by simp [execOp, resolve, invoke, hf, e27, go_sem]) (mono_any x0 _ hx0.out) ?_
      rintro e w1 ⟨rfl, hE1⟩
      exact ⟨_, rfl, hE1, rfl, fun b h => by cases h⟩
    case s5 =>
      intro w' ev hE hk ha hc hf
      have e4 : ev (.tmp 4) = .pointer (some ⟨B4, 0, none⟩) := ha 4 (by decide)
      exact RegH.opStep_val rfl (by simp [execOp, e4, hc, go_sem]) rfl
    case s6 =>
      intro w' ev hE hk ha hc hf
      have e29 : ev (.tmp 29) = .pointer (some ⟨B4, 8, none⟩) := hk.1 _ rfl
      have c0 : w'.cell? ⟨B4, 8, none⟩ = some (.int .u16 (x1 0)) := hE.cellv (hb4.out.cell 8)
      have c1 : w'.cell? ⟨B4, 9, none⟩ = some (.int .u16 (x1 1)) := hE.cellv (hb4.out.cell 9)
      have c2 : w'.cell? ⟨B4, 10, none⟩ = some (.int .u16 (x1 2)) := hE.cellv (hb4.out.cell 10)
      have c3 : w'.cell? ⟨B4, 11, none⟩ = some (.int .u16 (x1 3)) := hE.cellv (hb4.out.cell 11)
      have c4 : w'.cell? ⟨B4, 12, none⟩ = some (.int .u16 (x1 4)) := hE.cellv (hb4.out.cell 12)
      have c5 : w'.cell? ⟨B4, 13, none⟩ = some (.int .u16 (x1 5)) := hE.cellv (hb4.out.cell 13)
      have c6 : w'.cell? ⟨B4, 14, none⟩ = some (.int .u16 (x1 6)) := hE.cellv (hb4.out.cell 14)
      have c7 : w'.cell? ⟨B4, 15, none⟩ = some (.int .u16 (x1 7)) := hE.cellv (hb4.out.cell 15)
      exact RegH.opStep_val rfl (by simp [execOp, e29, c0, c1, c2, c3, c4, c5, c6, c7, go_sem]) rfl
    case s7 =>
      intro w' ev hE hk ha hc hf
      have e30 : ev (.tmp 30) = .agg #[.int .u16 (x1 0), .int .u16 (x1 1), .int .u16 (x1 2), .int .u16 (x1 3), .int .u16 (x1 4), .int .u16 (x1 5), .int .u16 (x1 6), .int .u16 (x1 7)] := hk.1 _ rfl
      refine RegH.opStep_call (by simp [execOp, resolve, invoke, hf, e30, go_sem]) (mono_any x1 _ hx1.out) ?_
      rintro e w1 ⟨rfl, hE1⟩
      exact ⟨_, rfl, hE1, rfl, fun b h => by cases h⟩
    case s8 =>
      intro w' ev hE hk ha hc hf
      have e2 : ev (.tmp 2) = .int .u16 (N : Int) := ha 2 (by decide)
      exact RegH.opStep_val rfl (by simp [execOp, e2, go_sem]) rfl
    case s9 =>
      intro w' ev hE hk ha hc hf
      have e32 : ev (.tmp 32) = .int .u16 (N : Int) := hk.1 _ rfl
      refine RegH.opStep_call (by simp [execOp, resolve, invoke, hf, e32, go_sem]) (Shuffle_any N _ hN) ?_
      rintro e w1 ⟨p, hp1, hp2, rfl, hE1⟩
      exact ⟨_, rfl, hE1, ⟨p, ⟨hp1, hp2⟩, rfl⟩, fun b h => by cases h⟩
    case s10 =>
      intro w' ev hE hk ha hc hf
      exact RegH.opStep_new (ob := .cells #[.int .i64 0, .int .i64 0, .int .i64 0, .int .i64 0, .int .i64 0, .int .i64 0, .int .i64 0, .int .i64 0] 35) (by simp [execOp, go_sem]) ⟨_, rfl, hE.size, Blk.new _ _ _⟩
    case s11 =>
      intro w' ev hE hk ha hc hf
      exact RegH.opStep_new (ob := .cells #[.int .i64 0, .int .i64 0, .int .i64 0, .int .i64 0, .int .i64 0, .int .i64 0, .int .i64 0, .int .i64 0] 35) (by simp [execOp, go_sem]) ⟨_, rfl, hE.size, Blk.new _ _ _⟩
    case s12 =>
      intro w' ev hE hk ha hc hf
      exact RegH.opStep_new (ob := .cells #[.int .i64 0, .int .i64 0, .int .i64 0, .int .i64 0, .int .i64 0, .int .i64 0, .int .i64 0, .int .i64 0] 34) (by simp [execOp, go_sem]) ⟨_, rfl, hE.size, Blk.new _ _ _⟩
  case fin =>
    intro gf w' hE hF hap
    obtain ⟨B9, e10, s9, b9⟩ := hF 10 _ rfl
    obtain ⟨B10, e11, s10, b10⟩ := hF 11 _ rfl
    obtain ⟨B11, e12, s11, b11⟩ := hF 12 _ rfl
    obtain ⟨p, hp, e9⟩ := hF 9 _ rfl
    have hO := hF 1 _ rfl
    have ap : ∀ i j o o', i < 13 → j < 13 → _ := hap
    have n910 : B9 ≠ B10 := fun h => hap 10 11 _ _ (by decide) (by decide) rfl rfl rfl rfl (by decide) B9 (by rw [e10]; rfl) (by rw [e11, h]; rfl)
    have n911 : B9 ≠ B11 := fun h => hap 10 12 _ _ (by decide) (by decide) rfl rfl rfl rfl (by decide) B9 (by rw [e10]; rfl) (by rw [e12, h]; rfl)
    have n1011 : B10 ≠ B11 := fun h => hap 11 12 _ _ (by decide) (by decide) rfl rfl rfl rfl (by decide) B10 (by rw [e11]; rfl) (by rw [e12, h]; rfl)
    have nO9 : RegH.frB (gf 1) ≠ some B9 := hap 10 1 _ _ (by decide) (by decide) rfl rfl rfl rfl (by decide) B9 (by rw [e10]; rfl)
    have nO10 : RegH.frB (gf 1) ≠ some B10 := hap 11 1 _ _ (by decide) (by decide) rfl rfl rfl rfl (by decide) B10 (by rw [e11]; rfl)
    have nO11 : RegH.frB (gf 1) ≠ some B11 := hap 12 1 _ _ (by decide) (by decide) rfl rfl rfl rfl (by decide) B11 (by rw [e12]; rfl)
    obtain ⟨A1, c1, hoe, ho2, ho3, ho4⟩ := hO.open_
    rw [hoe] at hO nO9 nO10 nO11
    simp only [List.length_cons, List.length_nil, Nat.reduceAdd, List.drop_succ_cons, List.drop_zero, List.take_succ_cons, List.take_zero, putG, Act.put, List.setIfInBounds_toArray, List.set_cons_succ, List.set_cons_zero, e9, e10, e11, e12, hoe, hF 4 _ rfl, hF 7 _ rfl]
    have r9 := hide (run_store_mono b9 (monoOf x0))
    have b9' := putM_blk b9 (monoOf x0)
    have b10' := putM_far b10 n910.symm (monoOf x0)
    have b11' := putM_far b11 n911.symm (monoOf x0)
    have r10 := hide (run_store_mono b10' (monoOf x1))
    have b9'' := putM_far b9' n910 (monoOf x1)
    have b10'' := putM_blk b10' (monoOf x1)
    have b11'' := putM_far b11' n1011.symm (monoOf x1)
    have r11 := hide (run_store_row b11'' (castP p))
    have hb9 := hide (putM_far b9'' n911 (castP p))
    have hb10 := hide (putM_far b10'' n1011 (castP p))
    have hb11 := hide (putM_blk b11'' (castP p))
    have hEw : Hid (Ext w (putM (putM (putM w' B9 (monoOf x0)) B10 (monoOf x1)) B11 (castP p))) := putM_ext (putM_ext (putM_ext (hEq.out.trans ((Ext.refl _).drew.trans hE)) (by omega) _) (by omega) _) (by omega) _
    have hOw : Hid (RowsAt .i64 34 (putM (putM (putM w' B9 (monoOf x0)) B10 (monoOf x1)) B11 (castP p)) (.slice A1 (madeRows X).length c1) (madeRows X)) := ((hO.putN nO9 _).putN nO10 _).putN nO11 _
    clear hF hap ap e9 e10 e11 e12 hO b9 b10 b11 b9' b10' b11' b9'' b10'' b11'' hE hb3 hb4 hoe ho2 ho3 ho4 nO9 nO10 nO11
    go_upto_region 5 with (refine wpList_store_go rfl rfl rfl r9.out rfl rfl ?_; refine wpList_store_go rfl rfl rfl r10.out rfl rfl ?_; refine wpList_store_go rfl rfl rfl r11.out rfl rfl ?_)
    clear r9 r10 r11
    generalize (putM (putM (putM w' B9 (monoOf x0)) B10 (monoOf x1)) B11 (castP p)) = w1 at *
    have hV : Hid (OValid (madeRows X)) := made_valid hX.out
    have hRl := madeRows_le X
    have ha := hide (monoOf_in hx0.out)
    have hb := hide (monoOf_in hx1.out)
    replace hp := hide hp
    replace hOw := hide hOw.out
    clear hsq hv hX hx0 hx1 s9 s10 s11 n910 n911 n1011 hEq hB3 hB4
    generalize madeRows X = R at *
    generalize monoOf x0 = a at *
    generalize monoOf x1 = b at *
    obtain ⟨Fr, hf⟩ := full_of hRl
    obtain ⟨M, hM⟩ : ∃ M, M = Fr.map (permRow p) := ⟨_, rfl⟩
    obtain ⟨u, hu0⟩ : ∃ u, u = backTo p 8 := ⟨_, rfl⟩
    obtain ⟨K, hK⟩ : ∃ K, K = M.map (permRow u) := ⟨_, rfl⟩
    obtain ⟨n, hn⟩ : ∃ n, n = oCmp R a b := ⟨_, rfl⟩
    have hu : Hid (IsPerm u) := by rw [hu0]; exact hp.out.back
    have hR := hide hV.out.in8
    have hVF := hide (full_valid hV.out hf)
    have hVM : Hid (OValid M) := by rw [hM]; exact moved_valid hp.out hVF.out
    have hFin := hide hVF.out.in8
    have hMin := hide hVM.out.in8
    have hfM : Hid (FullOf M M) := .inl ⟨by rw [hM]; exact moved_total hp.out (full_total hf), rfl⟩
    have hn0 : Hid (oCmp R a b = n) := hn.symm
    have hn1 : Hid (cmpRows Fr a b = n) := by rw [hn]; exact full_cmp hf a b
    have hn2 : Hid (oCmp Fr a b = n) := by rw [hn]; exact full_ocmp hf a b
    have hn3 : Hid (oCmp M (movedTo a p 8) (movedTo b p 8) = n) := by rw [hn, hM]; exact moved_cmp hp.out hf a b
    have hal : Hid (alikeB K Fr = true) := by rw [hK, hM, hu0]; exact back_rows hp.out Fr
    have ha6 : Hid (In8 a (-1000000) 1000000) := ha.out.mono (by omega) (by omega)
    have hb6 : Hid (In8 b (-1000000) 1000000) := hb.out.mono (by omega) (by omega)
    have hma : Hid (In8 (movedTo a p 8) (-1000000) 1000000) := fun i _ => movedTo_in ha6.out (by omega) (by omega) i 8 (by omega)
    have hmb : Hid (In8 (movedTo b p 8) (-1000000) 1000000) := fun i _ => movedTo_in hb6.out (by omega) (by omega) i 8 (by omega)
    replace hf := hide hf
    replace hM := hide hM
    replace hK := hide hK
    replace hu0 := hide hu0
    clear hn ha hb hRl
    have hEn : Hid (Ext w1 (w1.alloc (.cells #[.int .i64 0, .int .i64 0, .int .i64 0, .int .i64 0, .int .i64 0, .int .i64 0, .int .i64 0, .int .i64 0] 34))) := (Ext.refl w1).alloc _
    have hb12 : Hid (Blk (w1.alloc (.cells #[.int .i64 0, .int .i64 0, .int .i64 0, .int .i64 0, .int .i64 0, .int .i64 0, .int .i64 0, .int .i64 0] 34)) w1.heap.size 34 (c8 (castP (backTo p 0)))) := Blk.new _ _ _
    go_upto_region 6 with (fail)
    generalize (w1.alloc (.cells #[.int .i64 0, .int .i64 0, .int .i64 0, .int .i64 0, .int .i64 0, .int .i64 0, .int .i64 0, .int .i64 0] 34)) = w2 at *
    obtain ⟨B12, hB12⟩ : ∃ B12, B12 = w1.heap.size := ⟨_, rfl⟩
    rw [← hB12] at hb12 ⊢
    replace hB12 := hide hB12
    go_wp2
    go_loopw [13] (fun i wr => ∃ k : Nat, k ≤ 8 ∧ i = .int .i64 k ∧ Hid (Ext w1 wr ∧ Blk wr B12 34 (c8 (castP (backTo p k))))) (fun i _ => 8 - (intOf i).toNat)
    case atStart => exact ⟨0, by omega, rfl, hEn.out, hb12.out⟩
    case round =>
      obtain ⟨k, hk, rfl, hI⟩ := hrel
      clear hEn hb12
      by_cases hlt : k < 8
      · have hd1 : decide ((k : Int) < 8) = true := by simp; omega
        have hpk := hp.out.lt k hlt
        have xp : wr.cell? ⟨B11, k, none⟩ = some (.int .i64 ((p k : Nat) : Int)) := (hb11.out.ext hI.out.1).at8 hlt
        have xo := hI.out.2.at8 hpk
        have xz := hI.out.2.frozen (p k)
        have hset : Hid (Blk (wr.setCell ⟨B12, p k, none⟩ (.int .i64 (k : Int))) B12 34 (c8 (castP (backTo p (k + 1))))) :=
          hI.out.2.set8' hpk _ (by simp [castP, backTo]) fun i hi hne => by simp [castP, backTo, hne]
        have hEx : Hid (Ext w1 (wr.setCell ⟨B12, p k, none⟩ (.int .i64 (k : Int)))) := hI.out.1.set (p := ⟨B12, p k, none⟩) (by dsimp only; have := hB12.out; omega) _
        generalize castP (backTo p k) (p k) = old at *
        generalize p k = y at *
        go_wp2
        exact ⟨⟨k + 1, hlt, by simp, hEx.out, hset.out⟩, by simp [intOf]; omega⟩
      · obtain rfl : k = 8 := by omega
        have hd1 : decide (((8 : Nat) : Int) < 8) = false := by simp
        obtain ⟨hE, hb12⟩ := hI.out
        rw [← hu0.out] at hb12
        replace hb12 := hide hb12
        clear hI
        replace hEw := hide (hEw.out.trans hE)
        replace hb9 := hide (hb9.out.ext hE)
        replace hb10 := hide (hb10.out.ext hE)
        replace hb11 := hide (hb11.out.ext hE)
        replace hOw := hide (hOw.out.ext hE)
        clear hE hB12
        have q0 : (wr).cell? ⟨B9, 0, none⟩ = some (.int .i64 (a 0)) := (hb9.out).cell 0
        have q1 : (wr).cell? ⟨B9, 1, none⟩ = some (.int .i64 (a 1)) := (hb9.out).cell 1
        have q2 : (wr).cell? ⟨B9, 2, none⟩ = some (.int .i64 (a 2)) := (hb9.out).cell 2
        have q3 : (wr).cell? ⟨B9, 3, none⟩ = some (.int .i64 (a 3)) := (hb9.out).cell 3
        have q4 : (wr).cell? ⟨B9, 4, none⟩ = some (.int .i64 (a 4)) := (hb9.out).cell 4
        have q5 : (wr).cell? ⟨B9, 5, none⟩ = some (.int .i64 (a 5)) := (hb9.out).cell 5
        have q6 : (wr).cell? ⟨B9, 6, none⟩ = some (.int .i64 (a 6)) := (hb9.out).cell 6
        have q7 : (wr).cell? ⟨B9, 7, none⟩ = some (.int .i64 (a 7)) := (hb9.out).cell 7
        have r0 : (wr).cell? ⟨B10, 0, none⟩ = some (.int .i64 (b 0)) := (hb10.out).cell 0
        have r1 : (wr).cell? ⟨B10, 1, none⟩ = some (.int .i64 (b 1)) := (hb10.out).cell 1
        have r2 : (wr).cell? ⟨B10, 2, none⟩ = some (.int .i64 (b 2)) := (hb10.out).cell 2
        have r3 : (wr).cell? ⟨B10, 3, none⟩ = some (.int .i64 (b 3)) := (hb10.out).cell 3
        have r4 : (wr).cell? ⟨B10, 4, none⟩ = some (.int .i64 (b 4)) := (hb10.out).cell 4
        have r5 : (wr).cell? ⟨B10, 5, none⟩ = some (.int .i64 (b 5)) := (hb10.out).cell 5
        have r6 : (wr).cell? ⟨B10, 6, none⟩ = some (.int .i64 (b 6)) := (hb10.out).cell 6
        have r7 : (wr).cell? ⟨B10, 7, none⟩ = some (.int .i64 (b 7)) := (hb10.out).cell 7
        go_wp2_with fail
        refine (oCmp_any _ R a b _ hOw.out hR.out ha6.out hb6.out).mono ?_
        rintro e w3 ⟨rfl, hE⟩
        rw [hn0.out]
        replace hb9 := hide (hb9.out.ext hE)
        replace hb10 := hide (hb10.out.ext hE)
        replace hb11 := hide (hb11.out.ext hE)
        replace hb12 := hide (hb12.out.ext hE)
        replace hOw := hide (hOw.out.ext hE)
        replace hEw := hide (hEw.out.trans hE)
        clear hE
        clear q0 q1 q2 q3 q4 q5 q6 q7 r0 r1 r2 r3 r4 r5 r6 r7
        go_wp2_with fail
        refine (Full_ok _ R Fr _ hOw.out hV.out hf.out).mono ?_
        rintro e w4 ⟨A2, c2, rfl, hO2, hE⟩
        replace hO2 := hide hO2.rows
        replace hb9 := hide (hb9.out.ext hE)
        replace hb10 := hide (hb10.out.ext hE)
        replace hb11 := hide (hb11.out.ext hE)
        replace hb12 := hide (hb12.out.ext hE)
        replace hOw := hide (hOw.out.ext hE)
        replace hEw := hide (hEw.out.trans hE)
        clear hE
        have q0 : (w4).cell? ⟨B11, 0, none⟩ = some (.int .i64 (castP p 0)) := (hb11.out).cell 0
        have q1 : (w4).cell? ⟨B11, 1, none⟩ = some (.int .i64 (castP p 1)) := (hb11.out).cell 1
        have q2 : (w4).cell? ⟨B11, 2, none⟩ = some (.int .i64 (castP p 2)) := (hb11.out).cell 2
        have q3 : (w4).cell? ⟨B11, 3, none⟩ = some (.int .i64 (castP p 3)) := (hb11.out).cell 3
        have q4 : (w4).cell? ⟨B11, 4, none⟩ = some (.int .i64 (castP p 4)) := (hb11.out).cell 4
        have q5 : (w4).cell? ⟨B11, 5, none⟩ = some (.int .i64 (castP p 5)) := (hb11.out).cell 5
        have q6 : (w4).cell? ⟨B11, 6, none⟩ = some (.int .i64 (castP p 6)) := (hb11.out).cell 6
        have q7 : (w4).cell? ⟨B11, 7, none⟩ = some (.int .i64 (castP p 7)) := (hb11.out).cell 7
        go_wp2_with fail
        refine (Permute_ok' _ R Fr M p _ hOw.out hV.out hf.out hp.out hM.out).mono ?_
        rintro e w5 ⟨A3, c3, rfl, hO3, hE⟩
        replace hO3 := hide hO3.rows
        replace hb9 := hide (hb9.out.ext hE)
        replace hb10 := hide (hb10.out.ext hE)
        replace hb11 := hide (hb11.out.ext hE)
        replace hb12 := hide (hb12.out.ext hE)
        replace hO2 := hide (hO2.out.ext hE)
        replace hEw := hide (hEw.out.trans hE)
        clear hE
        clear q0 q1 q2 q3 q4 q5 q6 q7
        clear hOw
        go_wp2_with fail
        refine (oValid_any _ Fr _ hO2.out).mono ?_
        rintro e w6 ⟨rfl, hE⟩
        rw [ovB_true hVF.out]
        replace hb9 := hide (hb9.out.ext hE)
        replace hb10 := hide (hb10.out.ext hE)
        replace hb11 := hide (hb11.out.ext hE)
        replace hb12 := hide (hb12.out.ext hE)
        replace hO2 := hide (hO2.out.ext hE)
        replace hO3 := hide (hO3.out.ext hE)
        replace hEw := hide (hEw.out.trans hE)
        clear hE
        go_wp2_with fail
        refine (oValid_any _ M _ hO3.out).mono ?_
        rintro e w7 ⟨rfl, hE⟩
        rw [ovB_true hVM.out]
        replace hb9 := hide (hb9.out.ext hE)
        replace hb10 := hide (hb10.out.ext hE)
        replace hb11 := hide (hb11.out.ext hE)
        replace hb12 := hide (hb12.out.ext hE)
        replace hO2 := hide (hO2.out.ext hE)
        replace hO3 := hide (hO3.out.ext hE)
        replace hEw := hide (hEw.out.trans hE)
        clear hE
        have q0 : (w7).cell? ⟨B9, 0, none⟩ = some (.int .i64 (a 0)) := (hb9.out).cell 0
        have q1 : (w7).cell? ⟨B9, 1, none⟩ = some (.int .i64 (a 1)) := (hb9.out).cell 1
        have q2 : (w7).cell? ⟨B9, 2, none⟩ = some (.int .i64 (a 2)) := (hb9.out).cell 2
        have q3 : (w7).cell? ⟨B9, 3, none⟩ = some (.int .i64 (a 3)) := (hb9.out).cell 3
        have q4 : (w7).cell? ⟨B9, 4, none⟩ = some (.int .i64 (a 4)) := (hb9.out).cell 4
        have q5 : (w7).cell? ⟨B9, 5, none⟩ = some (.int .i64 (a 5)) := (hb9.out).cell 5
        have q6 : (w7).cell? ⟨B9, 6, none⟩ = some (.int .i64 (a 6)) := (hb9.out).cell 6
        have q7 : (w7).cell? ⟨B9, 7, none⟩ = some (.int .i64 (a 7)) := (hb9.out).cell 7
        have r0 : (w7).cell? ⟨B10, 0, none⟩ = some (.int .i64 (b 0)) := (hb10.out).cell 0
        have r1 : (w7).cell? ⟨B10, 1, none⟩ = some (.int .i64 (b 1)) := (hb10.out).cell 1
        have r2 : (w7).cell? ⟨B10, 2, none⟩ = some (.int .i64 (b 2)) := (hb10.out).cell 2
        have r3 : (w7).cell? ⟨B10, 3, none⟩ = some (.int .i64 (b 3)) := (hb10.out).cell 3
        have r4 : (w7).cell? ⟨B10, 4, none⟩ = some (.int .i64 (b 4)) := (hb10.out).cell 4
        have r5 : (w7).cell? ⟨B10, 5, none⟩ = some (.int .i64 (b 5)) := (hb10.out).cell 5
        have r6 : (w7).cell? ⟨B10, 6, none⟩ = some (.int .i64 (b 6)) := (hb10.out).cell 6
        have r7 : (w7).cell? ⟨B10, 7, none⟩ = some (.int .i64 (b 7)) := (hb10.out).cell 7
        go_wp2_with fail
        refine (rows_any _ Fr a b _ hO2.out hFin.out ha6.out hb6.out).mono ?_
        rintro e w8 ⟨rfl, hE⟩
        rw [hn1.out]
        replace hb9 := hide (hb9.out.ext hE)
        replace hb10 := hide (hb10.out.ext hE)
        replace hb11 := hide (hb11.out.ext hE)
        replace hb12 := hide (hb12.out.ext hE)
        replace hO2 := hide (hO2.out.ext hE)
        replace hO3 := hide (hO3.out.ext hE)
        replace hEw := hide (hEw.out.trans hE)
        clear hE
        clear q0 q1 q2 q3 q4 q5 q6 q7 r0 r1 r2 r3 r4 r5 r6 r7
        have q0 : (w8).cell? ⟨B9, 0, none⟩ = some (.int .i64 (a 0)) := (hb9.out).cell 0
        have q1 : (w8).cell? ⟨B9, 1, none⟩ = some (.int .i64 (a 1)) := (hb9.out).cell 1
        have q2 : (w8).cell? ⟨B9, 2, none⟩ = some (.int .i64 (a 2)) := (hb9.out).cell 2
        have q3 : (w8).cell? ⟨B9, 3, none⟩ = some (.int .i64 (a 3)) := (hb9.out).cell 3
        have q4 : (w8).cell? ⟨B9, 4, none⟩ = some (.int .i64 (a 4)) := (hb9.out).cell 4
        have q5 : (w8).cell? ⟨B9, 5, none⟩ = some (.int .i64 (a 5)) := (hb9.out).cell 5
        have q6 : (w8).cell? ⟨B9, 6, none⟩ = some (.int .i64 (a 6)) := (hb9.out).cell 6
        have q7 : (w8).cell? ⟨B9, 7, none⟩ = some (.int .i64 (a 7)) := (hb9.out).cell 7
        have r0 : (w8).cell? ⟨B10, 0, none⟩ = some (.int .i64 (b 0)) := (hb10.out).cell 0
        have r1 : (w8).cell? ⟨B10, 1, none⟩ = some (.int .i64 (b 1)) := (hb10.out).cell 1
        have r2 : (w8).cell? ⟨B10, 2, none⟩ = some (.int .i64 (b 2)) := (hb10.out).cell 2
        have r3 : (w8).cell? ⟨B10, 3, none⟩ = some (.int .i64 (b 3)) := (hb10.out).cell 3
        have r4 : (w8).cell? ⟨B10, 4, none⟩ = some (.int .i64 (b 4)) := (hb10.out).cell 4
        have r5 : (w8).cell? ⟨B10, 5, none⟩ = some (.int .i64 (b 5)) := (hb10.out).cell 5
        have r6 : (w8).cell? ⟨B10, 6, none⟩ = some (.int .i64 (b 6)) := (hb10.out).cell 6
        have r7 : (w8).cell? ⟨B10, 7, none⟩ = some (.int .i64 (b 7)) := (hb10.out).cell 7
        go_wp2_with fail
        refine (oCmp_any _ Fr a b _ hO2.out hFin.out ha6.out hb6.out).mono ?_
        rintro e w9 ⟨rfl, hE⟩
        rw [hn2.out]
        replace hb9 := hide (hb9.out.ext hE)
        replace hb10 := hide (hb10.out.ext hE)
        replace hb11 := hide (hb11.out.ext hE)
        replace hb12 := hide (hb12.out.ext hE)
        replace hO2 := hide (hO2.out.ext hE)
        replace hO3 := hide (hO3.out.ext hE)
        replace hEw := hide (hEw.out.trans hE)
        clear hE
        clear q0 q1 q2 q3 q4 q5 q6 q7 r0 r1 r2 r3 r4 r5 r6 r7
        have q0 : (w9).cell? ⟨B12, 0, none⟩ = some (.int .i64 (castP u 0)) := (hb12.out).cell 0
        have q1 : (w9).cell? ⟨B12, 1, none⟩ = some (.int .i64 (castP u 1)) := (hb12.out).cell 1
        have q2 : (w9).cell? ⟨B12, 2, none⟩ = some (.int .i64 (castP u 2)) := (hb12.out).cell 2
        have q3 : (w9).cell? ⟨B12, 3, none⟩ = some (.int .i64 (castP u 3)) := (hb12.out).cell 3
        have q4 : (w9).cell? ⟨B12, 4, none⟩ = some (.int .i64 (castP u 4)) := (hb12.out).cell 4
        have q5 : (w9).cell? ⟨B12, 5, none⟩ = some (.int .i64 (castP u 5)) := (hb12.out).cell 5
        have q6 : (w9).cell? ⟨B12, 6, none⟩ = some (.int .i64 (castP u 6)) := (hb12.out).cell 6
        have q7 : (w9).cell? ⟨B12, 7, none⟩ = some (.int .i64 (castP u 7)) := (hb12.out).cell 7
        go_wp2_with fail
        refine (Permute_ok' _ M M K u _ hO3.out hVM.out hfM.out hu.out hK.out).mono ?_
        rintro e w10 ⟨A4, c4, rfl, hO4, hE⟩
        replace hO4 := hide hO4.rows
        replace hb9 := hide (hb9.out.ext hE)
        replace hb10 := hide (hb10.out.ext hE)
        replace hb11 := hide (hb11.out.ext hE)
        replace hO2 := hide (hO2.out.ext hE)
        replace hO3 := hide (hO3.out.ext hE)
        replace hEw := hide (hEw.out.trans hE)
        clear hE
        clear q0 q1 q2 q3 q4 q5 q6 q7
        go_upto_region 16 with (fail)
        refine wp_region_v (by kernel_rfl) [[], [], [], [(98, 1), (99, 2)], [], [], [(101, 4), (102, 5)], [(97, 0), (100, 3), (103, 6)], [], [(104, 7), (105, 8)], [(106, 9)], [], [(108, 11)], [(107, 10), (109, 12)], [(110, 13)], [], [], [(112, 15), (113, 16)], [(111, 14), (114, 17)], [(115, 18)], [], [(116, 19), (117, 20)]] [[], [], [], [1, 2], [], [], [1, 2, 3, 4, 5], [0, 1, 2, 3, 4, 5, 6], [], [0, 1, 2, 3, 4, 5, 6, 7, 8], [0, 1, 2, 3, 4, 5, 6, 7, 8, 9], [0, 1, 2, 3, 4, 5, 6, 7, 8, 9, 10], [0, 1, 2, 3, 4, 5, 6, 7, 8, 9, 10, 11], [0, 1, 2, 3, 4, 5, 6, 7, 8, 9, 10, 11, 12], [0, 1, 2, 3, 4, 5, 6, 7, 8, 9, 10, 11, 12, 13], [0, 1, 2, 3, 4, 5, 6, 7, 8, 9, 10, 11, 12, 13, 14], [0, 1, 2, 3, 4, 5, 6, 7, 8, 9, 10, 11, 12, 13, 14], [0, 1, 2, 3, 4, 5, 6, 7, 8, 9, 10, 11, 12, 13, 14, 15, 16], [0, 1, 2, 3, 4, 5, 6, 7, 8, 9, 10, 11, 12, 13, 14, 15, 16, 17], [0, 1, 2, 3, 4, 5, 6, 7, 8, 9, 10, 11, 12, 13, 14, 15, 16, 17, 18], [0, 1, 2, 3, 4, 5, 6, 7, 8, 9, 10, 11, 12, 13, 14, 15, 16, 17, 18, 19], [0, 1, 2, 3, 4, 5, 6, 7, 8, 9, 10, 11, 12, 13, 14, 15, 16, 17, 18, 19, 20]]
          [fun v _ => v = .slice A3 M.length c3, fun v _ => v = .agg #[.int .i64 (a 0), .int .i64 (a 1), .int .i64 (a 2), .int .i64 (a 3), .int .i64 (a 4), .int .i64 (a 5), .int .i64 (a 6), .int .i64 (a 7)], fun v _ => v = .agg #[.int .i64 (castP p 0), .int .i64 (castP p 1), .int .i64 (castP p 2), .int .i64 (castP p 3), .int .i64 (castP p 4), .int .i64 (castP p 5), .int .i64 (castP p 6), .int .i64 (castP p 7)], fun v _ => v = .agg #[.int .i64 (movedTo a p 8 0), .int .i64 (movedTo a p 8 1), .int .i64 (movedTo a p 8 2), .int .i64 (movedTo a p 8 3), .int .i64 (movedTo a p 8 4), .int .i64 (movedTo a p 8 5), .int .i64 (movedTo a p 8 6), .int .i64 (movedTo a p 8 7)], fun v _ => v = .agg #[.int .i64 (b 0), .int .i64 (b 1), .int .i64 (b 2), .int .i64 (b 3), .int .i64 (b 4), .int .i64 (b 5), .int .i64 (b 6), .int .i64 (b 7)], fun v _ => v = .agg #[.int .i64 (castP p 0), .int .i64 (castP p 1), .int .i64 (castP p 2), .int .i64 (castP p 3), .int .i64 (castP p 4), .int .i64 (castP p 5), .int .i64 (castP p 6), .int .i64 (castP p 7)], fun v _ => v = .agg #[.int .i64 (movedTo b p 8 0), .int .i64 (movedTo b p 8 1), .int .i64 (movedTo b p 8 2), .int .i64 (movedTo b p 8 3), .int .i64 (movedTo b p 8 4), .int .i64 (movedTo b p 8 5), .int .i64 (movedTo b p 8 6), .int .i64 (movedTo b p 8 7)], fun v _ => v = .int .i64 n, fun v _ => v = .int .i64 n, fun v _ => v = .bool true, fun v _ => v = .bool true, fun v _ => v = .int .i64 0, fun v _ => v = .bool true, fun v _ => v = .bool true, fun v _ => v = .bool true, fun v _ => v = .slice A4 K.length c4, fun v _ => v = .slice A2 Fr.length c2, fun v _ => v = .bool true, fun v _ => v = .bool true, fun v _ => v = .bool true, fun v _ => v = .bool true, fun v _ => v = .bool true]
          rfl (by kernel_rfl) (by kernel_rfl) ?stab ?steps ?fin
        case stab => exact .cons (Stab.eq _) (.cons (Stab.eq _) (.cons (Stab.eq _) (.cons (Stab.eq _) (.cons (Stab.eq _) (.cons (Stab.eq _) (.cons (Stab.eq _) (.cons (Stab.eq _) (.cons (Stab.eq _) (.cons (Stab.eq _) (.cons (Stab.eq _) (.cons (Stab.eq _) (.cons (Stab.eq _) (.cons (Stab.eq _) (.cons (Stab.eq _) (.cons (Stab.eq _) (.cons (Stab.eq _) (.cons (Stab.eq _) (.cons (Stab.eq _) (.cons (Stab.eq _) (.cons (Stab.eq _) (.cons (Stab.eq _) .nil)))))))))))))))))))))
        case steps =>
          refine .cons ?s0 (.cons ?s1 (.cons ?s2 (.cons ?s3 (.cons ?s4 (.cons ?s5 (.cons ?s6 (.cons ?s7 (.cons ?s8 (.cons ?s9 (.cons ?s10 (.cons ?s11 (.cons ?s12 (.cons ?s13 (.cons ?s14 (.cons ?s15 (.cons ?s16 (.cons ?s17 (.cons ?s18 (.cons ?s19 (.cons ?s20 (.cons ?s21 .nil)))))))))))))))))))))
          case s0 =>
            intro w' ev hE hk ha hc hf
            have e17 : ev (.tmp 17) = .slice A3 M.length c3 := ha 17 (by decide)
            exact opStep_val (by simp [execOp, e17, go_sem]) rfl
          case s1 =>
            intro w' ev hE hk ha hc hf
            have e9 : ev (.tmp 9) = .pointer (some ⟨B9, 0, none⟩) := ha 9 (by decide)
            have c0 : w'.cell? ⟨B9, 0, none⟩ = some (.int .i64 (a 0)) := hE.cellv (hb9.out.cell 0)
            have c1 : w'.cell? ⟨B9, 1, none⟩ = some (.int .i64 (a 1)) := hE.cellv (hb9.out.cell 1)
            have c2 : w'.cell? ⟨B9, 2, none⟩ = some (.int .i64 (a 2)) := hE.cellv (hb9.out.cell 2)
            have c3 : w'.cell? ⟨B9, 3, none⟩ = some (.int .i64 (a 3)) := hE.cellv (hb9.out.cell 3)
            have c4 : w'.cell? ⟨B9, 4, none⟩ = some (.int .i64 (a 4)) := hE.cellv (hb9.out.cell 4)
            have c5 : w'.cell? ⟨B9, 5, none⟩ = some (.int .i64 (a 5)) := hE.cellv (hb9.out.cell 5)
            have c6 : w'.cell? ⟨B9, 6, none⟩ = some (.int .i64 (a 6)) := hE.cellv (hb9.out.cell 6)
            have c7 : w'.cell? ⟨B9, 7, none⟩ = some (.int .i64 (a 7)) := hE.cellv (hb9.out.cell 7)
            exact opStep_val (by simp [execOp, e9, c0, c1, c2, c3, c4, c5, c6, c7, go_sem]) rfl
          case s2 =>
            intro w' ev hE hk ha hc hf
            have e11 : ev (.tmp 11) = .pointer (some ⟨B11, 0, none⟩) := ha 11 (by decide)
            have c0 : w'.cell? ⟨B11, 0, none⟩ = some (.int .i64 (castP p 0)) := hE.cellv (hb11.out.cell 0)
            have c1 : w'.cell? ⟨B11, 1, none⟩ = some (.int .i64 (castP p 1)) := hE.cellv (hb11.out.cell 1)
            have c2 : w'.cell? ⟨B11, 2, none⟩ = some (.int .i64 (castP p 2)) := hE.cellv (hb11.out.cell 2)
            have c3 : w'.cell? ⟨B11, 3, none⟩ = some (.int .i64 (castP p 3)) := hE.cellv (hb11.out.cell 3)
            have c4 : w'.cell? ⟨B11, 4, none⟩ = some (.int .i64 (castP p 4)) := hE.cellv (hb11.out.cell 4)
            have c5 : w'.cell? ⟨B11, 5, none⟩ = some (.int .i64 (castP p 5)) := hE.cellv (hb11.out.cell 5)
            have c6 : w'.cell? ⟨B11, 6, none⟩ = some (.int .i64 (castP p 6)) := hE.cellv (hb11.out.cell 6)
            have c7 : w'.cell? ⟨B11, 7, none⟩ = some (.int .i64 (castP p 7)) := hE.cellv (hb11.out.cell 7)
            exact opStep_val (by simp [execOp, e11, c0, c1, c2, c3, c4, c5, c6, c7, go_sem]) rfl
          case s3 =>
            intro w' ev hE hk ha hc hf
            have e98 : ev (.tmp 98) = .agg #[.int .i64 (a 0), .int .i64 (a 1), .int .i64 (a 2), .int .i64 (a 3), .int .i64 (a 4), .int .i64 (a 5), .int .i64 (a 6), .int .i64 (a 7)] := hk.1 _ rfl
            have e99 : ev (.tmp 99) = .agg #[.int .i64 (castP p 0), .int .i64 (castP p 1), .int .i64 (castP p 2), .int .i64 (castP p 3), .int .i64 (castP p 4), .int .i64 (castP p 5), .int .i64 (castP p 6), .int .i64 (castP p 7)] := hk.2.1 _ rfl
            refine opStep_call (by simp [execOp, resolve, invoke, hf, e98, e99, go_sem]) (Moved_any a p _ hp.out.lt) ?_
            rintro e w1 ⟨rfl, hE1⟩
            exact ⟨_, rfl, hE1, rfl⟩
          case s4 =>
            intro w' ev hE hk ha hc hf
            have e10 : ev (.tmp 10) = .pointer (some ⟨B10, 0, none⟩) := ha 10 (by decide)
            have c0 : w'.cell? ⟨B10, 0, none⟩ = some (.int .i64 (b 0)) := hE.cellv (hb10.out.cell 0)
            have c1 : w'.cell? ⟨B10, 1, none⟩ = some (.int .i64 (b 1)) := hE.cellv (hb10.out.cell 1)
            have c2 : w'.cell? ⟨B10, 2, none⟩ = some (.int .i64 (b 2)) := hE.cellv (hb10.out.cell 2)
            have c3 : w'.cell? ⟨B10, 3, none⟩ = some (.int .i64 (b 3)) := hE.cellv (hb10.out.cell 3)
            have c4 : w'.cell? ⟨B10, 4, none⟩ = some (.int .i64 (b 4)) := hE.cellv (hb10.out.cell 4)
            have c5 : w'.cell? ⟨B10, 5, none⟩ = some (.int .i64 (b 5)) := hE.cellv (hb10.out.cell 5)
            have c6 : w'.cell? ⟨B10, 6, none⟩ = some (.int .i64 (b 6)) := hE.cellv (hb10.out.cell 6)
            have c7 : w'.cell? ⟨B10, 7, none⟩ = some (.int .i64 (b 7)) := hE.cellv (hb10.out.cell 7)
            exact opStep_val (by simp [execOp, e10, c0, c1, c2, c3, c4, c5, c6, c7, go_sem]) rfl
          case s5 =>
            intro w' ev hE hk ha hc hf
            have e11 : ev (.tmp 11) = .pointer (some ⟨B11, 0, none⟩) := ha 11 (by decide)
            have c0 : w'.cell? ⟨B11, 0, none⟩ = some (.int .i64 (castP p 0)) := hE.cellv (hb11.out.cell 0)
            have c1 : w'.cell? ⟨B11, 1, none⟩ = some (.int .i64 (castP p 1)) := hE.cellv (hb11.out.cell 1)
            have c2 : w'.cell? ⟨B11, 2, none⟩ = some (.int .i64 (castP p 2)) := hE.cellv (hb11.out.cell 2)
            have c3 : w'.cell? ⟨B11, 3, none⟩ = some (.int .i64 (castP p 3)) := hE.cellv (hb11.out.cell 3)
            have c4 : w'.cell? ⟨B11, 4, none⟩ = some (.int .i64 (castP p 4)) := hE.cellv (hb11.out.cell 4)
            have c5 : w'.cell? ⟨B11, 5, none⟩ = some (.int .i64 (castP p 5)) := hE.cellv (hb11.out.cell 5)
            have c6 : w'.cell? ⟨B11, 6, none⟩ = some (.int .i64 (castP p 6)) := hE.cellv (hb11.out.cell 6)
            have c7 : w'.cell? ⟨B11, 7, none⟩ = some (.int .i64 (castP p 7)) := hE.cellv (hb11.out.cell 7)
            exact opStep_val (by simp [execOp, e11, c0, c1, c2, c3, c4, c5, c6, c7, go_sem]) rfl
          case s6 =>
            intro w' ev hE hk ha hc hf
            have e101 : ev (.tmp 101) = .agg #[.int .i64 (b 0), .int .i64 (b 1), .int .i64 (b 2), .int .i64 (b 3), .int .i64 (b 4), .int .i64 (b 5), .int .i64 (b 6), .int .i64 (b 7)] := hk.1 _ rfl
            have e102 : ev (.tmp 102) = .agg #[.int .i64 (castP p 0), .int .i64 (castP p 1), .int .i64 (castP p 2), .int .i64 (castP p 3), .int .i64 (castP p 4), .int .i64 (castP p 5), .int .i64 (castP p 6), .int .i64 (castP p 7)] := hk.2.1 _ rfl
            refine opStep_call (by simp [execOp, resolve, invoke, hf, e101, e102, go_sem]) (Moved_any b p _ hp.out.lt) ?_
            rintro e w1 ⟨rfl, hE1⟩
            exact ⟨_, rfl, hE1, rfl⟩
          case s7 =>
            intro w' ev hE hk ha hc hf
            have e97 : ev (.tmp 97) = .slice A3 M.length c3 := hk.1 _ rfl
            have e100 : ev (.tmp 100) = .agg #[.int .i64 (movedTo a p 8 0), .int .i64 (movedTo a p 8 1), .int .i64 (movedTo a p 8 2), .int .i64 (movedTo a p 8 3), .int .i64 (movedTo a p 8 4), .int .i64 (movedTo a p 8 5), .int .i64 (movedTo a p 8 6), .int .i64 (movedTo a p 8 7)] := hk.2.1 _ rfl
            have e103 : ev (.tmp 103) = .agg #[.int .i64 (movedTo b p 8 0), .int .i64 (movedTo b p 8 1), .int .i64 (movedTo b p 8 2), .int .i64 (movedTo b p 8 3), .int .i64 (movedTo b p 8 4), .int .i64 (movedTo b p 8 5), .int .i64 (movedTo b p 8 6), .int .i64 (movedTo b p 8 7)] := hk.2.2.1 _ rfl
            refine opStep_call (by simp [execOp, resolve, invoke, hf, e97, e100, e103, go_sem]) (oCmp_any _ M _ _ _ (hO3.out.ext ((Ext.refl _).drew.trans hE)) hMin.out hma.out hmb.out) ?_
            rintro e w1 ⟨rfl, hE1⟩
            exact ⟨_, rfl, hE1, by rw [hn3.out]⟩
          case s8 =>
            intro w' ev hE hk ha hc hf
            have e14 : ev (.tmp 14) = .int .i64 n := ha 14 (by decide)
            exact opStep_val (by simp [execOp, e14, go_sem]) rfl
          case s9 =>
            intro w' ev hE hk ha hc hf
            have e104 : ev (.tmp 104) = .int .i64 n := hk.1 _ rfl
            have e105 : ev (.tmp 105) = .int .i64 n := hk.2.1 _ rfl
            exact opStep_val (by simp [execOp, e104, e105, hc, go_sem]) rfl
          case s10 =>
            intro w' ev hE hk ha hc hf
            have e106 : ev (.tmp 106) = .bool true := hk.1 _ rfl
            exact opStep_val (by simp [execOp, e106, go_sem]) rfl
          case s11 =>
            intro w' ev hE hk ha hc hf
            intro gv hg
            have hgv := hg _ rfl
            refine ⟨fun hgt => ?_, fun hgf => ?_⟩
            · skip
              have e20 : ev (.tmp 20) = .int .i64 0 := ha 20 (by decide)
              exact opStep_val (by simp [execOp, e20, go_sem]) rfl
            · exact absurd hgv hgf
          case s12 =>
            intro w' ev hE hk ha hc hf
            intro gv hg
            have hgv := hg _ rfl
            refine ⟨fun hgt => ?_, fun hgf => ?_⟩
            · skip
              have e108 : ev (.tmp 108) = .int .i64 0 := hk.1 _ rfl
              exact opStep_val (by simp [execOp, e108, hc, go_sem]) rfl
            · exact absurd hgv hgf
          case s13 =>
            intro w' ev hE hk ha hc hf
            have e107 : ev (.tmp 107) = .bool true := hk.1 _ rfl
            have e109 : ev (.tmp 109) = .bool true := hk.2.1 _ rfl
            exact opStep_val (by simp [execOp, e107, e109, hc, go_sem]) rfl
          case s14 =>
            intro w' ev hE hk ha hc hf
            have e110 : ev (.tmp 110) = .bool true := hk.1 _ rfl
            exact opStep_val (by simp [execOp, e110, go_sem]) rfl
          case s15 =>
            intro w' ev hE hk ha hc hf
            intro gv hg
            have hgv := hg _ rfl
            refine ⟨fun hgt => ?_, fun hgf => ?_⟩
            · skip
              have e19 : ev (.tmp 19) = .slice A4 K.length c4 := ha 19 (by decide)
              exact opStep_val (by simp [execOp, e19, go_sem]) rfl
            · exact absurd hgv hgf
          case s16 =>
            intro w' ev hE hk ha hc hf
            intro gv hg
            have hgv := hg _ rfl
            refine ⟨fun hgt => ?_, fun hgf => ?_⟩
            · skip
              have e15 : ev (.tmp 15) = .slice A2 Fr.length c2 := ha 15 (by decide)
              exact opStep_val (by simp [execOp, e15, go_sem]) rfl
            · exact absurd hgv hgf
          case s17 =>
            intro w' ev hE hk ha hc hf
            intro gv hg
            have hgv := hg _ rfl
            refine ⟨fun hgt => ?_, fun hgf => ?_⟩
            · skip
              have e112 : ev (.tmp 112) = .slice A4 K.length c4 := hk.1 _ rfl
              have e113 : ev (.tmp 113) = .slice A2 Fr.length c2 := hk.2.1 _ rfl
              refine opStep_call (by simp [execOp, resolve, invoke, hf, e112, e113, go_sem]) (Same_any _ _ K Fr _ (hO4.out.ext ((Ext.refl _).drew.trans hE)) (hO2.out.ext ((Ext.refl _).drew.trans hE))) ?_
              rintro e w1 ⟨rfl, hE1⟩
              exact ⟨_, rfl, hE1, by rw [hal.out]⟩
            · exact absurd hgv hgf
          case s18 =>
            intro w' ev hE hk ha hc hf
            have e111 : ev (.tmp 111) = .bool true := hk.1 _ rfl
            have e114 : ev (.tmp 114) = .bool true := hk.2.1 _ rfl
            exact opStep_val (by simp [execOp, e111, e114, hc, go_sem]) rfl
          case s19 =>
            intro w' ev hE hk ha hc hf
            have e115 : ev (.tmp 115) = .bool true := hk.1 _ rfl
            exact opStep_val (by simp [execOp, e115, go_sem]) rfl
          case s20 =>
            intro w' ev hE hk ha hc hf
            intro gv hg
            have hgv := hg _ rfl
            refine ⟨fun hgt => ?_, fun hgf => ?_⟩
            · skip
              have e7 : ev (.tmp 7) = .bool true := ha 7 (by decide)
              exact opStep_val (by simp [execOp, e7, go_sem]) rfl
            · exact absurd hgv hgf
          case s21 =>
            intro w' ev hE hk ha hc hf
            have e116 : ev (.tmp 116) = .bool true := hk.1 _ rfl
            have e117 : ev (.tmp 117) = .bool true := hk.2.1 _ rfl
            exact opStep_val (by simp [execOp, e116, e117, hc, go_sem]) rfl
        case fin =>
          intro g w' hE hF
          have e21 := hF 21 _ rfl
          simp only [List.length_cons, List.length_nil, Nat.reduceAdd, List.drop_succ_cons, List.drop_zero, List.take_succ_cons, List.take_zero, putG, Act.put, List.setIfInBounds_toArray, List.set_cons_succ, List.set_cons_zero, e21]
          go_wp2
          go_ret
          exact ⟨rfl, hEw.out.trans ((Ext.refl _).drew.trans hE)⟩

end Go.Proofs.Yteefhmdameeoaaa
