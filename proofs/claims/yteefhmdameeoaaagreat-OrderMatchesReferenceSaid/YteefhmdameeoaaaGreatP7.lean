/-
  Gaussian elimination, plainly: eight pivots are found exactly if only 0 is orthogonal to all rows.
  A matrix of rational numbers in memory; the closure of rank; slices.IndexFunc.
  slices.IndexFunc over the rows of a matrix: the first row with a number other than 0 in a column.
  A second rule for a region that draws its order: every operation has a known value, and memory turns at known operations, which stand in a row; the others may come at any time that the table of dependencies allows.
  Two rows of a matrix in memory change places.
  The region rule once more, for a region that also stores a rational number into memory of its own: all other memory is kept.
-/
import Derived.Test.YteefhmdameeoaaaGreatP4
import Derived.Test.YteefhmdameeoaaaGreatP5
import Derived.WalkKit
import Derived.WalkSpells
import Derived.WalkLawsBesides
import Derived.BigQuiet
import Derived.Deep.QuietTactic
import Derived.Laws.AppendOwnNone
import Derived.Deep.RegionHeld3
import Derived.Deep.DeepCutAuto
import Derived.Deep.CutBlock
import Derived.Deep.LoopGhost
import Derived.ChangeKeysEq
import Derived.RegionTactic
import Derived.ChangeAlike
import Derived.Deep.Cut
set_option linter.unusedSimpArgs false
set_option linter.unusedVariables false
namespace Go.Proofs.YteefhmdameeoaaaGreat
open Go.RowKit

def dotQ (a x : Nat → Rat) : Nat → Rat
  | 0 => 0
  | k + 1 => dotQ a x k + a k * x k
theorem dotQ_sub (a b x : Nat → Rat) (f : Rat) : ∀ k, dotQ (fun j => a j - f * b j) x k = dotQ a x k - f * dotQ b x k
  | 0 => by simp only [dotQ]; grind
  | k + 1 => by simp only [dotQ]; rw [dotQ_sub a b x f k]; grind
theorem dotQ_congr {a b x : Nat → Rat} : ∀ {k : Nat}, (∀ j, j < k → a j = b j) → dotQ a x k = dotQ b x k
  | 0, _ => rfl
  | k + 1, h => by simp only [dotQ]; rw [dotQ_congr fun j hj => h j (by omega), h k (by omega)]
theorem dotQ_congr' {a x y : Nat → Rat} : ∀ {k : Nat}, (∀ j, j < k → a j * x j = a j * y j) → dotQ a x k = dotQ a y k
  | 0, _ => rfl
  | k + 1, h => by simp only [dotQ]; rw [dotQ_congr' fun j hj => h j (by omega), h k (by omega)]
theorem dotQ_zero {a x : Nat → Rat} : ∀ {k : Nat}, (∀ j, j < k → a j * x j = 0) → dotQ a x k = 0
  | 0, _ => rfl
  | k + 1, h => by simp only [dotQ]; rw [dotQ_zero fun j hj => h j (by omega), h k (by omega)]; grind
theorem dotQ_single {a x : Nat → Rat} {p : Nat} : ∀ {k : Nat}, p < k → (∀ j, j < k → j ≠ p → a j * x j = 0) → dotQ a x k = a p * x p
  | 0, h, _ => by omega
  | k + 1, h, hz => by
    simp only [dotQ]
    by_cases e : p = k
    · subst e; rw [dotQ_zero fun j hj => hz j (by omega) (by omega)]; grind
    · rw [dotQ_single (p := p) (by omega) fun j hj hne => hz j (by omega) hne, hz k (by omega) (by omega)]; grind
def updQ (x : Nat → Rat) (q : Nat) (v : Rat) (j : Nat) : Rat := if j = q then v else x j
theorem dotQ_upd (a x : Nat → Rat) (q : Nat) (v : Rat) : ∀ k, dotQ a (updQ x q v) k = dotQ a x k + (if q < k then a q * (v - x q) else 0)
  | 0 => by simp only [dotQ, Nat.not_lt_zero, if_false]; grind
  | k + 1 => by
    simp only [dotQ]
    rw [dotQ_upd a x q v k]
    by_cases e : q = k
    · subst e; simp only [updQ, if_true, Nat.lt_irrefl, if_false, Nat.lt_succ_self]; grind
    · by_cases h : q < k
      · rw [if_pos h, if_pos (by omega)]; simp only [updQ]; rw [if_neg (fun h => e h.symm)]; grind
      · rw [if_neg h, if_neg (by omega)]; simp only [updQ]; rw [if_neg (fun h => e h.symm)]; grind

/-- The vector is orthogonal to the first n rows. -/
def Ker (M : Nat → Nat → Rat) (n : Nat) (x : Nat → Rat) : Prop := ∀ k, k < n → dotQ (M k) x 8 = 0
/-- Only 0 is orthogonal to the rows. -/
def KerTriv (M : Nat → Nat → Rat) (n : Nat) : Prop := ∀ x, Ker M n x → ∀ i, i < 8 → x i = 0

structure RankInv (O : Nat → Nat → Rat) (n i r : Nat) (M : Nat → Nat → Rat) : Prop where
  ri : r ≤ i
  rn : r ≤ n
  ker : ∀ x, Ker M n x ↔ Ker O n x
  zero : ∀ k, r ≤ k → k < n → ∀ j, j < i → M k j = 0
  tri : r = i → ∀ p, p < r → M p p ≠ 0 ∧ ∀ j, j < p → M p j = 0
  not : r < i → ¬ KerTriv O n

theorem RankInv.start (O : Nat → Nat → Rat) (n : Nat) : RankInv O n 0 0 O :=
  ⟨Nat.le_refl _, Nat.zero_le _, fun _ => Iff.rfl, fun _ _ _ j hj => by omega, fun _ p hp => by omega, fun h => by omega⟩

theorem back {M : Nat → Nat → Rat} {i : Nat} (hi : i < 8) (tri : ∀ p, p < i → M p p ≠ 0 ∧ ∀ j, j < p → M p j = 0) : ∀ d, d ≤ i → ∃ x : Nat → Rat, x i = 1 ∧ (∀ j, i < j → x j = 0) ∧ ∀ p, i - d ≤ p → p < i → dotQ (M p) x 8 = 0
  | 0, _ => ⟨fun j => if j = i then 1 else 0, by simp, fun j hj => by simp; omega, fun p h1 h2 => by omega⟩
  | d + 1, hd => by
    obtain ⟨x, h1, h2, h3⟩ := back hi tri d (by omega)
    refine ⟨updQ x (i - (d + 1)) (x (i - (d + 1)) - dotQ (M (i - (d + 1))) x 8 / M (i - (d + 1)) (i - (d + 1))), ?_, fun j hj => ?_, fun p hp hpi => ?_⟩
    · simp only [updQ]; rw [if_neg (by omega)]; exact h1
    · simp only [updQ]; rw [if_neg (by omega)]; exact h2 j hj
    · rw [dotQ_upd, if_pos (by omega)]
      by_cases e : p = i - (d + 1)
      · rw [← e]
        have := (tri p hpi).1
        generalize M p p = m at *
        generalize dotQ (M p) x 8 = s at *
        generalize x p = y at *
        grind
      · rw [h3 p (by omega) hpi, (tri p hpi).2 _ (by omega)]; grind

theorem RankInv.skip {O M : Nat → Nat → Rat} {n i r : Nat} (I : RankInv O n i r M) (hi : i < 8) (hz : ∀ k, r ≤ k → k < n → M k i = 0) : RankInv O n (i + 1) r M := by
  have hr := I.ri
  refine ⟨by omega, I.rn, I.ker, fun k h1 h2 j hj => ?_, fun h => by omega, fun _ ht => ?_⟩
  · by_cases e : j = i
    · rw [e]; exact hz k h1 h2
    · exact I.zero k h1 h2 j (by omega)
  · by_cases e : r = i
    · subst e
      obtain ⟨x, h1, h2, h3⟩ := back hi (I.tri rfl) r (Nat.le_refl _)
      have hk : Ker M n x := fun k hk => by
        by_cases hkr : k < r
        · exact h3 k (by omega) hkr
        · refine dotQ_zero fun j hj => ?_
          by_cases hjr : j < r
          · rw [I.zero k (by omega) hk j hjr]; grind
          · by_cases e : j = r
            · rw [e, hz k (by omega) hk]; grind
            · rw [h2 j (by omega)]; grind
      have := ht x ((I.ker x).1 hk) r hi
      rw [h1] at this
      exact absurd this (by decide)
    · exact I.not (by omega) ht

def swapQ (M : Nat → Nat → Rat) (r p k : Nat) : Nat → Rat := if k = r then M p else if k = p then M r else M k
/-- The rows below row r (from the m-th on: not yet) reduced by it. -/
def elimQ (M : Nat → Nat → Rat) (i r m k j : Nat) : Rat := if r < k ∧ k < m then M k j - M k i / M r i * M r j else M k j

theorem ker_swap {M : Nat → Nat → Rat} {n r p : Nat} (hr : r < n) (hp : p < n) (x : Nat → Rat) : Ker (swapQ M r p) n x ↔ Ker M n x := by
  constructor
  · intro h k hk
    by_cases e : k = r
    · have := h p hp
      simp only [swapQ] at this
      by_cases e2 : p = r
      · rw [if_pos e2] at this; rw [e, ← e2]; exact this
      · rw [if_neg e2, if_pos trivial] at this; rw [e]; exact this
    · by_cases e2 : k = p
      · have := h r hr; simp only [swapQ, if_true] at this; rw [e2]; exact this
      · have := h k hk; simp only [swapQ, if_neg e, if_neg e2] at this; exact this
  · intro h k hk
    simp only [swapQ]
    by_cases e : k = r
    · rw [if_pos e]; exact h p hp
    · rw [if_neg e]
      by_cases e2 : k = p
      · rw [if_pos e2]; exact h r hr
      · rw [if_neg e2]; exact h k hk
theorem ker_elim {M : Nat → Nat → Rat} {n i r : Nat} (hr : r < n) (x : Nat → Rat) : Ker (elimQ M i r n) n x ↔ Ker M n x := by
  have hrow : ∀ k, k < n → dotQ (elimQ M i r n k) x 8 = if r < k then dotQ (M k) x 8 - M k i / M r i * dotQ (M r) x 8 else dotQ (M k) x 8 := fun k hk => by
    by_cases h : r < k
    · rw [if_pos h, ← dotQ_sub]; exact dotQ_congr fun j _ => by simp only [elimQ]; rw [if_pos ⟨h, hk⟩]
    · rw [if_neg h]; exact dotQ_congr fun j _ => by simp only [elimQ]; rw [if_neg (fun h' => h h'.1)]
  constructor
  · intro h k hk
    have h1 := h k hk
    rw [hrow k hk] at h1
    have h2 := h r hr
    rw [hrow r hr, if_neg (Nat.lt_irrefl r)] at h2
    by_cases e : r < k
    · rw [if_pos e, h2] at h1; grind
    · rw [if_neg e] at h1; exact h1
  · intro h k hk
    rw [hrow k hk, h k hk, h r hr]
    split <;> grind

theorem RankInv.elim {O M : Nat → Nat → Rat} {n i r p : Nat} (I : RankInv O n i r M) (hi : i < 8) (hr : r ≤ p) (hp : p < n) (hne : M p i ≠ 0) : RankInv O n (i + 1) (r + 1) (elimQ (swapQ M r p) i r n) := by
  have hri := I.ri
  have hpiv : swapQ M r p r i ≠ 0 := by simp only [swapQ, if_true]; exact hne
  have hz : ∀ k, r ≤ k → k < n → ∀ j, j < i → swapQ M r p k j = 0 := fun k h1 h2 j hj => by
    simp only [swapQ]
    split
    · exact I.zero p hr hp j hj
    · split
      · exact I.zero r (Nat.le_refl _) (by omega) j hj
      · exact I.zero k h1 h2 j hj
  refine ⟨by omega, by omega, fun x => (ker_elim (by omega) x).trans ((ker_swap (by omega) hp x).trans (I.ker x)), fun k h1 h2 j hj => ?_, fun h q hq => ?_, fun h => I.not (by omega)⟩
  · simp only [elimQ]
    rw [if_pos ⟨by omega, h2⟩]
    by_cases e : j = i
    · subst e
      generalize swapQ M r p r j = m at *
      generalize swapQ M r p k j = s at *
      grind
    · rw [hz k (by omega) h2 j (by omega), hz r (Nat.le_refl _) (by omega) j (by omega)]; grind
  · have he : elimQ (swapQ M r p) i r n q = swapQ M r p q := by
      funext j; simp only [elimQ]; rw [if_neg (by omega)]
    rw [he]
    by_cases e : q = r
    · subst e
      have : q = i := by omega
      subst this
      exact ⟨hpiv, fun j hj => hz q (Nat.le_refl _) (by omega) j hj⟩
    · have h2 : swapQ M r p q = M q := by simp only [swapQ]; rw [if_neg e, if_neg (by omega)]
      rw [h2]
      exact I.tri (by omega) q (by omega)

theorem RankInv.fin {O M : Nat → Nat → Rat} {n r : Nat} (I : RankInv O n 8 r M) : r = 8 ↔ KerTriv O n := by
  constructor
  · intro h x hx
    have hk := (I.ker x).2 hx
    have hn := I.rn
    have key : ∀ d, d ≤ 8 → ∀ j, 8 - d ≤ j → j < 8 → x j = 0 := by
      intro d
      induction d with
      | zero => intro _ j h1 h2; omega
      | succ d ih =>
        intro hd j h1 h2
        by_cases e : j = 8 - (d + 1)
        · have ht := I.tri h j (by omega)
          have h3 := hk j (by omega)
          rw [dotQ_single (p := j) h2 fun q hq hne => by
            by_cases hqj : q < j
            · rw [ht.2 q hqj]; grind
            · rw [ih (by omega) q (by omega) hq]; grind] at h3
          have := ht.1
          generalize M j j = m at *
          generalize x j = y at *
          grind
        · exact ih (by omega) j (by omega) h2
    exact fun i hi => key 8 (Nat.le_refl _) i (by omega) hi
  · intro ht
    have := I.ri
    by_cases h : r < 8
    · exact absurd ht (I.not h)
    · omega

end Go.Proofs.YteefhmdameeoaaaGreat
namespace Go.Proofs.YteefhmdameeoaaaGreat
open Go.RowKit

theorem cso {w : World} {a b : Addr} {v : Value} (h : a ≠ b) : (w.setCell a v).cell? b = w.cell? b := World.cell?_setCell_other _ _ _ _ h
theorem css {w : World} {a : Addr} {u v : Value} (h : w.cell? a = some u) : (w.setCell a v).cell? a = some v := World.cell?_setCell_same _ _ _ h
/-- A rational number in four cells. -/
def RatAt (w : World) (g o : Nat) (q : Rat) : Prop :=
  ∃ (b b' : Bool) (A A' : Option Addr) (m c m' c' : Nat), w.cell? ⟨g, o, none⟩ = some (.bool b) ∧ w.cell? ⟨g, o + 1, none⟩ = some (.slice A m c) ∧ w.cell? ⟨g, o + 2, none⟩ = some (.bool b') ∧ w.cell? ⟨g, o + 3, none⟩ = some (.slice A' m' c') ∧ IsRat w (.bool b) (.slice A m c) (.bool b') (.slice A' m' c') q
theorem RatAt.ext {w w' : World} {g o : Nat} {q : Rat} (h : RatAt w g o q) (he : Ext w w') : RatAt w' g o q := by
  obtain ⟨b, b', A, A', m, c, m', c', h1, h2, h3, h4, h5⟩ := h
  exact ⟨b, b', A, A', m, c, m', c', he.cellv h1, he.cellv h2, he.cellv h3, he.cellv h4, h5.ext he⟩
theorem RatAt.set {w : World} {g o : Nat} {q : Rat} (h : RatAt w g o q) {p : Addr} {t : TypeId} (ht : Ty w p.block t) (hne : t ≠ 105) (hp : p.block ≠ g ∨ (p.spot = none ∧ (p.off < o ∨ o + 4 ≤ p.off))) (u : Value) : RatAt (w.setCell p u) g o q := by
  obtain ⟨b, b', A, A', m, c, m', c', h1, h2, h3, h4, h5⟩ := h
  have key : ∀ k, k < 4 → ∀ v, w.cell? ⟨g, o + k, none⟩ = some v → (w.setCell p u).cell? ⟨g, o + k, none⟩ = some v := fun k hk v hv => by
    rw [cso (by
      intro e
      rcases hp with hp | ⟨hs, hp⟩
      · exact hp (congrArg Addr.block e)
      · have := congrArg Addr.off e; simp at this; omega)]
    exact hv
  exact ⟨b, b', A, A', m, c, m', c', key 0 (by omega) _ h1, key 1 (by omega) _ h2, key 2 (by omega) _ h3, key 3 (by omega) _ h4, h5.set ht hne u⟩

/-- Four cells written at a place. -/
def rat4 (w : World) (g o : Nat) (u0 u1 u2 u3 : Value) : World := (((w.setCell ⟨g, o, none⟩ u0).setCell ⟨g, o + 1, none⟩ u1).setCell ⟨g, o + 2, none⟩ u2).setCell ⟨g, o + 3, none⟩ u3
/-- Block g is a matrix of n rows; D says which entries are numbers. -/
def MatP (w : World) (g n : Nat) (D : Nat → Nat → Prop) (M : Nat → Nat → Rat) : Prop :=
  (∃ cur, Blk w g 76 cur ∧ cur.size = n * 32) ∧ ∀ k i, k < n → i < 8 → D k i → RatAt w g (k * 32 + i * 4) (M k i)
def MatAt (w : World) (g n : Nat) (M : Nat → Nat → Rat) : Prop := MatP w g n (fun _ _ => True) M
theorem MatP.ty {w : World} {g n : Nat} {D : Nat → Nat → Prop} {M : Nat → Nat → Rat} (h : MatP w g n D M) : Ty w g 76 := by
  obtain ⟨⟨cur, h1, _⟩, _⟩ := h
  exact ⟨cur, _, h1⟩
theorem MatP.some {w : World} {g n : Nat} {D : Nat → Nat → Prop} {M : Nat → Nat → Rat} (h : MatP w g n D M) {o : Nat} (ho : o < n * 32) : ∃ v, w.cell? ⟨g, o, none⟩ = some v := by
  obtain ⟨⟨cur, h1, h2⟩, _⟩ := h
  exact ⟨cur[o], by rw [h1.cell, Array.getElem?_eq_getElem (by omega)]⟩
theorem MatP.frozen {w : World} {g n : Nat} {D : Nat → Nat → Prop} {M : Nat → Nat → Rat} (h : MatP w g n D M) (o : Nat) : w.frozen? ⟨g, o, none⟩ = false := by
  obtain ⟨⟨cur, h1, _⟩, _⟩ := h
  exact h1.frozen o
theorem MatP.ext {w w' : World} {g n : Nat} {D : Nat → Nat → Prop} {M : Nat → Nat → Rat} (h : MatP w g n D M) (he : Ext w w') : MatP w' g n D M := by
  obtain ⟨⟨cur, h1, h2⟩, h3⟩ := h
  exact ⟨⟨cur, h1.ext he, h2⟩, fun k i hk hi hd => (h3 k i hk hi hd).ext he⟩
theorem MatP.congr {w : World} {g n : Nat} {D D' : Nat → Nat → Prop} {M M' : Nat → Nat → Rat} (h : MatP w g n D M) (hd : ∀ k i, k < n → i < 8 → D' k i → D k i ∧ M' k i = M k i) : MatP w g n D' M' :=
  ⟨h.1, fun k i hk hi h' => by obtain ⟨h1, h2⟩ := hd k i hk hi h'; rw [h2]; exact h.2 k i hk hi h1⟩
theorem MatP.set {w : World} {g n : Nat} {D : Nat → Nat → Prop} {M : Nat → Nat → Rat} (h : MatP w g n D M) (o : Nat) (u : Value) : MatP (w.setCell ⟨g, o, none⟩ u) g n (fun k i => D k i ∧ ¬ (k * 32 + i * 4 ≤ o ∧ o < k * 32 + i * 4 + 4)) M := by
  have ht := h.ty
  obtain ⟨⟨cur, h1, h2⟩, h3⟩ := h
  exact ⟨⟨_, h1.set o u, by simpa using h2⟩, fun k i hk hi hd => (h3 k i hk hi hd.1).set (p := ⟨g, o, none⟩) ht (by decide) (.inr ⟨rfl, by have := hd.2; dsimp only; omega⟩) u⟩
theorem rat4_at {w : World} {g o : Nat} {c0 c1 c2 c3 : Value} (h0 : ∃ v, w.cell? ⟨g, o, none⟩ = some v) (h1 : ∃ v, w.cell? ⟨g, o + 1, none⟩ = some v) (h2 : ∃ v, w.cell? ⟨g, o + 2, none⟩ = some v) (h3 : ∃ v, w.cell? ⟨g, o + 3, none⟩ = some v) :
    (rat4 w g o c0 c1 c2 c3).cell? ⟨g, o, none⟩ = some c0 ∧ (rat4 w g o c0 c1 c2 c3).cell? ⟨g, o + 1, none⟩ = some c1 ∧ (rat4 w g o c0 c1 c2 c3).cell? ⟨g, o + 2, none⟩ = some c2 ∧ (rat4 w g o c0 c1 c2 c3).cell? ⟨g, o + 3, none⟩ = some c3 := by
  obtain ⟨v0, h0⟩ := h0
  obtain ⟨v1, h1⟩ := h1
  obtain ⟨v2, h2⟩ := h2
  obtain ⟨v3, h3⟩ := h3
  have ne : ∀ a b : Nat, a ≠ b → (⟨g, a, none⟩ : Addr) ≠ ⟨g, b, none⟩ := fun a b h e => h (congrArg Addr.off e)
  unfold rat4
  refine ⟨?_, ?_, ?_, ?_⟩
  · rw [cso (ne _ _ (by omega)), cso (ne _ _ (by omega)), cso (ne _ _ (by omega)), css h0]
  · rw [cso (ne _ _ (by omega)), cso (ne _ _ (by omega)), css (by rw [cso (ne _ _ (by omega))]; exact h1)]
  · rw [cso (ne _ _ (by omega)), css (by rw [cso (ne _ _ (by omega)), cso (ne _ _ (by omega))]; exact h2)]
  · rw [css (by rw [cso (ne _ _ (by omega)), cso (ne _ _ (by omega)), cso (ne _ _ (by omega))]; exact h3)]
theorem MatP.put {w : World} {g n : Nat} {D D' : Nat → Nat → Prop} {M M' : Nat → Nat → Rat} (h : MatP w g n D M) {k i : Nat} (hk : k < n) (hi : i < 8) {b b' : Bool} {A A' : Option Addr} {m c m' c' : Nat} {q : Rat} (hq : IsRat w (.bool b) (.slice A m c) (.bool b') (.slice A' m' c') q)
    (h1 : M' k i = q) (h2 : ∀ a b, a < n → b < 8 → D' a b → ¬ (a = k ∧ b = i) → D a b ∧ M' a b = M a b) : MatP (rat4 w g (k * 32 + i * 4) (.bool b) (.slice A m c) (.bool b') (.slice A' m' c')) g n D' M' := by
  have ht := h.ty
  have hs := fun t (ht : t < 4) => h.some (o := k * 32 + i * 4 + t) (by omega)
  have hall := (((h.set (k * 32 + i * 4) (.bool b)).set (k * 32 + i * 4 + 1) (.slice A m c)).set (k * 32 + i * 4 + 2) (.bool b')).set (k * 32 + i * 4 + 3) (.slice A' m' c')
  refine ⟨hall.1, fun x y hx hy hd => ?_⟩
  by_cases e : x = k ∧ y = i
  · obtain ⟨rfl, rfl⟩ := e
    obtain ⟨e0, e1, e2, e3⟩ := rat4_at (c0 := .bool b) (c1 := .slice A m c) (c2 := .bool b') (c3 := .slice A' m' c') (hs 0 (by omega)) (hs 1 (by omega)) (hs 2 (by omega)) (hs 3 (by omega))
    rw [h1]
    refine ⟨_, _, _, _, _, _, _, _, e0, e1, e2, e3, ?_⟩
    exact (((hq.set (p := ⟨g, x * 32 + y * 4, none⟩) ht (by decide) _).set (p := ⟨g, x * 32 + y * 4 + 1, none⟩) (ht.set _ _) (by decide) _).set (p := ⟨g, x * 32 + y * 4 + 2, none⟩) ((ht.set _ _).set _ _) (by decide) _).set (p := ⟨g, x * 32 + y * 4 + 3, none⟩) (((ht.set _ _).set _ _).set _ _) (by decide) _
  · obtain ⟨d1, d2⟩ := h2 x y hx hy hd e
    rw [d2]
    exact hall.2 x y hx hy ⟨⟨⟨⟨d1, by omega⟩, by omega⟩, by omega⟩, by omega⟩
theorem Ext.rat4 {w w1 : World} (h : Ext w w1) {g : Nat} (hg : w.heap.size ≤ g) (o : Nat) (u0 u1 u2 u3 : Value) : Ext w (rat4 w1 g o u0 u1 u2 u3) :=
  (((h.set (p := ⟨g, o, none⟩) hg _).set (p := ⟨g, o + 1, none⟩) hg _).set (p := ⟨g, o + 2, none⟩) hg _).set (p := ⟨g, o + 3, none⟩) hg _

/-- The cells of a row. -/
def rowCells (w : World) (g o : Nat) : Array Value := (Array.range 32).map fun j => (w.cell? ⟨g, o + j, none⟩).getD undef
theorem rowCells_size (w : World) (g o : Nat) : (rowCells w g o).size = 32 := by simp [rowCells]
theorem rowCells_get {w : World} {g o j : Nat} {v : Value} (hj : j < 32) (h : w.cell? ⟨g, o + j, none⟩ = some v) : (rowCells w g o)[j]? = some v := by
  simp [rowCells, hj, h]
theorem run_load_row32 (w : World) (g o : Nat) (h : ∀ j, j < 32 → ∃ v, w.cell? ⟨g, o + j, none⟩ = some v) : (loadVar 76 ⟨g, o, none⟩).run Tryz.prog w = .ok (.agg (rowCells w g o)) w := by
  have hl := run_loadCells_list (P := Tryz.prog) w ⟨g, o, none⟩ (rowCells w g o).toList (fun j v hv => by
    have hj : j < 32 := by have := (List.getElem?_eq_some_iff.1 hv).1; simpa [rowCells_size] using this
    obtain ⟨u, hu⟩ := h j hj
    rw [Array.getElem?_toList, rowCells_get hj hu] at hv
    rw [add_mk, hu]; exact hv)
  rw [Array.length_toList, rowCells_size] at hl
  simp only [loadVar, Sem.run_bind, Tryz.isAgg76, Tryz.sizeOf76, Result.andThen_ok, if_true, hl, Sem.run_pure, Array.toArray_toList]
theorem wpList_load_run {P : Program} {w : World} {ops : Array Oper} {rest : List Oper} {o : Oper} {a : Act} {Q : Exit → Act → World → Prop} (hgd : o.guard = none) (t : TypeId) (x : Operand)
    (ho : o.op = .load t x) (p : Addr) (hx : a.eval x = .pointer (some p)) {v : Value} (hrun : (loadVar t p).run P w = .ok v w) (h : wpList P ops Q rest (a.put o.dst v) w) : wpList P ops Q (o :: rest) a w := by
  refine wpList_plain hgd fun K hK => ?_
  unfold Oper.wp execOp
  simp only [ho, hx, Instr.loadAt, Instr.sureAddr, Sem.run_bind, Sem.run_pure, Result.andThen_ok, hrun]
  exact hK _ _ h

theorem num_sign_zero {q : Rat} (h : q = 0) : q.num.sign = 0 := by subst h; rfl
theorem num_sign_ne {q : Rat} (h : q ≠ 0) : (q.num.sign != 0) = true := by
  simp only [bne_iff_ne, ne_eq, Int.sign_eq_zero_iff_zero]
  exact fun h' => h (Rat.num_eq_zero.1 h')

set_option maxRecDepth 100000 in
theorem rankClosure_any (cs : Array Value) (B i : Nat) (b b' : Bool) (A A' : Option Addr) (m c m' c' : Nat) (q : Rat) (w : World) (hs : cs.size = 32) (hi : i < 8) (hB : w.cell? ⟨B, 0, none⟩ = some (.int .i64 i))
    (h0 : cs[i * 4]? = some (.bool b)) (h1 : cs[i * 4 + 1]? = some (.slice A m c)) (h2 : cs[i * 4 + 2]? = some (.bool b')) (h3 : cs[i * 4 + 3]? = some (.slice A' m' c')) (hq : IsRat w (.bool b) (.slice A m c) (.bool b') (.slice A' m' c') q) :
    Calls Tryz.prog 49 #[.agg cs, .pointer (some ⟨B, 0, none⟩)] w fun e w' => e = .returned (.bool (decide (q ≠ 0))) ∧ Ext w w' := by
  have hbl : B < w.heap.size := World.block_lt_of_cell? w ⟨B, 0, none⟩ hB
  have hb := Blk.new w 76 cs
  have c0 : (w.alloc (.cells cs 76)).cell? ⟨w.heap.size, i * 4, none⟩ = some (.bool b) := (hb.cell _).trans h0
  have c1 : (w.alloc (.cells cs 76)).cell? ⟨w.heap.size, i * 4 + 1, none⟩ = some (.slice A m c) := (hb.cell _).trans h1
  have c2 : (w.alloc (.cells cs 76)).cell? ⟨w.heap.size, i * 4 + 2, none⟩ = some (.bool b') := (hb.cell _).trans h2
  have c3 : (w.alloc (.cells cs 76)).cell? ⟨w.heap.size, i * 4 + 3, none⟩ = some (.slice A' m' c') := (hb.cell _).trans h3
  have hE : Hid (Ext w (w.alloc (.cells cs 76))) := (Ext.refl w).alloc _
  have hq' := hide (hq.ext hE.out)
  clear hb hq
  go_enter Tryz.func49, Tryz.ntmps49
  go_wp2_with fail
  refine (Sign_any _ _ _ _ _ _ _ _ q _ hq'.out).mono ?_
  rintro e w1 ⟨rfl, hE1⟩
  have hE2 := hide (hE.out.trans hE1)
  clear hE1 hE
  by_cases hz : q = 0
  · rw [num_sign_zero hz]
    have hd : Hid (decide (q ≠ 0) = false) := hide (by simp [hz])
    go_wp2
    go_ret
    exact ⟨by rw [hd.out]; rfl, hE2.out⟩
  · have hn := num_sign_ne hz
    have hd : Hid (decide (q ≠ 0) = true) := hide (by simp [hz])
    go_wp2
    go_ret
    exact ⟨by rw [hd.out]; rfl, hE2.out⟩

end Go.Proofs.YteefhmdameeoaaaGreat
namespace Go.Proofs.YteefhmdameeoaaaGreat
open Go.RowKit

/-- What IndexFunc answers. -/
def IdxOk (M : Nat → Nat → Rat) (n i r : Nat) (z : Int) : Prop :=
  (z = -1 ∧ ∀ k, r ≤ k → k < n → M k i = 0) ∨ ∃ k : Nat, z = k ∧ r + k < n ∧ M (r + k) i ≠ 0
def RetIdx (M : Nat → Nat → Rat) (n i r : Nat) (w : World) (e : Ending) (w' : World) : Prop := ∃ z : Int, e = .returned (.int .i64 z) ∧ IdxOk M n i r z ∧ Ext w w'

set_option maxRecDepth 100000 in
theorem IndexFunc_none (A : Option Addr) (c : Nat) (fv : Value) (w : World) :
    Calls Tryz.prog 48 #[.slice A 0 c, fv] w fun e w' => e = .returned (.int .i64 (-1)) ∧ w = w' := by
  go_enter Tryz.func48, Tryz.ntmps48
  go_wp2
  go_loopw [8] (fun i wr => i = .int .i64 0 ∧ wr = w) (fun _ _ => 0)
  case atStart => exact ⟨rfl, rfl⟩
  case round =>
    obtain ⟨rfl, rfl⟩ := hrel
    go_wp2
    go_ret
    exact ⟨rfl, rfl⟩

set_option maxRecDepth 100000 in
set_option maxHeartbeats 800000 in
theorem IndexFunc_any (g n c B i r : Nat) (M : Nat → Nat → Rat) (w : World) (hM : MatAt w g n M) (hi : i < 8) (hr : r < n) (hn : n ≤ 1000000) (hB : w.cell? ⟨B, 0, none⟩ = some (.int .i64 i)) :
    Calls Tryz.prog 48 #[.slice (some ⟨g, r * 32, none⟩) (n - r) c, .func (.func 49) #[] #[.pointer (some ⟨B, 0, none⟩)]] w (RetIdx M n i r w) := by
  replace hM := hide hM
  replace hB := hide hB
  go_enter Tryz.func48, Tryz.ntmps48
  go_wp2
  go_loopw [8] (fun s wr => ∃ k : Nat, k ≤ n - r ∧ s = .int .i64 k ∧ Hid ((∀ q, r ≤ q → q < r + k → M q i = 0) ∧ Ext w wr)) (fun s _ => (n - r) - (intOf s).toNat)
  case atStart => exact ⟨0, by omega, rfl, fun q h1 h2 => by omega, Ext.refl _⟩
  case round =>
    obtain ⟨k, hk, rfl, hI⟩ := hrel
    by_cases hlt : k < n - r
    · have hM2 := hM.out.ext hI.out.2
      obtain ⟨b, b', A, A', m, c1, m', c', h0, h1, h2, h3, hq⟩ := hM2.2 (r + k) i (by omega) hi trivial
      have hoff : (r + k) * 32 = r * 32 + k * 32 := by omega
      rw [hoff] at h0 h1 h2 h3
      have hld := run_load_row32 wr g (r * 32 + k * 32) (fun j hj => by
        obtain ⟨v, hv⟩ := hM2.some (o := (r + k) * 32 + j) (by omega)
        exact ⟨v, by rw [← hoff]; exact hv⟩)
      have hsz := rowCells_size wr g (r * 32 + k * 32)
      have k0 := rowCells_get (j := i * 4) (by omega) h0
      have k1 := rowCells_get (j := i * 4 + 1) (by omega) (by rw [← Nat.add_assoc]; exact h1)
      have k2 := rowCells_get (j := i * 4 + 2) (by omega) (by rw [← Nat.add_assoc]; exact h2)
      have k3 := rowCells_get (j := i * 4 + 3) (by omega) (by rw [← Nat.add_assoc]; exact h3)
      generalize rowCells wr g (r * 32 + k * 32) = cs at *
      have hBr := hI.out.2.cellv hB.out
      have hcon := hide (rankClosure_any cs B i b b' A A' m c1 m' c' (M (r + k) i) wr hsz hi hBr k0 k1 k2 k3 hq)
      have hnext : Hid (M (r + k) i = 0 → ∀ q, r ≤ q → q < r + (k + 1) → M q i = 0) := fun h q h1 h2 => by
        by_cases e : q = r + k
        · rw [e]; exact h
        · exact hI.out.1 q h1 (by omega)
      clear h0 h1 h2 h3 k0 k1 k2 k3 hq hM2 hoff
      replace hld := hide hld
      replace hsz := hide hsz
      go_wp2_with ((with_reducible refine wpList_load_run rfl 76 (.tmp 14) rfl ⟨g, r * 32 + k * 32, none⟩ rfl hld.out ?_))
      refine hcon.out.mono ?_
      rintro e w1 ⟨rfl, hE1⟩
      have hE2 := hide (hI.out.2.trans hE1)
      clear hE1 hcon
      by_cases hz : M (r + k) i = 0
      · have hd : decide (M (r + k) i ≠ 0) = false := by simp [hz]
        have hx := hide (hnext.out hz)
        rw [hd]
        clear hd hz hnext
        go_wp2
        exact ⟨⟨k + 1, by omega, by simp, hx.out, hE2.out⟩, by simp [intOf]; omega⟩
      · have hd : decide (M (r + k) i ≠ 0) = true := by simp [hz]
        rw [hd]
        have hx := hide hz
        clear hd hz hnext
        go_wp2
        go_ret
        exact ⟨k, rfl, .inr ⟨k, rfl, by omega, hx.out⟩, hE2.out⟩
    · obtain rfl : k = n - r := by omega
      go_wp2
      go_ret
      exact ⟨-1, rfl, .inl ⟨rfl, fun q h1 h2 => hI.out.1 q h1 (by omega)⟩, hI.out.2⟩

end Go.Proofs.YteefhmdameeoaaaGreat
namespace Go.Proofs.YteefhmdameeoaaaGreat
open Go.RowKit

section
variable {P : Program} {L : List Oper} {sh : List Shape} {a : Act} {w0 : World}

def stOk (sh : List Shape) (st : List Nat) : Bool :=
  (List.range st.length).all fun k => (List.range k).all fun j => (Shape.befOf sh (st.getD k 0)).contains (st.getD j 0) && decide (st.getD j 0 < st.getD k 0)
theorem stOk_at {st : List Nat} (h : stOk sh st = true) {j k s t : Nat} (hjk : j < k) (hj : st[j]? = some s) (hk : st[k]? = some t) : s ∈ Shape.befOf sh t ∧ s < t := by
  have hkl : k < st.length := (List.getElem?_eq_some_iff.1 hk).1
  have h1 := List.all_eq_true.1 (List.all_eq_true.1 h k (List.mem_range.2 hkl)) j (List.mem_range.2 hjk)
  simp only [List.getD_eq_getElem?_getD, hj, hk, Option.getD_some, Bool.and_eq_true, decide_eq_true_eq] at h1
  exact ⟨by simpa using h1.1, h1.2⟩

/-- One operation of such a region: c of the turns of memory are done. -/
def DStep (P : Program) (sh : List Shape) (st : List Nat) (vals : Nat → Value) (W : Nat → World) (a : Act) (i : Nat) (o : Oper) (x : Shape) : Prop :=
  ∀ (c : Nat) (ev : Operand → Value), EnvEq ev vals x.env → (∀ t, (∀ p ∈ x.env, p.1 ≠ t) → ev (.tmp t) = a.tmps.getD t undef) → (∀ v, ev (.const v) = v) → (∀ f, ev (.func f) = .func (.func f) #[] #[]) →
    c ≤ st.length → (∀ j s, st[j]? = some s → i ∈ Shape.befOf sh s → c ≤ j) → (∀ j s, st[j]? = some s → s ∈ x.bef → j < c) → (∀ j, st[j]? = some i → c = j) →
    OpStep P o ev (W c) fun v w' => v = vals i ∧ w' = W (if st.contains i then c + 1 else c)

theorem det_run {st : List Nat} {vals : Nat → Value} {W : Nat → World} (hok : regOk L sh = true) (hsl : sh.length = L.length) (hd : dstOk L sh.length a.tmps.size = true) (hgd : L.all (fun o => o.guard.isNone) = true) (hst : stOk sh st = true) (hlt : ∀ s ∈ st, s < L.length)
    (hstep : ∀ i o x, L[i]? = some o → sh[i]? = some x → DStep P sh st vals W a i o x) {Q : Exit → Act → World → Prop} (hend : wpList P L.toArray Q [] (putG vals L 0 a) (W st.length)) :
    ∀ (f : Nat) (listed : Array Bool) (a' : Act) (c : Nat), falses listed = f → HInv L sh (List.replicate L.length fun _ _ => True) a w0 listed vals a' w0 → c ≤ st.length → (∀ j s, st[j]? = some s → (listed.getD s false = true ↔ j < c)) → wpAny P .any L.toArray Q f listed a' (W c) := by
  intro f
  induction f with
  | zero =>
    intro listed a' c hf inv hc hcnt
    have hall : ∀ j, j < L.length → listed.getD j false = true := fun j hj => by
      cases hg : listed.getD j false with
      | true => rfl
      | false => have := falses_pos (by rw [inv.size]; exact hj) hg; omega
    refine tail_run hok 0 L.length listed a' (W c) (regOk_len hok) (by omega) inv.size hall (fun j hj => by simp [inv.size, hj]) ?_
    have hcl : c = st.length := by
      rcases Nat.lt_or_ge c st.length with h | h
      · have h1 := (hcnt c st[c] (List.getElem?_eq_getElem h)).1 (hall _ (hlt _ (List.getElem_mem h)))
        omega
      · omega
    subst hcl
    rw [List.drop_length]
    have hpa : putG vals L 0 a = a' := by
      obtain ⟨p1, p2, p3, p4⟩ := putG_facts (g := vals) L 0 a (fun j k o o' d hj hk e1 e2 =>
        regOk_dst hok (by have := (List.getElem?_eq_some_iff.1 hj).1; omega) (by have := (List.getElem?_eq_some_iff.1 hk).1; omega) hj hk e1 e2) (fun o ho d hdo => by
        have h2 := List.all_eq_true.1 hd o (by rw [hsl, List.take_length]; exact ho)
        simp only [hdo, decide_eq_true_eq] at h2
        exact h2)
      refine act_ext (Array.ext_getElem? fun t => ?_) (p2.trans inv.adef.symm)
      by_cases ht : ∃ (j : Nat) (o : Oper), L[j]? = some o ∧ o.dst = some t
      · obtain ⟨j, o, hj, hdo⟩ := ht
        rw [p3 j o t hj hdo, inv.a1 j o t (by have := (List.getElem?_eq_some_iff.1 hj).1; omega) hj (hall j (List.getElem?_eq_some_iff.1 hj).1) hdo]
        simp
      · rw [p4 t fun j o hj e => ht ⟨j, o, hj, e⟩, inv.a2 t fun j o _ hj _ e => ht ⟨j, o, hj, e⟩]
    rw [hpa] at hend
    exact hend
  | succ f ih =>
    intro listed a' c hf inv hc hcnt
    have hex : ∃ j, j < L.length ∧ listed.getD j false = false := Classical.byContradiction fun hno => by
      have : falses listed = 0 := by
        unfold falses
        rw [List.length_eq_zero_iff, List.filter_eq_nil_iff]
        intro b hb
        obtain ⟨j, hj, rfl⟩ := List.mem_iff_getElem.1 hb
        have hjl : j < listed.size := by simpa using hj
        cases hg : listed.getD j false with
        | true => simp [hjl] at hg; simp [hg]
        | false => exact absurd ⟨j, by rw [← inv.size]; exact hjl, hg⟩ hno
      omega
    obtain ⟨j0, hj0, hu0⟩ := hex
    refine ⟨fun h0 => ?_, fun i hi => ?_⟩
    · obtain ⟨k, _, hk⟩ := first_ready hok inv.size j0 hj0 hu0
      rw [h0] at hk; cases hk
    · obtain ⟨hun, o, ho, hed⟩ := ready_of hok inv.size hi
      have hin : i < sh.length := by rw [hsl]; exact (List.getElem?_eq_some_iff.1 ho).1
      have hx : sh[i]? = some sh[i] := List.getElem?_eq_getElem hin
      have hil : i < listed.size := by rw [inv.size]; exact (List.getElem?_eq_some_iff.1 ho).1
      have hno := (regOk_at hok ho).2.1 _ hx
      simp only [headOk, Bool.and_eq_true] at hno
      have hbefs : ∀ s, i ∈ Shape.befOf sh s → listed.getD s false = false := fun s hs => by
        cases hg : listed.getD s false with
        | false => rfl
        | true =>
          cases hy : sh[s]? with
          | none => simp [Shape.befOf, hy] at hs
          | some y =>
            have hsL : s < L.length := by rw [← hsl]; exact lt_of_sh hy
            have := bef_listed hok inv.closed s y _ hy (List.getElem?_eq_getElem hsL) (inv.closed s _ (List.getElem?_eq_getElem hsL) hg) i (by simpa [Shape.befOf, hy] using hs)
            rw [hun] at this; cases this
      have hpos : ∀ j, st[j]? = some i → c = j := fun j hj => by
        have h1 : ¬ j < c := fun h => by have := (hcnt j i hj).2 h; rw [hun] at this; cases this
        have h2 : ∀ j', j' < j → j' < c := fun j' hj' => by
          have hjl : j < st.length := (List.getElem?_eq_some_iff.1 hj).1
          have hj'' : st[j']? = some st[j'] := List.getElem?_eq_getElem (by omega)
          obtain ⟨hb, _⟩ := stOk_at hst hj' hj'' hj
          refine (hcnt j' _ hj'').1 (bef_listed hok inv.closed i _ o hx ho hed _ ?_)
          simpa [Shape.befOf, hx] using hb
        rcases Nat.lt_or_ge c j with h | h
        · have := h2 c h; omega
        · omega
      have hs1 := hstep i o _ ho hx c (evOf a vals sh[i].env)
        (envEq_of fun p hp => by
          obtain ⟨h1, h2, o', ho', hd'⟩ := head_env hok hx ho hp
          cases hfd : sh[i].env.find? (fun q => q.1 == p.1) with
          | none => have := List.find?_eq_none.1 hfd p hp; simp at this
          | some q =>
            have hq := List.mem_of_find?_eq_some hfd
            have hqp : q.1 = p.1 := by simpa using List.find?_some hfd
            obtain ⟨_, h4, o2, ho2, hd2⟩ := head_env hok hx ho hq
            rw [hqp] at hd2
            have := regOk_dst hok h4 h2 ho2 ho' hd2 hd'
            simp only [evOf, hfd, this])
        (fun t ht => by
          have : sh[i].env.find? (fun q => q.1 == t) = none := List.find?_eq_none.2 fun p hp => by simpa using ht p hp
          simp only [evOf, this])
        (fun _ => rfl) (fun _ => rfl) hc
        (fun j s hj hs => by
          rcases Nat.lt_or_ge j c with h | h
          · have := (hcnt j s hj).2 h; rw [hbefs s hs] at this; cases this
          · exact h)
        (fun j s hj hs => (hcnt j s hj).1 (bef_listed hok inv.closed i _ o hx ho hed s hs)) hpos
      have hgn : o.guard = none := by
        have := List.all_eq_true.1 hgd o (List.mem_of_getElem? ho)
        simpa using this
      have hwant : Region.wanted o (yielded L.toArray a'.tmps) = true := by unfold Region.wanted; rw [hgn]
      unfold wpOp
      have ho2 : L.toArray[i]? = some o := by simpa using ho
      rw [ho2]
      show if Region.wanted o (yielded L.toArray a'.tmps) = true then _ else _
      rw [hwant, if_pos rfl]
      refine .inl (opStep_wp hno.2 (eval_operands hok inv ho hx hun hed) hs1 fun v w2 ⟨hv, hw2⟩ => ?_)
      subst hv; subst hw2
      have hF : (List.replicate L.length (fun _ _ => True : Fact))[i]? = some (fun _ _ => True) := by
        rw [List.getElem?_replicate, if_pos (by omega)]
      have inv2 := step_inv hok hd (fun F hF' vs w1 w2 _ _ => by rw [List.eq_of_mem_replicate hF']; trivial) inv ho hx hF hun hed (Ext.refl w0) (v := vals i) trivial
      have hupd : upd vals i (vals i) = vals := by
        funext k; simp only [upd]; split
        · rename_i h; rw [h]
        · rfl
      rw [hupd] at inv2
      refine ih _ _ _ ?_ inv2 ?_ ?_
      · have := falses_set hil hun
        omega
      · by_cases hcs : st.contains i = true
        · rw [if_pos hcs]
          obtain ⟨j, hj, hji⟩ := List.mem_iff_getElem.1 (by simpa using hcs : i ∈ st)
          have := hpos j (by rw [List.getElem?_eq_getElem hj, hji])
          omega
        · rw [if_neg hcs]; exact hc
      · intro j s hj
        by_cases e : s = i
        · subst e
          have hcj := hpos j hj
          rw [if_pos (by simpa using List.mem_of_getElem? hj)]
          simp [hil]
          omega
        · rw [getD_set_ne false (fun h => e h.symm), hcnt j s hj]
          by_cases hcs : st.contains i = true
          · rw [if_pos hcs]
            obtain ⟨j', hj', hji⟩ := List.mem_iff_getElem.1 (by simpa using hcs : i ∈ st)
            have hj'' : st[j']? = some i := by rw [List.getElem?_eq_getElem hj', hji]
            have hcj := hpos j' hj''
            have : j ≠ j' := fun h => by subst h; rw [hj] at hj''; exact e (Option.some.inj hj'')
            omega
          · rw [if_neg hcs]

/-- THE RULE for a region whose operations have known values. -/
theorem wp_region_det {id : Nat} {Q : Exit → Act → World → Prop} {w : World} (hm : P.follows .mixedOrders = true) (es : List (List (Nat × Nat))) (bs : List (List Nat)) (st : List Nat) (vals : Nat → Value) (W : Nat → World)
    (hok : regOk L (shOf 0 es bs) = true) (hsl : (shOf 0 es bs).length = L.length) (hd : dstOk L (shOf 0 es bs).length a.tmps.size = true) (hgd : L.all (fun o => o.guard.isNone) = true) (hst : stOk (shOf 0 es bs) st = true) (hlt : ∀ s ∈ st, s < L.length) (hW : W 0 = w.drew)
    (hstep : ∀ i o x, L[i]? = some o → (shOf 0 es bs)[i]? = some x → DStep P (shOf 0 es bs) st vals W a i o x) (hend : wpList P L.toArray Q [] (putG vals L 0 a) (W st.length)) :
    (Code.region id L.toArray true).wp P Q a w := by
  refine wp_region_any hm ?_
  show wpAny P .any L.toArray Q L.toArray.size (Array.replicate L.toArray.size false) a w.drew
  rw [← hW]
  have hfz : falses (Array.replicate L.toArray.size false) = L.toArray.size := by simp [falses, List.filter_replicate]
  have hz : ∀ j, (Array.replicate L.toArray.size false).getD j false = false := fun j => by
    rcases Nat.lt_or_ge j L.length with h | h
    · simp [h]
    · simp [h]
  refine det_run (w0 := w) hok hsl hd hgd hst hlt hstep hend _ _ a 0 hfz ?_ (Nat.zero_le _) (fun j s _ => by rw [hz]; simp)
  exact ⟨by simp, (fun j o _ h => by rw [hz] at h; cases h), fun t _ => hz t, rfl, rfl, (fun j o d _ _ h => by rw [hz] at h; cases h), fun t _ => rfl, (fun j y F _ _ h => by rw [hz] at h; cases h), Ext.refl _⟩
end

/-- The steps one by one. -/
def DSteps (P : Program) (sh : List Shape) (st : List Nat) (vals : Nat → Value) (W : Nat → World) (a : Act) : Nat → List Oper → List Shape → Prop
  | i, o :: L, x :: S => DStep P sh st vals W a i o x ∧ DSteps P sh st vals W a (i + 1) L S
  | _, [], _ => True
  | _, _ :: _, [] => False
theorem DSteps.at {P : Program} {sh : List Shape} {st : List Nat} {vals : Nat → Value} {W : Nat → World} {a : Act} : ∀ {L : List Oper} {S : List Shape} {i : Nat}, DSteps P sh st vals W a i L S → ∀ k o x, L[k]? = some o → S[k]? = some x → DStep P sh st vals W a (i + k) o x
  | [], _, _, _, k, o, x, h, _ => by simp at h
  | _ :: _, [], _, h, _, _, _, _, _ => h.elim
  | o :: L, x :: S, i, h, 0, o', x', h1, h2 => by
    simp at h1 h2; subst h1; subst h2; exact h.1
  | o :: L, x :: S, i, h, k + 1, o', x', h1, h2 => by
    have := DSteps.at h.2 k o' x' (by simpa using h1) (by simpa using h2)
    rwa [show i + (k + 1) = i + 1 + k by omega]

theorem wp_region_d {P : Program} {L : List Oper} {a : Act} {id : Nat} {Q : Exit → Act → World → Prop} {w : World} (hm : P.follows .mixedOrders = true) (es : List (List (Nat × Nat))) (bs : List (List Nat)) (st : List Nat) (vals : Nat → Value) (W : Nat → World)
    (hok : regOk L (shOf 0 es bs) = true) (hsl : (shOf 0 es bs).length = L.length) (hd : dstOk L (shOf 0 es bs).length a.tmps.size = true) (hgd : L.all (fun o => o.guard.isNone) = true) (hst : stOk (shOf 0 es bs) st = true) (hlt : st.all (fun s => decide (s < L.length)) = true) (hW : W 0 = w.drew)
    (hstep : DSteps P (shOf 0 es bs) st vals W a 0 L (shOf 0 es bs)) (hend : wpList P L.toArray Q [] (putG vals L 0 a) (W st.length)) :
    (Code.region id L.toArray true).wp P Q a w :=
  wp_region_det hm es bs st vals W hok hsl hd hgd hst (fun s hs => by simpa using List.all_eq_true.1 hlt s hs) hW (fun i o x ho hx => by have := hstep.at i o x ho hx; rwa [Nat.zero_add] at this) hend
theorem dstep_val {P : Program} {o : Oper} {ev : Operand → Value} {w w2 : World} {u v : Value} (h : (execOp ev o).run P w = .ok (.value v) w) (hv : v = u) (hw : w = w2) : OpStep P o ev w fun v w' => v = u ∧ w' = w2 := by
  unfold OpStep
  rw [h]
  exact ⟨hv, hw⟩
theorem dstep_store {P : Program} {o : Oper} {ev : Operand → Value} {w w1 w2 : World} {u : Value} (h : (execOp ev o).run P w = .ok .skip w1) (hv : undef = u) (hw : w1 = w2) : OpStep P o ev w fun v w' => v = u ∧ w' = w2 := by
  unfold OpStep
  rw [h]
  exact ⟨hv, hw⟩
theorem opRun_load {P : Program} {o : Oper} {ev : Operand → Value} {w : World} {t : TypeId} {x : Operand} {p : Addr} {v : Value} (ho : o.op = .load t x) (hx : ev x = .pointer (some p)) (h : (loadVar t p).run P w = .ok v w) : (execOp ev o).run P w = .ok (.value v) w := by
  unfold execOp
  simp only [ho, hx, Instr.loadAt, Instr.sureAddr, Sem.run_bind, Sem.run_pure, Result.andThen_ok, h]
theorem opRun_store {P : Program} {o : Oper} {ev : Operand → Value} {w w' : World} {t : TypeId} {x y : Operand} {p : Addr} {v : Value} (ho : o.op = .store t x y) (hx : ev x = .pointer (some p)) (hy : ev y = v) (h : (storeVar t p v).run P w = .ok () w') : (execOp ev o).run P w = .ok .skip w' := by
  unfold execOp
  simp only [ho, hx, hy, Instr.storeAt, Instr.sureAddr, Sem.run_bind, Sem.run_pure, Result.andThen_ok, h]

end Go.Proofs.YteefhmdameeoaaaGreat
namespace Go.Proofs.YteefhmdameeoaaaGreat
open Go.RowKit

theorem MatAt.one {w : World} {g n : Nat} {M : Nat → Nat → Rat} (h : MatAt w g n M) {k q : Nat} (hk : k < n) (hq : q < 32) : ∃ v, w.cell? ⟨g, k * 32 + q, none⟩ = some v ∧ v.oneCell' = true := by
  obtain ⟨b, b', A, A', m, c, m', c', h1, h2, h3, h4, _⟩ := h.2 k (q / 4) hk (by omega) trivial
  have : q % 4 = 0 ∨ q % 4 = 1 ∨ q % 4 = 2 ∨ q % 4 = 3 := by omega
  rcases this with e | e | e | e
  · exact ⟨_, by rw [show k * 32 + q = k * 32 + q / 4 * 4 by omega]; exact h1, rfl⟩
  · exact ⟨_, by rw [show k * 32 + q = k * 32 + q / 4 * 4 + 1 by omega]; exact h2, rfl⟩
  · exact ⟨_, by rw [show k * 32 + q = k * 32 + q / 4 * 4 + 2 by omega]; exact h3, rfl⟩
  · exact ⟨_, by rw [show k * 32 + q = k * 32 + q / 4 * 4 + 3 by omega]; exact h4, rfl⟩
theorem rowCells_one {w : World} {g n : Nat} {M : Nat → Nat → Rat} (h : MatAt w g n M) {k : Nat} (hk : k < n) : ∀ v ∈ (rowCells w g (k * 32)).toList, v.oneCell' = true := by
  intro v hv
  obtain ⟨q, hq⟩ := List.mem_iff_getElem?.1 hv
  have hq32 : q < 32 := by have := (List.getElem?_eq_some_iff.1 hq).1; simpa [rowCells_size] using this
  obtain ⟨u, hu, hu1⟩ := h.one hk hq32
  have := rowCells_get hq32 hu
  rw [Array.getElem?_toList, this] at hq
  cases hq
  exact hu1
theorem run_store_row32 (w : World) (g o : Nat) (cs : Array Value) (hs : cs.size = 32) (h1 : ∀ v ∈ cs.toList, v.oneCell' = true) (hc : ∀ j, j < 32 → ∃ v, w.cell? ⟨g, o + j, none⟩ = some v) (hf : ∀ j, w.frozen? ⟨g, j, none⟩ = false) :
    (storeVar 76 ⟨g, o, none⟩ (.agg cs)).run Tryz.prog w = .ok () (w.setCells g o cs.toList) := by
  have hst := run_storeCells_cells (P := Tryz.prog) g o cs.toList 0 w (fun j hj => by
    obtain ⟨v, hv⟩ := hc j (by rw [← hs]; simpa using hj)
    rw [Nat.add_zero, hv]; rfl) (fun j _ => hf _) h1
  simp only [Nat.add_zero] at hst
  simp only [storeVar, Sem.run_bind, Tryz.sizeOf76, Result.andThen_ok, Value.cells, hs, ne_eq, not_true_eq_false, if_false, Sem.run_pure, hst]

theorem ty_setCells {b g : Nat} {t : TypeId} : ∀ (vs : List Value) (o : Nat) (w : World), Ty w b t → Ty (w.setCells g o vs) b t
  | [], _, _, h => h
  | _ :: vs, o, _, h => ty_setCells vs (o + 1) _ (h.set _ _)
theorem isRat_setCells {g : Nat} {t : TypeId} (hne : t ≠ 105) {c0 c1 c2 c3 : Value} {q : Rat} : ∀ (vs : List Value) (o : Nat) (w : World), Ty w g t → IsRat w c0 c1 c2 c3 q → IsRat (w.setCells g o vs) c0 c1 c2 c3 q
  | [], _, _, _, h => h
  | v :: vs, o, w, ht, h => isRat_setCells hne vs (o + 1) _ (ht.set _ _) (h.set (p := ⟨g, o, none⟩) ht hne v)
theorem blk_setCells {g : Nat} {t : TypeId} {s : Nat} : ∀ (vs : List Value) (o : Nat) (w : World), (∃ cur, Blk w g t cur ∧ cur.size = s) → ∃ cur, Blk (w.setCells g o vs) g t cur ∧ cur.size = s
  | [], _, _, h => h
  | v :: vs, o, w, ⟨cur, h1, h2⟩ => blk_setCells vs (o + 1) _ ⟨_, h1.set o v, by simpa using h2⟩
theorem ext_setCells {w : World} {g : Nat} (hg : w.heap.size ≤ g) : ∀ (vs : List Value) (o : Nat) (w1 : World), Ext w w1 → Ext w (w1.setCells g o vs)
  | [], _, _, h => h
  | v :: vs, o, _, h => ext_setCells hg vs (o + 1) _ (h.set (p := ⟨g, o, none⟩) hg v)
theorem cell_setCells_row {w : World} {g o : Nat} {cs : Array Value} (hs : cs.size = 32) (hc : ∀ j, j < 32 → ∃ v, w.cell? ⟨g, o + j, none⟩ = some v) {j : Nat} (hj : j < 32) : (w.setCells g o cs.toList).cell? ⟨g, o + j, none⟩ = cs[j]? := by
  have := World.cell?_setCells_in g cs.toList o w (fun j hj => by
    obtain ⟨v, hv⟩ := hc j (by rw [← hs]; simpa using hj)
    rw [hv]; rfl) j (by simpa [hs] using hj)
  rw [this]
  simp [show j < cs.size by omega]
theorem rowCells_get' {w : World} {g o j : Nat} (hj : j < 32) (h : ∃ v, w.cell? ⟨g, o + j, none⟩ = some v) : (rowCells w g o)[j]? = w.cell? ⟨g, o + j, none⟩ := by
  obtain ⟨v, hv⟩ := h
  rw [rowCells_get hj hv, hv]
/-- The world with two rows exchanged. -/
def swapW (w : World) (g r p : Nat) : World := (w.setCells g (r * 32) (rowCells w g (p * 32)).toList).setCells g (p * 32) (rowCells w g (r * 32)).toList
theorem swapW_cell {w : World} {g n : Nat} {M : Nat → Nat → Rat} (h : MatAt w g n M) {r p : Nat} (hr : r < n) (hp : p < n) {a q : Nat} (hq : q < 32) :
    (swapW w g r p).cell? ⟨g, a * 32 + q, none⟩ = w.cell? ⟨g, (if a = r then p else if a = p then r else a) * 32 + q, none⟩ := by
  have hsm : ∀ k, k < n → ∀ j, j < 32 → ∃ v, w.cell? ⟨g, k * 32 + j, none⟩ = some v := fun k hk j hj => by obtain ⟨v, hv, _⟩ := h.one hk hj; exact ⟨v, hv⟩
  have hout : ∀ (w : World) (k : Nat) (cs : Array Value), cs.size = 32 → a ≠ k → (w.setCells g (k * 32) cs.toList).cell? ⟨g, a * 32 + q, none⟩ = w.cell? ⟨g, a * 32 + q, none⟩ := fun w k cs hs hne =>
    World.cell?_setCells_out g cs.toList (k * 32) w ⟨g, a * 32 + q, none⟩ fun _ _ => by simp only [Array.length_toList, hs]; omega
  have hsm1 : ∀ j, j < 32 → ∃ v, (w.setCells g (r * 32) (rowCells w g (p * 32)).toList).cell? ⟨g, p * 32 + j, none⟩ = some v := fun j hj => by
    obtain ⟨v, hv⟩ := hsm p hp j hj
    by_cases e : p = r
    · subst e
      rw [cell_setCells_row (rowCells_size _ _ _) (hsm p hp) hj, rowCells_get hj hv]; exact ⟨v, rfl⟩
    · rw [World.cell?_setCells_out g _ (r * 32) w ⟨g, p * 32 + j, none⟩ fun _ _ => by simp only [Array.length_toList, rowCells_size]; omega]; exact ⟨v, hv⟩
  unfold swapW
  by_cases e1 : a = r
  · rw [if_pos e1]
    by_cases e2 : a = p
    · have e3 : r = p := by omega
      subst e3; subst e1
      rw [cell_setCells_row (rowCells_size _ _ _) hsm1 hq, rowCells_get' hq (hsm _ hr q hq)]
    · rw [hout _ p _ (rowCells_size _ _ _) e2]
      subst e1
      rw [cell_setCells_row (rowCells_size _ _ _) (hsm a hr) hq, rowCells_get' hq (hsm p hp q hq)]
  · rw [if_neg e1]
    by_cases e2 : a = p
    · rw [if_pos e2]
      subst e2
      rw [cell_setCells_row (rowCells_size _ _ _) hsm1 hq, rowCells_get' hq (hsm r hr q hq)]
    · rw [if_neg e2, hout _ p _ (rowCells_size _ _ _) e2, hout _ r _ (rowCells_size _ _ _) e1]
theorem MatAt.swap {w : World} {g n : Nat} {M : Nat → Nat → Rat} (h : MatAt w g n M) {r p : Nat} (hr : r < n) (hp : p < n) : MatAt (swapW w g r p) g n (swapQ M r p) := by
  refine ⟨blk_setCells _ _ _ (blk_setCells _ _ _ h.1), fun a b ha hb _ => ?_⟩
  have hsrc : (if a = r then p else if a = p then r else a) < n := by split; exact hp; split; exact hr; exact ha
  have hval : swapQ M r p a b = M (if a = r then p else if a = p then r else a) b := by
    simp only [swapQ]
    by_cases e1 : a = r
    · rw [if_pos e1, if_pos e1]
    · rw [if_neg e1, if_neg e1]
      by_cases e2 : a = p
      · rw [if_pos e2, if_pos e2]
      · rw [if_neg e2, if_neg e2]
  have hcell := fun q (hq : q < 32) => swapW_cell h hr hp (a := a) hq
  rw [hval]
  generalize (if a = r then p else if a = p then r else a) = s at *
  obtain ⟨x, x', A, A', m, c, m', c', h1, h2, h3, h4, h5⟩ := h.2 s b hsrc hb trivial
  have t1 := hcell (b * 4) (by omega)
  have t2 := hcell (b * 4 + 1) (by omega)
  have t3 := hcell (b * 4 + 2) (by omega)
  have t4 := hcell (b * 4 + 3) (by omega)
  simp only [← Nat.add_assoc] at t1 t2 t3 t4
  exact ⟨x, x', A, A', m, c, m', c', t1.trans h1, t2.trans h2, t3.trans h3, t4.trans h4, isRat_setCells (t := 76) (by decide) _ _ _ (ty_setCells _ _ _ h.ty) (isRat_setCells (t := 76) (by decide) _ _ _ h.ty h5)⟩
theorem swapW_ext {w w1 : World} {g : Nat} (h : Ext w w1) (hg : w.heap.size ≤ g) (r p : Nat) : Ext w (swapW w1 g r p) := ext_setCells hg _ _ _ (ext_setCells hg _ _ _ h)

end Go.Proofs.YteefhmdameeoaaaGreat
namespace Go.Proofs.YteefhmdameeoaaaGreat
namespace RegE
open Go.RowKit

structure Base where
  b : Nat
  q : Rat
/-- A block holds a rational number. -/
def HoldsR (w : World) (k : Nat) (q : Rat) : Prop := ∃ (x x' : Bool) (X X' : Option Addr) (n c n' c' : Nat), w.heap[k]? = some (.cells #[.bool x, .slice X n c, .bool x', .slice X' n' c'] 74 (0, 0)) ∧ IsRat w (.bool x) (.slice X n c) (.bool x') (.slice X' n' c') q
section
variable [Inhabited Base]
/-- What lay before is kept, but new blocks for a rational number may come to hold that one. -/
def Ext (w w' : World) : Prop := (w'.os = w.os ∧ w'.tape = w.tape ∧ w'.output = w.output ∧ w.heap.size ≤ w'.heap.size) ∧ ∀ (k : Nat) (o : Obj), w.heap[k]? = some o → w'.heap[k]? = some o ∨ ((default : Base).b ≤ k ∧ (∃ cs fz, o = .cells cs 74 fz) ∧ HoldsR w' k (default : Base).q)
theorem Ext.refl (w : World) : Ext w w := ⟨⟨rfl, rfl, rfl, Nat.le_refl _⟩, fun _ _ h => .inl h⟩
theorem Ext.block {w w' : World} (h : Ext w w') {b : Nat} {cs : Array Value} {t : TypeId} {fz : Nat × Nat} (ht : t ≠ 74) (hb : w.heap[b]? = some (.cells cs t fz)) : w'.heap[b]? = some (.cells cs t fz) := by
  rcases h.2 b _ hb with h | ⟨_, ⟨cs', fz', e⟩, _⟩
  · exact h
  · cases e; exact absurd rfl ht
theorem Ext.words {w w' : World} (h : Ext w w') {v : Value} {l : List Nat} (hv : Words w v l) : Words w' v l := by
  obtain ⟨A, c, h1, h2, h3, h4, h5⟩ := hv
  refine ⟨A, c, h1, h2, h3, h4, fun hp => ?_⟩
  obtain ⟨b, o, cs, fz, h6, h7, h8⟩ := h5 hp
  exact ⟨b, o, cs, fz, h6, h.block (by decide) h7, h8⟩
theorem Ext.isRat {w w' : World} (h : Ext w w') {c0 c1 c2 c3 : Value} {q : Rat} (hv : IsRat w c0 c1 c2 c3 q) : IsRat w' c0 c1 c2 c3 q := ⟨⟨hv.1.1, h.words hv.1.2⟩, ⟨hv.2.1, h.words hv.2.2⟩⟩
theorem Ext.trans {a b c : World} (h : Ext a b) (k : Ext b c) : Ext a c := by
  refine ⟨⟨k.1.1.trans h.1.1, k.1.2.1.trans h.1.2.1, k.1.2.2.1.trans h.1.2.2.1, Nat.le_trans h.1.2.2.2 k.1.2.2.2⟩, fun i o ho => ?_⟩
  rcases h.2 i o ho with h1 | ⟨h1, h2, x, x', X, X', n, c1, n', c', h3, h4⟩
  · exact k.2 i o h1
  · rcases k.2 i _ h3 with h5 | ⟨_, _, h6⟩
    · exact .inr ⟨h1, h2, x, x', X, X', n, c1, n', c', h5, k.isRat h4⟩
    · exact .inr ⟨h1, h2, h6⟩
theorem Ext.holds {w w' : World} (h : Ext w w') {k : Nat} (hv : HoldsR w k (default : Base).q) : HoldsR w' k (default : Base).q := by
  obtain ⟨x, x', X, X', n, c, n', c', h3, h4⟩ := hv
  rcases h.2 k _ h3 with h5 | ⟨_, _, h6⟩
  · exact ⟨x, x', X, X', n, c, n', c', h5, h.isRat h4⟩
  · exact h6
theorem Ext.of {w w' : World} (h : YteefhmdameeoaaaGreat.Ext w w') : Ext w w' := ⟨⟨h.os, h.tape, h.output, h.size⟩, fun k o ho => .inl ((h.block (lt_of_heap ho)).trans ho)⟩
/-- A block for a rational number. -/
def RatBlk (w : World) (k : Nat) : Prop := ∃ cs, w.heap[k]? = some (.cells cs 74 (0, 0)) ∧ cs.size = 4
theorem Ext.ratBlk {w w' : World} (h : Ext w w') {k : Nat} (hv : RatBlk w k) : RatBlk w' k := by
  obtain ⟨cs, h1, h2⟩ := hv
  rcases h.2 k _ h1 with h5 | ⟨_, _, x, x', X, X', n, c, n', c', h3, _⟩
  · exact ⟨cs, h5, h2⟩
  · exact ⟨_, h3, rfl⟩
theorem stab_un {F : VFact} (h : ∀ v w1 w2, Ext w1 w2 → F v w1 → F v w2) : ∀ vs w1 w2, Ext w1 w2 → unF F vs w1 → unF F vs w2 := by
  intro vs w1 w2 he hf
  unfold unF at *
  split at hf
  · exact h _ _ _ he hf
  · exact hf.elim
/-- A fact on the values of two operations. -/
def biF (F : Value → World → Prop) : Fact := fun vs w => match vs with | [u, _] => F u w | _ => False
theorem stab_bi {F : Value → World → Prop} (h : ∀ v w1 w2, Ext w1 w2 → F v w1 → F v w2) : ∀ vs w1 w2, Ext w1 w2 → biF F vs w1 → biF F vs w2 := by
  intro vs w1 w2 he hf
  unfold biF at *
  split at hf
  · exact h _ _ _ he hf
  · exact hf.elim

def StepAt (P : Program) (sh : List Shape) (Rs : List Fact) (a : Act) (w0 : World) (i : Nat) (o : Oper) (x : Shape) (F : Fact) : Prop :=
  ∀ (g : Nat → Value) (w : World) (ev : Operand → Value), Ext w0 w → Known sh Rs i g w → EnvEq ev g x.env →
    (∀ t, (∀ p ∈ x.env, p.1 ≠ t) → ev (.tmp t) = a.tmps.getD t undef) → (∀ v, ev (.const v) = v) → (∀ f, ev (.func f) = .func (.func f) #[] #[]) →
    (wantedG o g = true → OpStep P o ev w fun v w' => Ext w w' ∧ F (x.deps.map (upd g i v)) w') ∧ (wantedG o g = false → F (x.deps.map (upd g i undef)) w)

def StepsAt (P : Program) (sh : List Shape) (Rs : List Fact) (a : Act) (w0 : World) : Nat → List Oper → List Shape → List Fact → Prop
  | i, o :: L, x :: S, F :: T => StepAt P sh Rs a w0 i o x F ∧ StepsAt P sh Rs a w0 (i + 1) L S T
  | _, _, [], [] => True
  | _, _, _, _ => False

theorem StepsAt.at {P : Program} {sh : List Shape} {Rs : List Fact} {a : Act} {w0 : World} : ∀ {S : List Shape} {T : List Fact} {L : List Oper} {i : Nat}, StepsAt P sh Rs a w0 i L S T →
    S.length = T.length ∧ ∀ k o x, L[k]? = some o → S[k]? = some x → ∃ F, T[k]? = some F ∧ StepAt P sh Rs a w0 (i + k) o x F
  | [], [], L, i, _ => ⟨rfl, fun k o x _ hx => by simp at hx⟩
  | [], _ :: _, L, i, h => by cases L <;> exact h.elim
  | _ :: _, [], L, i, h => by cases L <;> exact h.elim
  | x :: S, F :: T, [], i, h => h.elim
  | x :: S, F :: T, o :: L, i, h => by
    obtain ⟨h1, h2⟩ := h
    obtain ⟨hl, hh⟩ := StepsAt.at h2
    refine ⟨by simp [hl], fun k o' x' ho hx => ?_⟩
    cases k with
    | zero =>
      simp at ho hx
      subst ho; subst hx
      exact ⟨F, rfl, h1⟩
    | succ k =>
      simp at ho hx
      obtain ⟨F', hF, hs⟩ := hh k o' x' ho hx
      refine ⟨F', by simpa using hF, ?_⟩
      have : i + (k + 1) = i + 1 + k := by omega
      rw [this]
      exact hs

section
variable {P : Program} {L : List Oper} {sh : List Shape} {Rs : List Fact} {a : Act} {w0 : World}

structure HInv (L : List Oper) (sh : List Shape) (Rs : List Fact) (a : Act) (w0 : World) (listed : Array Bool) (g : Nat → Value) (a' : Act) (w' : World) : Prop where
  size : listed.size = L.length
  closed : ∀ j o, L[j]? = some o → listed.getD j false = true → ∀ e ∈ edges o, listed.getD e false = true
  tail : ∀ t, sh.length ≤ t → listed.getD t false = false
  asz : a'.tmps.size = a.tmps.size
  adef : a'.defers = a.defers
  a1 : ∀ j o d, j < sh.length → L[j]? = some o → listed.getD j false = true → o.dst = some d → a'.tmps[d]? = some (g j)
  a2 : ∀ t, (∀ j o, j < sh.length → L[j]? = some o → listed.getD j false = true → o.dst ≠ some t) → a'.tmps[t]? = a.tmps[t]?
  facts : ∀ j y F, sh[j]? = some y → Rs[j]? = some F → listed.getD j false = true → F (y.deps.map g) w'
  ext : Ext w0 w'

theorem step_inv (hok : regOk L sh = true) (hd : dstOk L sh.length a.tmps.size = true)
    (hstab : ∀ F ∈ Rs, ∀ vs w1 w2, Ext w1 w2 → F vs w1 → F vs w2)
    {listed : Array Bool} {g : Nat → Value} {a' : Act} {w' : World} (inv : HInv L sh Rs a w0 listed g a' w') {i : Nat} {o : Oper} {x : Shape} {F : Fact} (ho : L[i]? = some o) (hx : sh[i]? = some x) (hF : Rs[i]? = some F)
    (hun : listed.getD i false = false) (hed : ∀ e ∈ edges o, listed.getD e false = true) {v : Value} {w'' : World} (he : Ext w' w'') (hf : F (x.deps.map (upd g i v)) w'') :
    HInv L sh Rs a w0 (listed.setIfInBounds i true) (upd g i v) (a'.put o.dst v) w'' := by
  have hin : i < sh.length := lt_of_sh hx
  have hil : i < listed.size := by rw [inv.size]; exact (List.getElem?_eq_some_iff.1 ho).1
  have hset : ∀ j, (listed.setIfInBounds i true).getD j false = true → j ≠ i → listed.getD j false = true := fun j h hj => by
    rw [getD_set_ne false (fun e => hj e.symm)] at h; exact h
  have hnb : ∀ j y oj, sh[j]? = some y → L[j]? = some oj → listed.getD j false = true → i ∉ y.bef := fun j y oj hy hoj hl hi => by
    have := bef_listed hok inv.closed j y oj hy hoj (inv.closed j oj hoj hl) i hi
    rw [hun] at this; cases this
  refine ⟨by simp [inv.size], fun j oj hoj hl e he' => ?_, fun t ht => ?_, ?_, ?_, fun j oj d hj hoj hl hdj => ?_, fun t ht => ?_, fun j y G hy hG hl => ?_, inv.ext.trans he⟩
  · by_cases hji : j = i
    · subst hji
      have : oj = o := Option.some.inj (hoj.symm.trans ho)
      subst this
      exact getD_set_true (hed e he')
    · exact getD_set_true (inv.closed j oj hoj (hset j hl hji) e he')
  · rw [getD_set_ne false (by omega)]; exact inv.tail t ht
  · unfold Act.put; split <;> simp [inv.asz]
  · unfold Act.put; split <;> simp [inv.adef]
  · by_cases hji : j = i
    · subst hji
      have : oj = o := Option.some.inj (hoj.symm.trans ho)
      subst this
      have hdl : d < a'.tmps.size := by
        rw [inv.asz]
        have h2 := List.all_eq_true.1 hd oj (List.mem_of_getElem? (i := j) (by rw [List.getElem?_take]; simp [hin, hoj]))
        simp only [hdj, decide_eq_true_eq] at h2
        exact h2
      simp [Act.put, hdj, upd, hdl]
    · have hlj := hset j hl hji
      have hne : o.dst ≠ some d := fun e => hji (regOk_dst hok hj hin hoj ho hdj e)
      rw [show upd g i v j = g j by simp [upd, hji], ← inv.a1 j oj d hj hoj hlj hdj]
      unfold Act.put
      split
      · rename_i d' hd'
        have : d' ≠ d := fun e => hne (by rw [hd', e])
        simp [Array.getElem?_setIfInBounds_ne this]
      · rfl
  · have h2 : o.dst ≠ some t := by
      refine ht i o hin ho ?_
      simp [hil]
    rw [← inv.a2 t fun j oj hj hoj hl => ht j oj hj hoj (getD_set_true hl)]
    unfold Act.put
    split
    · rename_i d' hd'
      have : d' ≠ t := fun e => h2 (by rw [hd', e])
      simp [Array.getElem?_setIfInBounds_ne this]
    · rfl
  · by_cases hji : j = i
    · subst hji
      have e1 : y = x := Option.some.inj (hy.symm.trans hx)
      have e2 : G = F := Option.some.inj (hG.symm.trans hF)
      subst e1; subst e2
      exact hf
    · have hlj := hset j hl hji
      have hjl : j < L.length := Nat.lt_of_lt_of_le (lt_of_sh hy) (regOk_len hok)
      have hoj : L[j]? = some L[j] := List.getElem?_eq_getElem hjl
      have hib := hnb j y _ hy hoj hlj
      have hmap : y.deps.map (upd g i v) = y.deps.map g := by
        refine List.map_congr_left fun k hk => ?_
        have h1 := (regOk_at hok hoj).2.1 y hy
        simp only [headOk, Bool.and_eq_true] at h1
        have h2 := List.all_eq_true.1 h1.1.1.1.1.2 k hk
        simp only [Bool.or_eq_true, beq_iff_eq] at h2
        have hki : k ≠ i := by
          rintro rfl
          rcases h2 with h2 | h2
          · exact hji h2.symm
          · exact hib (by simpa using h2)
        simp [upd, hki]
      rw [hmap]
      exact hstab G (List.mem_of_getElem? hG) _ _ _ he (inv.facts j y G hy hG hlj)

theorem eval_operands (hok : regOk L sh = true) {listed : Array Bool} {g : Nat → Value} {a' : Act} {w' : World} (inv : HInv L sh Rs a w0 listed g a' w') {i : Nat} {o : Oper} {x : Shape} (ho : L[i]? = some o) (hx : sh[i]? = some x)
    (hun : listed.getD i false = false) (hed : ∀ e ∈ edges o, listed.getD e false = true) : ∀ y ∈ o.op.operands, a'.eval y = evOf a g x.env y := by
  intro y hy
  cases y with
  | tmp t =>
    show a'.tmps.getD t undef = _
    cases hfd : x.env.find? (fun p => p.1 == t) with
    | some p =>
      have hp : p ∈ x.env := List.mem_of_find?_eq_some hfd
      have hpt : p.1 = t := by simpa using List.find?_some hfd
      obtain ⟨h1, h2, o', ho', hd'⟩ := head_env hok hx ho hp
      have hl := bef_listed hok inv.closed i x o hx ho hed p.2 h1
      have := inv.a1 p.2 o' p.1 h2 ho' hl hd'
      simp only [evOf, hfd]
      rw [hpt] at this
      simp [this]
    | none =>
      simp only [evOf, hfd]
      have h1 := (regOk_at hok ho).2.1 x hx
      simp only [headOk, Bool.and_eq_true] at h1
      have h2 := List.all_eq_true.1 h1.1.1.2 (.tmp t) (by simpa using hy)
      simp only [Bool.or_eq_true] at h2
      rcases h2 with h2 | h2
      · exfalso
        have : t ∈ x.env.map (·.1) := by simpa using h2
        obtain ⟨p, hp, hpt⟩ := List.mem_map.1 this
        have := List.find?_eq_none.1 hfd p hp
        simp [hpt] at this
      · have : a'.tmps[t]? = a.tmps[t]? := by
          refine inv.a2 t fun j oj hj hoj hl hdj => ?_
          have h3 := List.all_eq_true.1 h2 j (List.mem_range.2 hj)
          rw [hoj] at h3
          simp [hdj] at h3
          rcases h3 with h3 | h3
          · subst h3; rw [hun] at hl; cases hl
          · cases hy' : sh[j]? with
            | none => rw [List.getElem?_eq_none_iff] at hy'; omega
            | some y' =>
              have := bef_listed hok inv.closed j y' oj hy' hoj (inv.closed j oj hoj hl) i (by simpa [Shape.befOf, hy'] using h3)
              rw [hun] at this; cases this
        rw [Array.getD_eq_getD_getElem?, Array.getD_eq_getD_getElem?, this]
  | const v => rfl
  | global b => rfl
  | func f => rfl

theorem wanted_of (hok : regOk L sh = true) {listed : Array Bool} {g : Nat → Value} {a' : Act} {w' : World} (inv : HInv L sh Rs a w0 listed g a' w') {i : Nat} {o : Oper} {x : Shape} (ho : L[i]? = some o) (hx : sh[i]? = some x)
    (hed : ∀ e ∈ edges o, listed.getD e false = true) : Region.wanted o (yielded L.toArray a'.tmps) = wantedG o g := by
  unfold Region.wanted wantedG
  cases hg : o.guard with
  | none => rfl
  | some jb =>
    obtain ⟨j, b⟩ := jb
    have h1 := (regOk_at hok ho).2.1 x hx
    simp only [headOk, Bool.and_eq_true] at h1
    have h2 := h1.1.2
    rw [hg] at h2
    simp only [Bool.and_eq_true, decide_eq_true_eq] at h2
    obtain ⟨⟨h3, h4⟩, h5⟩ := h2
    have hl := bef_listed hok inv.closed i x o hx ho hed j (by simpa using h3)
    split at h5
    · rename_i o' ho'
      obtain ⟨d, hd'⟩ := Option.isSome_iff_exists.1 h5
      have := inv.a1 j o' d h4 ho' hl hd'
      unfold yielded
      simp only [List.getElem?_toArray, ho', Option.bind_some, hd', this]
      cases g j <;> simp
    · cases h5

theorem head_run (hok : regOk L sh = true) (hd : dstOk L sh.length a.tmps.size = true)
    (hstab : ∀ F ∈ Rs, ∀ vs w1 w2, Ext w1 w2 → F vs w1 → F vs w2) (hstep : StepsAt P sh Rs a w0 0 L sh Rs) {Q : Exit → Act → World → Prop}
    (hend : ∀ g w', Ext w0 w' → (∀ (j : Nat) (y : Shape) (F : Fact), sh[j]? = some y → Rs[j]? = some F → F (y.deps.map g) w') → wpList P L.toArray Q (L.drop sh.length) (putG g (L.take sh.length) 0 a) w') :
    ∀ (f : Nat) (listed : Array Bool) (g : Nat → Value) (a' : Act) (w' : World), falses listed = f → HInv L sh Rs a w0 listed g a' w' → wpAny P .any L.toArray Q f listed a' w' := by
  obtain ⟨hlen, hat⟩ := hstep.at
  intro f
  induction f with
  | zero =>
    intro listed g a' w' hf inv
    have hall : ∀ j, j < L.length → listed.getD j false = true := fun j hj => by
      cases hg : listed.getD j false with
      | true => rfl
      | false => have := falses_pos (by rw [inv.size]; exact hj) hg; omega
    refine tail_run hok 0 L.length listed a' w' (regOk_len hok) (by omega) inv.size hall (fun j hj => by simp [inv.size, hj]) ?_
    have hsl : sh.length = L.length := by
      have := regOk_len hok
      rcases Nat.lt_or_ge sh.length L.length with hlt | hge
      · have h1 := hall sh.length hlt
        rw [inv.tail _ (Nat.le_refl _)] at h1; cases h1
      · omega
    have := hend g w' inv.ext fun j y F hy hF => inv.facts j y F hy hF (hall j (by have := lt_of_sh hy; omega))
    rw [hsl] at this
    have hpa : putG g (L.take L.length) 0 a = a' := by
      obtain ⟨p1, p2, p3, p4⟩ := putG_facts (g := g) (L.take L.length) 0 a (fun j k o o' d hj hk e1 e2 => by
        simp at hj hk
        exact regOk_dst hok (by have := (List.getElem?_eq_some_iff.1 hj).1; omega) (by have := (List.getElem?_eq_some_iff.1 hk).1; omega) hj hk e1 e2) (fun o ho d hdo => by
        rw [← hsl] at ho
        have h2 := List.all_eq_true.1 hd o ho
        simp only [hdo, decide_eq_true_eq] at h2
        exact h2)
      refine act_ext (Array.ext_getElem? fun t => ?_) (p2.trans inv.adef.symm)
      by_cases ht : ∃ (j : Nat) (o : Oper), L[j]? = some o ∧ o.dst = some t
      · obtain ⟨j, o, hj, hdo⟩ := ht
        rw [p3 j o t (by simpa using hj) hdo, inv.a1 j o t (by have := (List.getElem?_eq_some_iff.1 hj).1; omega) hj (hall j (List.getElem?_eq_some_iff.1 hj).1) hdo]
        simp
      · rw [p4 t fun j o hj e => ht ⟨j, o, by simpa using hj, e⟩, inv.a2 t fun j o _ hj _ e => ht ⟨j, o, hj, e⟩]
    rw [hpa] at this
    exact this
  | succ f ih =>
    intro listed g a' w' hf inv
    by_cases hdone : ∀ j, j < sh.length → listed.getD j false = true
    · have hfl : f + 1 + sh.length = L.length := by
        -- the listed ones are just the head
        have key : ∀ (l : List Bool) (n : Nat), n ≤ l.length → (∀ j, j < n → l[j]? = some true) → (∀ j, n ≤ j → j < l.length → l[j]? = some false) → (l.filter (!·)).length + n = l.length := by
          intro l
          induction l with
          | nil => intro n hn _ _; simp at hn; simp [hn]
          | cons b l ihl =>
            intro n hn h1 h2
            cases n with
            | zero =>
              have hb := h2 0 (Nat.le_refl _) (by simp)
              simp at hb
              subst hb
              have := ihl 0 (by omega) (fun j hj => by omega) (fun j _ hj => by simpa using h2 (j + 1) (by omega) (by simpa using hj))
              simp at this ⊢
              omega
            | succ n =>
              have hb := h1 0 (by omega)
              simp at hb
              subst hb
              have := ihl n (by simpa using hn) (fun j hj => by simpa using h1 (j + 1) (by omega)) (fun j hj1 hj2 => by simpa using h2 (j + 1) (by omega) (by simpa using hj2))
              simp
              omega
        have := key listed.toList sh.length (by simpa [inv.size] using regOk_len hok) (fun j hj => by
            have h1 := hdone j hj
            have hjl : j < listed.size := by rw [inv.size]; have := regOk_len hok; omega
            simp [hjl] at h1
            simp [hjl, h1]) (fun j hj1 hj2 => by
            have h1 := inv.tail j hj1
            have hjl : j < listed.size := by simpa using hj2
            simp [hjl] at h1
            simp [hjl, h1])
        have e1 : (listed.toList.filter (!·)).length = f + 1 := hf
        rw [e1] at this
        simpa [inv.size] using this
      refine tail_run hok (f + 1) sh.length listed a' w' (Nat.le_refl _) hfl inv.size hdone inv.tail ?_
      have := hend g w' inv.ext fun j y F hy hF => inv.facts j y F hy hF (hdone j (lt_of_sh hy))
      have hpa : putG g (L.take sh.length) 0 a = a' := by
        have hget : ∀ j o, (L.take sh.length)[j]? = some o → j < sh.length ∧ L[j]? = some o := fun j o h => by
          rw [List.getElem?_take] at h
          split at h
          · exact ⟨by assumption, h⟩
          · cases h
        obtain ⟨p1, p2, p3, p4⟩ := putG_facts (g := g) (L.take sh.length) 0 a (fun j k o o' d hj hk e1 e2 => by
          obtain ⟨hj1, hj2⟩ := hget j o hj
          obtain ⟨hk1, hk2⟩ := hget k o' hk
          exact regOk_dst hok hj1 hk1 hj2 hk2 e1 e2) (fun o ho d hdo => by
          have h2 := List.all_eq_true.1 hd o ho
          simp only [hdo, decide_eq_true_eq] at h2
          exact h2)
        refine act_ext (Array.ext_getElem? fun t => ?_) (p2.trans inv.adef.symm)
        by_cases ht : ∃ (j : Nat) (o : Oper), j < sh.length ∧ L[j]? = some o ∧ o.dst = some t
        · obtain ⟨j, o, hjn, hj, hdo⟩ := ht
          rw [p3 j o t (by rw [List.getElem?_take, if_pos hjn]; exact hj) hdo, inv.a1 j o t hjn hj (hdone j hjn) hdo]
          simp
        · rw [p4 t fun j o hj e => ht ⟨j, o, (hget j o hj).1, (hget j o hj).2, e⟩, inv.a2 t fun j o hjn hj _ e => ht ⟨j, o, hjn, hj, e⟩]
      rw [hpa] at this
      exact this
    · have hex : ∃ j, j < sh.length ∧ listed.getD j false = false := Classical.byContradiction fun hno => hdone fun j hj => by
        cases hg : listed.getD j false with
        | true => rfl
        | false => exact absurd ⟨j, hj, hg⟩ hno
      obtain ⟨j0, hj0, hu0⟩ := hex
      refine ⟨fun h0 => ?_, fun i hi => ?_⟩
      · obtain ⟨k, _, hk⟩ := first_ready hok inv.size j0 (Nat.lt_of_lt_of_le hj0 (regOk_len hok)) hu0
        rw [h0] at hk; cases hk
      · obtain ⟨hun, o, ho, hed⟩ := ready_of hok inv.size hi
        have hin : i < sh.length := by
          rcases Nat.lt_or_ge i sh.length with hlt | hge
          · exact hlt
          · have := tail_waits_ hok inv.size inv.closed hge ho hed j0 (by omega)
            rw [hu0] at this; cases this
        have hx : sh[i]? = some sh[i] := List.getElem?_eq_getElem hin
        obtain ⟨F, hF, hst⟩ := hat i o _ ho hx
        rw [Nat.zero_add] at hst
        have hil : i < listed.size := by rw [inv.size]; exact (List.getElem?_eq_some_iff.1 ho).1
        have hno := (regOk_at hok ho).2.1 _ hx
        simp only [headOk, Bool.and_eq_true] at hno
        obtain ⟨hs1, hs2⟩ := hst g w' (evOf a g sh[i].env) inv.ext (fun x hx' j hj y G hy hG => by
            have : x = sh[i] := Option.some.inj (hx'.symm.trans hx)
            subst this
            exact inv.facts j y G hy hG (bef_listed hok inv.closed i _ o hx ho hed j hj))
          (envEq_of fun p hp => by
            obtain ⟨h1, h2, o', ho', hd'⟩ := head_env hok hx ho hp
            cases hfd : sh[i].env.find? (fun q => q.1 == p.1) with
            | none => have := List.find?_eq_none.1 hfd p hp; simp at this
            | some q =>
              have hq := List.mem_of_find?_eq_some hfd
              have hqp : q.1 = p.1 := by simpa using List.find?_some hfd
              obtain ⟨_, h4, o2, ho2, hd2⟩ := head_env hok hx ho hq
              rw [hqp] at hd2
              have := regOk_dst hok h4 h2 ho2 ho' hd2 hd'
              simp only [evOf, hfd, this])
          (fun t ht => by
            have : sh[i].env.find? (fun q => q.1 == t) = none := List.find?_eq_none.2 fun p hp => by simpa using ht p hp
            simp only [evOf, this])
          (fun _ => rfl) (fun _ => rfl)
        have hwant := wanted_of hok inv ho hx hed
        have hfs : ∀ v w2 b, (a'.put o.dst v) = b → Ext w' w2 → F (sh[i].deps.map (upd g i v)) w2 → wpAny P .any L.toArray Q f (listed.setIfInBounds i true) b w2 := fun v w2 b hb he hf' => by
          subst hb
          refine ih _ (upd g i v) _ _ ?_ (step_inv hok hd hstab inv ho hx hF hun hed he hf')
          have := falses_set hil hun
          omega
        unfold wpOp
        have ho2 : L.toArray[i]? = some o := by simpa using ho
        rw [ho2]
        show if Region.wanted o (yielded L.toArray a'.tmps) = true then _ else _
        rw [hwant]
        split
        · rename_i hw
          exact .inl (opStep_wp hno.2 (eval_operands hok inv ho hx hun hed) (hs1 hw) fun v w2 ⟨he, hf'⟩ => hfs v w2 _ rfl he hf')
        · rename_i hw
          exact hfs undef w' _ rfl (Ext.refl _) (hs2 (by simpa using hw))

/-- THE RULE. -/
theorem wp_region_ext {id : Nat} {L : List Oper} {Q : Exit → Act → World → Prop} {a : Act} {w : World} (hm : P.follows .mixedOrders = true) (sh : List Shape) (Rs : List Fact) (hok : regOk L sh = true) (hd : dstOk L sh.length a.tmps.size = true)
    (hstab : ∀ F ∈ Rs, ∀ vs w1 w2, Ext w1 w2 → F vs w1 → F vs w2) (hstep : StepsAt P sh Rs a w.drew 0 L sh Rs)
    (hend : ∀ g w', Ext w.drew w' → (∀ (j : Nat) (y : Shape) (F : Fact), sh[j]? = some y → Rs[j]? = some F → F (y.deps.map g) w') → wpList P L.toArray Q (L.drop sh.length) (putG g (L.take sh.length) 0 a) w') :
    (Code.region id L.toArray true).wp P Q a w := by
  refine wp_region_any hm ?_
  have hfz : falses (Array.replicate L.toArray.size false) = L.toArray.size := by simp [falses, List.filter_replicate]
  refine head_run hok hd hstab hstep hend _ _ (fun _ => undef) a _ hfz ?_
  have hz : ∀ j, (Array.replicate L.toArray.size false).getD j false = false := fun j => by
    rcases Nat.lt_or_ge j L.length with h | h
    · simp [h]
    · simp [h]
  exact ⟨by simp, (fun j o _ h => by rw [hz] at h; cases h), fun t _ => hz t, rfl, rfl, (fun j o d _ _ h => by rw [hz] at h; cases h), fun t _ => rfl, (fun j y F _ _ h => by rw [hz] at h; cases h), Ext.refl _⟩
end

/-! ### The rule with one fact for each result -/

def UStep (P : Program) (Fs : List VFact) (a : Act) (w0 : World) (o : Oper) (env : List (Nat × Nat)) (F : VFact) : Prop :=
  ∀ (w : World) (ev : Operand → Value), Ext w0 w → OpsKnown Fs ev w env →
    (∀ t, (∀ p ∈ env, p.1 ≠ t) → ev (.tmp t) = a.tmps.getD t undef) → (∀ v, ev (.const v) = v) → (∀ f, ev (.func f) = .func (.func f) #[] #[]) →
    match o.guard with
    | none => OpStep P o ev w fun v w' => Ext w w' ∧ F v w'
    | some (j, b) => ∀ gv, (∀ G, Fs[j]? = some G → G gv w) → (gv = .bool b → OpStep P o ev w fun v w' => Ext w w' ∧ F v w') ∧ (gv ≠ .bool b → F undef w)

def USteps (P : Program) (Fs : List VFact) (a : Act) (w0 : World) : List Oper → List (List (Nat × Nat)) → List VFact → Prop
  | o :: L, x :: S, F :: T => UStep P Fs a w0 o x F ∧ USteps P Fs a w0 L S T
  | _, [], [] => True
  | _, _, _ => False

theorem USteps.cons {P : Program} {Fs : List VFact} {a : Act} {w0 : World} {o : Oper} {L : List Oper} {x : List (Nat × Nat)} {S : List (List (Nat × Nat))} {F : VFact} {T : List VFact} (h : UStep P Fs a w0 o x F) (hs : USteps P Fs a w0 L S T) :
    USteps P Fs a w0 (o :: L) (x :: S) (F :: T) := ⟨h, hs⟩
theorem USteps.nil {P : Program} {Fs : List VFact} {a : Act} {w0 : World} {L : List Oper} : USteps P Fs a w0 L [] [] := by cases L <;> trivial

theorem usteps_steps {P : Program} {a : Act} {w0 : World} {Fs : List VFact} {sh : List Shape} {L0 : List Oper} (hok : regOk L0 sh = true) (hsh : ∀ (k : Nat) (x : Shape), sh[k]? = some x → x.deps = [k]) :
    ∀ {L : List Oper} {es : List (List (Nat × Nat))} {bs : List (List Nat)} {T : List VFact} {i : Nat}, (∀ k, L[k]? = L0[i + k]?) → (∀ k, (shOf i es bs)[k]? = sh[i + k]?) → es.length = bs.length → USteps P Fs a w0 L es T →
      StepsAt P sh (Fs.map unF) a w0 i L (shOf i es bs) (T.map unF)
  | L, [], [], [], i, _, _, _, _ => by cases L <;> exact trivial
  | L, [], [], _ :: _, i, _, _, _, h => by cases L <;> exact h.elim
  | L, [], _ :: _, T, i, _, _, hl, h => by simp at hl
  | L, _ :: _, [], T, i, _, _, hl, h => by simp at hl
  | [], _ :: _, _ :: _, T, i, _, _, _, h => by cases T <;> exact h.elim
  | _ :: _, _ :: _, _ :: _, [], i, _, _, _, h => h.elim
  | o :: L, e :: es, b :: bs, F :: T, i, hL, hS, hl, h => by
    obtain ⟨h1, h2⟩ := h
    refine ⟨?_, usteps_steps hok hsh (i := i + 1) (fun k => by
      have := hL (k + 1)
      rw [show i + 1 + k = i + (k + 1) by omega, ← this]; rfl) (fun k => by
      have := hS (k + 1)
      rw [show i + 1 + k = i + (k + 1) by omega, ← this]; rfl) (by simpa using hl) h2⟩
    intro g w ev hE hk henv hev hc hf
    have ho : L0[i]? = some o := by have := hL 0; simpa using this.symm
    have hx : sh[i]? = some ⟨e, b, [i]⟩ := by have := hS 0; simpa [shOf] using this.symm
    have hknown : ∀ j, j ∈ b → ∀ G, Fs[j]? = some G → G (g j) w := fun j hj G hG => by
      have hjl : ∃ y, sh[j]? = some y := by
        cases hy : sh[j]? with
        | some y => exact ⟨y, rfl⟩
        | none =>
          exfalso
          have hb := hj
          have hh := (regOk_at hok ho).2.1 _ hx
          simp only [headOk, Bool.and_eq_true] at hh
          have h3 := List.all_eq_true.1 hh.1.1.1.1.1 j hb
          obtain ⟨e', he', he2⟩ := List.any_eq_true.1 h3
          have hlt := (regOk_at hok ho).1 e' he'
          simp only [Bool.or_eq_true, beq_iff_eq] at he2
          have hil := lt_of_sh hx
          rw [List.getElem?_eq_none_iff] at hy
          rcases he2 with rfl | he2
          · omega
          · -- j stands before e', so it is less than e'
            have key : ∀ (n : Nat) (y : Shape) (oy : Oper), sh[n]? = some y → L0[n]? = some oy → ∀ m ∈ y.bef, m < n := by
              intro n
              induction n using Nat.strongRecOn with
              | _ n ih =>
                intro y oy hy hoy m hm
                have hh' := (regOk_at hok hoy).2.1 y hy
                simp only [headOk, Bool.and_eq_true] at hh'
                have h4 := List.all_eq_true.1 hh'.1.1.1.1.1 m hm
                obtain ⟨e2, he2, he3⟩ := List.any_eq_true.1 h4
                have hlt2 := (regOk_at hok hoy).1 e2 he2
                simp only [Bool.or_eq_true, beq_iff_eq] at he3
                rcases he3 with rfl | he3
                · exact hlt2
                · cases hy2 : sh[e2]? with
                  | none => simp [Shape.befOf, hy2] at he3
                  | some y2 =>
                    have hel : e2 < L0.length := Nat.lt_of_lt_of_le (lt_of_sh hy2) (regOk_len hok)
                    have := ih e2 hlt2 y2 _ hy2 (List.getElem?_eq_getElem hel) m (by simpa [Shape.befOf, hy2] using he3)
                    omega
            have := key i _ o hx ho j hj
            omega
      obtain ⟨y, hy⟩ := hjl
      have := hk _ hx j hj y (unF G) hy (by rw [List.getElem?_map, hG]; rfl)
      rw [hsh j y hy] at this
      exact this
    have hops : OpsKnown Fs ev w e := by
      have hsub : ∀ p ∈ e, p.2 ∈ b := fun p hp => (head_env hok hx ho hp).1
      have henv' : EnvEq ev g e := henv
      clear hx hev h1 henv hS hl
      induction e with
      | nil => trivial
      | cons p e ih =>
        obtain ⟨t, j⟩ := p
        obtain ⟨q1, q2⟩ := henv'
        exact ⟨fun G hG => by rw [q1]; exact hknown j (hsub (t, j) (by simp)) G hG, ih (fun p hp => hsub p (by simp [hp])) q2⟩
    have := h1 w ev hE hops hev hc hf
    have hmap : ∀ v, unF F ([i].map (upd g i v)) = F v := fun v => by funext w; simp [unF, upd]
    cases hg : o.guard with
    | none =>
      rw [hg] at this
      refine ⟨fun _ => ?_, fun hw => by simp [wantedG, hg] at hw⟩
      simp only [hmap]
      exact this
    | some jb =>
      obtain ⟨j, c⟩ := jb
      rw [hg] at this
      have hjb : j ∈ b := by
        have hh := (regOk_at hok ho).2.1 _ hx
        simp only [headOk, Bool.and_eq_true] at hh
        have h3 := hh.1.2
        rw [hg] at h3
        simp only [Bool.and_eq_true] at h3
        simpa using h3.1.1
      obtain ⟨t1, t2⟩ := this (g j) (fun G hG => hknown j hjb G hG)
      refine ⟨fun hw => ?_, fun hw => ?_⟩
      · simp only [hmap]
        refine t1 ?_
        simp only [wantedG, hg] at hw
        split at hw
        · rename_i c' hc'; rw [hc']; congr 1; simpa using hw
        · cases hw
      · simp only [hmap]
        refine t2 fun e' => ?_
        simp [wantedG, hg, e'] at hw

/-- THE RULE, with one fact for each result. -/
theorem wp_region_u {P : Program} {id : Nat} {L : List Oper} {Q : Exit → Act → World → Prop} {a : Act} {w : World} (hm : P.follows .mixedOrders = true) (es : List (List (Nat × Nat))) (bs : List (List Nat)) (Fs : List VFact)
    (hlen : (es.length == bs.length && es.length == Fs.length) = true) (hok : regOk L (shOf 0 es bs) = true) (hd : dstOk L es.length a.tmps.size = true)
    (hstab : ∀ F ∈ Fs, ∀ v w1 w2, Ext w1 w2 → F v w1 → F v w2) (hstep : USteps P Fs a w.drew L es Fs)
    (hend : ∀ (g : Nat → Value) (w' : World), Ext w.drew w' → (∀ (j : Nat) (F : VFact), Fs[j]? = some F → F (g j) w') → wpList P L.toArray Q (L.drop es.length) (putG g (L.take es.length) 0 a) w') :
    (Code.region id L.toArray true).wp P Q a w := by
  simp only [Bool.and_eq_true, beq_iff_eq] at hlen
  have hshl : ∀ (es : List (List (Nat × Nat))) (bs : List (List Nat)) (i : Nat), es.length = bs.length → (shOf i es bs).length = es.length := by
    intro es
    induction es with
    | nil => intro bs i _; cases bs <;> rfl
    | cons e es ih =>
      intro bs i h
      cases bs with
      | nil => simp at h
      | cons b bs => simp [shOf, ih bs (i + 1) (by simpa using h)]
  have hl := hshl es bs 0 hlen.1
  refine wp_region_ext hm (shOf 0 es bs) (Fs.map unF) hok (by rw [hl]; exact hd) ?_ ?_ ?_
  · intro F hF vs w1 w2 he h
    obtain ⟨G, hG, rfl⟩ := List.mem_map.1 hF
    unfold unF at *
    split at h
    · rename_i v; exact hstab G hG v w1 w2 he h
    · exact h.elim
  · exact usteps_steps hok (fun k x hx => by have := (shOf_get hx).1; rwa [Nat.zero_add] at this) (fun k => by rw [Nat.zero_add]) (fun k => by rw [Nat.zero_add]) hlen.1 hstep
  · intro g w' hE hf
    rw [hl]
    refine hend g w' hE fun j F hF => ?_
    have hjl : j < (shOf 0 es bs).length := by
      rw [hl]
      have := (List.getElem?_eq_some_iff.1 hF).1
      omega
    have hy : (shOf 0 es bs)[j]? = some (shOf 0 es bs)[j] := List.getElem?_eq_getElem hjl
    have := hf j _ (unF F) hy (by rw [List.getElem?_map, hF]; rfl)
    rw [(shOf_get hy).1] at this
    simpa [unF] using this


def Stab (F : VFact) : Prop := ∀ v w1 w2, Ext w1 w2 → F v w1 → F v w2
def StabAll : List VFact → Prop
  | [] => True
  | F :: r => Stab F ∧ StabAll r
theorem StabAll.cons {F : VFact} {r : List VFact} (h : Stab F) (hs : StabAll r) : StabAll (F :: r) := ⟨h, hs⟩
theorem StabAll.nil : StabAll [] := trivial
theorem StabAll.mem : ∀ {Fs : List VFact}, StabAll Fs → ∀ F ∈ Fs, Stab F
  | [], _, F, h => by cases h
  | G :: r, h, F, hF => by
    rcases List.mem_cons.1 hF with rfl | hF
    · exact h.1
    · exact StabAll.mem h.2 F hF

/-- A result that is known outright. -/
theorem Stab.eq (u : Value) : Stab (fun v _ => v = u) := fun _ _ _ _ h => h

theorem opStep_val {P : Program} {o : Oper} {ev : Operand → Value} {w : World} {F : VFact} {v : Value} (h : (execOp ev o).run P w = .ok (.value v) w) (hF : F v w) : OpStep P o ev w fun v w' => Ext w w' ∧ F v w' := by
  unfold OpStep
  rw [h]
  exact ⟨Ext.refl _, hF⟩

theorem opStep_grow {P : Program} {o : Oper} {ev : Operand → Value} {w w' : World} {F : VFact} {v : Value} (h : (execOp ev o).run P w = .ok (.value v) w') (hE : Ext w w') (hF : F v w') : OpStep P o ev w fun v w' => Ext w w' ∧ F v w' := by
  unfold OpStep
  rw [h]
  exact ⟨hE, hF⟩

theorem opStep_call {P : Program} {o : Oper} {ev : Operand → Value} {w : World} {F : VFact} {f : FuncId} {args : Array Value} {R : Ending → World → Prop} (h : (execOp ev o).run P w = .ok (.enter f args) w) (hc : Calls P f args w R)
    (hR : ∀ e w', R e w' → ∃ v, e = .returned v ∧ Ext w w' ∧ F v w') : OpStep P o ev w fun v w' => Ext w w' ∧ F v w' := by
  unfold OpStep
  rw [h]
  exact hc.mono hR

/-- The rule as it is called: stab, steps, fin. -/
theorem wp_region_v {P : Program} {id : Nat} {L : List Oper} {Q : Exit → Act → World → Prop} {a : Act} {w : World} (hm : P.follows .mixedOrders = true) (es : List (List (Nat × Nat))) (bs : List (List Nat)) (Fs : List VFact)
    (hlen : (es.length == bs.length && es.length == Fs.length) = true) (hok : regOk L (shOf 0 es bs) = true) (hd : dstOk L es.length a.tmps.size = true) (stab : StabAll Fs) (steps : USteps P Fs a w.drew L es Fs)
    (fin : ∀ (g : Nat → Value) (w' : World), Ext w.drew w' → (∀ (j : Nat) (F : VFact), Fs[j]? = some F → F (g j) w') → wpList P L.toArray Q (L.drop es.length) (putG g (L.take es.length) 0 a) w') :
    (Code.region id L.toArray true).wp P Q a w :=
  wp_region_u hm es bs Fs hlen hok hd (fun F hF => stab.mem F hF) steps fin


end
end RegE
end Go.Proofs.YteefhmdameeoaaaGreat
