/-
  The reference's elimination, plainly: eight rows are kept exactly if only 0 is orthogonal to all rows.
-/
import Derived.Test.YteefhmdameeoaaaGreatRefl
set_option linter.unusedSimpArgs false
set_option linter.unusedVariables false
namespace Go.Proofs.YteefhmdameeoaaaGreat
open Go.RowKit

/-- Rows with a 1 at their own place, and 0 at the places of the earlier ones. -/
structure Tri (Q : Nat → Nat → Rat) (at_ : Nat → Nat) (l : Nat) : Prop where
  lt : ∀ n, n < l → at_ n < 8
  one : ∀ n, n < l → Q n (at_ n) = 1
  zero : ∀ n m, n < m → m < l → Q m (at_ n) = 0
theorem Tri.inj {Q : Nat → Nat → Rat} {at_ : Nat → Nat} {l : Nat} (h : Tri Q at_ l) {n m : Nat} (hn : n < l) (hm : m < l) (he : at_ n = at_ m) : n = m := by
  have key : ∀ n m, n < l → m < l → at_ n = at_ m → ¬ n < m := fun n m hn hm he hlt => by
    have h1 := h.zero n m hlt hm
    rw [he, h.one m hm] at h1
    exact absurd h1 (by decide)
  have := key n m hn hm he
  have := key m n hm hn he.symm
  omega
theorem Tri.nodup {Q : Nat → Nat → Rat} {at_ : Nat → Nat} {l : Nat} (h : Tri Q at_ l) : ((List.range l).map at_).Nodup := by
  rw [List.nodup_iff_pairwise_ne, List.pairwise_map]
  refine List.Pairwise.imp_of_mem ?_ (List.nodup_range (n := l))
  intro a b ha hb hne he
  exact hne (h.inj (List.mem_range.1 ha) (List.mem_range.1 hb) he)
theorem Tri.sub {Q : Nat → Nat → Rat} {at_ : Nat → Nat} {l : Nat} (h : Tri Q at_ l) : (List.range l).map at_ ⊆ List.range 8 := fun x hx => by
  obtain ⟨i, hi, rfl⟩ := List.mem_map.1 hx
  exact List.mem_range.2 (h.lt i (List.mem_range.1 hi))
theorem Tri.le {Q : Nat → Nat → Rat} {at_ : Nat → Nat} {l : Nat} (h : Tri Q at_ l) : l ≤ 8 := by
  have := h.nodup.length_le_of_subset h.sub
  simpa using this
theorem Tri.surj {Q : Nat → Nat → Rat} {at_ : Nat → Nat} (h : Tri Q at_ 8) {j : Nat} (hj : j < 8) : ∃ n, n < 8 ∧ at_ n = j :=
  (IsPerm.mk h.lt fun i j hi hj he => h.inj hi hj he).surj hj
theorem Tri.miss {Q : Nat → Nat → Rat} {at_ : Nat → Nat} {l : Nat} (h : Tri Q at_ l) (hl : l < 8) : ∃ p, p < 8 ∧ ∀ n, n < l → at_ n ≠ p := by
  refine Classical.byContradiction fun hn => ?_
  have hs : List.range 8 ⊆ (List.range l).map at_ := fun p hp => by
    refine Classical.byContradiction fun hm => hn ⟨p, List.mem_range.1 hp, fun n hn he => hm (List.mem_map.2 ⟨n, List.mem_range.2 hn, he⟩)⟩
  have := (List.nodup_range (n := 8)).length_le_of_subset hs
  simp at this
  omega
theorem Tri.triv {Q : Nat → Nat → Rat} {at_ : Nat → Nat} (h : Tri Q at_ 8) {x : Nat → Rat} (hx : ∀ n, n < 8 → dotQ (Q n) x 8 = 0) : ∀ i, i < 8 → x i = 0 := by
  have key : ∀ d, d ≤ 8 → ∀ n, 8 - d ≤ n → n < 8 → x (at_ n) = 0 := by
    intro d
    induction d with
    | zero => intro _ n h1 h2; omega
    | succ d ih =>
      intro hd n h1 h2
      by_cases e : 8 - d ≤ n
      · exact ih (by omega) n e h2
      · have hn : n = 8 - (d + 1) := by omega
        have h3 := hx n h2
        rw [dotQ_single (p := at_ n) (h.lt n h2) fun j hj hne => ?_, h.one n h2] at h3
        · grind
        · obtain ⟨m, hm, rfl⟩ := h.surj hj
          by_cases e2 : m < n
          · rw [h.zero m n e2 h2]; grind
          · rw [ih (by omega) m (by have : m ≠ n := fun e => hne (by rw [e]); omega) hm]; grind
  intro i hi
  obtain ⟨n, hn, rfl⟩ := h.surj hi
  exact key 8 (Nat.le_refl _) n (by omega) hn
theorem Tri.back {Q : Nat → Nat → Rat} {at_ : Nat → Nat} {l : Nat} (h : Tri Q at_ l) {p : Nat} (hp : p < 8) (hm : ∀ n, n < l → at_ n ≠ p) : ∀ d, d ≤ l → ∃ x : Nat → Rat, x p = 1 ∧ ∀ n, l - d ≤ n → n < l → dotQ (Q n) x 8 = 0
  | 0, _ => ⟨fun j => if j = p then 1 else 0, by simp, fun n h1 h2 => by omega⟩
  | d + 1, hd => by
    obtain ⟨x, h1, h2⟩ := Tri.back h hp hm d (by omega)
    have hl : l - (d + 1) < l := by omega
    refine ⟨updQ x (at_ (l - (d + 1))) (x (at_ (l - (d + 1))) - dotQ (Q (l - (d + 1))) x 8), ?_, fun n hn hnl => ?_⟩
    · simp only [updQ]; rw [if_neg (fun e => hm _ hl e.symm)]; exact h1
    · rw [dotQ_upd, if_pos (h.lt _ hl)]
      by_cases e : n = l - (d + 1)
      · rw [← e, h.one n hnl]
        generalize dotQ (Q n) x 8 = s at *
        grind
      · rw [h2 n (by omega) hnl, h.zero _ n (by omega) hnl]; grind
theorem Tri.ker {Q : Nat → Nat → Rat} {at_ : Nat → Nat} {l : Nat} (h : Tri Q at_ l) : l = 8 ↔ KerTriv Q l := by
  constructor
  · rintro rfl x hx
    exact h.triv hx
  · intro ht
    refine Classical.byContradiction fun hl => ?_
    have hle := h.le
    obtain ⟨p, hp, hm⟩ := h.miss (by omega)
    obtain ⟨x, h1, h2⟩ := h.back hp hm l (Nat.le_refl _)
    have := ht x (fun n hn => h2 n (by omega) hn) p hp
    rw [h1] at this
    exact absurd this (by decide)

/-- The rows that are kept say what the first i rows say. -/
structure RkInv (O : Nat → Nat → Rat) (i l : Nat) (Q : Nat → Nat → Rat) (at_ : Nat → Nat) : Prop where
  tri : Tri Q at_ l
  ker : ∀ x, Ker Q l x ↔ Ker O i x
  sz : ∀ n, n < l → ∀ j, j < 8 → RSz (Q n j) (2 * szOf n)
theorem RkInv.start (O : Nat → Nat → Rat) (Q : Nat → Nat → Rat) (at_ : Nat → Nat) : RkInv O 0 0 Q at_ :=
  ⟨⟨fun n h => by omega, fun n h => by omega, fun n m _ h => by omega⟩, fun x => ⟨fun _ k hk => by omega, fun _ k hk => by omega⟩, fun n h => by omega⟩
/-- A row after the reductions by the first n rows. -/
structure RedInv (O : Nat → Rat) (l n : Nat) (Q : Nat → Nat → Rat) (at_ : Nat → Nat) (q : Nat → Rat) : Prop where
  dot : ∀ x, Ker Q l x → dotQ q x 8 = dotQ O x 8
  zero : ∀ m, m < n → q (at_ m) = 0
  sz : ∀ j, j < 8 → RSz (q j) (szOf n)
theorem RedInv.start {O : Nat → Rat} {l : Nat} {Q : Nat → Nat → Rat} {at_ : Nat → Nat} (h : ∀ j, j < 8 → RSz (O j) 1) : RedInv O l 0 Q at_ O := ⟨fun _ _ => rfl, fun m h => by omega, h⟩
theorem RedInv.step {O : Nat → Rat} {l n : Nat} {Q : Nat → Nat → Rat} {at_ : Nat → Nat} {q : Nat → Rat} (h : RedInv O l n Q at_ q) (ht : Tri Q at_ l) (hs : ∀ j, j < 8 → RSz (Q n j) (2 * szOf n)) (hn : n < l) : RedInv O l (n + 1) Q at_ (fun j => q j - q (at_ n) * Q n j) := by
  refine ⟨fun x hx => ?_, fun m hm => ?_, fun j hj => ?_⟩
  · rw [dotQ_sub, h.dot x hx, hx n hn]; grind
  · show q (at_ m) - q (at_ n) * Q n (at_ m) = 0
    by_cases e : m = n
    · rw [e, ht.one n hn]; grind
    · rw [h.zero m (by omega), ht.zero m n (by omega) hn]; grind
  · refine ((h.sz j hj).sub ((h.sz _ (ht.lt n hn)).mul (hs j hj))).mono ?_
    simp only [szOf]
    omega
theorem RkInv.skip {O : Nat → Nat → Rat} {i l : Nat} {Q : Nat → Nat → Rat} {at_ : Nat → Nat} {q : Nat → Rat} (h : RkInv O i l Q at_) (hr : RedInv (O i) l l Q at_ q) (hz : ∀ j, j < 8 → q j = 0) : RkInv O (i + 1) l Q at_ := by
  refine ⟨h.tri, fun x => ⟨fun hx k hk => ?_, fun hx => (h.ker x).2 fun k hk => hx k (by omega)⟩, h.sz⟩
  by_cases e : k = i
  · rw [e, ← hr.dot x hx]
    exact dotQ_zero fun j hj => by rw [hz j hj]; grind
  · exact (h.ker x).1 hx k (by omega)
def putQ (Q : Nat → Nat → Rat) (l : Nat) (q : Nat → Rat) (n : Nat) : Nat → Rat := if n = l then q else Q n
def putA (at_ : Nat → Nat) (l k n : Nat) : Nat := if n = l then k else at_ n
theorem putQ_eq (Q : Nat → Nat → Rat) (l : Nat) (q : Nat → Rat) : putQ Q l q l = q := if_pos rfl
theorem putQ_ne (Q : Nat → Nat → Rat) {l : Nat} (q : Nat → Rat) {n : Nat} (h : n ≠ l) : putQ Q l q n = Q n := if_neg h
theorem putA_eq (at_ : Nat → Nat) (l k : Nat) : putA at_ l k l = k := if_pos rfl
theorem putA_ne (at_ : Nat → Nat) {l n : Nat} (k : Nat) (h : n ≠ l) : putA at_ l k n = at_ n := if_neg h
theorem dotQ_mul (a x : Nat → Rat) (f : Rat) : ∀ k, dotQ (fun j => a j * f) x k = dotQ a x k * f
  | 0 => by simp only [dotQ]; grind
  | k + 1 => by simp only [dotQ]; rw [dotQ_mul a x f k]; grind
theorem RkInv.keep {O : Nat → Nat → Rat} {i l k : Nat} {Q : Nat → Nat → Rat} {at_ : Nat → Nat} {q : Nat → Rat} (h : RkInv O i l Q at_) (hr : RedInv (O i) l l Q at_ q) (hk : k < 8) (hz : q k ≠ 0) : RkInv O (i + 1) (l + 1) (putQ Q l fun j => q j * (q k)⁻¹) (putA at_ l k) := by
  have hinv : q k * (q k)⁻¹ = 1 := by grind
  refine ⟨⟨fun n hn => ?_, fun n hn => ?_, fun n m hnm hm => ?_⟩, fun x => ?_, fun n hn j hj => ?_⟩
  · by_cases e : n = l
    · rw [e, putA_eq]; exact hk
    · rw [putA_ne _ _ e]; exact h.tri.lt n (by omega)
  · by_cases e : n = l
    · rw [e, putA_eq, putQ_eq]; exact hinv
    · rw [putA_ne _ _ e, putQ_ne _ _ e]; exact h.tri.one n (by omega)
  · rw [putA_ne _ _ (show n ≠ l by omega)]
    by_cases e : m = l
    · rw [e, putQ_eq, hr.zero n (by omega)]; grind
    · rw [putQ_ne _ _ e]; exact h.tri.zero n m hnm (by omega)
  · have h0 : Ker (putQ Q l fun j => q j * (q k)⁻¹) (l + 1) x ↔ Ker Q l x ∧ dotQ q x 8 * (q k)⁻¹ = 0 := by
      constructor
      · intro hx
        refine ⟨fun n hn => ?_, ?_⟩
        · have := hx n (by omega)
          rw [putQ_ne _ _ (by omega)] at this
          exact this
        · have := hx l (by omega)
          rw [putQ_eq, dotQ_mul] at this
          exact this
      · rintro ⟨h1, h2⟩ n hn
        by_cases e : n = l
        · rw [e, putQ_eq, dotQ_mul]; exact h2
        · rw [putQ_ne _ _ e]; exact h1 n (by omega)
    rw [h0]
    constructor
    · rintro ⟨h1, h2⟩ m hm
      by_cases e : m = i
      · rw [e, ← hr.dot x h1]
        generalize dotQ q x 8 = s at *
        generalize q k = c at *
        grind
      · exact (h.ker x).1 h1 m (by omega)
    · intro hx
      have h1 : Ker Q l x := (h.ker x).2 fun m hm => hx m (by omega)
      refine ⟨h1, ?_⟩
      rw [hr.dot x h1, hx i (by omega)]
      grind
  · by_cases e : n = l
    · rw [e, putQ_eq]
      refine ((hr.sz j hj).mul ((hr.sz k hk).inv (num_ne hz))).mono (by omega)
    · rw [putQ_ne _ _ e]; exact h.sz n (by omega) j hj
theorem RkInv.last {O : Nat → Nat → Rat} {i l : Nat} {Q : Nat → Nat → Rat} {at_ : Nat → Nat} (h : RkInv O i l Q at_) : l = 8 ↔ KerTriv O i := by
  rw [h.tri.ker]
  unfold KerTriv
  constructor
  · intro h1 x hx
    exact h1 x ((h.ker x).2 hx)
  · intro h1 x hx
    exact h1 x ((h.ker x).1 hx)

end Go.Proofs.YteefhmdameeoaaaGreat
