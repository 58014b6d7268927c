/-
  Part 1 of the proof that polynomialRing_holds holds; the statement is the last theorem of the last part. No condition.
-/
import Derived.BigQuiet
import Derived.Deep.QuietTactic
import Derived.Deep.RegionHeld3
import Derived.Deep.Upon
import Derived.Laws.AppendOwn
import Derived.Laws.AppendOwnNone
import Derived.Test.YteicdddphdomkaaGreatRows
import Derived.WalkKit
import Derived.WalkLawsBesides
import Derived.WalkSpells
set_option linter.unusedSimpArgs false
set_option linter.unusedVariables false
namespace Go.Proofs.YteicdddphdomkaaGreat
open Go.RowKit
def Ext (w w' : World) : Prop := Below w.heap.size w w'
theorem Ext.refl (w : World) : Ext w w := Below.refl _ _
theorem Ext.trans {a b c : World} (h : Ext a b) (k : Ext b c) : Ext a c := Below.trans h (Below.mono k h.size)
theorem Ext.drew {a b : World} (h : Ext a b) : Ext a b.drew := Below.drew h
theorem Ext.drewN {a b : World} (h : Ext a b) (n : Nat) : Ext a (b.drewN n) := by
 obtain ⟨h1, h2, h3, h4, h5⟩ := h
 exact ⟨h1, h2, h3, h4, h5⟩
theorem Ext.size {a b : World} (h : Ext a b) : a.heap.size ≤ b.heap.size := Below.size h
theorem Ext.block {a b : World} (h : Ext a b) {k : Nat} (hk : k < a.heap.size) : b.heap[k]? = a.heap[k]? := Below.block h k hk
theorem Ext.cell {a b : World} (h : Ext a b) {p : Addr} (hp : p.block < a.heap.size) : b.cell? p = a.cell? p := Below.cell h hp
theorem Ext.frozen {a b : World} (h : Ext a b) {p : Addr} (hp : p.block < a.heap.size) : b.frozen? p = a.frozen? p := Below.frozen h hp
theorem Ext.cellv {a b : World} (h : Ext a b) {p : Addr} {v : Value} (hv : a.cell? p = some v) : b.cell? p = some v := (h.cell (World.block_lt_of_cell? a p hv)).trans hv
theorem Ext.alloc {a b : World} (h : Ext a b) (o : Obj) : Ext a (b.alloc o) := Below.alloc h h.size o
theorem hide {p : Prop} (h : p) : Hid p := h
def OpStep (P : Program) (o : Oper) (ev : Operand → Value) (w : World) (R : Value → World → Prop) : Prop :=
 match (execOp ev o).run P w with
 | .ok (.value v) w' => R v w'
 | .ok .skip w' => R undef w'
 | .ok (.enter f args) w' => Calls P f args w' fun e w'' => ∃ v, e = .returned v ∧ R v w''
 | _ => False
structure Shape where
 env : List (Nat × Nat)
 bef : List Nat
 deps : List Nat
def upd (g : Nat → Value) (i : Nat) (v : Value) : Nat → Value := fun k => if k = i then v else g k
def EnvEq (ev : Operand → Value) (g : Nat → Value) : List (Nat × Nat) → Prop
 | [] => True
 | (t, j) :: r => ev (.tmp t) = g j ∧ EnvEq ev g r
def wantedG (o : Oper) (g : Nat → Value) : Bool :=
 match o.guard with
 | none => true
 | some (j, b) => match g j with | .bool c => c == b | _ => false
abbrev Fact := List Value → World → Prop
def Known (sh : List Shape) (Rs : List Fact) (i : Nat) (g : Nat → Value) (w : World) : Prop :=
 ∀ x, sh[i]? = some x → ∀ j ∈ x.bef, ∀ y F, sh[j]? = some y → Rs[j]? = some F → F (y.deps.map g) w
def StepAt (P : Program) (sh : List Shape) (Rs : List Fact) (a : Act) (w0 : World) (i : Nat) (o : Oper) (x : Shape) (F : Fact) : Prop :=
 ∀ (g : Nat → Value) (w : World) (ev : Operand → Value), Ext w0 w → Known sh Rs i g w → EnvEq ev g x.env →
  (∀ t, (∀ p ∈ x.env, p.1 ≠ t) → ev (.tmp t) = a.tmps.getD t undef) → (∀ v, ev (.const v) = v) → (∀ f, ev (.func f) = .func (.func f) #[] #[]) →
  (wantedG o g = true → OpStep P o ev w fun v w' => Ext w w' ∧ F (x.deps.map (upd g i v)) w') ∧ (wantedG o g = false → F (x.deps.map (upd g i undef)) w)
def StepsAt (P : Program) (sh : List Shape) (Rs : List Fact) (a : Act) (w0 : World) : Nat → List Oper → List Shape → List Fact → Prop
 | i, o :: L, x :: S, F :: T => StepAt P sh Rs a w0 i o x F ∧ StepsAt P sh Rs a w0 (i + 1) L S T
 | _, _, [], [] => True
 | _, _, _, _ => False
theorem StepsAt.at {P : Program} {sh : List Shape} {Rs : List Fact} {a : Act} {w0 : World} : ∀ {S : List Shape} {T : List Fact} {L : List Oper} {i : Nat}, StepsAt P sh Rs a w0 i L S T →
  S.length = T.length ∧ ∀ k o x, L[k]? = some o → S[k]? = some x → ∃ F, T[k]? = some F ∧ StepAt P sh Rs a w0 (i + k) o x F
 | [], [], L, i, _ => ⟨rfl, fun k o x _ hx => by simp at hx⟩
 | [], _ :: _, L, i, h => by cases L <;> exact h.elim
 | _ :: _, [], L, i, h => by cases L <;> exact h.elim
 | x :: S, F :: T, [], i, h => h.elim
 | x :: S, F :: T, o :: L, i, h => by
  obtain ⟨h1, h2⟩ := h
  obtain ⟨hl, hh⟩ := StepsAt.at h2
  refine ⟨by simp [hl], fun k o' x' ho hx => ?_⟩
  cases k with
  | zero =>
   simp at ho hx
   subst ho; subst hx
   exact ⟨F, rfl, h1⟩
  | succ k =>
   simp at ho hx
   obtain ⟨F', hF, hs⟩ := hh k o' x' ho hx
   refine ⟨F', by simpa using hF, ?_⟩
   have : i + (k + 1) = i + 1 + k := by omega
   rw [this]
   exact hs
def edges (o : Oper) : List Nat := (o.after.toList.filter fun e => Region.binds .any e).map (·.on)
def Shape.befOf (sh : List Shape) (j : Nat) : List Nat := (sh[j]?.map (·.bef)).getD []
def notSelect : Op → Bool
 | .select .. => false
 | _ => true
def headOk (L : List Oper) (sh : List Shape) (i : Nat) (o : Oper) (x : Shape) : Bool :=
 x.bef.all (fun j => (edges o).any fun e => e == j || (Shape.befOf sh e).contains j) &&
 x.deps.all (fun k => k == i || x.bef.contains k) &&
 x.env.all (fun p => x.bef.contains p.2 && decide (p.2 < sh.length) && (match L[p.2]? with | some o' => o'.dst == some p.1 | none => false)) &&
 o.op.operands.toList.all (fun | .tmp t => (x.env.map (·.1)).contains t || ((List.range sh.length).all fun j => match L[j]? with | some o' => o'.dst != some t || j == i || (Shape.befOf sh j).contains i | none => true) | _ => true) &&
 (match o.guard with | some (j, _) => x.bef.contains j && decide (j < sh.length) && (match L[j]? with | some o' => o'.dst.isSome | none => false) | none => true) &&
 notSelect o.op
def tailOk (L : List Oper) (sh : List Shape) (t : Nat) (o : Oper) : Bool :=
 (List.range t).all fun j => (edges o).any fun e => e == j || (if e < sh.length then (Shape.befOf sh e).contains j else decide (j < e))
def regOk (L : List Oper) (sh : List Shape) : Bool :=
 decide (sh.length ≤ L.length) &&
 L.zipIdx.all (fun (o, i) => (edges o).all (fun e => decide (e < i)) &&
  (match sh[i]? with | some x => headOk L sh i o x | none => tailOk L sh i o)) &&
 (List.range sh.length).all (fun i => (List.range sh.length).all fun j => i == j || (match L[i]?, L[j]? with | some o, some o' => o.dst.isNone || o.dst != o'.dst | _, _ => true))
def dstOk (L : List Oper) (n sz : Nat) : Bool := (L.take n).all fun o => match o.dst with | some d => decide (d < sz) | none => true
def putG (g : Nat → Value) : List Oper → Nat → Act → Act
 | [], _, a => a
 | o :: r, i, a => putG g r (i + 1) (a.put o.dst (g i))
section
variable {P : Program} {L : List Oper} {sh : List Shape} {Rs : List Fact} {a : Act} {w0 : World}
theorem regOk_len (h : regOk L sh = true) : sh.length ≤ L.length := by
 simp only [regOk, Bool.and_eq_true, decide_eq_true_eq] at h
 exact h.1.1
theorem regOk_at (h : regOk L sh = true) {i : Nat} {o : Oper} (ho : L[i]? = some o) :
  (∀ e ∈ edges o, e < i) ∧ (∀ x, sh[i]? = some x → headOk L sh i o x = true) ∧ (sh[i]? = none → tailOk L sh i o = true) := by
 simp only [regOk, Bool.and_eq_true] at h
 have h2 := List.all_eq_true.1 h.1.2 (o, i) (by
  rw [List.mem_zipIdx_iff_getElem?]
  exact ho)
 simp only [Bool.and_eq_true, List.all_eq_true, decide_eq_true_eq] at h2
 refine ⟨h2.1, fun x hx => ?_, fun hx => ?_⟩
 ·have := h2.2; rw [hx] at this; exact this
 ·have := h2.2; rw [hx] at this; exact this
theorem regOk_dst (h : regOk L sh = true) {i j : Nat} {o o' : Oper} {d : Nat} (hi : i < sh.length) (hj : j < sh.length) (ho : L[i]? = some o) (ho' : L[j]? = some o') (hd : o.dst = some d) (hd' : o'.dst = some d) : i = j := by
 simp only [regOk, Bool.and_eq_true] at h
 have h2 := List.all_eq_true.1 (List.all_eq_true.1 h.2 i (List.mem_range.2 hi)) j (List.mem_range.2 hj)
 rw [ho, ho'] at h2
 simp [hd, hd'] at h2
 exact h2
theorem mem_edges {o : Oper} {e : Edge} (he : e ∈ o.after) (hb : Region.binds .any e = true) : e.on ∈ edges o := by
 unfold edges
 exact List.mem_map.2 ⟨e, List.mem_filter.2 ⟨by simpa using he, hb⟩, rfl⟩
theorem edges_mem {o : Oper} {k : Nat} (h : k ∈ edges o) : ∃ e ∈ o.after, Region.binds .any e = true ∧ e.on = k := by
 unfold edges at h
 obtain ⟨e, he, rfl⟩ := List.mem_map.1 h
 obtain ⟨h1, h2⟩ := List.mem_filter.1 he
 exact ⟨e, by simpa using h1, h2, rfl⟩
structure HInv (L : List Oper) (sh : List Shape) (Rs : List Fact) (a : Act) (w0 : World) (listed : Array Bool) (g : Nat → Value) (a' : Act) (w' : World) : Prop where
 size : listed.size = L.length
 closed : ∀ j o, L[j]? = some o → listed.getD j false = true → ∀ e ∈ edges o, listed.getD e false = true
 tail : ∀ t, sh.length ≤ t → listed.getD t false = false
 asz : a'.tmps.size = a.tmps.size
 adef : a'.defers = a.defers
 a1 : ∀ j o d, j < sh.length → L[j]? = some o → listed.getD j false = true → o.dst = some d → a'.tmps[d]? = some (g j)
 a2 : ∀ t, (∀ j o, j < sh.length → L[j]? = some o → listed.getD j false = true → o.dst ≠ some t) → a'.tmps[t]? = a.tmps[t]?
 facts : ∀ j y F, sh[j]? = some y → Rs[j]? = some F → listed.getD j false = true → F (y.deps.map g) w'
 ext : Ext w0 w'
theorem lt_of_sh {j : Nat} {y : Shape} (h : sh[j]? = some y) : j < sh.length := (List.getElem?_eq_some_iff.1 h).1
theorem bef_listed (hok : regOk L sh = true) {listed : Array Bool} (hc : ∀ j o, L[j]? = some o → listed.getD j false = true → ∀ e ∈ edges o, listed.getD e false = true) :
  ∀ (i : Nat) (x : Shape) (o : Oper), sh[i]? = some x → L[i]? = some o → (∀ e ∈ edges o, listed.getD e false = true) → ∀ j ∈ x.bef, listed.getD j false = true := by
 intro i
 induction i using Nat.strongRecOn with
 | _ i ih =>
  intro x o hx ho hed j hj
  obtain ⟨hlt, hh, _⟩ := regOk_at hok ho
  have h1 := hh x hx
  simp only [headOk, Bool.and_eq_true] at h1
  have h2 := List.all_eq_true.1 h1.1.1.1.1.1 j hj
  obtain ⟨e, he, he2⟩ := List.any_eq_true.1 h2
  have hle := hed e he
  simp only [Bool.or_eq_true, beq_iff_eq] at he2
  rcases he2 with rfl | he2
  ·exact hle
  ·have hei := hlt e he
   cases hy : sh[e]? with
   | none => simp [Shape.befOf, hy] at he2
   | some y =>
    have hel : e < L.length := Nat.lt_of_lt_of_le (lt_of_sh hy) (regOk_len hok)
    have hoe : L[e]? = some L[e] := List.getElem?_eq_getElem hel
    refine ih e hei y _ hy hoe (hc e _ hoe hle) j ?_
    simpa [Shape.befOf, hy] using he2
noncomputable def evOf (a : Act) (g : Nat → Value) (env : List (Nat × Nat)) : Operand → Value
 | .tmp t => match env.find? (fun p => p.1 == t) with
  | some p => g p.2
  | none => a.tmps.getD t undef
 | .const v => v
 | .global b => .pointer (some ⟨b, 0, none⟩)
 | .func f => .func (.func f) #[] #[]
theorem head_env (hok : regOk L sh = true) {i : Nat} {x : Shape} {o : Oper} (hx : sh[i]? = some x) (ho : L[i]? = some o) {p : Nat × Nat} (hp : p ∈ x.env) :
  p.2 ∈ x.bef ∧ p.2 < sh.length ∧ ∃ o', L[p.2]? = some o' ∧ o'.dst = some p.1 := by
 have h1 := (regOk_at hok ho).2.1 x hx
 simp only [headOk, Bool.and_eq_true] at h1
 have h2 := List.all_eq_true.1 h1.1.1.1.2 p hp
 simp only [Bool.and_eq_true, decide_eq_true_eq] at h2
 obtain ⟨⟨h3, h4⟩, h5⟩ := h2
 refine ⟨by simpa using h3, h4, ?_⟩
 split at h5
 ·rename_i o' ho'; exact ⟨o', ho', by simpa using h5⟩
 ·cases h5
theorem envEq_of {ev : Operand → Value} {g : Nat → Value} : ∀ {env : List (Nat × Nat)}, (∀ p ∈ env, ev (.tmp p.1) = g p.2) → EnvEq ev g env
 | [], _ => trivial
 | (t, j) :: r, h => ⟨h (t, j) (by simp), envEq_of fun p hp => h p (by simp [hp])⟩
theorem step_inv (hok : regOk L sh = true) (hd : dstOk L sh.length a.tmps.size = true)
  (hstab : ∀ F ∈ Rs, ∀ vs w1 w2, Ext w1 w2 → F vs w1 → F vs w2)
  {listed : Array Bool} {g : Nat → Value} {a' : Act} {w' : World} (inv : HInv L sh Rs a w0 listed g a' w') {i : Nat} {o : Oper} {x : Shape} {F : Fact} (ho : L[i]? = some o) (hx : sh[i]? = some x) (hF : Rs[i]? = some F)
  (hun : listed.getD i false = false) (hed : ∀ e ∈ edges o, listed.getD e false = true) {v : Value} {w'' : World} (he : Ext w' w'') (hf : F (x.deps.map (upd g i v)) w'') :
  HInv L sh Rs a w0 (listed.setIfInBounds i true) (upd g i v) (a'.put o.dst v) w'' := by
 have hin : i < sh.length := lt_of_sh hx
 have hil : i < listed.size := by rw [inv.size]; exact (List.getElem?_eq_some_iff.1 ho).1
 have hset : ∀ j, (listed.setIfInBounds i true).getD j false = true → j ≠ i → listed.getD j false = true := fun j h hj => by
  rw [getD_set_ne false (fun e => hj e.symm)] at h; exact h
 have hnb : ∀ j y oj, sh[j]? = some y → L[j]? = some oj → listed.getD j false = true → i ∉ y.bef := fun j y oj hy hoj hl hi => by
  have := bef_listed hok inv.closed j y oj hy hoj (inv.closed j oj hoj hl) i hi
  rw [hun] at this; cases this
 refine ⟨by simp [inv.size], fun j oj hoj hl e he' => ?_, fun t ht => ?_, ?_, ?_, fun j oj d hj hoj hl hdj => ?_, fun t ht => ?_, fun j y G hy hG hl => ?_, inv.ext.trans he⟩
 ·by_cases hji : j = i
  ·subst hji
   have : oj = o := Option.some.inj (hoj.symm.trans ho)
   subst this
   exact getD_set_true (hed e he')
  ·exact getD_set_true (inv.closed j oj hoj (hset j hl hji) e he')
 ·rw [getD_set_ne false (by omega)]; exact inv.tail t ht
 ·unfold Act.put; split <;> simp [inv.asz]
 ·unfold Act.put; split <;> simp [inv.adef]
 ·by_cases hji : j = i
  ·subst hji
   have : oj = o := Option.some.inj (hoj.symm.trans ho)
   subst this
   have hdl : d < a'.tmps.size := by
    rw [inv.asz]
    have h2 := List.all_eq_true.1 hd oj (List.mem_of_getElem? (i := j) (by rw [List.getElem?_take]; simp [hin, hoj]))
    simp only [hdj, decide_eq_true_eq] at h2
    exact h2
   simp [Act.put, hdj, upd, hdl]
  ·have hlj := hset j hl hji
   have hne : o.dst ≠ some d := fun e => hji (regOk_dst hok hj hin hoj ho hdj e)
   rw [show upd g i v j = g j by simp [upd, hji], ← inv.a1 j oj d hj hoj hlj hdj]
   unfold Act.put
   split
   ·rename_i d' hd'
    have : d' ≠ d := fun e => hne (by rw [hd', e])
    simp [Array.getElem?_setIfInBounds_ne this]
   ·rfl
 ·have h2 : o.dst ≠ some t := by
   refine ht i o hin ho ?_
   simp [hil]
  rw [← inv.a2 t fun j oj hj hoj hl => ht j oj hj hoj (getD_set_true hl)]
  unfold Act.put
  split
  ·rename_i d' hd'
   have : d' ≠ t := fun e => h2 (by rw [hd', e])
   simp [Array.getElem?_setIfInBounds_ne this]
  ·rfl
 ·by_cases hji : j = i
  ·subst hji
   have e1 : y = x := Option.some.inj (hy.symm.trans hx)
   have e2 : G = F := Option.some.inj (hG.symm.trans hF)
   subst e1; subst e2
   exact hf
  ·have hlj := hset j hl hji
   have hjl : j < L.length := Nat.lt_of_lt_of_le (lt_of_sh hy) (regOk_len hok)
   have hoj : L[j]? = some L[j] := List.getElem?_eq_getElem hjl
   have hib := hnb j y _ hy hoj hlj
   have hmap : y.deps.map (upd g i v) = y.deps.map g := by
    refine List.map_congr_left fun k hk => ?_
    have h1 := (regOk_at hok hoj).2.1 y hy
    simp only [headOk, Bool.and_eq_true] at h1
    have h2 := List.all_eq_true.1 h1.1.1.1.1.2 k hk
    simp only [Bool.or_eq_true, beq_iff_eq] at h2
    have hki : k ≠ i := by
     rintro rfl
     rcases h2 with h2 | h2
     ·exact hji h2.symm
     ·exact hib (by simpa using h2)
    simp [upd, hki]
   rw [hmap]
   exact hstab G (List.mem_of_getElem? hG) _ _ _ he (inv.facts j y G hy hG hlj)
theorem eval_operands (hok : regOk L sh = true) {listed : Array Bool} {g : Nat → Value} {a' : Act} {w' : World} (inv : HInv L sh Rs a w0 listed g a' w') {i : Nat} {o : Oper} {x : Shape} (ho : L[i]? = some o) (hx : sh[i]? = some x)
  (hun : listed.getD i false = false) (hed : ∀ e ∈ edges o, listed.getD e false = true) : ∀ y ∈ o.op.operands, a'.eval y = evOf a g x.env y := by
 intro y hy
 cases y with
 | tmp t =>
  show a'.tmps.getD t undef = _
  cases hfd : x.env.find? (fun p => p.1 == t) with
  | some p =>
   have hp : p ∈ x.env := List.mem_of_find?_eq_some hfd
   have hpt : p.1 = t := by simpa using List.find?_some hfd
   obtain ⟨h1, h2, o', ho', hd'⟩ := head_env hok hx ho hp
   have hl := bef_listed hok inv.closed i x o hx ho hed p.2 h1
   have := inv.a1 p.2 o' p.1 h2 ho' hl hd'
   simp only [evOf, hfd]
   rw [hpt] at this
   simp [this]
  | none =>
   simp only [evOf, hfd]
   have h1 := (regOk_at hok ho).2.1 x hx
   simp only [headOk, Bool.and_eq_true] at h1
   have h2 := List.all_eq_true.1 h1.1.1.2 (.tmp t) (by simpa using hy)
   simp only [Bool.or_eq_true] at h2
   rcases h2 with h2 | h2
   ·exfalso
    have : t ∈ x.env.map (·.1) := by simpa using h2
    obtain ⟨p, hp, hpt⟩ := List.mem_map.1 this
    have := List.find?_eq_none.1 hfd p hp
    simp [hpt] at this
   ·have : a'.tmps[t]? = a.tmps[t]? := by
     refine inv.a2 t fun j oj hj hoj hl hdj => ?_
     have h3 := List.all_eq_true.1 h2 j (List.mem_range.2 hj)
     rw [hoj] at h3
     simp [hdj] at h3
     rcases h3 with h3 | h3
     ·subst h3; rw [hun] at hl; cases hl
     ·cases hy' : sh[j]? with
      | none => rw [List.getElem?_eq_none_iff] at hy'; omega
      | some y' =>
       have := bef_listed hok inv.closed j y' oj hy' hoj (inv.closed j oj hoj hl) i (by simpa [Shape.befOf, hy'] using h3)
       rw [hun] at this; cases this
    rw [Array.getD_eq_getD_getElem?, Array.getD_eq_getD_getElem?, this]
 | const v => rfl
 | global b => rfl
 | func f => rfl
theorem wanted_of (hok : regOk L sh = true) {listed : Array Bool} {g : Nat → Value} {a' : Act} {w' : World} (inv : HInv L sh Rs a w0 listed g a' w') {i : Nat} {o : Oper} {x : Shape} (ho : L[i]? = some o) (hx : sh[i]? = some x)
  (hed : ∀ e ∈ edges o, listed.getD e false = true) : Region.wanted o (yielded L.toArray a'.tmps) = wantedG o g := by
 unfold Region.wanted wantedG
 cases hg : o.guard with
 | none => rfl
 | some jb =>
  obtain ⟨j, b⟩ := jb
  have h1 := (regOk_at hok ho).2.1 x hx
  simp only [headOk, Bool.and_eq_true] at h1
  have h2 := h1.1.2
  rw [hg] at h2
  simp only [Bool.and_eq_true, decide_eq_true_eq] at h2
  obtain ⟨⟨h3, h4⟩, h5⟩ := h2
  have hl := bef_listed hok inv.closed i x o hx ho hed j (by simpa using h3)
  split at h5
  ·rename_i o' ho'
   obtain ⟨d, hd'⟩ := Option.isSome_iff_exists.1 h5
   have := inv.a1 j o' d h4 ho' hl hd'
   unfold yielded
   simp only [List.getElem?_toArray, ho', Option.bind_some, hd', this]
   cases g j <;> simp
  ·cases h5
theorem opStep_wp {o : Oper} {ev : Operand → Value} {a' : Act} {w' : World} {Q : Exit → Act → World → Prop} {R : Value → World → Prop} {K : Act → World → Prop} (hns : notSelect o.op = true) (hev : ∀ y ∈ o.op.operands, a'.eval y = ev y)
  (h : OpStep P o ev w' R) (hK : ∀ v w'', R v w'' → K (a'.put o.dst v) w'') : o.wp P a' w' K Q := by
 unfold Oper.wp
 have hs : ∀ cs b, o.op ≠ .select cs b := by
  intro cs b e
  rw [e] at hns
  cases hns
 rw [execOp_congr o hs hev]
 unfold OpStep at h
 split at h
 ·rename_i v w'' hr; rw [hr]; exact hK _ _ h
 ·rename_i w'' hr; rw [hr]; exact hK _ _ h
 ·rename_i f args w'' hr
  rw [hr]
  exact Calls.mono h fun e w3 ⟨v, he, hR⟩ => by subst he; exact hK _ _ hR
 ·exact h.elim
theorem getD_false_iff {listed : Array Bool} {j : Nat} (h : j < listed.size) : listed.getD j true = listed.getD j false := by simp [h]
theorem ready_of (hok : regOk L sh = true) {listed : Array Bool} (hsz : listed.size = L.length) {i : Nat} (hi : i ∈ Region.ready .any L.toArray listed) :
  listed.getD i false = false ∧ ∃ o, L[i]? = some o ∧ ∀ e ∈ edges o, listed.getD e false = true := by
 obtain ⟨h1, o, ho, hall⟩ := mem_ready.1 hi
 have ho' : L[i]? = some o := by simpa using ho
 have hil : i < listed.size := by rw [hsz]; exact (List.getElem?_eq_some_iff.1 ho').1
 refine ⟨by rw [← getD_false_iff hil]; exact h1, o, ho', fun e he => ?_⟩
 obtain ⟨e', he', hb, rfl⟩ := edges_mem he
 exact hall e' he' hb
theorem first_ready (hok : regOk L sh = true) {listed : Array Bool} (hsz : listed.size = L.length) : ∀ (i : Nat), i < L.length → listed.getD i false = false → ∃ k, k ≤ i ∧ k ∈ Region.ready .any L.toArray listed := by
 intro i
 induction i using Nat.strongRecOn with
 | _ i ih =>
  intro hi hun
  by_cases h : ∃ e, e < i ∧ listed.getD e false = false
  ·obtain ⟨e, he, hu⟩ := h
   obtain ⟨k, hk, hr⟩ := ih e he (by omega) hu
   exact ⟨k, by omega, hr⟩
  ·refine ⟨i, Nat.le_refl _, mem_ready.2 ⟨by rw [getD_false_iff (by omega)]; exact hun, L[i], by simp [hi], fun e he hb => ?_⟩⟩
   have hlt := (regOk_at hok (List.getElem?_eq_getElem hi)).1 e.on (mem_edges he hb)
   cases hg : listed.getD e.on false with
   | true => rfl
   | false => exact absurd ⟨e.on, hlt, hg⟩ h
def falses (listed : Array Bool) : Nat := (listed.toList.filter (!·)).length
theorem falses_set {listed : Array Bool} {i : Nat} (hi : i < listed.size) (h : listed.getD i false = false) : falses (listed.setIfInBounds i true) + 1 = falses listed := by
 obtain ⟨l⟩ := listed
 simp only [falses, List.setIfInBounds_toArray, List.size_toArray] at *
 have h' : l[i]? = some false := by
  simp [hi] at h
  simp [List.getElem?_eq_getElem hi, h]
 clear h
 induction l generalizing i with
 | nil => simp at hi
 | cons b l ih =>
  cases i with
  | zero =>
   simp at h'
   subst h'
   simp
  | succ i =>
   simp only [List.set_cons_succ]
   have := ih (i := i) (by simpa using hi) (by simpa using h')
   cases b <;> simp_all
theorem falses_pos {listed : Array Bool} {i : Nat} (hi : i < listed.size) (h : listed.getD i false = false) : 0 < falses listed := by
 have := falses_set hi h
 omega
theorem tail_waits_ (hok : regOk L sh = true) {listed : Array Bool} (hsz : listed.size = L.length) (hc : ∀ j o, L[j]? = some o → listed.getD j false = true → ∀ e ∈ edges o, listed.getD e false = true)
  {t : Nat} {o : Oper} (ht : sh.length ≤ t) (ho : L[t]? = some o) (hed : ∀ e ∈ edges o, listed.getD e false = true) : ∀ j, j < t → listed.getD j false = true := by
 induction t using Nat.strongRecOn generalizing o with
 | _ t ih =>
  intro j hj
  obtain ⟨hlt, _, htl⟩ := regOk_at hok ho
  have h1 := htl (List.getElem?_eq_none_iff.2 ht)
  have h2 := List.all_eq_true.1 h1 j (List.mem_range.2 hj)
  obtain ⟨e, he, he2⟩ := List.any_eq_true.1 h2
  simp only [Bool.or_eq_true, beq_iff_eq] at he2
  rcases he2 with rfl | he2
  ·exact hed e he
  ·have het := hlt e he
   have hel : e < L.length := by have := (List.getElem?_eq_some_iff.1 ho).1; omega
   have hoe : L[e]? = some L[e] := List.getElem?_eq_getElem hel
   split at he2
   ·rename_i hen
    have hy : sh[e]? = some sh[e] := List.getElem?_eq_getElem hen
    exact bef_listed hok hc e _ _ hy hoe (hc e _ hoe (hed e he)) j (by simpa [Shape.befOf, hy] using he2)
   ·rename_i hen
    exact ih e het (by omega) hoe (hc e _ hoe (hed e he)) j (by simpa using he2)
theorem tail_run (hok : regOk L sh = true) {Q : Exit → Act → World → Prop} : ∀ (f m : Nat) (listed : Array Bool) (a' : Act) (w' : World), sh.length ≤ m → f + m = L.length → listed.size = L.length →
  (∀ j, j < m → listed.getD j false = true) → (∀ j, m ≤ j → listed.getD j false = false) → wpList P L.toArray Q (L.drop m) a' w' → wpAny P .any L.toArray Q f listed a' w' := by
 intro f
 induction f with
 | zero =>
  intro m listed a' w' hm hf hsz h1 h2 h
  have hml : L.length ≤ m := by omega
  rw [List.drop_eq_nil_of_le hml] at h
  refine ⟨?_, h⟩
  cases hr : Region.ready .any L.toArray listed with
  | nil => rfl
  | cons x xs =>
   obtain ⟨hx, o, ho, _⟩ := ready_of hok hsz (i := x) (by rw [hr]; simp)
   have := h1 x (by have := (List.getElem?_eq_some_iff.1 ho).1; omega)
   rw [hx] at this; cases this
 | succ f ih =>
  intro m listed a' w' hm hf hsz h1 h2 h
  have hml : m < L.length := by omega
  refine ⟨fun h0 => ?_, fun i hi => ?_⟩
  ·obtain ⟨k, _, hk⟩ := first_ready hok hsz m hml (h2 m (Nat.le_refl _))
   rw [h0] at hk; cases hk
  ·obtain ⟨hun, o, ho, hed⟩ := ready_of hok hsz hi
   have hil := (List.getElem?_eq_some_iff.1 ho).1
   have him : m ≤ i := by
    rcases Nat.lt_or_ge i m with hlt | hge
    ·have := h1 i hlt; rw [hun] at this; cases this
    ·exact hge
   have hcl : ∀ j oj, L[j]? = some oj → listed.getD j false = true → ∀ e ∈ edges oj, listed.getD e false = true := fun j oj hoj hl e he => by
    have hjm : j < m := by
     rcases Nat.lt_or_ge j m with hlt | hge
     ·exact hlt
     ·rw [h2 j hge] at hl; cases hl
    exact h1 e (Nat.lt_trans ((regOk_at hok hoj).1 e he) hjm)
   have hieq : i = m := by
    rcases Nat.lt_or_ge m i with hlt | hge
    ·have := tail_waits_ hok hsz hcl (by omega) ho hed m hlt
     rw [h2 m (Nat.le_refl _)] at this; cases this
    ·omega
   subst hieq
   rw [List.drop_eq_getElem_cons hml] at h
   have heq : L[i] = o := by rw [List.getElem?_eq_getElem hml] at ho; exact Option.some.inj ho
   rw [heq] at h
   have hK : ∀ a w, wpList P L.toArray Q (L.drop (i + 1)) a w → wpAny P .any L.toArray Q f (listed.setIfInBounds i true) a w := fun a w hw =>
    ih (i + 1) _ a w (by omega) (by omega) (by simpa using hsz) (fun j hj => by
     by_cases hji : j = i
     ·subst hji; simp [hsz, hml]
     ·exact getD_set_true (h1 j (by omega))) (fun j hj => by rw [getD_set_ne false (by omega)]; exact h2 j (by omega)) hw
   unfold wpOp
   have ho2 : L.toArray[i]? = some o := by simpa using ho
   rw [ho2]
   simp only [wpList] at h ⊢
   split
   ·rename_i hw; rw [if_pos hw] at h; exact h.imp (Oper.wp_mono hK) id
   ·rename_i hw; rw [if_neg hw] at h; exact hK _ _ h
theorem putG_facts {g : Nat → Value} : ∀ (l : List Oper) (i : Nat) (b : Act), (∀ (j k : Nat) (o o' : Oper) (d : Nat), l[j]? = some o → l[k]? = some o' → o.dst = some d → o'.dst = some d → j = k) → (∀ o ∈ l, ∀ d, o.dst = some d → d < b.tmps.size) →
  (putG g l i b).tmps.size = b.tmps.size ∧ (putG g l i b).defers = b.defers ∧
  (∀ (j : Nat) (o : Oper) (d : Nat), l[j]? = some o → o.dst = some d → (putG g l i b).tmps[d]? = some (g (i + j))) ∧
  (∀ t : Nat, (∀ (j : Nat) (o : Oper), l[j]? = some o → o.dst ≠ some t) → (putG g l i b).tmps[t]? = b.tmps[t]?)
 | [], i, b, _, _ => ⟨rfl, rfl, fun j o d h => by simp at h, fun t _ => rfl⟩
 | o :: l, i, b, hd, hb => by
  have hs : (b.put o.dst (g i)).tmps.size = b.tmps.size := by unfold Act.put; split <;> simp
  obtain ⟨h1, h2, h3, h4⟩ := putG_facts (g := g) l (i + 1) (b.put o.dst (g i)) (fun j k o1 o2 d hj hk e1 e2 => by
   have := hd (j + 1) (k + 1) o1 o2 d (by simpa using hj) (by simpa using hk) e1 e2
   omega) (fun o' ho' d hd' => by rw [hs]; exact hb o' (by simp [ho']) d hd')
  refine ⟨h1.trans hs, h2.trans (by unfold Act.put; split <;> rfl), fun j o' d hj hdj => ?_, fun t ht => ?_⟩
  ·cases j with
   | zero =>
    simp at hj
    subst hj
    show (putG g l (i + 1) (b.put o.dst (g i))).tmps[d]? = _
    rw [h4 d fun k o2 hk e => by
     have := hd 0 (k + 1) o o2 d rfl (by simpa using hk) hdj e
     omega]
    have := hb o (by simp) d hdj
    simp [Act.put, hdj, this]
   | succ j =>
    have := h3 j o' d (by simpa using hj) hdj
    rw [show i + (j + 1) = i + 1 + j by omega]
    exact this
  ·show (putG g l (i + 1) (b.put o.dst (g i))).tmps[t]? = _
   rw [h4 t fun k o2 hk => ht (k + 1) o2 (by simpa using hk)]
   have h0 := ht 0 o rfl
   unfold Act.put
   split
   ·rename_i d' hd'
    have : d' ≠ t := fun e => h0 (by rw [hd', e])
    simp [Array.getElem?_setIfInBounds_ne this]
   ·rfl
theorem act_ext {x y : Act} (h : x.tmps = y.tmps) (h' : x.defers = y.defers) : x = y := by
 cases x; cases y; simp_all
theorem head_run (hok : regOk L sh = true) (hd : dstOk L sh.length a.tmps.size = true)
  (hstab : ∀ F ∈ Rs, ∀ vs w1 w2, Ext w1 w2 → F vs w1 → F vs w2) (hstep : StepsAt P sh Rs a w0 0 L sh Rs) {Q : Exit → Act → World → Prop}
  (hend : ∀ g w', Ext w0 w' → (∀ (j : Nat) (y : Shape) (F : Fact), sh[j]? = some y → Rs[j]? = some F → F (y.deps.map g) w') → wpList P L.toArray Q (L.drop sh.length) (putG g (L.take sh.length) 0 a) w') :
  ∀ (f : Nat) (listed : Array Bool) (g : Nat → Value) (a' : Act) (w' : World), falses listed = f → HInv L sh Rs a w0 listed g a' w' → wpAny P .any L.toArray Q f listed a' w' := by
 obtain ⟨hlen, hat⟩ := hstep.at
 intro f
 induction f with
 | zero =>
  intro listed g a' w' hf inv
  have hall : ∀ j, j < L.length → listed.getD j false = true := fun j hj => by
   cases hg : listed.getD j false with
   | true => rfl
   | false => have := falses_pos (by rw [inv.size]; exact hj) hg; omega
  refine tail_run hok 0 L.length listed a' w' (regOk_len hok) (by omega) inv.size hall (fun j hj => by simp [inv.size, hj]) ?_
  have hsl : sh.length = L.length := by
   have := regOk_len hok
   rcases Nat.lt_or_ge sh.length L.length with hlt | hge
   ·have h1 := hall sh.length hlt
    rw [inv.tail _ (Nat.le_refl _)] at h1; cases h1
   ·omega
  have := hend g w' inv.ext fun j y F hy hF => inv.facts j y F hy hF (hall j (by have := lt_of_sh hy; omega))
  rw [hsl] at this
  have hpa : putG g (L.take L.length) 0 a = a' := by
   obtain ⟨p1, p2, p3, p4⟩ := putG_facts (g := g) (L.take L.length) 0 a (fun j k o o' d hj hk e1 e2 => by
    simp at hj hk
    exact regOk_dst hok (by have := (List.getElem?_eq_some_iff.1 hj).1; omega) (by have := (List.getElem?_eq_some_iff.1 hk).1; omega) hj hk e1 e2) (fun o ho d hdo => by
    rw [← hsl] at ho
    have h2 := List.all_eq_true.1 hd o ho
    simp only [hdo, decide_eq_true_eq] at h2
    exact h2)
   refine act_ext (Array.ext_getElem? fun t => ?_) (p2.trans inv.adef.symm)
   by_cases ht : ∃ (j : Nat) (o : Oper), L[j]? = some o ∧ o.dst = some t
   ·obtain ⟨j, o, hj, hdo⟩ := ht
    rw [p3 j o t (by simpa using hj) hdo, inv.a1 j o t (by have := (List.getElem?_eq_some_iff.1 hj).1; omega) hj (hall j (List.getElem?_eq_some_iff.1 hj).1) hdo]
    simp
   ·rw [p4 t fun j o hj e => ht ⟨j, o, by simpa using hj, e⟩, inv.a2 t fun j o _ hj _ e => ht ⟨j, o, hj, e⟩]
  rw [hpa] at this
  exact this
 | succ f ih =>
  intro listed g a' w' hf inv
  by_cases hdone : ∀ j, j < sh.length → listed.getD j false = true
  ·have hfl : f + 1 + sh.length = L.length := by
    have key : ∀ (l : List Bool) (n : Nat), n ≤ l.length → (∀ j, j < n → l[j]? = some true) → (∀ j, n ≤ j → j < l.length → l[j]? = some false) → (l.filter (!·)).length + n = l.length := by
     intro l
     induction l with
     | nil => intro n hn _ _; simp at hn; simp [hn]
     | cons b l ihl =>
      intro n hn h1 h2
      cases n with
      | zero =>
       have hb := h2 0 (Nat.le_refl _) (by simp)
       simp at hb
       subst hb
       have := ihl 0 (by omega) (fun j hj => by omega) (fun j _ hj => by simpa using h2 (j + 1) (by omega) (by simpa using hj))
       simp at this ⊢
       omega
      | succ n =>
       have hb := h1 0 (by omega)
       simp at hb
       subst hb
       have := ihl n (by simpa using hn) (fun j hj => by simpa using h1 (j + 1) (by omega)) (fun j hj1 hj2 => by simpa using h2 (j + 1) (by omega) (by simpa using hj2))
       simp
       omega
    have := key listed.toList sh.length (by simpa [inv.size] using regOk_len hok) (fun j hj => by
      have h1 := hdone j hj
      have hjl : j < listed.size := by rw [inv.size]; have := regOk_len hok; omega
      simp [hjl] at h1
      simp [hjl, h1]) (fun j hj1 hj2 => by
      have h1 := inv.tail j hj1
      have hjl : j < listed.size := by simpa using hj2
      simp [hjl] at h1
      simp [hjl, h1])
    have e1 : (listed.toList.filter (!·)).length = f + 1 := hf
    rw [e1] at this
    simpa [inv.size] using this
   refine tail_run hok (f + 1) sh.length listed a' w' (Nat.le_refl _) hfl inv.size hdone inv.tail ?_
   have := hend g w' inv.ext fun j y F hy hF => inv.facts j y F hy hF (hdone j (lt_of_sh hy))
   have hpa : putG g (L.take sh.length) 0 a = a' := by
    have hget : ∀ j o, (L.take sh.length)[j]? = some o → j < sh.length ∧ L[j]? = some o := fun j o h => by
     rw [List.getElem?_take] at h
     split at h
     ·exact ⟨by assumption, h⟩
     ·cases h
    obtain ⟨p1, p2, p3, p4⟩ := putG_facts (g := g) (L.take sh.length) 0 a (fun j k o o' d hj hk e1 e2 => by
     obtain ⟨hj1, hj2⟩ := hget j o hj
     obtain ⟨hk1, hk2⟩ := hget k o' hk
     exact regOk_dst hok hj1 hk1 hj2 hk2 e1 e2) (fun o ho d hdo => by
     have h2 := List.all_eq_true.1 hd o ho
     simp only [hdo, decide_eq_true_eq] at h2
     exact h2)
    refine act_ext (Array.ext_getElem? fun t => ?_) (p2.trans inv.adef.symm)
    by_cases ht : ∃ (j : Nat) (o : Oper), j < sh.length ∧ L[j]? = some o ∧ o.dst = some t
    ·obtain ⟨j, o, hjn, hj, hdo⟩ := ht
     rw [p3 j o t (by rw [List.getElem?_take, if_pos hjn]; exact hj) hdo, inv.a1 j o t hjn hj (hdone j hjn) hdo]
     simp
    ·rw [p4 t fun j o hj e => ht ⟨j, o, (hget j o hj).1, (hget j o hj).2, e⟩, inv.a2 t fun j o hjn hj _ e => ht ⟨j, o, hjn, hj, e⟩]
   rw [hpa] at this
   exact this
  ·have hex : ∃ j, j < sh.length ∧ listed.getD j false = false := Classical.byContradiction fun hno => hdone fun j hj => by
    cases hg : listed.getD j false with
    | true => rfl
    | false => exact absurd ⟨j, hj, hg⟩ hno
   obtain ⟨j0, hj0, hu0⟩ := hex
   refine ⟨fun h0 => ?_, fun i hi => ?_⟩
   ·obtain ⟨k, _, hk⟩ := first_ready hok inv.size j0 (Nat.lt_of_lt_of_le hj0 (regOk_len hok)) hu0
    rw [h0] at hk; cases hk
   ·obtain ⟨hun, o, ho, hed⟩ := ready_of hok inv.size hi
    have hin : i < sh.length := by
     rcases Nat.lt_or_ge i sh.length with hlt | hge
     ·exact hlt
     ·have := tail_waits_ hok inv.size inv.closed hge ho hed j0 (by omega)
      rw [hu0] at this; cases this
    have hx : sh[i]? = some sh[i] := List.getElem?_eq_getElem hin
    obtain ⟨F, hF, hst⟩ := hat i o _ ho hx
    rw [Nat.zero_add] at hst
    have hil : i < listed.size := by rw [inv.size]; exact (List.getElem?_eq_some_iff.1 ho).1
    have hno := (regOk_at hok ho).2.1 _ hx
    simp only [headOk, Bool.and_eq_true] at hno
    obtain ⟨hs1, hs2⟩ := hst g w' (evOf a g sh[i].env) inv.ext (fun x hx' j hj y G hy hG => by
      have : x = sh[i] := Option.some.inj (hx'.symm.trans hx)
      subst this
      exact inv.facts j y G hy hG (bef_listed hok inv.closed i _ o hx ho hed j hj))
     (envEq_of fun p hp => by
      obtain ⟨h1, h2, o', ho', hd'⟩ := head_env hok hx ho hp
      cases hfd : sh[i].env.find? (fun q => q.1 == p.1) with
      | none => have := List.find?_eq_none.1 hfd p hp; simp at this
      | some q =>
       have hq := List.mem_of_find?_eq_some hfd
       have hqp : q.1 = p.1 := by simpa using List.find?_some hfd
       obtain ⟨_, h4, o2, ho2, hd2⟩ := head_env hok hx ho hq
       rw [hqp] at hd2
       have := regOk_dst hok h4 h2 ho2 ho' hd2 hd'
       simp only [evOf, hfd, this])
     (fun t ht => by
      have : sh[i].env.find? (fun q => q.1 == t) = none := List.find?_eq_none.2 fun p hp => by simpa using ht p hp
      simp only [evOf, this])
     (fun _ => rfl) (fun _ => rfl)
    have hwant := wanted_of hok inv ho hx hed
    have hfs : ∀ v w2 b, (a'.put o.dst v) = b → Ext w' w2 → F (sh[i].deps.map (upd g i v)) w2 → wpAny P .any L.toArray Q f (listed.setIfInBounds i true) b w2 := fun v w2 b hb he hf' => by
     subst hb
     refine ih _ (upd g i v) _ _ ?_ (step_inv hok hd hstab inv ho hx hF hun hed he hf')
     have := falses_set hil hun
     omega
    unfold wpOp
    have ho2 : L.toArray[i]? = some o := by simpa using ho
    rw [ho2]
    show if Region.wanted o (yielded L.toArray a'.tmps) = true then _ else _
    rw [hwant]
    split
    ·rename_i hw
     exact .inl (opStep_wp hno.2 (eval_operands hok inv ho hx hun hed) (hs1 hw) fun v w2 ⟨he, hf'⟩ => hfs v w2 _ rfl he hf')
    ·rename_i hw
     exact hfs undef w' _ rfl (Ext.refl _) (hs2 (by simpa using hw))
theorem wp_region_ext {id : Nat} {L : List Oper} {Q : Exit → Act → World → Prop} {a : Act} {w : World} (hm : P.follows .mixedOrders = true) (sh : List Shape) (Rs : List Fact) (hok : regOk L sh = true) (hd : dstOk L sh.length a.tmps.size = true)
  (hstab : ∀ F ∈ Rs, ∀ vs w1 w2, Ext w1 w2 → F vs w1 → F vs w2) (hstep : StepsAt P sh Rs a w.drew 0 L sh Rs)
  (hend : ∀ g w', Ext w.drew w' → (∀ (j : Nat) (y : Shape) (F : Fact), sh[j]? = some y → Rs[j]? = some F → F (y.deps.map g) w') → wpList P L.toArray Q (L.drop sh.length) (putG g (L.take sh.length) 0 a) w') :
  (Code.region id L.toArray true).wp P Q a w := by
 refine wp_region_any hm ?_
 have hfz : falses (Array.replicate L.toArray.size false) = L.toArray.size := by simp [falses, List.filter_replicate]
 refine head_run hok hd hstab hstep hend _ _ (fun _ => undef) a _ hfz ?_
 have hz : ∀ j, (Array.replicate L.toArray.size false).getD j false = false := fun j => by
  rcases Nat.lt_or_ge j L.length with h | h
  ·simp [h]
  ·simp [h]
 exact ⟨by simp, (fun j o _ h => by rw [hz] at h; cases h), fun t _ => hz t, rfl, rfl, (fun j o d _ _ h => by rw [hz] at h; cases h), fun t _ => rfl, (fun j y F _ _ h => by rw [hz] at h; cases h), Ext.refl _⟩
end
abbrev VFact := Value → World → Prop
def OpsKnown (Fs : List VFact) (ev : Operand → Value) (w : World) : List (Nat × Nat) → Prop
 | [] => True
 | (t, j) :: r => (∀ F, Fs[j]? = some F → F (ev (.tmp t)) w) ∧ OpsKnown Fs ev w r
def UStep (P : Program) (Fs : List VFact) (a : Act) (w0 : World) (o : Oper) (env : List (Nat × Nat)) (F : VFact) : Prop :=
 ∀ (w : World) (ev : Operand → Value), Ext w0 w → OpsKnown Fs ev w env →
  (∀ t, (∀ p ∈ env, p.1 ≠ t) → ev (.tmp t) = a.tmps.getD t undef) → (∀ v, ev (.const v) = v) → (∀ f, ev (.func f) = .func (.func f) #[] #[]) →
  match o.guard with
  | none => OpStep P o ev w fun v w' => Ext w w' ∧ F v w'
  | some (j, b) => ∀ gv, (∀ G, Fs[j]? = some G → G gv w) → (gv = .bool b → OpStep P o ev w fun v w' => Ext w w' ∧ F v w') ∧ (gv ≠ .bool b → F undef w)
def USteps (P : Program) (Fs : List VFact) (a : Act) (w0 : World) : List Oper → List (List (Nat × Nat)) → List VFact → Prop
 | o :: L, x :: S, F :: T => UStep P Fs a w0 o x F ∧ USteps P Fs a w0 L S T
 | _, [], [] => True
 | _, _, _ => False
theorem USteps.cons {P : Program} {Fs : List VFact} {a : Act} {w0 : World} {o : Oper} {L : List Oper} {x : List (Nat × Nat)} {S : List (List (Nat × Nat))} {F : VFact} {T : List VFact} (h : UStep P Fs a w0 o x F) (hs : USteps P Fs a w0 L S T) :
  USteps P Fs a w0 (o :: L) (x :: S) (F :: T) := ⟨h, hs⟩
theorem USteps.nil {P : Program} {Fs : List VFact} {a : Act} {w0 : World} {L : List Oper} : USteps P Fs a w0 L [] [] := by cases L <;> trivial
def shOf : Nat → List (List (Nat × Nat)) → List (List Nat) → List Shape
 | i, e :: es, b :: bs => ⟨e, b, [i]⟩ :: shOf (i + 1) es bs
 | _, _, _ => []
theorem shOf_get : ∀ {es : List (List (Nat × Nat))} {bs : List (List Nat)} {i k : Nat} {x : Shape}, (shOf i es bs)[k]? = some x → x.deps = [i + k] ∧ es[k]? = some x.env
 | [], _, i, k, x, h => by simp [shOf] at h
 | _ :: _, [], i, k, x, h => by simp [shOf] at h
 | e :: es, b :: bs, i, 0, x, h => by
  simp only [shOf, List.getElem?_cons_zero, Option.some.injEq] at h
  subst h
  exact ⟨rfl, rfl⟩
 | e :: es, b :: bs, i, k + 1, x, h => by
  simp only [shOf, List.getElem?_cons_succ] at h
  obtain ⟨h1, h2⟩ := shOf_get h
  exact ⟨by rw [h1]; congr 1; omega, by simpa using h2⟩
def unF (F : VFact) : Fact := fun vs w => match vs with | [v] => F v w | _ => False
theorem usteps_steps {P : Program} {a : Act} {w0 : World} {Fs : List VFact} {sh : List Shape} {L0 : List Oper} (hok : regOk L0 sh = true) (hsh : ∀ (k : Nat) (x : Shape), sh[k]? = some x → x.deps = [k]) :
  ∀ {L : List Oper} {es : List (List (Nat × Nat))} {bs : List (List Nat)} {T : List VFact} {i : Nat}, (∀ k, L[k]? = L0[i + k]?) → (∀ k, (shOf i es bs)[k]? = sh[i + k]?) → es.length = bs.length → USteps P Fs a w0 L es T →
   StepsAt P sh (Fs.map unF) a w0 i L (shOf i es bs) (T.map unF)
 | L, [], [], [], i, _, _, _, _ => by cases L <;> exact trivial
 | L, [], [], _ :: _, i, _, _, _, h => by cases L <;> exact h.elim
 | L, [], _ :: _, T, i, _, _, hl, h => by simp at hl
 | L, _ :: _, [], T, i, _, _, hl, h => by simp at hl
 | [], _ :: _, _ :: _, T, i, _, _, _, h => by cases T <;> exact h.elim
 | _ :: _, _ :: _, _ :: _, [], i, _, _, _, h => h.elim
 | o :: L, e :: es, b :: bs, F :: T, i, hL, hS, hl, h => by
  obtain ⟨h1, h2⟩ := h
  refine ⟨?_, usteps_steps hok hsh (i := i + 1) (fun k => by
   have := hL (k + 1)
   rw [show i + 1 + k = i + (k + 1) by omega, ← this]; rfl) (fun k => by
   have := hS (k + 1)
   rw [show i + 1 + k = i + (k + 1) by omega, ← this]; rfl) (by simpa using hl) h2⟩
  intro g w ev hE hk henv hev hc hf
  have ho : L0[i]? = some o := by have := hL 0; simpa using this.symm
  have hx : sh[i]? = some ⟨e, b, [i]⟩ := by have := hS 0; simpa [shOf] using this.symm
  have hknown : ∀ j, j ∈ b → ∀ G, Fs[j]? = some G → G (g j) w := fun j hj G hG => by
   have hjl : ∃ y, sh[j]? = some y := by
    cases hy : sh[j]? with
    | some y => exact ⟨y, rfl⟩
    | none =>
     exfalso
     have hb := hj
     have hh := (regOk_at hok ho).2.1 _ hx
     simp only [headOk, Bool.and_eq_true] at hh
     have h3 := List.all_eq_true.1 hh.1.1.1.1.1 j hb
     obtain ⟨e', he', he2⟩ := List.any_eq_true.1 h3
     have hlt := (regOk_at hok ho).1 e' he'
     simp only [Bool.or_eq_true, beq_iff_eq] at he2
     have hil := lt_of_sh hx
     rw [List.getElem?_eq_none_iff] at hy
     rcases he2 with rfl | he2
     ·omega
     ·
      have key : ∀ (n : Nat) (y : Shape) (oy : Oper), sh[n]? = some y → L0[n]? = some oy → ∀ m ∈ y.bef, m < n := by
       intro n
       induction n using Nat.strongRecOn with
       | _ n ih =>
        intro y oy hy hoy m hm
        have hh' := (regOk_at hok hoy).2.1 y hy
        simp only [headOk, Bool.and_eq_true] at hh'
        have h4 := List.all_eq_true.1 hh'.1.1.1.1.1 m hm
        obtain ⟨e2, he2, he3⟩ := List.any_eq_true.1 h4
        have hlt2 := (regOk_at hok hoy).1 e2 he2
        simp only [Bool.or_eq_true, beq_iff_eq] at he3
        rcases he3 with rfl | he3
        ·exact hlt2
        ·cases hy2 : sh[e2]? with
         | none => simp [Shape.befOf, hy2] at he3
         | some y2 =>
          have hel : e2 < L0.length := Nat.lt_of_lt_of_le (lt_of_sh hy2) (regOk_len hok)
          have := ih e2 hlt2 y2 _ hy2 (List.getElem?_eq_getElem hel) m (by simpa [Shape.befOf, hy2] using he3)
          omega
      have := key i _ o hx ho j hj
      omega
   obtain ⟨y, hy⟩ := hjl
   have := hk _ hx j hj y (unF G) hy (by rw [List.getElem?_map, hG]; rfl)
   rw [hsh j y hy] at this
   exact this
  have hops : OpsKnown Fs ev w e := by
   have hsub : ∀ p ∈ e, p.2 ∈ b := fun p hp => (head_env hok hx ho hp).1
   have henv' : EnvEq ev g e := henv
   clear hx hev h1 henv hS hl
   induction e with
   | nil => trivial
   | cons p e ih =>
    obtain ⟨t, j⟩ := p
    obtain ⟨q1, q2⟩ := henv'
    exact ⟨fun G hG => by rw [q1]; exact hknown j (hsub (t, j) (by simp)) G hG, ih (fun p hp => hsub p (by simp [hp])) q2⟩
  have := h1 w ev hE hops hev hc hf
  have hmap : ∀ v, unF F ([i].map (upd g i v)) = F v := fun v => by funext w; simp [unF, upd]
  cases hg : o.guard with
  | none =>
   rw [hg] at this
   refine ⟨fun _ => ?_, fun hw => by simp [wantedG, hg] at hw⟩
   simp only [hmap]
   exact this
  | some jb =>
   obtain ⟨j, c⟩ := jb
   rw [hg] at this
   have hjb : j ∈ b := by
    have hh := (regOk_at hok ho).2.1 _ hx
    simp only [headOk, Bool.and_eq_true] at hh
    have h3 := hh.1.2
    rw [hg] at h3
    simp only [Bool.and_eq_true] at h3
    simpa using h3.1.1
   obtain ⟨t1, t2⟩ := this (g j) (fun G hG => hknown j hjb G hG)
   refine ⟨fun hw => ?_, fun hw => ?_⟩
   ·simp only [hmap]
    refine t1 ?_
    simp only [wantedG, hg] at hw
    split at hw
    ·rename_i c' hc'; rw [hc']; congr 1; simpa using hw
    ·cases hw
   ·simp only [hmap]
    refine t2 fun e' => ?_
    simp [wantedG, hg, e'] at hw
theorem wp_region_u {P : Program} {id : Nat} {L : List Oper} {Q : Exit → Act → World → Prop} {a : Act} {w : World} (hm : P.follows .mixedOrders = true) (es : List (List (Nat × Nat))) (bs : List (List Nat)) (Fs : List VFact)
  (hlen : (es.length == bs.length && es.length == Fs.length) = true) (hok : regOk L (shOf 0 es bs) = true) (hd : dstOk L es.length a.tmps.size = true)
  (hstab : ∀ F ∈ Fs, ∀ v w1 w2, Ext w1 w2 → F v w1 → F v w2) (hstep : USteps P Fs a w.drew L es Fs)
  (hend : ∀ (g : Nat → Value) (w' : World), Ext w.drew w' → (∀ (j : Nat) (F : VFact), Fs[j]? = some F → F (g j) w') → wpList P L.toArray Q (L.drop es.length) (putG g (L.take es.length) 0 a) w') :
  (Code.region id L.toArray true).wp P Q a w := by
 simp only [Bool.and_eq_true, beq_iff_eq] at hlen
 have hshl : ∀ (es : List (List (Nat × Nat))) (bs : List (List Nat)) (i : Nat), es.length = bs.length → (shOf i es bs).length = es.length := by
  intro es
  induction es with
  | nil => intro bs i _; cases bs <;> rfl
  | cons e es ih =>
   intro bs i h
   cases bs with
   | nil => simp at h
   | cons b bs => simp [shOf, ih bs (i + 1) (by simpa using h)]
 have hl := hshl es bs 0 hlen.1
 refine wp_region_ext hm (shOf 0 es bs) (Fs.map unF) hok (by rw [hl]; exact hd) ?_ ?_ ?_
 ·intro F hF vs w1 w2 he h
  obtain ⟨G, hG, rfl⟩ := List.mem_map.1 hF
  unfold unF at *
  split at h
  ·rename_i v; exact hstab G hG v w1 w2 he h
  ·exact h.elim
 ·exact usteps_steps hok (fun k x hx => by have := (shOf_get hx).1; rwa [Nat.zero_add] at this) (fun k => by rw [Nat.zero_add]) (fun k => by rw [Nat.zero_add]) hlen.1 hstep
 ·intro g w' hE hf
  rw [hl]
  refine hend g w' hE fun j F hF => ?_
  have hjl : j < (shOf 0 es bs).length := by
   rw [hl]
   have := (List.getElem?_eq_some_iff.1 hF).1
   omega
  have hy : (shOf 0 es bs)[j]? = some (shOf 0 es bs)[j] := List.getElem?_eq_getElem hjl
  have := hf j _ (unF F) hy (by rw [List.getElem?_map, hF]; rfl)
  rw [(shOf_get hy).1] at this
  simpa [unF] using this
def Stab (F : VFact) : Prop := ∀ v w1 w2, Ext w1 w2 → F v w1 → F v w2
def StabAll : List VFact → Prop
 | [] => True
 | F :: r => Stab F ∧ StabAll r
theorem StabAll.cons {F : VFact} {r : List VFact} (h : Stab F) (hs : StabAll r) : StabAll (F :: r) := ⟨h, hs⟩
theorem StabAll.nil : StabAll [] := trivial
theorem StabAll.mem : ∀ {Fs : List VFact}, StabAll Fs → ∀ F ∈ Fs, Stab F
 | [], _, F, h => by cases h
 | G :: r, h, F, hF => by
  rcases List.mem_cons.1 hF with rfl | hF
  ·exact h.1
  ·exact StabAll.mem h.2 F hF
theorem Stab.eq (u : Value) : Stab (fun v _ => v = u) := fun _ _ _ _ h => h
theorem opStep_val {P : Program} {o : Oper} {ev : Operand → Value} {w : World} {F : VFact} {v : Value} (h : (execOp ev o).run P w = .ok (.value v) w) (hF : F v w) : OpStep P o ev w fun v w' => Ext w w' ∧ F v w' := by
 unfold OpStep
 rw [h]
 exact ⟨Ext.refl _, hF⟩
theorem opStep_grow {P : Program} {o : Oper} {ev : Operand → Value} {w w' : World} {F : VFact} {v : Value} (h : (execOp ev o).run P w = .ok (.value v) w') (hE : Ext w w') (hF : F v w') : OpStep P o ev w fun v w' => Ext w w' ∧ F v w' := by
 unfold OpStep
 rw [h]
 exact ⟨hE, hF⟩
theorem opStep_call {P : Program} {o : Oper} {ev : Operand → Value} {w : World} {F : VFact} {f : FuncId} {args : Array Value} {R : Ending → World → Prop} (h : (execOp ev o).run P w = .ok (.enter f args) w) (hc : Calls P f args w R)
  (hR : ∀ e w', R e w' → ∃ v, e = .returned v ∧ Ext w w' ∧ F v w') : OpStep P o ev w fun v w' => Ext w w' ∧ F v w' := by
 unfold OpStep
 rw [h]
 exact hc.mono hR
theorem wp_region_v {P : Program} {id : Nat} {L : List Oper} {Q : Exit → Act → World → Prop} {a : Act} {w : World} (hm : P.follows .mixedOrders = true) (es : List (List (Nat × Nat))) (bs : List (List Nat)) (Fs : List VFact)
  (hlen : (es.length == bs.length && es.length == Fs.length) = true) (hok : regOk L (shOf 0 es bs) = true) (hd : dstOk L es.length a.tmps.size = true) (stab : StabAll Fs) (steps : USteps P Fs a w.drew L es Fs)
  (fin : ∀ (g : Nat → Value) (w' : World), Ext w.drew w' → (∀ (j : Nat) (F : VFact), Fs[j]? = some F → F (g j) w') → wpList P L.toArray Q (L.drop es.length) (putG g (L.take es.length) 0 a) w') :
  (Code.region id L.toArray true).wp P Q a w :=
 wp_region_u hm es bs Fs hlen hok hd (fun F hF => stab.mem F hF) steps fin
end Go.Proofs.YteicdddphdomkaaGreat
namespace Go.Proofs.YteicdddphdomkaaGreat
open Go.RowKit
def BB : Nat := 4294967296
theorem BB_pos : 0 < BB := by decide
theorem BB_eq : BB = 4294967296 := rfl
theorem one_lt_BB : 1 < BB := by decide
def val : List Nat → Nat
 | [] => 0
 | x :: l => x + BB * val l
def digs (n : Nat) : List Nat := if h : n = 0 then [] else (n % BB) :: digs (n / BB)
termination_by n
decreasing_by exact Nat.div_lt_self (Nat.pos_of_ne_zero h) (by decide)
def Small (l : List Nat) : Prop := ∀ x ∈ l, x < BB
theorem digs_zero : digs 0 = [] := by rw [digs]; simp
theorem digs_pos {n : Nat} (h : n ≠ 0) : digs n = (n % BB) :: digs (n / BB) := by rw [digs]; simp [h]
theorem val_digs (n : Nat) : val (digs n) = n := by
 induction n using Nat.strongRecOn with
 | _ n ih =>
  by_cases h : n = 0
  ·subst h; rw [digs_zero]; rfl
  ·rw [digs_pos h]
   show n % BB + BB * val (digs (n / BB)) = n
   rw [ih (n / BB) (Nat.div_lt_self (Nat.pos_of_ne_zero h) (by decide))]
   exact Nat.mod_add_div n BB
theorem small_digs (n : Nat) : Small (digs n) := by
 induction n using Nat.strongRecOn with
 | _ n ih =>
  by_cases h : n = 0
  ·subst h; rw [digs_zero]; intro x hx; cases hx
  ·rw [digs_pos h]
   intro x hx
   rcases List.mem_cons.1 hx with rfl | hx
   ·exact Nat.mod_lt _ BB_pos
   ·exact ih (n / BB) (Nat.div_lt_self (Nat.pos_of_ne_zero h) (by decide)) x hx
theorem val_append (l m : List Nat) : val (l ++ m) = val l + BB ^ l.length * val m := by
 induction l with
 | nil => simp [val]
 | cons x l ih =>
  simp only [List.cons_append, val, ih, List.length_cons, Nat.pow_succ]
  rw [Nat.mul_add, Nat.add_assoc, Nat.mul_comm (BB ^ l.length) BB, Nat.mul_assoc]
theorem val_lt {l : List Nat} (h : Small l) : val l < BB ^ l.length := by
 induction l with
 | nil => simp [val]
 | cons x l ih =>
  have h1 := h x (by simp)
  have h2 := ih fun y hy => h y (by simp [hy])
  simp only [val, List.length_cons, Nat.pow_succ]
  have h3 : BB * (val l + 1) ≤ BB * BB ^ l.length := Nat.mul_le_mul_left _ h2
  rw [Nat.mul_add, Nat.mul_comm BB (BB ^ l.length)] at h3
  omega
def trimW : List Nat → List Nat
 | [] => []
 | x :: l => match trimW l with
  | [] => if x = 0 then [] else [x]
  | y :: r => x :: y :: r
theorem val_trimW (l : List Nat) : val (trimW l) = val l := by
 induction l with
 | nil => rfl
 | cons x l ih =>
  simp only [trimW]
  split
  ·rename_i h
   rw [h] at ih
   have ih : val l = 0 := by rw [← ih]; rfl
   split
   ·subst x; simp [val, ih]
   ·simp [val, ih]
  ·rename_i y r h
   rw [h] at ih
   show x + BB * val (y :: r) = x + BB * val l
   rw [ih]
theorem trimW_eq_digs {l : List Nat} (h : Small l) : trimW l = digs (val l) := by
 induction l with
 | nil => simp [trimW, val, digs_zero]
 | cons x l ih =>
  have hx := h x (by simp)
  have ih := ih fun y hy => h y (by simp [hy])
  have hd : (x + BB * val l) / BB = val l := by rw [Nat.add_mul_div_left _ _ BB_pos, Nat.div_eq_of_lt hx]; omega
  have hm : (x + BB * val l) % BB = x := by rw [Nat.add_mul_mod_self_left, Nat.mod_eq_of_lt hx]
  simp only [trimW, val]
  split
  ·rename_i h0
   have hv : val l = 0 := by rw [← val_trimW, h0]; rfl
   split
   ·subst x; simp [hv, digs_zero]
   ·rename_i hne
    rw [digs_pos (by omega), hd, hm, hv, digs_zero]
  ·rename_i y r h0
   have hne : x + BB * val l ≠ 0 := by
    intro e
    have hv : val l = 0 := by
     have := BB_pos
     rcases Nat.eq_zero_or_pos (val l) with h1 | h1
     ·exact h1
     ·have := Nat.mul_pos this h1; omega
    rw [hv, digs_zero, h0] at ih
    cases ih
   rw [digs_pos hne, hd, hm, ← ih, h0]
theorem trimW_snoc_zero (l : List Nat) : trimW (l ++ [0]) = trimW l := by
 induction l with
 | nil => simp [trimW]
 | cons x l ih => simp only [List.cons_append, trimW, ih]
theorem trimW_snoc {l : List Nat} {x : Nat} (h : x ≠ 0) : trimW (l ++ [x]) = l ++ [x] := by
 induction l with
 | nil => simp [trimW, h]
 | cons y l ih =>
  simp only [List.cons_append, trimW, ih]
  cases l <;> simp
theorem trimW_length (l : List Nat) : (trimW l).length ≤ l.length := by
 induction l with
 | nil => simp [trimW]
 | cons x l ih =>
  simp only [trimW]
  split
  ·split <;> simp
  ·rename_i y r h; rw [h] at ih; simpa using ih
theorem trimW_take {l : List Nat} {k : Nat} (hk : k < l.length) (h0 : l[k] = 0) : trimW (l.take (k + 1)) = trimW (l.take k) := by
 rw [List.take_succ_eq_append_getElem hk, h0, trimW_snoc_zero]
theorem trimW_take_ne {l : List Nat} {k : Nat} (hk : k < l.length) (h0 : l[k] ≠ 0) : trimW (l.take (k + 1)) = l.take (k + 1) := by
 rw [List.take_succ_eq_append_getElem hk, trimW_snoc h0]
def Words (w : World) (v : Value) (l : List Nat) : Prop :=
 ∃ (A : Option Addr) (c : Nat), v = .slice A l.length c ∧ l.length ≤ c ∧ c ≤ 9223372036854775807 ∧ Small l ∧
  (0 < l.length → ∃ (b o : Nat) (cs : Array Value) (fz : Nat × Nat), A = some ⟨b, o, none⟩ ∧ w.heap[b]? = some (.cells cs 137 fz) ∧ ∀ i, (hi : i < l.length) → cs[o + i]? = some (.int .u32 (l[i] : Nat)))
theorem lt_of_heap {w : World} {b : Nat} {o : Obj} (h : w.heap[b]? = some o) : b < w.heap.size := (Array.getElem?_eq_some_iff.1 h).1
theorem Words.ext {w w' : World} {v : Value} {l : List Nat} (h : Words w v l) (he : Ext w w') : Words w' v l := by
 obtain ⟨A, c, hv, hc, hm, hs, hx⟩ := h
 refine ⟨A, c, hv, hc, hm, hs, fun hl => ?_⟩
 obtain ⟨b, o, cs, fz, hA, hb, hi⟩ := hx hl
 exact ⟨b, o, cs, fz, hA, (he.block (lt_of_heap hb)).trans hb, hi⟩
theorem Words.small {w : World} {v : Value} {l : List Nat} (h : Words w v l) : Small l := by
 obtain ⟨_, _, _, _, _, hs, _⟩ := h
 exact hs
theorem Words.nil (w : World) (A : Option Addr) (c : Nat) (hc : c ≤ 9223372036854775807) : Words w (.slice A 0 c) [] := ⟨A, c, rfl, Nat.zero_le _, hc, (fun x hx => by cases hx), (fun h => by cases h)⟩
theorem cell_of_block {w : World} {b o : Nat} {cs : Array Value} {t : TypeId} {fz : Nat × Nat} (h : w.heap[b]? = some (.cells cs t fz)) : w.cell? ⟨b, o, none⟩ = cs[o]? := by simp [World.cell?, h]
theorem Words.open_ {w : World} {v : Value} {l : List Nat} (h : Words w v l) : ∃ (A : Option Addr) (c : Nat), v = .slice A l.length c ∧ l.length ≤ c ∧ c ≤ 9223372036854775807 ∧
  (0 < l.length → ∃ (b o : Nat), A = some ⟨b, o, none⟩ ∧ b < w.heap.size ∧ ∀ i, i < l.length → w.cell? ⟨b, o + i, none⟩ = some (.int .u32 (l.getD i 0 : Nat))) := by
 obtain ⟨A, c, hv, hc, hm, hs, hx⟩ := h
 refine ⟨A, c, hv, hc, hm, fun hl => ?_⟩
 obtain ⟨b, o, cs, fz, hA, hb, hi⟩ := hx hl
 exact ⟨b, o, hA, lt_of_heap hb, fun i hil => by rw [cell_of_block hb, hi i hil]; simp [hil]⟩
theorem Words.take {w : World} {A : Option Addr} {c : Nat} {l : List Nat} (h : Words w (.slice A l.length c) l) {k : Nat} (hk : k ≤ l.length) : Words w (.slice A k c) (l.take k) := by
 obtain ⟨A', c', hv, hc, hm, hs, hx⟩ := h
 injection hv with h1 _ h3
 subst h1; subst h3
 have hl : (l.take k).length = k := by simp [hk]
 refine ⟨A, c, by rw [hl], by omega, hm, fun x hx => hs x (List.mem_of_mem_take hx), fun hp => ?_⟩
 obtain ⟨b, o, cs, fz, hA, hb, hi⟩ := hx (by omega)
 exact ⟨b, o, cs, fz, hA, hb, fun i hi' => by rw [hi i (by omega)]; simp⟩
def wv (l : List Nat) : Array Value := (l.map fun x => Value.int .u32 (x : Nat)).toArray
theorem wv_size (l : List Nat) : (wv l).size = l.length := by simp [wv]
theorem wv_get {l : List Nat} {i : Nat} (h : i < l.length) : (wv l)[i]? = some (.int .u32 (l[i] : Nat)) := by simp [wv, h]
theorem wv_getD {l : List Nat} {i : Nat} (h : i < l.length) : (wv l)[i]? = some (.int .u32 (l.getD i 0 : Nat)) := by simp [wv, h]
theorem wv_set (l : List Nat) (i x : Nat) : (wv l).setIfInBounds i (.int .u32 (x : Nat)) = wv (l.set i x) := by simp [wv, List.map_set]
def Blk (w : World) (g : Nat) (t : TypeId) (cs : Array Value) : Prop := w.heap[g]? = some (.cells cs t (0, 0))
theorem Blk.lt {w : World} {g : Nat} {t : TypeId} {cs : Array Value} (h : Blk w g t cs) : g < w.heap.size := lt_of_heap h
theorem Blk.cell {w : World} {g : Nat} {t : TypeId} {cs : Array Value} (h : Blk w g t cs) (i : Nat) : w.cell? ⟨g, i, none⟩ = cs[i]? := cell_of_block h
theorem Blk.frozen {w : World} {g : Nat} {t : TypeId} {cs : Array Value} (h : Blk w g t cs) (i : Nat) : w.frozen? ⟨g, i, none⟩ = false := by
 unfold Blk at h
 simp [World.frozen?, h]
theorem Blk.new (w : World) (t : TypeId) (cs : Array Value) : Blk (w.alloc (.cells cs t)) w.heap.size t cs := heap_alloc_new w _
theorem Blk.new' {w : World} {b : Nat} (t : TypeId) (cs : Array Value) (h : b = w.heap.size) : Blk (w.alloc (.cells cs t)) b t cs := h ▸ Blk.new w t cs
theorem Blk.drew {w : World} {g : Nat} {t : TypeId} {cs : Array Value} (h : Blk w g t cs) : Blk w.drew g t cs := h
theorem Blk.alloc {w : World} {g : Nat} {t : TypeId} {cs : Array Value} (h : Blk w g t cs) (o : Obj) : Blk (w.alloc o) g t cs := (Below.heap_alloc w o g h.lt).trans h
theorem Blk.set {w : World} {g : Nat} {t : TypeId} {cs : Array Value} (h : Blk w g t cs) (i : Nat) (u : Value) : Blk (w.setCell ⟨g, i, none⟩ u) g t (cs.setIfInBounds i u) := by
 unfold Blk at h ⊢
 simp [World.setCell, Array.getElem?_modify, h]
theorem Blk.far {w : World} {g : Nat} {t : TypeId} {cs : Array Value} (h : Blk w g t cs) {p : Addr} (hp : g ≠ p.block) (u : Value) : Blk (w.setCell p u) g t cs := (Below.heap_setCell w p u g hp).trans h
theorem Blk.ext {w w' : World} {g : Nat} {t : TypeId} {cs : Array Value} (h : Blk w g t cs) (he : Ext w w') : Blk w' g t cs := (he.block h.lt).trans h
theorem Words.of_blk {w : World} {g : Nat} {l : List Nat} {c : Nat} (h : Blk w g 137 (wv l)) (hs : Small l) (hc : l.length ≤ c) (hm : c ≤ 9223372036854775807) : Words w (.slice (some ⟨g, 0, none⟩) l.length c) l :=
 ⟨_, c, rfl, hc, hm, hs, fun _ => ⟨g, 0, _, _, rfl, h, fun i hi => by rw [Nat.zero_add]; exact wv_get hi⟩⟩
def Ty (w : World) (b : Nat) (t : TypeId) : Prop := ∃ cs fz, w.heap[b]? = some (.cells cs t fz)
theorem Ty.ext {w w' : World} {b : Nat} {t : TypeId} (h : Ty w b t) (he : Ext w w') : Ty w' b t := by
 obtain ⟨cs, fz, h⟩ := h
 exact ⟨cs, fz, (he.block (lt_of_heap h)).trans h⟩
theorem Ty.set {w : World} {b : Nat} {t : TypeId} (h : Ty w b t) (p : Addr) (u : Value) : Ty (w.setCell p u) b t := by
 obtain ⟨cs, fz, h⟩ := h
 by_cases hb : b = p.block
 ·subst hb
  exact ⟨_, fz, by simp [World.setCell, Array.getElem?_modify, h]; rfl⟩
 ·exact ⟨cs, fz, (Below.heap_setCell w p u b hb).trans h⟩
theorem Ty.new (w : World) (cs : Array Value) (t : TypeId) : Ty (w.alloc (.cells cs t)) w.heap.size t := ⟨cs, _, heap_alloc_new w _⟩
theorem Ty.new' {w : World} {b : Nat} (cs : Array Value) (t : TypeId) (h : b = w.heap.size) : Ty (w.alloc (.cells cs t)) b t := h ▸ Ty.new w cs t
theorem Ty.drew {w : World} {b : Nat} {t : TypeId} (h : Ty w b t) : Ty w.drew b t := h
theorem Ty.alloc {w : World} {b : Nat} {t : TypeId} (h : Ty w b t) (o : Obj) : Ty (w.alloc o) b t := h.ext ((Ext.refl _).alloc o)
theorem Blk.ty {w : World} {g : Nat} {t : TypeId} {cs : Array Value} (h : Blk w g t cs) : Ty w g t := ⟨cs, _, h⟩
theorem Ext.set {w w1 : World} (h : Ext w w1) {p : Addr} (hp : w.heap.size ≤ p.block) (u : Value) : Ext w (w1.setCell p u) := Below.setCell h hp u
theorem Words.set {w : World} {v : Value} {l : List Nat} (h : Words w v l) {p : Addr} {t : TypeId} (ht : Ty w p.block t) (hne : t ≠ 137) (u : Value) : Words (w.setCell p u) v l := by
 obtain ⟨A, c, hv, hc, hm, hs, hx⟩ := h
 refine ⟨A, c, hv, hc, hm, hs, fun hl => ?_⟩
 obtain ⟨b, o, cs, fz, hA, hb, hi⟩ := hx hl
 have hbp : b ≠ p.block := by
  rintro rfl
  obtain ⟨cs', fz', h'⟩ := ht
  rw [hb] at h'
  injection h' with h'
  injection h' with _ h''
  exact hne h''.symm
 exact ⟨b, o, cs, fz, hA, (Below.heap_setCell w p u b hbp).trans hb, hi⟩
theorem take_val_succ {l : List Nat} {k : Nat} (h : k < l.length) : val (l.take (k + 1)) = val (l.take k) + BB ^ k * l.getD k 0 := by
 rw [List.take_succ_eq_append_getElem h, val_append]
 simp [val, h, Nat.min_eq_left (Nat.le_of_lt h)]
theorem take_val_ge {l : List Nat} {k : Nat} (h : l.length ≤ k) : val (l.take (k + 1)) = val (l.take k) + BB ^ k * l.getD k 0 := by
 rw [List.take_of_length_le h, List.take_of_length_le (by omega)]
 simp [h]
theorem take_val_any (l : List Nat) (k : Nat) : val (l.take (k + 1)) = val (l.take k) + BB ^ k * l.getD k 0 := by
 rcases Nat.lt_or_ge k l.length with h | h
 ·exact take_val_succ h
 ·exact take_val_ge h
theorem take_set_lt {l : List Nat} {k x : Nat} : (l.set k x).take k = l.take k := by
 rw [List.take_set, List.set_eq_of_length_le (by rw [List.length_take]; omega)]
theorem getD_set_self {l : List Nat} {k x : Nat} (h : k < l.length) : (l.set k x).getD k 0 = x := by simp [h]
theorem small_getD {l : List Nat} (h : Small l) (k : Nat) : l.getD k 0 < BB := by
 rcases Nat.lt_or_ge k l.length with hk | hk
 ·simp only [List.getD_eq_getElem?_getD, List.getElem?_eq_getElem hk, Option.getD_some]
  exact h _ (List.getElem_mem hk)
 ·simp [hk, BB_pos]
theorem small_set {l : List Nat} (h : Small l) (k : Nat) {x : Nat} (hx : x < BB) : Small (l.set k x) := fun y hy => by
 rcases List.mem_or_eq_of_mem_set hy with h1 | h1
 ·exact h y h1
 ·rw [h1]; exact hx
theorem small_replicate (n : Nat) : Small (List.replicate n 0) := fun x hx => by
 rw [List.eq_of_mem_replicate hx]; exact BB_pos
theorem sum_round {a b r : List Nat} {k c x y : Nat} (hk : k < r.length) (hx : a.getD k 0 = x) (hy : b.getD k 0 = y) (hxB : x < BB) (hyB : y < BB) (hc : c ≤ 1)
  (h : val (r.take k) + BB ^ k * c = val (a.take k) + val (b.take k)) :
  val ((r.set k ((x + c + y) % BB)).take (k + 1)) + BB ^ (k + 1) * ((x + c + y) / BB) = val (a.take (k + 1)) + val (b.take (k + 1)) ∧ (x + c + y) / BB ≤ 1 := by
 constructor
 ·rw [take_val_any, take_set_lt, getD_set_self hk, take_val_any a, take_val_any b, hx, hy]
  have e := Nat.mod_add_div (x + c + y) BB
  have e2 : BB ^ k * ((x + c + y) % BB) + BB ^ (k + 1) * ((x + c + y) / BB) = BB ^ k * (x + c + y) := by
   rw [Nat.pow_succ, Nat.mul_assoc, ← Nat.mul_add, e]
  have e3 : BB ^ k * (x + c + y) = BB ^ k * x + BB ^ k * c + BB ^ k * y := by rw [Nat.mul_add, Nat.mul_add]
  omega
 ·have : x + c + y < 2 * BB := by omega
  have := Nat.div_lt_of_lt_mul (show x + c + y < BB * 2 by omega)
  omega
end Go.Proofs.YteicdddphdomkaaGreat
namespace Go.Proofs.YteicdddphdomkaaGreat
open Go.RowKit
set_option maxRecDepth 100000 in
set_option maxHeartbeats 400000 in
theorem trim_any (v : Value) (l : List Nat) (w : World) (h : Words w v l) :
  Calls Tryz.prog 152 #[v] w fun e w' => ∃ v', e = .returned v' ∧ Words w' v' (trimW l) ∧ Ext w w' := by
 obtain ⟨A, c, rfl, hc, hm, hx⟩ := h.open_
 have H := hide h
 have hs := hide h.small
 clear h
 have hA := hide hx
 clear hx
 obtain ⟨n, hn⟩ : ∃ n, n = l.length := ⟨_, rfl⟩
 rw [← hn] at hc ⊢
 have hn' := hide hn
 clear hn
 go_enter Tryz.func152, Tryz.ntmps152
 go_wp2
 go_loop [3] (fun t => ∃ k : Nat, k ≤ n ∧ t = .int .i64 k ∧ Hid (trimW l = trimW (l.take k))) (fun t => (intOf t).toNat)
 case atStart => exact ⟨n, Nat.le_refl _, rfl, by rw [hn'.out, List.take_length]; rfl⟩
 case round =>
  obtain ⟨k, hk, rfl, hR⟩ := hrel
  by_cases hk0 : k = 0
  ·subst hk0
   go_wp2
   go_ret
   refine ⟨_, rfl, ?_, Ext.refl _⟩
   have h2 := H.out.take (k := 0) (Nat.zero_le _)
   rw [hR.out]
   exact h2
  ·have hlt : 0 < k := by omega
   obtain ⟨b, o, rfl, hb, hcell⟩ := hA.out (by rw [← hn'.out]; omega)
   have hcell := hcell (k - 1) (by rw [← hn'.out]; omega)
   have hki : ((k : Int) - 1).toNat = k - 1 := by omega
   by_cases hz : l.getD (k - 1) 0 = 0
   ·rw [hz] at hcell
    have hz := hide hz
    go_wp2
    go_round
    case rel => exact ⟨k - 1, by omega, by go_num, by
     have h2 : k - 1 < l.length := by rw [← hn'.out]; omega
     have h3 : l[k - 1] = 0 := by have := hz.out; simpa [h2] using this
     have h4 := trimW_take h2 h3
     rw [show k - 1 + 1 = k by omega] at h4
     exact hR.out.trans h4⟩
    case measure => simp [intOf]; omega
   ·have hz' : ((l.getD (k - 1) 0 : Nat) : Int) ≠ 0 := by omega
    generalize hx : l.getD (k - 1) 0 = x at *
    have hx := hide hx
    have hzb : ((x : Int) == 0) = false := by simpa using hz
    go_wp2
    go_ret
    refine ⟨_, rfl, ?_, Ext.refl _⟩
    have h2 := H.out.take (k := k) (by rw [← hn'.out]; omega)
    have h2' : k - 1 < l.length := by rw [← hn'.out]; omega
    have h3 : l[k - 1] ≠ 0 := by have := hx.out; simp [h2'] at this; omega
    have h4 := trimW_take_ne h2' h3
    rw [show k - 1 + 1 = k by omega] at h4
    rw [hR.out, h4]
    exact h2
theorem run_make_words (n : Nat) (hn : n ≤ 70368744177664) (kl kc : IntKind) (W : World) :
  (Instr.makeSlice 25 (.int kl (n : Int)) (.int kc (n : Int))).run Tryz.prog W = .ok (.slice (some ⟨W.heap.size, 0, none⟩) n n) (W.alloc (.cells (wv (List.replicate n 0)) 137)) := by
 obtain ⟨i, hi, hz0, hz1, hz2⟩ := info_parts (show (Tryz.prog.info? 137).map (fun i => (i.zero, i.size, i.bytes)) = some (some (.int .u32 0), 1, 4) by kernel_rfl)
 have hb : (i.bytes : Int) * (n : Int) ≤ 281474976710656 := by rw [hz2]; omega
 have hr := run_make (P := Tryz.prog) W 25 137 i (.int .u32 0) Tryz.underlying25 hi hz0 kl kc n n (by omega) (by omega) hb (by omega)
 simp only [Int.toNat_natCast] at hr
 rw [hr]
 have : madeCells (Value.int .u32 0).cells (n * i.size) = wv (List.replicate n 0) := by
  apply Array.ext'
  rw [hz1, Nat.mul_one]
  show (madeCells #[Value.int .u32 0] n).toList = _
  rw [toList_madeCells_one]
  simp [wv]
 rw [this]
def SumRel (w wr : World) (la lb r : List Nat) (n k cc : Nat) : Prop :=
 r.length = n + 1 ∧ Small r ∧ Blk wr w.heap.size 137 (wv r) ∧ val (r.take k) + BB ^ k * cc = val (la.take k) + val (lb.take k) ∧ Ext w wr
theorem SumRel.step {w wr : World} {la lb r : List Nat} {n k cc x y : Nat} (h : SumRel w wr la lb r n k cc) (hk : k < n) (hx : la.getD k 0 = x) (hy : lb.getD k 0 = y) (hxB : x < 4294967296) (hyB : y < 4294967296) (hc : cc ≤ 1) {u z : Int} (hu : u = ((x + cc + y) % BB : Nat)) (hz : z = ((x + cc + y) / BB : Nat)) :
  ∃ (k1 c1 : Nat) (r1 : List Nat), k1 ≤ n ∧ Value.int .i64 ((k : Int) + 1) = .int .i64 k1 ∧ Value.int .u64 z = .int .u64 c1 ∧ c1 ≤ 1 ∧ Hid (SumRel w (wr.setCell ⟨w.heap.size, k, none⟩ (.int .u32 u)) la lb r1 n k1 c1) := by
 obtain ⟨h1, h2, h3, h4, h5⟩ := h
 obtain ⟨e1, e2⟩ := sum_round (by omega) hx hy (by rw [BB_eq]; exact hxB) (by rw [BB_eq]; exact hyB) hc h4
 refine ⟨k + 1, (x + cc + y) / BB, r.set k ((x + cc + y) % BB), hk, by simp, by rw [hz], e2, by simpa using h1, small_set h2 k (Nat.mod_lt _ BB_pos), ?_, e1, ?_⟩
 ·rw [hu, ← wv_set]
  exact h3.set k _
 ·exact Below.setCell h5 (Nat.le_refl _) _
theorem SumRel.close {w wr : World} {la lb r : List Nat} {n cc : Nat} (h : SumRel w wr la lb r n n cc) (hn : la.length = n) (hm : lb.length ≤ n) (hc : cc ≤ 1) :
  SumRel w (wr.setCell ⟨w.heap.size, n, none⟩ (.int .u32 (cc : Int))) la lb (r.set n cc) n (n + 1) 0 ∧ val (r.set n cc) = val la + val lb := by
 obtain ⟨h1, h2, h3, h4, h5⟩ := h
 have ea : la.take n = la := List.take_of_length_le (by omega)
 have eb : lb.take n = lb := List.take_of_length_le hm
 have ea' : la.take (n + 1) = la := List.take_of_length_le (by omega)
 have eb' : lb.take (n + 1) = lb := List.take_of_length_le (by omega)
 rw [ea, eb] at h4
 have er : (r.set n cc).take (n + 1) = r.set n cc := List.take_of_length_le (by simp; omega)
 have hv : val ((r.set n cc).take (n + 1)) = val la + val lb := by
  rw [take_val_any, take_set_lt, getD_set_self (by omega), h4]
 refine ⟨⟨by simpa using h1, small_set h2 n (Nat.lt_of_le_of_lt hc one_lt_BB), ?_, by rw [hv, Nat.mul_zero, Nat.add_zero, ea', eb'], Below.setCell h5 (Nat.le_refl _) _⟩, ?_⟩
 ·rw [← wv_set]; exact h3.set n _
 ·rw [er] at hv
  exact hv
set_option maxRecDepth 100000 in
set_option maxHeartbeats 400000 in
theorem sum_ge (va vb : Value) (la lb : List Nat) (w : World) (ha : Words w va la) (hb : Words w vb lb) (hl : lb.length ≤ la.length) (hn : la.length ≤ 4398046511104) :
  Calls Tryz.prog 162 #[va, vb] w fun e w' => ∃ v', e = .returned v' ∧ Words w' v' (digs (val la + val lb)) ∧ Ext w w' := by
 obtain ⟨A, c, rfl, hc, hm, hx⟩ := ha.open_
 obtain ⟨B, d, rfl, hd, hm', hy⟩ := hb.open_
 have Ha := hide ha
 have Hb := hide hb
 have hsa := hide ha.small
 have hsb := hide hb.small
 clear ha hb
 have hA := hide hx
 have hB := hide hy
 clear hx hy
 obtain ⟨n, hn1⟩ : ∃ n, n = la.length := ⟨_, rfl⟩
 obtain ⟨m, hm1⟩ : ∃ m, m = lb.length := ⟨_, rfl⟩
 rw [← hn1] at hc hl hn ⊢
 rw [← hm1] at hd hl ⊢
 replace hn1 := hide hn1
 replace hm1 := hide hm1
 have hmk := fun W => run_make_words (n + 1) (by omega) .i64 .i64 W
 simp only [Int.natCast_add, Int.natCast_one] at hmk
 go_enter Tryz.func162, Tryz.ntmps162
 go_wp2
 go_loopw [6, 22] (fun cy i wr => ∃ (k cc : Nat) (r : List Nat), k ≤ n ∧ i = .int .i64 k ∧ cy = .int .u64 cc ∧ cc ≤ 1 ∧ Hid (SumRel w wr la lb r n k cc)) (fun _ i _ => n - (intOf i).toNat)
 case atStart => exact ⟨0, 0, List.replicate (n + 1) 0, Nat.zero_le _, rfl, rfl, by omega, ⟨by simp, small_replicate _, Blk.new _ _ _, by simp [val], (Ext.refl _).alloc _⟩⟩
 case round =>
  obtain ⟨k, cc, r, hk, rfl, rfl, hcc, hR⟩ := hrel
  by_cases hlt : k < n
  ·obtain ⟨b, o, rfl, hb, hcell⟩ := hA.out (by rw [← hn1.out]; omega)
   replace hcell := (hR.out.2.2.2.2.cell (p := ⟨b, o + k, none⟩) hb).trans (hcell k (by rw [← hn1.out]; omega))
   have hxB := small_getD hsa.out k
   have hyB := small_getD hsb.out k
   have hst : wr.cell? ⟨w.heap.size, k, none⟩ = some (.int .u32 (r.getD k 0 : Nat)) := by rw [hR.out.2.2.1.cell, wv_getD (by rw [hR.out.1]; omega)]
   have hfz := hR.out.2.2.1.frozen k
   have hyz : Hid (¬ k < m → lb.getD k 0 = 0) := fun h => by
    have h2 : lb.length ≤ k := by rw [← hm1.out]; omega
    simp [h2]
   generalize hx : la.getD k 0 = x at *
   generalize hy : lb.getD k 0 = y at *
   replace hx := hide hx
   replace hy := hide hy
   unfold BB at hxB hyB
   by_cases hlm : k < m
   ·obtain ⟨b', o', rfl, hb', hcell'⟩ := hB.out (by rw [← hm1.out]; omega)
    replace hcell' := (hR.out.2.2.2.2.cell (p := ⟨b', o' + k, none⟩) hb').trans (hcell' k (by rw [← hm1.out]; omega))
    rw [hy.out] at hcell'
    go_wp2
    exact ⟨hR.out.step hlt hx.out hy.out hxB hyB hcc (by rw [BB_eq]; omega) (by rw [BB_eq]; omega), by simp [intOf]; omega⟩
   ·obtain rfl := hyz.out hlm
    go_wp2
    exact ⟨hR.out.step hlt hx.out hy.out hxB hyB hcc (by rw [BB_eq]; omega) (by rw [BB_eq]; omega), by simp [intOf]; omega⟩
  ·obtain rfl : k = n := by omega
   have hst : wr.cell? ⟨w.heap.size, k, none⟩ = some (.int .u32 (r.getD k 0 : Nat)) := by rw [hR.out.2.2.1.cell, wv_getD (by rw [hR.out.1]; omega)]
   have hfz := hR.out.2.2.1.frozen k
   have hcl := hide (hR.out.close hn1.out.symm (by rw [← hm1.out]; exact hl) hcc)
   have hW : Hid (Words (wr.setCell ⟨w.heap.size, k, none⟩ (.int .u32 (cc : Int))) (.slice (some ⟨w.heap.size, 0, none⟩) (k + 1) (k + 1)) (r.set k cc)) := by
    have := Words.of_blk (c := k + 1) hcl.out.1.2.2.1 hcl.out.1.2.1 (by rw [hcl.out.1.1]; omega) (by omega)
    rw [hcl.out.1.1] at this
    exact this
   go_wp2_with (go_at_call 152; refine (trim_any _ _ _ hW.out).mono ?_; rintro e w' ⟨v', rfl, hv', hE⟩)
   go_ret
   refine ⟨v', rfl, ?_, hcl.out.1.2.2.2.2.trans hE⟩
   rw [trimW_eq_digs hcl.out.1.2.1, hcl.out.2] at hv'
   exact hv'
set_option maxRecDepth 100000 in
set_option maxHeartbeats 400000 in
theorem sum_lt (va vb : Value) (la lb : List Nat) (w : World) (ha : Words w va la) (hb : Words w vb lb) (hl : lb.length < la.length) (hn : la.length ≤ 4398046511104) :
  Calls Tryz.prog 162 #[vb, va] w fun e w' => ∃ v', e = .returned v' ∧ Words w' v' (digs (val la + val lb)) ∧ Ext w w' := by
 obtain ⟨A, c, rfl, hc, hm, hx⟩ := ha.open_
 obtain ⟨B, d, rfl, hd, hm', hy⟩ := hb.open_
 have Ha := hide ha
 have Hb := hide hb
 have hsa := hide ha.small
 have hsb := hide hb.small
 clear ha hb
 have hA := hide hx
 have hB := hide hy
 clear hx hy
 obtain ⟨n, hn1⟩ : ∃ n, n = la.length := ⟨_, rfl⟩
 obtain ⟨m, hm1⟩ : ∃ m, m = lb.length := ⟨_, rfl⟩
 rw [← hn1] at hc hl hn ⊢
 rw [← hm1] at hd hl ⊢
 replace hn1 := hide hn1
 replace hm1 := hide hm1
 have hmk := fun W => run_make_words (n + 1) (by omega) .i64 .i64 W
 simp only [Int.natCast_add, Int.natCast_one] at hmk
 go_enter Tryz.func162, Tryz.ntmps162
 go_wp2
 go_loopw [6, 22] (fun cy i wr => ∃ (k cc : Nat) (r : List Nat), k ≤ n ∧ i = .int .i64 k ∧ cy = .int .u64 cc ∧ cc ≤ 1 ∧ Hid (SumRel w wr la lb r n k cc)) (fun _ i _ => n - (intOf i).toNat)
 case atStart => exact ⟨0, 0, List.replicate (n + 1) 0, Nat.zero_le _, rfl, rfl, by omega, ⟨by simp, small_replicate _, Blk.new _ _ _, by simp [val], (Ext.refl _).alloc _⟩⟩
 case round =>
  obtain ⟨k, cc, r, hk, rfl, rfl, hcc, hR⟩ := hrel
  by_cases hlt : k < n
  ·obtain ⟨b, o, rfl, hb, hcell⟩ := hA.out (by rw [← hn1.out]; omega)
   replace hcell := (hR.out.2.2.2.2.cell (p := ⟨b, o + k, none⟩) hb).trans (hcell k (by rw [← hn1.out]; omega))
   have hxB := small_getD hsa.out k
   have hyB := small_getD hsb.out k
   have hst : wr.cell? ⟨w.heap.size, k, none⟩ = some (.int .u32 (r.getD k 0 : Nat)) := by rw [hR.out.2.2.1.cell, wv_getD (by rw [hR.out.1]; omega)]
   have hfz := hR.out.2.2.1.frozen k
   have hyz : Hid (¬ k < m → lb.getD k 0 = 0) := fun h => by
    have h2 : lb.length ≤ k := by rw [← hm1.out]; omega
    simp [h2]
   generalize hx : la.getD k 0 = x at *
   generalize hy : lb.getD k 0 = y at *
   replace hx := hide hx
   replace hy := hide hy
   unfold BB at hxB hyB
   by_cases hlm : k < m
   ·obtain ⟨b', o', rfl, hb', hcell'⟩ := hB.out (by rw [← hm1.out]; omega)
    replace hcell' := (hR.out.2.2.2.2.cell (p := ⟨b', o' + k, none⟩) hb').trans (hcell' k (by rw [← hm1.out]; omega))
    rw [hy.out] at hcell'
    go_wp2
    exact ⟨hR.out.step hlt hx.out hy.out hxB hyB hcc (by rw [BB_eq]; omega) (by rw [BB_eq]; omega), by simp [intOf]; omega⟩
   ·obtain rfl := hyz.out hlm
    go_wp2
    exact ⟨hR.out.step hlt hx.out hy.out hxB hyB hcc (by rw [BB_eq]; omega) (by rw [BB_eq]; omega), by simp [intOf]; omega⟩
  ·obtain rfl : k = n := by omega
   have hst : wr.cell? ⟨w.heap.size, k, none⟩ = some (.int .u32 (r.getD k 0 : Nat)) := by rw [hR.out.2.2.1.cell, wv_getD (by rw [hR.out.1]; omega)]
   have hfz := hR.out.2.2.1.frozen k
   have hcl := hide (hR.out.close hn1.out.symm (by rw [← hm1.out]; omega) hcc)
   have hW : Hid (Words (wr.setCell ⟨w.heap.size, k, none⟩ (.int .u32 (cc : Int))) (.slice (some ⟨w.heap.size, 0, none⟩) (k + 1) (k + 1)) (r.set k cc)) := by
    have := Words.of_blk (c := k + 1) hcl.out.1.2.2.1 hcl.out.1.2.1 (by rw [hcl.out.1.1]; omega) (by omega)
    rw [hcl.out.1.1] at this
    exact this
   go_wp2_with (go_at_call 152; refine (trim_any _ _ _ hW.out).mono ?_; rintro e w' ⟨v', rfl, hv', hE⟩)
   go_ret
   refine ⟨v', rfl, ?_, hcl.out.1.2.2.2.2.trans hE⟩
   rw [trimW_eq_digs hcl.out.1.2.1, hcl.out.2] at hv'
   exact hv'
theorem sum_any (va vb : Value) (la lb : List Nat) (w : World) (ha : Words w va la) (hb : Words w vb lb) (hn : la.length ≤ 4398046511104) (hm : lb.length ≤ 4398046511104) :
  Calls Tryz.prog 162 #[va, vb] w fun e w' => ∃ v', e = .returned v' ∧ Words w' v' (digs (val la + val lb)) ∧ Ext w w' := by
 rcases Nat.lt_or_ge la.length lb.length with h | h
 ·rw [Nat.add_comm]
  exact sum_lt vb va lb la w hb ha h hm
 ·exact sum_ge va vb la lb w ha hb h hn
end Go.Proofs.YteicdddphdomkaaGreat
namespace Go.Proofs.YteicdddphdomkaaGreat
open Go.RowKit
def DifRel (w wr : World) (la lb r : List Nat) (n k cc : Nat) : Prop :=
 r.length = n ∧ Small r ∧ Blk wr w.heap.size 137 (wv r) ∧ val (r.take k) + val (lb.take k) = val (la.take k) + BB ^ k * cc ∧ Ext w wr
theorem dif_num (x y cc : Nat) (hx : x < 4294967296) (hy : y < 4294967296) (hc : cc ≤ 1) :
  IntKind.u64.wrap (IntKind.u64.wrap ((x : Int) - cc) - y) % 4294967296 = ((x + BB * (if x < cc + y then 1 else 0) - cc - y : Nat) : Int) ∧
  IntKind.u64.wrap (IntKind.u64.wrap ((x : Int) - cc) - y) / 9223372036854775808 = ((if x < cc + y then 1 else 0 : Nat) : Int) := by
 simp only [IntKind.wrap_u64, BB_eq]
 split
 ·constructor <;> omega
 ·constructor <;> omega
theorem DifRel.step {w wr : World} {la lb r : List Nat} {n k cc x y : Nat} (h : DifRel w wr la lb r n k cc) (hk : k < n) (hx : la.getD k 0 = x) (hy : lb.getD k 0 = y) (hxB : x < 4294967296) (hyB : y < 4294967296) (hc : cc ≤ 1) {u z : Int}
  (hu : u = (x + BB * (if x < cc + y then 1 else 0) - cc - y : Nat)) (hz : z = (if x < cc + y then 1 else 0 : Nat)) :
  ∃ (k1 c1 : Nat) (r1 : List Nat), k1 ≤ n ∧ Value.int .i64 ((k : Int) + 1) = .int .i64 k1 ∧ Value.int .u64 z = .int .u64 c1 ∧ c1 ≤ 1 ∧ Hid (DifRel w (wr.setCell ⟨w.heap.size, k, none⟩ (.int .u32 u)) la lb r1 n k1 c1) := by
 obtain ⟨h1, h2, h3, h4, h5⟩ := h
 have hc' : (if x < cc + y then 1 else 0 : Nat) ≤ 1 := by split <;> omega
 have hub : x + BB * (if x < cc + y then 1 else 0) - cc - y < BB := by rw [BB_eq]; split <;> omega
 have hue : x + BB * (if x < cc + y then 1 else 0) - cc - y + y + cc = x + BB * (if x < cc + y then 1 else 0) := by rw [BB_eq]; split <;> omega
 generalize (if x < cc + y then 1 else 0 : Nat) = c1 at *
 generalize x + BB * c1 - cc - y = q at *
 refine ⟨k + 1, c1, r.set k q, hk, by simp, by rw [hz], hc', by simpa using h1, small_set h2 k hub, ?_, ?_, Below.setCell h5 (Nat.le_refl _) _⟩
 ·rw [hu, ← wv_set]
  exact h3.set k _
 ·rw [take_val_any, take_set_lt, getD_set_self (by omega), take_val_any la, take_val_any lb, hx, hy]
  have e1 : BB ^ k * q + BB ^ k * y + BB ^ k * cc = BB ^ k * x + BB ^ (k + 1) * c1 := by
   rw [Nat.pow_succ, Nat.mul_assoc, ← Nat.mul_add, ← Nat.mul_add, ← Nat.mul_add, hue]
  omega
theorem DifRel.close {w wr : World} {la lb r : List Nat} {n cc : Nat} (h : DifRel w wr la lb r n n cc) (hn : la.length = n) (hm : lb.length ≤ n) (hv : val lb ≤ val la) : val r = val la - val lb := by
 obtain ⟨h1, h2, h3, h4, h5⟩ := h
 have ea : la.take n = la := List.take_of_length_le (by omega)
 have eb : lb.take n = lb := List.take_of_length_le hm
 have er : r.take n = r := List.take_of_length_le (by omega)
 rw [ea, eb, er] at h4
 have hlt := val_lt h2
 rw [h1] at hlt
 rcases Nat.eq_zero_or_pos cc with h0 | h0
 ·subst h0; omega
 ·have : BB ^ n * 1 ≤ BB ^ n * cc := Nat.mul_le_mul_left _ h0
  omega
set_option maxRecDepth 100000 in
set_option maxHeartbeats 400000 in
theorem difference_any (va vb : Value) (la lb : List Nat) (w : World) (ha : Words w va la) (hb : Words w vb lb) (hv : val lb ≤ val la) (hl : lb.length ≤ la.length) (hn : la.length ≤ 4398046511104) :
  Calls Tryz.prog 164 #[va, vb] w fun e w' => ∃ v', e = .returned v' ∧ Words w' v' (digs (val la - val lb)) ∧ Ext w w' := by
 obtain ⟨A, c, rfl, hc, hm, hx⟩ := ha.open_
 obtain ⟨B, d, rfl, hd, hm', hy⟩ := hb.open_
 have Ha := hide ha
 have Hb := hide hb
 have hsa := hide ha.small
 have hsb := hide hb.small
 clear ha hb
 have hA := hide hx
 have hB := hide hy
 clear hx hy
 replace hv := hide hv
 obtain ⟨n, hn1⟩ : ∃ n, n = la.length := ⟨_, rfl⟩
 obtain ⟨m, hm1⟩ : ∃ m, m = lb.length := ⟨_, rfl⟩
 rw [← hn1] at hc hl hn ⊢
 rw [← hm1] at hd hl ⊢
 replace hn1 := hide hn1
 replace hm1 := hide hm1
 have hmk := fun W => run_make_words n (by omega) .i64 .i64 W
 go_enter Tryz.func164, Tryz.ntmps164
 go_wp2
 go_loopw [6, 14] (fun cy i wr => ∃ (k cc : Nat) (r : List Nat), k ≤ n ∧ i = .int .i64 k ∧ cy = .int .u64 cc ∧ cc ≤ 1 ∧ Hid (DifRel w wr la lb r n k cc)) (fun _ i _ => n - (intOf i).toNat)
 case atStart => exact ⟨0, 0, List.replicate n 0, Nat.zero_le _, rfl, rfl, by omega, ⟨by simp, small_replicate _, Blk.new _ _ _, by simp [val], (Ext.refl _).alloc _⟩⟩
 case round =>
  obtain ⟨k, cc, r, hk, rfl, rfl, hcc, hR⟩ := hrel
  by_cases hlt : k < n
  ·obtain ⟨b, o, rfl, hb, hcell⟩ := hA.out (by rw [← hn1.out]; omega)
   replace hcell := (hR.out.2.2.2.2.cell (p := ⟨b, o + k, none⟩) hb).trans (hcell k (by rw [← hn1.out]; omega))
   have hxB := small_getD hsa.out k
   have hyB := small_getD hsb.out k
   have hst : wr.cell? ⟨w.heap.size, k, none⟩ = some (.int .u32 (r.getD k 0 : Nat)) := by rw [hR.out.2.2.1.cell, wv_getD (by rw [hR.out.1]; omega)]
   have hfz := hR.out.2.2.1.frozen k
   have hyz : Hid (¬ k < m → lb.getD k 0 = 0) := fun h => by
    have h2 : lb.length ≤ k := by rw [← hm1.out]; omega
    simp [h2]
   generalize hx : la.getD k 0 = x at *
   generalize hy : lb.getD k 0 = y at *
   replace hx := hide hx
   replace hy := hide hy
   unfold BB at hxB hyB
   by_cases hlm : k < m
   ·obtain ⟨b', o', rfl, hb', hcell'⟩ := hB.out (by rw [← hm1.out]; omega)
    replace hcell' := (hR.out.2.2.2.2.cell (p := ⟨b', o' + k, none⟩) hb').trans (hcell' k (by rw [← hm1.out]; omega))
    rw [hy.out] at hcell'
    have hnum := hide (dif_num x y cc hxB hyB hcc)
    go_wp2
    exact ⟨hR.out.step hlt hx.out hy.out hxB hyB hcc hnum.out.1 hnum.out.2, by simp [intOf]; omega⟩
   ·obtain rfl := hyz.out hlm
    have hnum := hide (dif_num x 0 cc hxB hyB hcc)
    go_wp2
    refine ⟨hR.out.step hlt hx.out hy.out hxB hyB hcc ?_ ?_, by simp [intOf]; omega⟩
    ·rw [← hnum.out.1]; simp only [IntKind.wrap_u64]; omega
    ·rw [← hnum.out.2]; simp only [IntKind.wrap_u64]; omega
  ·obtain rfl : k = n := by omega
   have hcl := hide (hR.out.close hn1.out.symm (by rw [← hm1.out]; exact hl) hv.out)
   have hW : Hid (Words wr (.slice (some ⟨w.heap.size, 0, none⟩) k k) r) := by
    have := Words.of_blk (c := k) hR.out.2.2.1 hR.out.2.1 (by rw [hR.out.1]; omega) (by omega)
    rw [hR.out.1] at this
    exact this
   go_wp2_with (go_at_call 152; refine (trim_any _ _ _ hW.out).mono ?_; rintro e w' ⟨v', rfl, hv', hE⟩)
   go_ret
   refine ⟨v', rfl, ?_, hR.out.2.2.2.2.trans hE⟩
   rw [trimW_eq_digs hR.out.2.1, hcl.out] at hv'
   exact hv'
end Go.Proofs.YteicdddphdomkaaGreat
namespace Go.Proofs.YteicdddphdomkaaGreat
open Go.RowKit
theorem val_take_set : ∀ {r : List Nat} {p q z : Nat}, p < q → p < r.length → val ((r.set p z).take q) + BB ^ p * r.getD p 0 = val (r.take q) + BB ^ p * z
 | [], p, q, z, _, h => by simp at h
 | x :: r, 0, q + 1, z, _, _ => by simp [val]; omega
 | x :: r, p + 1, q + 1, z, hp, hl => by
  have ih := val_take_set (r := r) (p := p) (q := q) (z := z) (by omega) (by simpa using hl)
  simp only [List.set_cons_succ, List.take_succ_cons, val, List.getD_cons_succ, Nat.pow_succ]
  have e1 : BB ^ p * BB * r.getD p 0 = BB * (BB ^ p * r.getD p 0) := by rw [Nat.mul_comm (BB ^ p) BB, Nat.mul_assoc]
  have e2 : BB ^ p * BB * z = BB * (BB ^ p * z) := by rw [Nat.mul_comm (BB ^ p) BB, Nat.mul_assoc]
  rw [e1, e2, Nat.add_assoc, ← Nat.mul_add, ih, Nat.mul_add, Nat.add_assoc]
def MulRel (w wr : World) (la lb r : List Nat) (n m k : Nat) : Prop :=
 r.length = n + m ∧ Small r ∧ Blk wr w.heap.size 137 (wv r) ∧ val (r.take (k + m)) = val (la.take k) * val lb ∧ Ext w wr
def MulIn (w wr : World) (la lb r : List Nat) (n m k j x cc : Nat) : Prop :=
 r.length = n + m ∧ Small r ∧ Blk wr w.heap.size 137 (wv r) ∧ val (r.take (k + m)) + BB ^ (k + j) * cc = val (la.take k) * val lb + BB ^ k * (x * val (lb.take j)) ∧ Ext w wr
theorem MulIn.drewN {w wr : World} {la lb r : List Nat} {n m k j x cc : Nat} (h : MulIn w wr la lb r n m k j x cc) (q : Nat) : MulIn w (wr.drewN q) la lb r n m k j x cc :=
 ⟨h.1, h.2.1, h.2.2.1, h.2.2.2.1, h.2.2.2.2.drewN q⟩
theorem mul_bound {x y : Nat} (hx : x < 4294967296) (hy : y < 4294967296) : x * y ≤ 18446744065119617025 :=
 Nat.le_trans (Nat.mul_le_mul (Nat.le_of_lt_succ hx) (Nat.le_of_lt_succ hy)) (by decide)
theorem MulIn.step {w wr : World} {la lb r : List Nat} {n m k j x y z cc : Nat} (h : MulIn w wr la lb r n m k j x cc) (hj : j < m) (hk : k < n) (hy : lb.getD j 0 = y) (hz : r.getD (k + j) 0 = z) (hxB : x < 4294967296) (hyB : y < 4294967296) (hzB : z < 4294967296) (hc : cc < 4294967296) {u v : Int}
  (hu : u = ((x * y + z + cc) % BB : Nat)) (hv : v = ((x * y + z + cc) / BB : Nat)) :
  ∃ (j1 c1 : Nat) (r1 : List Nat), j1 ≤ m ∧ Value.int .i64 ((j : Int) + 1) = .int .i64 j1 ∧ Value.int .u64 v = .int .u64 c1 ∧ c1 < 4294967296 ∧ Hid (MulIn w (wr.setCell ⟨w.heap.size, k + j, none⟩ (.int .u32 u)) la lb r1 n m k j1 x c1) := by
 obtain ⟨h1, h2, h3, h4, h5⟩ := h
 have hb := mul_bound hxB hyB
 have hq : (x * y + z + cc) / BB < 4294967296 := by rw [BB_eq]; omega
 refine ⟨j + 1, (x * y + z + cc) / BB, r.set (k + j) ((x * y + z + cc) % BB), hj, by simp, by rw [hv], hq, by simpa using h1, small_set h2 _ (Nat.mod_lt _ BB_pos), ?_, ?_, Below.setCell h5 (Nat.le_refl _) _⟩
 ·rw [hu, ← wv_set]
  exact h3.set _ _
 ·have e := val_take_set (r := r) (p := k + j) (q := k + m) (z := (x * y + z + cc) % BB) (by omega) (by omega)
  rw [hz] at e
  have e2 := Nat.mod_add_div (x * y + z + cc) BB
  have e3 : BB ^ (k + j) * ((x * y + z + cc) % BB) + BB ^ (k + (j + 1)) * ((x * y + z + cc) / BB) = BB ^ (k + j) * (x * y + z + cc) := by
   rw [← Nat.add_assoc, Nat.pow_succ, Nat.mul_assoc, ← Nat.mul_add, e2]
  have e4 : BB ^ (k + j) * (x * y + z + cc) = BB ^ (k + j) * (x * y) + BB ^ (k + j) * z + BB ^ (k + j) * cc := by rw [Nat.mul_add, Nat.mul_add]
  have e5 : BB ^ k * (x * val (lb.take (j + 1))) = BB ^ k * (x * val (lb.take j)) + BB ^ (k + j) * (x * y) := by
   rw [take_val_any, hy, Nat.mul_add x, Nat.mul_add (BB ^ k), Nat.pow_add]
   congr 1
   rw [Nat.mul_assoc, Nat.mul_left_comm x, Nat.mul_left_comm (BB ^ j)]
  omega
theorem MulIn.close {w wr : World} {la lb r : List Nat} {n m k x cc : Nat} (h : MulIn w wr la lb r n m k m x cc) (hk : k < n) (hm : lb.length = m) (hx : la.getD k 0 = x) (hc : cc < 4294967296) :
  MulRel w (wr.setCell ⟨w.heap.size, k + m, none⟩ (.int .u32 (cc : Int))) la lb (r.set (k + m) cc) n m (k + 1) := by
 obtain ⟨h1, h2, h3, h4, h5⟩ := h
 have eb : lb.take m = lb := List.take_of_length_le (by omega)
 rw [eb] at h4
 refine ⟨by simpa using h1, small_set h2 _ (by rw [BB_eq]; exact hc), ?_, ?_, Below.setCell h5 (Nat.le_refl _) _⟩
 ·rw [← wv_set]; exact h3.set _ _
 ·rw [show k + 1 + m = k + m + 1 by omega, take_val_any, take_set_lt, getD_set_self (by omega), h4, take_val_any la, hx, Nat.add_mul, Nat.mul_assoc]
set_option maxRecDepth 100000 in
set_option maxHeartbeats 800000 in
theorem product_any (va vb : Value) (la lb : List Nat) (w : World) (ha : Words w va la) (hb : Words w vb lb) (hn : la.length ≤ 4398046511104) (hm : lb.length ≤ 4398046511104) :
  Calls Tryz.prog 175 #[va, vb] w fun e w' => ∃ v', e = .returned v' ∧ Words w' v' (digs (val la * val lb)) ∧ Ext w w' := by
 obtain ⟨A, c, rfl, hc, hm', hx⟩ := ha.open_
 obtain ⟨B, d, rfl, hd, hm'', hy⟩ := hb.open_
 have hsa := hide ha.small
 have hsb := hide hb.small
 clear ha hb
 have hA := hide hx
 have hB := hide hy
 clear hx hy
 obtain ⟨n, hn1⟩ : ∃ n, n = la.length := ⟨_, rfl⟩
 obtain ⟨m, hm1⟩ : ∃ m, m = lb.length := ⟨_, rfl⟩
 rw [← hn1] at hc hn ⊢
 rw [← hm1] at hd hm ⊢
 replace hn1 := hide hn1
 replace hm1 := hide hm1
 have hmk := fun W => run_make_words (n + m) (by omega) .i64 .i64 W
 simp only [Int.natCast_add] at hmk
 go_enter Tryz.func175, Tryz.ntmps175
 go_wp2
 go_loopw [19] (fun i wr => ∃ (k : Nat) (r : List Nat), k ≤ n ∧ i = .int .i64 k ∧ Hid (MulRel w wr la lb r n m k)) (fun i _ => n - (intOf i).toNat)
 case atStart => exact ⟨0, List.replicate (n + m) 0, Nat.zero_le _, rfl, by simp, small_replicate _, Blk.new _ _ _, by
  have : ∀ q, val (List.replicate q 0) = 0 := fun q => by
   induction q with
   | zero => rfl
   | succ q ih => simp [List.replicate_succ, val, ih]
  simp [val, List.take_replicate, this], (Ext.refl _).alloc _⟩
 case round =>
  obtain ⟨k, r, hk, rfl, hR⟩ := hrel
  by_cases hlt : k < n
  ·obtain ⟨b, o, rfl, hb, hcell⟩ := hA.out (by rw [← hn1.out]; omega)
   replace hcell := (hR.out.2.2.2.2.cell (p := ⟨b, o + k, none⟩) hb).trans (hcell k (by rw [← hn1.out]; omega))
   have hxB := small_getD hsa.out k
   generalize hx : la.getD k 0 = x at *
   replace hx := hide hx
   unfold BB at hxB
   go_wp2
   obtain ⟨wo, rfl⟩ : ∃ wo : World, wo = wr := ⟨_, rfl⟩
   go_loopw [7, 29] (fun cy i wr => ∃ (j cc : Nat) (r : List Nat), j ≤ m ∧ i = .int .i64 j ∧ cy = .int .u64 cc ∧ cc < 4294967296 ∧ Hid (MulIn w wr la lb r n m k j x cc)) (fun _ i _ => m - (intOf i).toNat)
   case atStart => exact ⟨0, 0, r, Nat.zero_le _, rfl, rfl, by omega, hR.out.1, hR.out.2.1, hR.out.2.2.1, by simp [val, hR.out.2.2.2.1], hR.out.2.2.2.2⟩
   case round =>
    obtain ⟨j, cc, r, hj, rfl, rfl, hcc, hI⟩ := hrel
    by_cases hjm : j < m
    ·obtain ⟨b', o', rfl, hb', hcell'⟩ := hB.out (by rw [← hm1.out]; omega)
     replace hcell' := (hI.out.2.2.2.2.cell (p := ⟨b', o' + j, none⟩) hb').trans (hcell' j (by rw [← hm1.out]; omega))
     have hyB := small_getD hsb.out j
     have hzB := small_getD hI.out.2.1 (k + j)
     have hst : wr.cell? ⟨w.heap.size, k + j, none⟩ = some (.int .u32 (r.getD (k + j) 0 : Nat)) := by rw [hI.out.2.2.1.cell, wv_getD (by rw [hI.out.1]; omega)]
     have hfz := hI.out.2.2.1.frozen (k + j)
     generalize hy : lb.getD j 0 = y at *
     generalize hz : r.getD (k + j) 0 = z at *
     replace hy := hide hy
     replace hz := hide hz
     unfold BB at hyB hzB
     have hp : (x : Int) * y ≤ 18446744065119617025 := by have := mul_bound hxB hyB; omega
     have hp0 : (0 : Int) ≤ (x : Int) * y := Int.mul_nonneg (by omega) (by omega)
     go_wp2
     go_quiet (fail)
     go_wp2
     exact ⟨(hI.out.drewN nq).step hjm hlt hy.out hz.out hxB hyB hzB hcc (by rw [BB_eq]; omega) (by rw [BB_eq]; omega), by simp [intOf]; omega⟩
    ·obtain rfl : j = m := by omega
     have hst : wr.cell? ⟨w.heap.size, k + j, none⟩ = some (.int .u32 (r.getD (k + j) 0 : Nat)) := by rw [hI.out.2.2.1.cell, wv_getD (by rw [hI.out.1]; omega)]
     have hfz := hI.out.2.2.1.frozen (k + j)
     have hcl := hide (hI.out.close hlt hm1.out.symm hx.out hcc)
     go_wp2
     exact ⟨⟨k + 1, _, hlt, by simp, hcl⟩, by simp [intOf]; omega⟩
  ·obtain rfl : k = n := by omega
   have hW : Hid (Words wr (.slice (some ⟨w.heap.size, 0, none⟩) (k + m) (k + m)) r) := by
    have := Words.of_blk (c := k + m) hR.out.2.2.1 hR.out.2.1 (by rw [hR.out.1]; omega) (by omega)
    rw [hR.out.1] at this
    exact this
   have hcl : Hid (val r = val la * val lb) := by
    have h1 := hR.out.2.2.2.1
    have er : r.take (k + m) = r := List.take_of_length_le (by rw [hR.out.1]; omega)
    have ea : la.take k = la := List.take_of_length_le (by rw [← hn1.out]; omega)
    rw [er, ea] at h1
    exact h1
   go_wp2_with (go_at_call 152; refine (trim_any _ _ _ hW.out).mono ?_; rintro e w' ⟨v', rfl, hv', hE⟩)
   go_ret
   refine ⟨v', rfl, ?_, hR.out.2.2.2.2.trans hE⟩
   rw [trimW_eq_digs hR.out.2.1, hcl.out] at hv'
   exact hv'
end Go.Proofs.YteicdddphdomkaaGreat
namespace Go.Proofs.YteicdddphdomkaaGreat
open Go.RowKit
theorem ownsRow_words {w : World} {base : Nat} {v : Value} {l : List Nat} {n : Nat} (h : w.ownsRow base 137 1 v n (wv l).toList) (hs : Small l) : Words w v l := by
 obtain ⟨h1, h2⟩ := h
 have hl : l.length = n := by simpa [wv] using h1
 rcases h2 with ⟨rfl, rfl⟩ | ⟨g, cap, cur, rfl, _, hg, hc, hm, hsz, ht⟩
 ·have : l = [] := List.eq_nil_of_length_eq_zero hl
  subst this
  exact Words.nil _ _ _ (by omega)
 ·subst hl
  refine ⟨_, cap, rfl, hc, by simpa [maxLen] using hm, hs, fun _ => ⟨g, 0, cur, (0, 0), rfl, hg, fun i hi => ?_⟩⟩
  have : (cur.toList.take (l.length * 1))[i]? = (wv l).toList[i]? := by rw [ht]
  rw [List.getElem?_take, if_pos (by omega)] at this
  have e2 := wv_get hi
  rw [Nat.zero_add]
  simpa [e2] using this
theorem run_append_nil_nil {P : Program} (w : World) (t ty e : TypeId) (i : TypeInfo) (ht : P.underlying t = some (.slice e)) (hi : P.info? e = some i) (c : Nat) :
  (Builtin.append_ #[t, t] ty #[.slice none 0 0, .slice none 0 c]).run P w = .ok (.slice none 0 0) w := by
 simp [Builtin.append_, run_underlying ht, sizeOf, typeInfo, hi, Builtin.lenOf, Builtin.firstCells]
theorem add_mk (b o j : Nat) : Addr.add ⟨b, o, none⟩ j = ⟨b, o + j, none⟩ := by
 unfold Addr.add
 split
 ·rename_i h; subst h; rfl
 ·rfl
theorem wpList_append_run {P : Program} {w w' : World} {ops : Array Oper} {rest : List Oper} {o : Oper} {a : Act} {Q : Exit → Act → World → Prop} (hgd : o.guard = none) (s x : Operand) (t : TypeId)
  (ho : o.op = .call { callee := .builtin .append, args := #[s, x], argTypes := #[t, t] }) (v u : Value) (hs : a.eval s = v) (hx : a.eval x = u) {v' : Value}
  (hrun : (Builtin.append_ #[t, t] o.type #[v, u]).run P w = .ok v' w') (h : wpList P ops Q rest (a.put o.dst v') w') : wpList P ops Q (o :: rest) a w := by
 refine wpList_plain hgd fun K hK => ?_
 unfold Oper.wp execOp
 simp only [ho, resolve, invoke, builtin, Sem.run_bind, Sem.run_pure, Result.andThen_ok, List.map_toArray, List.map_cons, List.map_nil, hs, hx, hrun]
 exact hK _ _ h
theorem run_clone_words {w : World} {A : Option Addr} {c : Nat} {l : List Nat} (h : Words w (.slice A l.length c) l) (hn : l.length ≤ 35184372088832) :
  ∃ v' w', (Builtin.append_ #[25, 25] 25 #[.slice none 0 0, .slice A l.length c]).run Tryz.prog w = .ok v' w' ∧ Words w' v' l ∧ Ext w w' := by
 obtain ⟨i, hi, hz0, hz1, hz2⟩ := info_parts (show (Tryz.prog.info? 137).map (fun i => (i.zero, i.size, i.bytes)) = some (some (.int .u32 0), 1, 4) by kernel_rfl)
 have hs := h.small
 obtain ⟨A', c', hv, hc, hm, hx⟩ := h.open_
 injection hv with h1 _ h3
 subst h1; subst h3
 cases A with
 | none =>
  have hl : l.length = 0 := by
   rcases Nat.eq_zero_or_pos l.length with h0 | h0
   ·exact h0
   ·obtain ⟨b, o, hA, _⟩ := hx h0; cases hA
  have : l = [] := List.eq_nil_of_length_eq_zero hl
  subst this
  exact ⟨_, _, run_append_nil_nil w _ _ _ i Tryz.underlying25 hi c, Words.nil _ _ _ (by omega), Ext.refl _⟩
 | some ad =>
  have hcells : ∀ (j : Nat) (u : Value), (wv l).toList[j]? = some u → w.cell? (ad.add j) = some u := by
   intro j u hu
   have hj : j < l.length := by
    have := (List.getElem?_eq_some_iff.1 hu).1
    simpa [wv] using this
   obtain ⟨b, o, hA, _, hcell⟩ := hx (by omega)
   have hA' := Option.some.inj hA
   subst hA'
   have e1 := hcell j hj
   have e2 := wv_getD hj
   have e3 : u = .int .u32 (l.getD j 0 : Nat) := by
    rw [Array.getElem?_toList, e2] at hu
    exact (Option.some.inj hu).symm
   rw [e3, ← e1, add_mk]
  have h1' : ∀ u ∈ (wv l).toList, u.oneCell' = true := by
   intro u hu
   have hu' : u ∈ l.map fun x => Value.int .u32 (x : Nat) := by simpa [wv] using hu
   obtain ⟨x, _, rfl⟩ := List.mem_map.1 hu'
   rfl
  obtain ⟨v', w', hrun, hown, hg, _⟩ := run_append_own (P := Tryz.prog) w w.heap.size 25 25 137 i (.int .u32 0) 1 4 Tryz.underlying25 hi hz0 hz1 hz2 rfl (by omega)
   (.slice none 0 0) 0 [] ⟨by simp, .inl ⟨rfl, rfl⟩⟩ ad l.length c (wv l).toList (by simp [wv]) hcells h1' (by simp only [maxLen]; omega) (by omega) (Nat.le_refl _)
  refine ⟨v', w', hrun, ?_, ?_⟩
  ·rw [List.nil_append] at hown
   exact ownsRow_words hown hs
  ·exact (Ext.refl w).trans ((Below.refl _ _).grown hg (Nat.le_refl _) (by simp [Value.ownBlock]))
set_option maxRecDepth 100000 in
set_option maxHeartbeats 400000 in
theorem clone_any (v : Value) (l : List Nat) (w : World) (h : Words w v l) (hn : l.length ≤ 35184372088832) :
  Calls Tryz.prog 151 #[v] w fun e w' => ∃ v', e = .returned v' ∧ Words w' v' l ∧ Ext w w' := by
 obtain ⟨A, c, rfl, hc, hm, hx⟩ := h.open_
 obtain ⟨v', w', hrun, hW, hE⟩ := run_clone_words h hn
 replace hrun := hide hrun
 clear hx h
 go_enter Tryz.func151, Tryz.ntmps151
 go_wp2_with (at_builtin; refine wpList_append_run rfl _ _ _ rfl _ _ rfl rfl hrun.out ?_)
 go_ret
 exact ⟨v', rfl, hW, hE⟩
set_option maxRecDepth 100000 in
set_option maxHeartbeats 400000 in
theorem words_any (m : Nat) (w : World) (hm : m < 18446744073709551616) :
  Calls Tryz.prog 155 #[.int .u64 m] w fun e w' => ∃ v', e = .returned v' ∧ Words w' v' (digs m) ∧ Ext w w' := by
 have hW : Words (w.alloc (.cells (wv [m % BB, m / BB]) 137)) (.slice (some ⟨w.heap.size, 0, none⟩) 2 2) [m % BB, m / BB] :=
  Words.of_blk (l := [m % BB, m / BB]) (c := 2) (Blk.new _ _ _) (fun x hx => by
   simp at hx
   rcases hx with rfl | rfl
   ·exact Nat.mod_lt _ BB_pos
   ·exact Nat.div_lt_of_lt_mul (by rw [BB_eq]; omega)) (by simp) (by omega)
 have hv : Hid (val [m % BB, m / BB] = m) := by
  show m % BB + BB * (m / BB + BB * 0) = m
  rw [Nat.mul_zero, Nat.add_zero]
  exact Nat.mod_add_div m BB
 have e1 : Hid ((w.alloc (.cells (wv [m % BB, m / BB]) 137)) = w.alloc (.cells #[.int .u32 ((m : Int) % 4294967296), .int .u32 ((m : Int) / 4294967296)] 137)) := by
  simp [wv, BB_eq, Hid]
 have hW2 := hide hW
 have hS := hide hW.small
 rw [e1.out] at hW2
 clear hW
 go_enter Tryz.func155, Tryz.ntmps155
 go_wp2_with fail
 refine (trim_any _ _ _ hW2.out).mono ?_
 rintro e w' ⟨v', rfl, hv', hE⟩
 go_wp2
 go_ret
 refine ⟨v', rfl, ?_, ((Ext.refl _).alloc _).trans hE⟩
 rw [trimW_eq_digs hS.out, hv.out] at hv'
 exact hv'
end Go.Proofs.YteicdddphdomkaaGreat
namespace Go.Proofs.YteicdddphdomkaaGreat
open Go.RowKit
theorem ofInt_u64 (a : Nat) (ha : a < 18446744073709551616) : (BitVec.ofInt 64 (a : Int)).toNat = a := by
 rw [BitVec.ofInt_natCast, BitVec.toNat_ofNat]; exact Nat.mod_eq_of_lt ha
theorem or_words {q x : Nat} (hq : q < 4294967296) (hx : x < 4294967296) : bits .or .u64 (q : Int) ((x : Int) * 4294967296) = ((q + x * 4294967296 : Nat) : Int) := by
 have h1 : ((x : Int) * 4294967296) = ((x * 4294967296 : Nat) : Int) := by omega
 have h2 : q ||| (x * 4294967296) = q + x * 4294967296 := by
  have := Nat.shiftLeft_add_eq_or_of_lt (i := 32) (b := q) (by omega) x
  rw [Nat.shiftLeft_eq, show (2 : Nat) ^ 32 = 4294967296 from rfl] at this
  rw [Nat.or_comm]
  omega
 rw [h1]
 show IntKind.u64.wrap ((BitVec.ofInt 64 (q : Int) ||| BitVec.ofInt 64 ((x * 4294967296 : Nat) : Int)).toNat : Int) = _
 rw [BitVec.toNat_or, ofInt_u64 q (by omega), ofInt_u64 _ (by omega), IntKind.wrap_u64, h2]
 omega
set_option maxRecDepth 100000 in
set_option maxHeartbeats 400000 in
theorem value_any (v : Value) (l : List Nat) (w : World) (h : Words w v l) (hn : l.length ≤ 2) :
  Calls Tryz.prog 153 #[v] w fun e w' => e = .returned (.int .u64 (val l : Nat)) ∧ Ext w w' := by
 obtain ⟨A, c, rfl, hc, hm, hx⟩ := h.open_
 have hs := hide h.small
 clear h
 have hA := hide hx
 clear hx
 obtain ⟨n, hn1⟩ : ∃ n, n = l.length := ⟨_, rfl⟩
 rw [← hn1] at hc hn ⊢
 replace hn1 := hide hn1
 go_enter Tryz.func153, Tryz.ntmps153
 go_wp2
 go_loop [3, 7] (fun t i => ∃ (k q : Nat), k ≤ n ∧ i = .int .i64 k ∧ t = .int .u64 q ∧ Hid (q = val (l.take k))) (fun _ i => n - (intOf i).toNat)
 case atStart => exact ⟨0, 0, Nat.zero_le _, rfl, rfl, rfl⟩
 case round =>
  obtain ⟨k, q, hk, rfl, rfl, hq⟩ := hrel
  by_cases hlt : k < n
  ·obtain ⟨b, o, rfl, hb, hcell⟩ := hA.out (by rw [← hn1.out]; omega)
   replace hcell := hcell k (by rw [← hn1.out]; omega)
   have hxB := small_getD hs.out k
   have hv1 := hide (take_val_any l k)
   generalize hx : l.getD k 0 = x at *
   replace hx := hide hx
   unfold BB at hxB
   have hk01 : k = 0 ∨ k = 1 := by omega
   rcases hk01 with rfl | rfl
   ·obtain rfl : q = 0 := by rw [hq.out]; rfl
    simp only [Nat.add_zero] at hcell
    go_wp2
    refine ⟨⟨1, x, by omega, rfl, ?_, ?_⟩, by simp [intOf]; omega⟩
    ·have h1 := or_words (q := x) (x := 0) hxB (by omega)
     have h2 : bits .or .u64 0 (x : Int) = bits .or .u64 (x : Int) 0 := by
      show IntKind.u64.wrap ((BitVec.ofInt 64 0 ||| BitVec.ofInt 64 (x : Int)).toNat : Int) = IntKind.u64.wrap ((BitVec.ofInt 64 (x : Int) ||| BitVec.ofInt 64 0).toNat : Int)
      rw [BitVec.or_comm]
     have h3 : bits .or .u64 (x : Int) 0 = x := by simpa using h1
     rw [h2, h3]
    ·have := hv1.out
     rw [← hq.out] at this
     simpa [Hid] using this.symm
   ·have hqB : q < 4294967296 := by
     rw [hq.out]
     have h1 := take_val_any l 0
     have h2 := small_getD hs.out 0
     simp [val] at h1
     rw [h1]
     simpa [BB_eq] using h2
    go_wp2
    refine ⟨⟨2, q + BB * x, by omega, rfl, ?_, ?_⟩, by simp [intOf]; omega⟩
    ·rw [or_words hqB hxB, BB_eq]; congr 1; omega
    ·have := hv1.out
     rw [← hq.out, Nat.pow_one] at this
     exact this.symm
  ·obtain rfl : k = n := by omega
   go_wp2
   go_ret
   exact ⟨by rw [hq.out, List.take_of_length_le (by rw [← hn1.out]; omega)]; rfl, Ext.refl _⟩
def cmpN (a b : Nat) : Int := if a < b then -1 else if b < a then 1 else 0
theorem digs_length_mono {x y : Nat} (h : x ≤ y) : (digs x).length ≤ (digs y).length := by
 induction y using Nat.strongRecOn generalizing x with
 | _ y ih =>
  by_cases hx : x = 0
  ·subst hx; rw [digs_zero]; exact Nat.zero_le _
  ·have hy : y ≠ 0 := by omega
   rw [digs_pos hx, digs_pos hy]
   simp only [List.length_cons]
   have := ih (y / BB) (Nat.div_lt_self (by omega) (by decide)) (Nat.div_le_div_right (c := BB) h)
   omega
theorem val_lt_of {a b : List Nat} {k : Nat} (ha : Small a) (hl : a.length = b.length) (hk : k < a.length) (he : ∀ i, k < i → a.getD i 0 = b.getD i 0) (hlt : a.getD k 0 < b.getD k 0) : val a < val b := by
 have key : ∀ (j : Nat), k + 1 + j ≤ a.length → val (a.take (k + 1 + j)) < val (b.take (k + 1 + j)) := by
  intro j
  induction j with
  | zero =>
   intro _
   rw [Nat.add_zero, take_val_any, take_val_any]
   have h1 : val (a.take k) < BB ^ k := by
    have := val_lt (l := a.take k) fun x hx => ha x (List.mem_of_mem_take hx)
    rwa [List.length_take, Nat.min_eq_left (Nat.le_of_lt hk)] at this
   have h2 : BB ^ k * (a.getD k 0 + 1) ≤ BB ^ k * b.getD k 0 := Nat.mul_le_mul_left _ hlt
   rw [Nat.mul_add] at h2
   omega
  | succ j ih =>
   intro hj
   have := ih (by omega)
   rw [← Nat.add_assoc, take_val_any, take_val_any, he (k + 1 + j) (by omega)]
   omega
 have := key (a.length - (k + 1)) (by omega)
 rw [show k + 1 + (a.length - (k + 1)) = a.length by omega, List.take_of_length_le (Nat.le_refl _), List.take_of_length_le (by omega)] at this
 exact this
theorem list_eq_of {a b : List Nat} (hl : a.length = b.length) (he : ∀ i, i < a.length → a.getD i 0 = b.getD i 0) : a = b := by
 apply List.ext_getElem hl
 intro i h1 h2
 have := he i h1
 simpa [h1, h2] using this
end Go.Proofs.YteicdddphdomkaaGreat
namespace Go.Proofs.YteicdddphdomkaaGreat
open Go.RowKit
theorem cmpN_of_len_lt {x y : Nat} (h : (digs x).length < (digs y).length) : cmpN x y = -1 := by
 have : x < y := by
  rcases Nat.lt_or_ge x y with h1 | h1
  ·exact h1
  ·have := digs_length_mono h1; omega
 simp [cmpN, this]
theorem cmpN_of_len_gt {x y : Nat} (h : (digs y).length < (digs x).length) : cmpN x y = 1 := by
 have : y < x := by
  rcases Nat.lt_or_ge y x with h1 | h1
  ·exact h1
  ·have := digs_length_mono h1; omega
 have h2 : ¬ x < y := by omega
 simp [cmpN, this, h2]
theorem cmpN_of_lt {x y k : Nat} (hl : (digs x).length = (digs y).length) (hk : k < (digs x).length) (he : ∀ i, k < i → (digs x).getD i 0 = (digs y).getD i 0) (hlt : (digs x).getD k 0 < (digs y).getD k 0) : cmpN x y = -1 := by
 have := val_lt_of (small_digs x) hl hk he hlt
 rw [val_digs, val_digs] at this
 simp [cmpN, this]
theorem cmpN_of_gt {x y k : Nat} (hl : (digs x).length = (digs y).length) (hk : k < (digs x).length) (he : ∀ i, k < i → (digs x).getD i 0 = (digs y).getD i 0) (hlt : (digs y).getD k 0 < (digs x).getD k 0) : cmpN x y = 1 := by
 have := val_lt_of (small_digs y) hl.symm (by omega) (fun i hi => (he i hi).symm) hlt
 rw [val_digs, val_digs] at this
 have h2 : ¬ x < y := by omega
 simp [cmpN, this, h2]
theorem cmpN_of_eq {x y : Nat} (hl : (digs x).length = (digs y).length) (he : ∀ i, (digs x).getD i 0 = (digs y).getD i 0) : cmpN x y = 0 := by
 have := list_eq_of hl fun i _ => he i
 have h2 : x = y := by rw [← val_digs x, ← val_digs y, this]
 simp [cmpN, h2]
set_option maxRecDepth 100000 in
set_option maxHeartbeats 800000 in
theorem compare_any (va vb : Value) (x y : Nat) (w : World) (ha : Words w va (digs x)) (hb : Words w vb (digs y)) :
  Calls Tryz.prog 163 #[va, vb] w fun e w' => e = .returned (.int .i64 (cmpN x y)) ∧ Ext w w' := by
 obtain ⟨A, c, rfl, hc, hm', hx⟩ := ha.open_
 obtain ⟨B, d, rfl, hd, hm'', hy⟩ := hb.open_
 clear ha hb
 have hA := hide hx
 have hB := hide hy
 clear hx hy
 obtain ⟨n, hn1⟩ : ∃ n, n = (digs x).length := ⟨_, rfl⟩
 obtain ⟨m, hm1⟩ : ∃ m, m = (digs y).length := ⟨_, rfl⟩
 rw [← hn1] at hc ⊢
 rw [← hm1] at hd ⊢
 replace hn1 := hide hn1
 replace hm1 := hide hm1
 rcases Nat.lt_trichotomy n m with hlt | heq | hgt
 ·have hne : ((n : Int) != m) = true := by simp; omega
  go_enter Tryz.func163, Tryz.ntmps163
  go_wp2
  go_ret
  exact ⟨by rw [cmpN_of_len_lt (by rw [← hn1.out, ← hm1.out]; exact hlt)]; rfl, Ext.refl _⟩
 ·subst heq
  have hne : ((n : Int) != n) = false := by simp
  go_enter Tryz.func163, Tryz.ntmps163
  go_wp2
  go_loopw [5] (fun i wr => ∃ k : Nat, k ≤ n ∧ i = .int .i64 ((k : Int) - 1) ∧ Hid (Ext w wr ∧ ∀ i, k ≤ i → (digs x).getD i 0 = (digs y).getD i 0)) (fun i _ => (intOf i + 1).toNat)
  case atStart => exact ⟨n, Nat.le_refl _, rfl, Ext.refl _, fun i hi => by
   have h1 : (digs x).length ≤ i := by rw [← hn1.out]; exact hi
   have h2 : (digs y).length ≤ i := by rw [← hm1.out]; exact hi
   simp [h1, h2]⟩
  case round =>
   obtain ⟨k, hk, rfl, hR⟩ := hrel
   by_cases hk0 : k = 0
   ·subst hk0
    go_wp2
    go_ret
    exact ⟨by rw [cmpN_of_eq (by rw [← hn1.out, ← hm1.out]) (fun i => hR.out.2 i (Nat.zero_le _))]; rfl, hR.out.1⟩
   ·obtain ⟨q, rfl⟩ : ∃ q, k = q + 1 := ⟨k - 1, by omega⟩
    obtain ⟨b, o, rfl, hb, hcell⟩ := hA.out (by rw [← hn1.out]; omega)
    replace hcell := (hR.out.1.cell (p := ⟨b, o + q, none⟩) hb).trans (hcell q (by rw [← hn1.out]; omega))
    obtain ⟨b', o', rfl, hb', hcell'⟩ := hB.out (by rw [← hm1.out]; omega)
    replace hcell' := (hR.out.1.cell (p := ⟨b', o' + q, none⟩) hb').trans (hcell' q (by rw [← hm1.out]; omega))
    generalize hX : (digs x).getD q 0 = X at *
    generalize hY : (digs y).getD q 0 = Y at *
    replace hX := hide hX
    replace hY := hide hY
    have hq1 : ((q + 1 : Nat) : Int) - 1 = q := by omega
    rw [hq1]
    rcases Nat.lt_trichotomy X Y with hlt | heq | hgt
    ·have hneq : ((X : Int) != Y) = true := by simp; omega
     go_wp2
     go_quiet (fail)
     go_wp2
     go_quiet (fail)
     go_wp2
     go_ret
     exact ⟨by rw [cmpN_of_lt (k := q) (by rw [← hn1.out, ← hm1.out]) (by rw [← hn1.out]; omega) (fun i hi => hR.out.2 i hi) (by rw [hX.out, hY.out]; exact hlt)]; rfl, (hR.out.1.drewN _).drewN _⟩
    ·subst heq
     have hneq : ((X : Int) != X) = false := by simp
     go_wp2
     go_quiet (fail)
     go_wp2
     refine ⟨⟨q, by omega, rfl, hR.out.1.drewN _, fun i hi => ?_⟩, by simp [intOf]⟩
     rcases Nat.lt_or_ge q i with h1 | h1
     ·exact hR.out.2 i h1
     ·obtain rfl : i = q := by omega
      rw [hX.out, hY.out]
    ·have hneq : ((X : Int) != Y) = true := by simp; omega
     have hnlt : ¬ ((X : Int) < Y) := by omega
     go_wp2
     go_quiet (fail)
     go_wp2
     go_quiet (fail)
     go_wp2
     go_ret
     exact ⟨by rw [cmpN_of_gt (k := q) (by rw [← hn1.out, ← hm1.out]) (by rw [← hn1.out]; omega) (fun i hi => hR.out.2 i hi) (by rw [hX.out, hY.out]; exact hgt)]; rfl, (hR.out.1.drewN _).drewN _⟩
 ·have hne : ((n : Int) != m) = true := by simp; omega
  go_enter Tryz.func163, Tryz.ntmps163
  go_wp2
  go_ret
  exact ⟨by rw [cmpN_of_len_gt (by rw [← hn1.out, ← hm1.out]; exact hgt)]; rfl, Ext.refl _⟩
end Go.Proofs.YteicdddphdomkaaGreat
namespace Go.Proofs.YteicdddphdomkaaGreat
open Go.RowKit
def IsInt (w : World) (c0 c1 : Value) (z : Int) : Prop := c0 = .bool (decide (z < 0)) ∧ Words w c1 (digs z.natAbs)
theorem IsInt.ext {w w' : World} {c0 c1 : Value} {z : Int} (h : IsInt w c0 c1 z) (he : Ext w w') : IsInt w' c0 c1 z := ⟨h.1, h.2.ext he⟩
def RetInt (z : Int) (w : World) (e : Ending) (w' : World) : Prop := ∃ (b : Bool) (A : Option Addr) (n c : Nat), e = .returned (.agg #[.bool b, .slice A n c]) ∧ IsInt w' (.bool b) (.slice A n c) z ∧ Ext w w'
theorem IsInt.set {w : World} {c0 c1 : Value} {z : Int} (h : IsInt w c0 c1 z) {p : Addr} {t : TypeId} (ht : Ty w p.block t) (hne : t ≠ 137) (u : Value) : IsInt (w.setCell p u) c0 c1 z := ⟨h.1, h.2.set ht hne u⟩
def sgn (neg : Bool) (n : Nat) : Int := if neg then -(n : Int) else n
theorem sgn_natAbs (neg : Bool) (n : Nat) : (sgn neg n).natAbs = n := by cases neg <;> simp [sgn]
theorem sgn_neg {neg : Bool} {n : Nat} (h : n ≠ 0) : decide (sgn neg n < 0) = neg := by cases neg <;> simp [sgn] <;> omega
theorem sgn_zero (neg : Bool) : sgn neg 0 = 0 := by cases neg <;> rfl
theorem sgn_not {z : Int} : sgn (!decide (z < 0)) z.natAbs = -z := by
 by_cases h : z < 0 <;> simp [sgn, h] <;> omega
theorem sgn_self {z : Int} : sgn (decide (z < 0)) z.natAbs = z := by
 by_cases h : z < 0 <;> simp [sgn, h] <;> omega
theorem IsInt.bool_eq {w : World} {b : Bool} {c1 : Value} {z : Int} (h : IsInt w (.bool b) c1 z) : b = decide (z < 0) := by
 have := h.1
 injection this
theorem IsInt.neg_eq {w : World} {b : Bool} {c1 : Value} {z : Int} (h : IsInt w (.bool b) c1 z) : sgn (!b) z.natAbs = -z := by rw [h.bool_eq]; exact sgn_not
theorem digs_length_zero {n : Nat} : (digs n).length = 0 ↔ n = 0 := by
 constructor
 ·intro h
  have : digs n = [] := List.eq_nil_of_length_eq_zero h
  rw [← val_digs n, this]; rfl
 ·rintro rfl; rw [digs_zero]; rfl
theorem Ext.cells {W w1 : World} (hb : Ext W w1) : (∀ b o, b < W.heap.size → w1.cell? ⟨b, o, none⟩ = W.cell? ⟨b, o, none⟩) ∧ (∀ b o, b < W.heap.size → w1.frozen? ⟨b, o, none⟩ = W.frozen? ⟨b, o, none⟩) :=
 ⟨fun b o h => hb.cell (p := ⟨b, o, none⟩) h, fun b o h => hb.frozen (p := ⟨b, o, none⟩) h⟩
set_option maxRecDepth 100000 in
set_option maxHeartbeats 400000 in
theorem signed_any (neg : Bool) (v : Value) (l : List Nat) (w : World) (h : Words w v l) :
  Calls Tryz.prog 154 #[.bool neg, v] w fun e w' => RetInt (sgn neg (val l)) w e w' := by
 have hs := hide h.small
 have H := hide h
 clear h
 go_enter Tryz.func154, Tryz.ntmps154
 go_wp2_with fail
 refine (trim_any _ _ _ (H.out.ext ((Ext.refl _).alloc _))).mono ?_
 rintro e w1 ⟨v', rfl, hv', hE⟩
 rw [trimW_eq_digs hs.out] at hv'
 obtain ⟨A, c, rfl, hc, hm, hx⟩ := hv'.open_
 replace hx := hide hx
 obtain ⟨hcell, hfr⟩ := hE.cells
 by_cases h0 : (digs (val l)).length = 0
 ·have hv0 := hide (digs_length_zero.1 h0)
  generalize hn : (digs (val l)).length = n at *
  subst h0
  replace hn := hide hn
  go_wp2
  refine bodyPost_ret (v := .agg #[.bool false, .slice none 0 0]) (by simp [results, Tryz.results154, go_sem, hcell]) rfl ⟨_, _, _, _, rfl, ⟨?_, ?_⟩, ?_⟩
  ·rw [hv0.out, sgn_zero]; rfl
  ·rw [hv0.out, sgn_zero]
   show Words _ _ (digs 0)
   rw [digs_zero]
   exact Words.nil _ _ _ (by omega)
  ·exact ((((Ext.refl _).alloc _).trans hE).set (Nat.le_refl _) _).set (Nat.le_refl _) _
 ·have hv0 := hide (fun e => h0 (digs_length_zero.2 e))
  have hne : (((digs (val l)).length : Int) == 0) = false := by simpa using h0
  go_wp2
  refine bodyPost_ret (v := .agg #[.bool neg, .slice A (digs (val l)).length c]) (by simp [results, Tryz.results154, go_sem, hcell]) rfl ⟨_, _, _, _, rfl, ⟨?_, ?_⟩, ?_⟩
  ·rw [sgn_neg hv0.out]
  ·rw [sgn_natAbs]
   have ht := (Ty.new w #[Value.bool false, Value.slice none 0 0] 27).ext hE
   exact (hv'.set ht (by decide) _).set (ht.set _ _) (by decide) _
  ·exact ((((Ext.refl _).alloc _).trans hE).set (Nat.le_refl _) _).set (Nat.le_refl _) _
end Go.Proofs.YteicdddphdomkaaGreat
namespace Go.Proofs.YteicdddphdomkaaGreat
open Go.RowKit
theorem words_int (z : Int) (w : World) (h0 : 0 ≤ z) (hm : z < 18446744073709551616) :
  Calls Tryz.prog 155 #[.int .u64 z] w fun e w' => ∃ v', e = .returned v' ∧ Words w' v' (digs z.toNat) ∧ Ext w w' := by
 obtain ⟨m, rfl⟩ := Int.eq_ofNat_of_zero_le h0
 rw [Int.toNat_natCast]
 exact words_any m w (by omega)
set_option maxRecDepth 100000 in
set_option maxHeartbeats 400000 in
theorem of_any (n : Int) (w : World) (h0 : -9223372036854775808 ≤ n) (h1 : n ≤ 9223372036854775807) :
  Calls Tryz.prog 135 #[.int .i64 n] w fun e w' => RetInt n w e w' := by
 by_cases hn : n < 0
 ·have hd : decide (n < 0) = true := by simpa using hn
  have e1 : Hid (IntKind.u64.wrap (-(IntKind.u64.wrap n)) = -n) := by
   simp only [IntKind.wrap_u64, Hid]; omega
  go_enter Tryz.func135, Tryz.ntmps135
  go_wp2_with fail
  rw [e1.out]
  refine (words_int _ _ (by omega) (by omega)).mono ?_
  rintro e w1 ⟨v', rfl, hW, hE⟩
  go_wp2_with fail
  refine (signed_any _ _ _ _ hW).mono ?_
  rintro e w2 ⟨b0, A0, n0, k0, rfl, hI, hE2⟩
  replace hE2 := hE.trans hE2
  obtain ⟨hcell, hfr⟩ := hE2.cells
  replace hI := hide hI
  replace hE2 := hide hE2
  clear hE hW
  go_wp2
  refine bodyPost_ret (v := .agg #[.bool b0, .slice A0 n0 k0]) (by simp [results, Tryz.results135, go_sem, hcell]) rfl ⟨_, _, _, _, rfl, ?_, ?_⟩
  ·have ht := (Ty.new w #[Value.bool false, Value.slice none 0 0] 27).ext hE2.out
   have hI := hI.out
   rw [val_digs, show sgn true (-n).toNat = n by simp [sgn]; omega] at hI
   exact (hI.set ht (by decide) _).set (ht.set _ _) (by decide) _
  ·exact ((((Ext.refl _).alloc _).trans hE2.out).set (Nat.le_refl _) _).set (Nat.le_refl _) _
 ·have hd : decide (n < 0) = false := by simpa using hn
  go_enter Tryz.func135, Tryz.ntmps135
  go_wp2_with fail
  refine (words_int _ _ (by omega) (by omega)).mono ?_
  rintro e w1 ⟨v', rfl, hW, hE⟩
  go_wp2_with fail
  refine (signed_any _ _ _ _ hW).mono ?_
  rintro e w2 ⟨b0, A0, n0, k0, rfl, hI, hE2⟩
  replace hE2 := hE.trans hE2
  obtain ⟨hcell, hfr⟩ := hE2.cells
  replace hI := hide hI
  replace hE2 := hide hE2
  clear hE hW
  go_wp2
  refine bodyPost_ret (v := .agg #[.bool b0, .slice A0 n0 k0]) (by simp [results, Tryz.results135, go_sem, hcell]) rfl ⟨_, _, _, _, rfl, ?_, ?_⟩
  ·have ht := (Ty.new w #[Value.bool false, Value.slice none 0 0] 27).ext hE2.out
   have hI := hI.out
   rw [val_digs, show sgn false n.toNat = n by simp [sgn]; omega] at hI
   exact (hI.set ht (by decide) _).set (ht.set _ _) (by decide) _
  ·exact ((((Ext.refl _).alloc _).trans hE2.out).set (Nat.le_refl _) _).set (Nat.le_refl _) _
set_option maxRecDepth 100000 in
set_option maxHeartbeats 400000 in
theorem sign_any (b : Bool) (A : Option Addr) (n c : Nat) (z : Int) (w : World) (h : IsInt w (.bool b) (.slice A n c) z) :
  Calls Tryz.prog 124 #[.agg #[.bool b, .slice A n c]] w fun e w' => e = .returned (.int .i64 z.sign) ∧ Ext w w' := by
 obtain ⟨h1, h2⟩ := h
 obtain ⟨A', c', hv, hc, hm, hx⟩ := h2.open_
 injection hv with e1 e2 e3
 subst e1; subst e3
 clear hx h2
 injection h1 with h1
 by_cases h0 : z = 0
 ·subst h0
  have e0 : n = 0 := by rw [e2]; show (digs 0).length = 0; rw [digs_zero]; rfl
  subst e0
  clear h1 e2
  go_enter Tryz.func124, Tryz.ntmps124
  go_wp2
  go_ret
  exact ⟨rfl, (Ext.refl _).alloc _⟩
 ·have e0 : n ≠ 0 := by
   rw [e2]
   intro e
   have := digs_length_zero.1 e
   omega
  have hne : ((n : Int) == 0) = false := by simpa using e0
  replace e2 := hide e2
  cases b with
  | true =>
   have hz : z < 0 := by simpa using h1
   clear h1
   go_enter Tryz.func124, Tryz.ntmps124
   go_wp2
   go_ret
   exact ⟨by rw [Int.sign_eq_neg_one_of_neg hz]; rfl, (Ext.refl _).alloc _⟩
  | false =>
   have hz : 0 < z := by
    have : ¬ z < 0 := by simpa using h1
    omega
   clear h1
   go_enter Tryz.func124, Tryz.ntmps124
   go_wp2
   go_ret
   exact ⟨by rw [Int.sign_eq_one_of_pos hz]; rfl, (Ext.refl _).alloc _⟩
set_option maxRecDepth 100000 in
set_option maxHeartbeats 400000 in
theorem neg_any (b : Bool) (A : Option Addr) (n c : Nat) (z : Int) (w : World) (h : IsInt w (.bool b) (.slice A n c) z) (hn : (digs z.natAbs).length ≤ 4398046511104) :
  Calls Tryz.prog 131 #[.agg #[.bool b, .slice A n c]] w (RetInt (-z) w) := by
 replace h := hide h
 replace hn := hide hn
 go_enter Tryz.func131, Tryz.ntmps131
 go_wp2
 refine wp_region_v (by kernel_rfl) [[], [(3, 0)], [(4, 1)], [], [(6, 3)], [(7, 4)], [(5, 2), (8, 5)]] [[], [0], [0, 1], [], [3], [3, 4], [0, 1, 2, 3, 4, 5]]
  [fun v _ => v = .pointer (some ⟨w.heap.size, 0, none⟩), fun v _ => v = .bool b, fun v _ => v = .bool (!b), fun v _ => v = .pointer (some ⟨w.heap.size, 1, none⟩), fun v _ => v = .slice A n c, fun v w' => Words w' v (digs z.natAbs), fun v w' => ∃ b A n c, v = .agg #[.bool b, .slice A n c] ∧ IsInt w' (.bool b) (.slice A n c) (-z)]
  rfl (by kernel_rfl) (by kernel_rfl) ?stab ?steps ?fin
 case stab => exact .cons (Stab.eq _) (.cons (Stab.eq _) (.cons (Stab.eq _) (.cons (Stab.eq _) (.cons (Stab.eq _) (.cons (fun _ _ _ he h => h.ext he) (.cons (fun _ _ _ he ⟨b, A, n, c, h1, h2⟩ => ⟨b, A, n, c, h1, h2.ext he⟩) .nil))))))
 case steps =>
  refine .cons ?s0 (.cons ?s1 (.cons ?s2 (.cons ?s3 (.cons ?s4 (.cons ?s5 (.cons ?s6 .nil))))))
  case s0 =>
   intro w' ev hE hk ha hc hf
   have e1 : ev (.tmp 1) = .pointer (some ⟨w.heap.size, 0, none⟩) := ha 1 (by decide)
   exact opStep_val (by simp [execOp, e1, go_sem]) rfl
  case s1 =>
   intro w' ev hE hk ha hc hf
   have e3 : ev (.tmp 3) = .pointer (some ⟨w.heap.size, 0, none⟩) := hk.1 _ rfl
   have c0 : w'.cell? ⟨w.heap.size, 0, none⟩ = some (.bool b) := hE.cellv (by simp)
   exact opStep_val (by simp [execOp, e3, c0, go_sem]) rfl
  case s2 =>
   intro w' ev hE hk ha hc hf
   have e4 : ev (.tmp 4) = .bool b := hk.1 _ rfl
   exact opStep_val (by simp [execOp, e4, go_sem]) rfl
  case s3 =>
   intro w' ev hE hk ha hc hf
   have e1 : ev (.tmp 1) = .pointer (some ⟨w.heap.size, 0, none⟩) := ha 1 (by decide)
   exact opStep_val (by simp [execOp, e1, go_sem]) rfl
  case s4 =>
   intro w' ev hE hk ha hc hf
   have e6 : ev (.tmp 6) = .pointer (some ⟨w.heap.size, 1, none⟩) := hk.1 _ rfl
   have c0 : w'.cell? ⟨w.heap.size, 1, none⟩ = some (.slice A n c) := hE.cellv (by simp)
   exact opStep_val (by simp [execOp, e6, c0, go_sem]) rfl
  case s5 =>
   intro w' ev hE hk ha hc hf
   have e7 : ev (.tmp 7) = .slice A n c := hk.1 _ rfl
   refine opStep_call (by simp [execOp, resolve, invoke, e7, hf, go_sem]) (clone_any _ _ _ (h.out.2.ext ((((Ext.refl _).alloc _).alloc _).drew.trans hE)) (by have := hn.out; omega)) ?_
   rintro e w1 ⟨v1, rfl, hW1, hE1⟩
   exact ⟨v1, rfl, hE1, hW1⟩
  case s6 =>
   intro w' ev hE hk ha hc hf
   have e5 : ev (.tmp 5) = .bool (!b) := hk.1 _ rfl
   have e8 : Words w' (ev (.tmp 8)) (digs z.natAbs) := hk.2.1 _ rfl
   refine opStep_call (by simp [execOp, resolve, invoke, e5, hf, go_sem]) (signed_any (!b) _ _ _ e8) ?_
   rintro e w1 ⟨b1, A1, n1, k1, rfl, hI1, hE1⟩
   exact ⟨_, rfl, hE1, b1, A1, n1, k1, rfl, by rw [val_digs] at hI1; rw [← h.out.neg_eq]; exact hI1⟩
 case fin =>
  intro g w' hE hF
  obtain ⟨b2, A2, n2, k2, e2, hI2⟩ := hF 6 _ rfl
  simp only [List.length_cons, List.length_nil, Nat.reduceAdd, List.drop_succ_cons, List.drop_zero, List.take_succ_cons, List.take_zero, putG, Act.put, List.setIfInBounds_toArray, List.set_cons_succ, List.set_cons_zero, e2]
  clear hF e2
  replace hI2 := hide hI2
  obtain ⟨hcell, hfr⟩ := hE.cells
  replace hE := hide hE
  go_wp2
  refine bodyPost_ret (v := .agg #[.bool b2, .slice A2 n2 k2]) (by simp [results, Tryz.results131, go_sem, hcell]) rfl ⟨_, _, _, _, rfl, ?_, ?_⟩
  ·have ht : Ty w' (w.heap.size + 1) 27 := by simpa using (Ty.new (w.alloc (.cells #[Value.bool b, Value.slice A n c] 27)) _ _).ext ((Ext.refl _).drew.trans hE.out)
   exact (hI2.out.set ht (by decide) _).set (ht.set _ _) (by decide) _
  ·exact (((((Ext.refl _).alloc _).alloc _).drew.trans hE.out).set (by simp) _).set (by simp) _
end Go.Proofs.YteicdddphdomkaaGreat
namespace Go.Proofs.YteicdddphdomkaaGreat
open Go.RowKit
theorem sgn_mul (x y : Int) : sgn (!(decide (x < 0) == decide (y < 0))) (x.natAbs * y.natAbs) = x * y := by
 have h := sgn_self (z := x)
 have h' := sgn_self (z := y)
 generalize decide (x < 0) = p at *
 generalize decide (y < 0) = q at *
 generalize x.natAbs = m at *
 generalize y.natAbs = n at *
 subst h; subst h'
 cases p <;> cases q <;> simp [sgn, Int.natCast_mul, Int.neg_mul, Int.mul_neg]
set_option maxRecDepth 100000 in
set_option maxHeartbeats 800000 in
theorem mul_any (b b' : Bool) (A A' : Option Addr) (n c n' c' : Nat) (x y : Int) (w : World) (h : IsInt w (.bool b) (.slice A n c) x) (h' : IsInt w (.bool b') (.slice A' n' c') y) (hn : (digs x.natAbs).length ≤ 4398046511104) (hn' : (digs y.natAbs).length ≤ 4398046511104) :
  Calls Tryz.prog 158 #[.agg #[.bool b, .slice A n c], .agg #[.bool b', .slice A' n' c']] w (RetInt (x * y) w) := by
 replace h := hide h
 replace h' := hide h'
 replace hn := hide hn
 replace hn' := hide hn'
 go_enter Tryz.func158, Tryz.ntmps158
 go_wp2
 refine wp_region_v (by kernel_rfl) [[], [(5, 0)], [], [(7, 2)], [(6, 1), (8, 3)], [], [(10, 5)], [], [(12, 7)], [(11, 6), (13, 8)], [(9, 4), (14, 9)]] [[], [0], [], [2], [0, 1, 2, 3], [], [5], [], [7], [5, 6, 7, 8], [0, 1, 2, 3, 4, 5, 6, 7, 8, 9]]
  [fun v _ => v = .pointer (some ⟨w.heap.size, 0, none⟩), fun v _ => v = .bool b, fun v _ => v = .pointer (some ⟨w.heap.size + 1, 0, none⟩), fun v _ => v = .bool b', fun v _ => v = .bool (!(b == b')), fun v _ => v = .pointer (some ⟨w.heap.size, 1, none⟩), fun v _ => v = .slice A n c, fun v _ => v = .pointer (some ⟨w.heap.size + 1, 1, none⟩), fun v _ => v = .slice A' n' c', fun v w' => Words w' v (digs (val (digs x.natAbs) * val (digs y.natAbs))), fun v w' => ∃ b A n c, v = .agg #[.bool b, .slice A n c] ∧ IsInt w' (.bool b) (.slice A n c) (x * y)]
  rfl (by kernel_rfl) (by kernel_rfl) ?stab ?steps ?fin
 case stab => exact .cons (Stab.eq _) (.cons (Stab.eq _) (.cons (Stab.eq _) (.cons (Stab.eq _) (.cons (Stab.eq _) (.cons (Stab.eq _) (.cons (Stab.eq _) (.cons (Stab.eq _) (.cons (Stab.eq _) (.cons (fun _ _ _ he h => h.ext he) (.cons (fun _ _ _ he ⟨b, A, n, c, h1, h2⟩ => ⟨b, A, n, c, h1, h2.ext he⟩) .nil))))))))))
 case steps =>
  refine .cons ?s0 (.cons ?s1 (.cons ?s2 (.cons ?s3 (.cons ?s4 (.cons ?s5 (.cons ?s6 (.cons ?s7 (.cons ?s8 (.cons ?s9 (.cons ?s10 .nil))))))))))
  case s0 =>
   intro w' ev hE hk ha hc hf
   have e2 : ev (.tmp 2) = .pointer (some ⟨w.heap.size, 0, none⟩) := ha 2 (by decide)
   exact opStep_val (by simp [execOp, e2, go_sem]) rfl
  case s1 =>
   intro w' ev hE hk ha hc hf
   have e5 : ev (.tmp 5) = .pointer (some ⟨w.heap.size, 0, none⟩) := hk.1 _ rfl
   have c0 : w'.cell? ⟨w.heap.size, 0, none⟩ = some (.bool b) := hE.cellv (((((Blk.new _ _ _).alloc _).alloc _).drew.cell 0))
   exact opStep_val (by simp [execOp, e5, c0, go_sem]) rfl
  case s2 =>
   intro w' ev hE hk ha hc hf
   have e3 : ev (.tmp 3) = .pointer (some ⟨w.heap.size + 1, 0, none⟩) := ha 3 (by decide)
   exact opStep_val (by simp [execOp, e3, go_sem]) rfl
  case s3 =>
   intro w' ev hE hk ha hc hf
   have e7 : ev (.tmp 7) = .pointer (some ⟨w.heap.size + 1, 0, none⟩) := hk.1 _ rfl
   have c0 : w'.cell? ⟨w.heap.size + 1, 0, none⟩ = some (.bool b') := hE.cellv ((((Blk.new' _ _ (by simp)).alloc _).drew.cell 0))
   exact opStep_val (by simp [execOp, e7, c0, go_sem]) rfl
  case s4 =>
   intro w' ev hE hk ha hc hf
   have e6 : ev (.tmp 6) = .bool b := hk.1 _ rfl
   have e8 : ev (.tmp 8) = .bool b' := hk.2.1 _ rfl
   exact opStep_val (by simp [execOp, e6, e8, go_sem]) rfl
  case s5 =>
   intro w' ev hE hk ha hc hf
   have e2 : ev (.tmp 2) = .pointer (some ⟨w.heap.size, 0, none⟩) := ha 2 (by decide)
   exact opStep_val (by simp [execOp, e2, go_sem]) rfl
  case s6 =>
   intro w' ev hE hk ha hc hf
   have e10 : ev (.tmp 10) = .pointer (some ⟨w.heap.size, 1, none⟩) := hk.1 _ rfl
   have c0 : w'.cell? ⟨w.heap.size, 1, none⟩ = some (.slice A n c) := hE.cellv (((((Blk.new _ _ _).alloc _).alloc _).drew.cell 1))
   exact opStep_val (by simp [execOp, e10, c0, go_sem]) rfl
  case s7 =>
   intro w' ev hE hk ha hc hf
   have e3 : ev (.tmp 3) = .pointer (some ⟨w.heap.size + 1, 0, none⟩) := ha 3 (by decide)
   exact opStep_val (by simp [execOp, e3, go_sem]) rfl
  case s8 =>
   intro w' ev hE hk ha hc hf
   have e12 : ev (.tmp 12) = .pointer (some ⟨w.heap.size + 1, 1, none⟩) := hk.1 _ rfl
   have c0 : w'.cell? ⟨w.heap.size + 1, 1, none⟩ = some (.slice A' n' c') := hE.cellv ((((Blk.new' _ _ (by simp)).alloc _).drew.cell 1))
   exact opStep_val (by simp [execOp, e12, c0, go_sem]) rfl
  case s9 =>
   intro w' ev hE hk ha hc hf
   have e11 : ev (.tmp 11) = .slice A n c := hk.1 _ rfl
   have e13 : ev (.tmp 13) = .slice A' n' c' := hk.2.1 _ rfl
   refine opStep_call (by simp [execOp, resolve, invoke, hf, e11, e13, go_sem]) (product_any _ _ _ _ _ (h.out.2.ext (((((Ext.refl _).alloc _).alloc _).alloc _).drew.trans hE)) (h'.out.2.ext (((((Ext.refl _).alloc _).alloc _).alloc _).drew.trans hE)) hn.out hn'.out) ?_
   rintro e w1 ⟨v1, rfl, hW1, hE1⟩
   exact ⟨v1, rfl, hE1, hW1⟩
  case s10 =>
   intro w' ev hE hk ha hc hf
   have e9 : ev (.tmp 9) = .bool (!(b == b')) := hk.1 _ rfl
   have f14 := hk.2.1 _ rfl
   refine opStep_call (by simp [execOp, resolve, invoke, hf, e9, go_sem]) (signed_any (!(b == b')) _ _ _ f14) ?_
   rintro e w1 ⟨b1, A1, n1, k1, rfl, hI1, hE1⟩
   exact ⟨_, rfl, hE1, b1, A1, n1, k1, rfl, by rw [val_digs, val_digs, val_digs, h.out.bool_eq, h'.out.bool_eq, sgn_mul] at hI1; exact hI1⟩
 case fin =>
  intro g w' hE hF
  obtain ⟨b2, A2, n2, k2, e2, hI2⟩ := hF 10 _ rfl
  simp only [List.length_cons, List.length_nil, Nat.reduceAdd, List.drop_succ_cons, List.drop_zero, List.take_succ_cons, List.take_zero, putG, Act.put, List.setIfInBounds_toArray, List.set_cons_succ, List.set_cons_zero, e2]
  clear hF e2
  replace hI2 := hide hI2
  obtain ⟨hcell, hfr⟩ := hE.cells
  replace hE := hide hE
  go_wp2
  refine bodyPost_ret (v := .agg #[.bool b2, .slice A2 n2 k2]) (by simp [results, Tryz.results158, go_sem, hcell]) rfl ⟨_, _, _, _, rfl, ?_, ?_⟩
  ·have ht : Ty w' (w.heap.size + 2) 27 := (Ty.new' _ _ (by simp)).drew.ext hE.out
   exact (hI2.out.set ht (by decide) _).set (ht.set _ _) (by decide) _
  ·exact ((((((Ext.refl _).alloc _).alloc _).alloc _).drew.trans hE.out).set (by simp <;> omega) _).set (by simp <;> omega) _
theorem sgn_add_same {x y : Int} (h : decide (x < 0) = decide (y < 0)) : sgn (decide (x < 0)) (x.natAbs + y.natAbs) = x + y := by
 by_cases hx : x < 0 <;> by_cases hy : y < 0 <;> simp [hx, hy] at h <;> simp [sgn, hx] <;> omega
theorem sgn_add_ge {x y : Int} (h : ¬ decide (x < 0) = decide (y < 0)) (hle : y.natAbs ≤ x.natAbs) : sgn (decide (x < 0)) (x.natAbs - y.natAbs) = x + y := by
 by_cases hx : x < 0 <;> by_cases hy : y < 0 <;> simp [hx, hy] at h <;> simp [sgn, hx] <;> omega
theorem sgn_add_lt {x y : Int} (h : ¬ decide (x < 0) = decide (y < 0)) (hle : x.natAbs ≤ y.natAbs) : sgn (decide (y < 0)) (y.natAbs - x.natAbs) = x + y := by
 by_cases hx : x < 0 <;> by_cases hy : y < 0 <;> simp [hx, hy] at h <;> simp [sgn, hy] <;> omega
set_option maxRecDepth 100000 in
set_option maxHeartbeats 800000 in
theorem add_same (b b' : Bool) (A A' : Option Addr) (n c n' c' : Nat) (x y : Int) (w : World) (h : IsInt w (.bool b) (.slice A n c) x) (h' : IsInt w (.bool b') (.slice A' n' c') y) (hn : (digs x.natAbs).length ≤ 4398046511104) (hn' : (digs y.natAbs).length ≤ 4398046511104) (hb : b = b') :
  Calls Tryz.prog 137 #[.agg #[.bool b, .slice A n c], .agg #[.bool b', .slice A' n' c']] w (RetInt (x + y) w) := by
 have hd := hide h.bool_eq
 have hd' := hide h'.bool_eq
 replace h := hide h
 replace h' := hide h'
 replace hn := hide hn
 replace hn' := hide hn'
 have hbb : (b == b') = true := by simpa using hb
 replace hb := hide hb
 go_enter Tryz.func137, Tryz.ntmps137
 go_wp2
 refine wp_region_v (by kernel_rfl) [[], [(10, 0)], [], [(12, 2)], [], [(14, 4)], [(13, 3), (15, 5)], [(11, 1), (16, 6)]] [[], [0], [], [2], [], [4], [2, 3, 4, 5], [0, 1, 2, 3, 4, 5, 6]]
  [fun v _ => v = .pointer (some ⟨w.heap.size, 0, none⟩), fun v _ => v = .bool b, fun v _ => v = .pointer (some ⟨w.heap.size, 1, none⟩), fun v _ => v = .slice A n c, fun v _ => v = .pointer (some ⟨w.heap.size + 1, 1, none⟩), fun v _ => v = .slice A' n' c', fun v w' => Words w' v (digs (val (digs x.natAbs) + val (digs y.natAbs))), fun v w' => ∃ b A n c, v = .agg #[.bool b, .slice A n c] ∧ IsInt w' (.bool b) (.slice A n c) (x + y)]
  rfl (by kernel_rfl) (by kernel_rfl) ?stab ?steps ?fin
 case stab => exact .cons (Stab.eq _) (.cons (Stab.eq _) (.cons (Stab.eq _) (.cons (Stab.eq _) (.cons (Stab.eq _) (.cons (Stab.eq _) (.cons (fun _ _ _ he h => h.ext he) (.cons (fun _ _ _ he ⟨b, A, n, c, h1, h2⟩ => ⟨b, A, n, c, h1, h2.ext he⟩) .nil)))))))
 case steps =>
  refine .cons ?s0 (.cons ?s1 (.cons ?s2 (.cons ?s3 (.cons ?s4 (.cons ?s5 (.cons ?s6 (.cons ?s7 .nil)))))))
  case s0 =>
   intro w' ev hE hk ha hc hf
   have e2 : ev (.tmp 2) = .pointer (some ⟨w.heap.size, 0, none⟩) := ha 2 (by decide)
   exact opStep_val (by simp [execOp, e2, go_sem]) rfl
  case s1 =>
   intro w' ev hE hk ha hc hf
   have e10 : ev (.tmp 10) = .pointer (some ⟨w.heap.size, 0, none⟩) := hk.1 _ rfl
   have c0 : w'.cell? ⟨w.heap.size, 0, none⟩ = some (.bool b) := hE.cellv (((((Blk.new _ _ _).alloc _).alloc _).drew.cell 0))
   exact opStep_val (by simp [execOp, e10, c0, go_sem]) rfl
  case s2 =>
   intro w' ev hE hk ha hc hf
   have e2 : ev (.tmp 2) = .pointer (some ⟨w.heap.size, 0, none⟩) := ha 2 (by decide)
   exact opStep_val (by simp [execOp, e2, go_sem]) rfl
  case s3 =>
   intro w' ev hE hk ha hc hf
   have e12 : ev (.tmp 12) = .pointer (some ⟨w.heap.size, 1, none⟩) := hk.1 _ rfl
   have c0 : w'.cell? ⟨w.heap.size, 1, none⟩ = some (.slice A n c) := hE.cellv (((((Blk.new _ _ _).alloc _).alloc _).drew.cell 1))
   exact opStep_val (by simp [execOp, e12, c0, go_sem]) rfl
  case s4 =>
   intro w' ev hE hk ha hc hf
   have e3 : ev (.tmp 3) = .pointer (some ⟨w.heap.size + 1, 0, none⟩) := ha 3 (by decide)
   exact opStep_val (by simp [execOp, e3, go_sem]) rfl
  case s5 =>
   intro w' ev hE hk ha hc hf
   have e14 : ev (.tmp 14) = .pointer (some ⟨w.heap.size + 1, 1, none⟩) := hk.1 _ rfl
   have c0 : w'.cell? ⟨w.heap.size + 1, 1, none⟩ = some (.slice A' n' c') := hE.cellv ((((Blk.new' _ _ (by simp)).alloc _).drew.cell 1))
   exact opStep_val (by simp [execOp, e14, c0, go_sem]) rfl
  case s6 =>
   intro w' ev hE hk ha hc hf
   have e13 : ev (.tmp 13) = .slice A n c := hk.1 _ rfl
   have e15 : ev (.tmp 15) = .slice A' n' c' := hk.2.1 _ rfl
   refine opStep_call (by simp [execOp, resolve, invoke, hf, e13, e15, go_sem]) (sum_any _ _ _ _ _ (h.out.2.ext (((((Ext.refl _).alloc _).alloc _).alloc _).drew.trans hE)) (h'.out.2.ext (((((Ext.refl _).alloc _).alloc _).alloc _).drew.trans hE)) hn.out hn'.out) ?_
   rintro e w1 ⟨v1, rfl, hW1, hE1⟩
   exact ⟨v1, rfl, hE1, hW1⟩
  case s7 =>
   intro w' ev hE hk ha hc hf
   have e11 : ev (.tmp 11) = .bool b := hk.1 _ rfl
   have f16 := hk.2.1 _ rfl
   refine opStep_call (by simp [execOp, resolve, invoke, hf, e11, go_sem]) (signed_any b _ _ _ f16) ?_
   rintro e w1 ⟨b1, A1, n1, k1, rfl, hI1, hE1⟩
   exact ⟨_, rfl, hE1, b1, A1, n1, k1, rfl, by have hb := hb.out; rw [hd.out, hd'.out] at hb; rw [val_digs, val_digs, val_digs, hd.out, sgn_add_same hb] at hI1; exact hI1⟩
 case fin =>
  intro g w' hE hF
  obtain ⟨b2, A2, n2, k2, e2, hI2⟩ := hF 7 _ rfl
  simp only [List.length_cons, List.length_nil, Nat.reduceAdd, List.drop_succ_cons, List.drop_zero, List.take_succ_cons, List.take_zero, putG, Act.put, List.setIfInBounds_toArray, List.set_cons_succ, List.set_cons_zero, e2]
  clear hF e2
  replace hI2 := hide hI2
  obtain ⟨hcell, hfr⟩ := hE.cells
  replace hE := hide hE
  go_wp2
  refine bodyPost_ret (v := .agg #[.bool b2, .slice A2 n2 k2]) (by simp [results, Tryz.results137, go_sem, hcell]) rfl ⟨_, _, _, _, rfl, ?_, ?_⟩
  ·have ht : Ty w' (w.heap.size + 2) 27 := (Ty.new' _ _ (by simp)).drew.ext hE.out
   exact (hI2.out.set ht (by decide) _).set (ht.set _ _) (by decide) _
  ·exact ((((((Ext.refl _).alloc _).alloc _).alloc _).drew.trans hE.out).set (by simp <;> omega) _).set (by simp <;> omega) _
set_option maxRecDepth 100000 in
set_option maxHeartbeats 800000 in
theorem add_ge (b b' : Bool) (A A' : Option Addr) (n c n' c' : Nat) (x y : Int) (w : World) (h : IsInt w (.bool b) (.slice A n c) x) (h' : IsInt w (.bool b') (.slice A' n' c') y) (hn : (digs x.natAbs).length ≤ 4398046511104) (hn' : (digs y.natAbs).length ≤ 4398046511104) (hb : ¬ b = b') (hle : y.natAbs ≤ x.natAbs) :
  Calls Tryz.prog 137 #[.agg #[.bool b, .slice A n c], .agg #[.bool b', .slice A' n' c']] w (RetInt (x + y) w) := by
 have hd := hide h.bool_eq
 have hd' := hide h'.bool_eq
 replace h := hide h
 replace h' := hide h'
 replace hn := hide hn
 replace hn' := hide hn'
 have hbb : (b == b') = false := by simpa using hb
 replace hb := hide hb
 have hcmp : 0 ≤ cmpN x.natAbs y.natAbs := by
  unfold cmpN
  rw [if_neg (by omega)]; split <;> omega
 replace hle := hide hle
 go_enter Tryz.func137, Tryz.ntmps137
 go_wp2_with (go_at_call 163; refine (compare_any _ _ _ _ _ (h.out.2.ext ((((Ext.refl _).alloc _).alloc _).alloc _)) (h'.out.2.ext ((((Ext.refl _).alloc _).alloc _).alloc _))).mono ?_; rintro e w1 ⟨rfl, hE0⟩; replace hE0 := hide hE0; obtain ⟨hc0, hf0⟩ := hE0.out.cells)
 refine wp_region_v (by kernel_rfl) [[], [(24, 0)], [], [(26, 2)], [], [(28, 4)], [(27, 3), (29, 5)], [(25, 1), (30, 6)]] [[], [0], [], [2], [], [4], [2, 3, 4, 5], [0, 1, 2, 3, 4, 5, 6]]
  [fun v _ => v = .pointer (some ⟨w.heap.size, 0, none⟩), fun v _ => v = .bool b, fun v _ => v = .pointer (some ⟨w.heap.size, 1, none⟩), fun v _ => v = .slice A n c, fun v _ => v = .pointer (some ⟨w.heap.size + 1, 1, none⟩), fun v _ => v = .slice A' n' c', fun v w' => Words w' v (digs (val (digs x.natAbs) - val (digs y.natAbs))), fun v w' => ∃ b A n c, v = .agg #[.bool b, .slice A n c] ∧ IsInt w' (.bool b) (.slice A n c) (x + y)]
  rfl (by kernel_rfl) (by kernel_rfl) ?stab ?steps ?fin
 case stab => exact .cons (Stab.eq _) (.cons (Stab.eq _) (.cons (Stab.eq _) (.cons (Stab.eq _) (.cons (Stab.eq _) (.cons (Stab.eq _) (.cons (fun _ _ _ he h => h.ext he) (.cons (fun _ _ _ he ⟨b, A, n, c, h1, h2⟩ => ⟨b, A, n, c, h1, h2.ext he⟩) .nil)))))))
 case steps =>
  refine .cons ?s0 (.cons ?s1 (.cons ?s2 (.cons ?s3 (.cons ?s4 (.cons ?s5 (.cons ?s6 (.cons ?s7 .nil)))))))
  case s0 =>
   intro w' ev hE hk ha hc hf
   have e2 : ev (.tmp 2) = .pointer (some ⟨w.heap.size, 0, none⟩) := ha 2 (by decide)
   exact opStep_val (by simp [execOp, e2, go_sem]) rfl
  case s1 =>
   intro w' ev hE hk ha hc hf
   have e24 : ev (.tmp 24) = .pointer (some ⟨w.heap.size, 0, none⟩) := hk.1 _ rfl
   have c0 : w'.cell? ⟨w.heap.size, 0, none⟩ = some (.bool b) := hE.cellv ((hE0.out.cellv (((Blk.new _ _ _).alloc _).alloc _ |>.cell 0)))
   exact opStep_val (by simp [execOp, e24, c0, go_sem]) rfl
  case s2 =>
   intro w' ev hE hk ha hc hf
   have e2 : ev (.tmp 2) = .pointer (some ⟨w.heap.size, 0, none⟩) := ha 2 (by decide)
   exact opStep_val (by simp [execOp, e2, go_sem]) rfl
  case s3 =>
   intro w' ev hE hk ha hc hf
   have e26 : ev (.tmp 26) = .pointer (some ⟨w.heap.size, 1, none⟩) := hk.1 _ rfl
   have c0 : w'.cell? ⟨w.heap.size, 1, none⟩ = some (.slice A n c) := hE.cellv ((hE0.out.cellv (((Blk.new _ _ _).alloc _).alloc _ |>.cell 1)))
   exact opStep_val (by simp [execOp, e26, c0, go_sem]) rfl
  case s4 =>
   intro w' ev hE hk ha hc hf
   have e3 : ev (.tmp 3) = .pointer (some ⟨w.heap.size + 1, 0, none⟩) := ha 3 (by decide)
   exact opStep_val (by simp [execOp, e3, go_sem]) rfl
  case s5 =>
   intro w' ev hE hk ha hc hf
   have e28 : ev (.tmp 28) = .pointer (some ⟨w.heap.size + 1, 1, none⟩) := hk.1 _ rfl
   have c0 : w'.cell? ⟨w.heap.size + 1, 1, none⟩ = some (.slice A' n' c') := hE.cellv ((hE0.out.cellv ((Blk.new' _ _ (by simp)).alloc _ |>.cell 1)))
   exact opStep_val (by simp [execOp, e28, c0, go_sem]) rfl
  case s6 =>
   intro w' ev hE hk ha hc hf
   have e27 : ev (.tmp 27) = .slice A n c := hk.1 _ rfl
   have e29 : ev (.tmp 29) = .slice A' n' c' := hk.2.1 _ rfl
   refine opStep_call (by simp [execOp, resolve, invoke, hf, e27, e29, go_sem]) (difference_any _ _ _ _ _ (h.out.2.ext ((((Ext.refl _).alloc _).alloc _).alloc _ |>.trans (hE0.out.trans ((Ext.refl _).drew.trans hE)))) (h'.out.2.ext ((((Ext.refl _).alloc _).alloc _).alloc _ |>.trans (hE0.out.trans ((Ext.refl _).drew.trans hE)))) (by rw [val_digs, val_digs]; exact hle.out) (digs_length_mono hle.out) hn.out) ?_
   rintro e w1 ⟨v1, rfl, hW1, hE1⟩
   exact ⟨v1, rfl, hE1, hW1⟩
  case s7 =>
   intro w' ev hE hk ha hc hf
   have e25 : ev (.tmp 25) = .bool b := hk.1 _ rfl
   have f30 := hk.2.1 _ rfl
   refine opStep_call (by simp [execOp, resolve, invoke, hf, e25, go_sem]) (signed_any b _ _ _ f30) ?_
   rintro e w1 ⟨b1, A1, n1, k1, rfl, hI1, hE1⟩
   exact ⟨_, rfl, hE1, b1, A1, n1, k1, rfl, by have hb := hb.out; rw [hd.out, hd'.out] at hb; rw [val_digs, val_digs, val_digs, hd.out, sgn_add_ge hb hle.out] at hI1; exact hI1⟩
 case fin =>
  intro g w' hE hF
  obtain ⟨b2, A2, n2, k2, e2, hI2⟩ := hF 7 _ rfl
  simp only [List.length_cons, List.length_nil, Nat.reduceAdd, List.drop_succ_cons, List.drop_zero, List.take_succ_cons, List.take_zero, putG, Act.put, List.setIfInBounds_toArray, List.set_cons_succ, List.set_cons_zero, e2]
  clear hF e2
  replace hI2 := hide hI2
  replace hE := hE0.out.trans ((Ext.refl _).drew.trans hE)
  obtain ⟨hcell, hfr⟩ := hE.cells
  replace hE := hide hE
  clear hc0 hf0
  go_wp2
  refine bodyPost_ret (v := .agg #[.bool b2, .slice A2 n2 k2]) (by simp [results, Tryz.results137, go_sem, hcell]) rfl ⟨_, _, _, _, rfl, ?_, ?_⟩
  ·have ht : Ty w' (w.heap.size + 2) 27 := (Ty.new' _ _ (by simp)).ext hE.out
   exact (hI2.out.set ht (by decide) _).set (ht.set _ _) (by decide) _
  ·exact (((((Ext.refl _).alloc _).alloc _).alloc _ |>.trans hE.out).set (by simp <;> omega) _).set (by simp <;> omega) _
set_option maxRecDepth 100000 in
set_option maxHeartbeats 800000 in
theorem add_lt (b b' : Bool) (A A' : Option Addr) (n c n' c' : Nat) (x y : Int) (w : World) (h : IsInt w (.bool b) (.slice A n c) x) (h' : IsInt w (.bool b') (.slice A' n' c') y) (hn : (digs x.natAbs).length ≤ 4398046511104) (hn' : (digs y.natAbs).length ≤ 4398046511104) (hb : ¬ b = b') (hle : x.natAbs < y.natAbs) :
  Calls Tryz.prog 137 #[.agg #[.bool b, .slice A n c], .agg #[.bool b', .slice A' n' c']] w (RetInt (x + y) w) := by
 have hd := hide h.bool_eq
 have hd' := hide h'.bool_eq
 replace h := hide h
 replace h' := hide h'
 replace hn := hide hn
 replace hn' := hide hn'
 have hbb : (b == b') = false := by simpa using hb
 replace hb := hide hb
 have hcmp : cmpN x.natAbs y.natAbs < 0 := by
  unfold cmpN
  rw [if_pos hle]; omega
 replace hle := hide hle
 go_enter Tryz.func137, Tryz.ntmps137
 go_wp2_with (go_at_call 163; refine (compare_any _ _ _ _ _ (h.out.2.ext ((((Ext.refl _).alloc _).alloc _).alloc _)) (h'.out.2.ext ((((Ext.refl _).alloc _).alloc _).alloc _))).mono ?_; rintro e w1 ⟨rfl, hE0⟩; replace hE0 := hide hE0; obtain ⟨hc0, hf0⟩ := hE0.out.cells)
 refine wp_region_v (by kernel_rfl) [[], [(32, 0)], [], [(34, 2)], [], [(36, 4)], [(35, 3), (37, 5)], [(33, 1), (38, 6)]] [[], [0], [], [2], [], [4], [2, 3, 4, 5], [0, 1, 2, 3, 4, 5, 6]]
  [fun v _ => v = .pointer (some ⟨w.heap.size + 1, 0, none⟩), fun v _ => v = .bool b', fun v _ => v = .pointer (some ⟨w.heap.size + 1, 1, none⟩), fun v _ => v = .slice A' n' c', fun v _ => v = .pointer (some ⟨w.heap.size, 1, none⟩), fun v _ => v = .slice A n c, fun v w' => Words w' v (digs (val (digs y.natAbs) - val (digs x.natAbs))), fun v w' => ∃ b A n c, v = .agg #[.bool b, .slice A n c] ∧ IsInt w' (.bool b) (.slice A n c) (x + y)]
  rfl (by kernel_rfl) (by kernel_rfl) ?stab ?steps ?fin
 case stab => exact .cons (Stab.eq _) (.cons (Stab.eq _) (.cons (Stab.eq _) (.cons (Stab.eq _) (.cons (Stab.eq _) (.cons (Stab.eq _) (.cons (fun _ _ _ he h => h.ext he) (.cons (fun _ _ _ he ⟨b, A, n, c, h1, h2⟩ => ⟨b, A, n, c, h1, h2.ext he⟩) .nil)))))))
 case steps =>
  refine .cons ?s0 (.cons ?s1 (.cons ?s2 (.cons ?s3 (.cons ?s4 (.cons ?s5 (.cons ?s6 (.cons ?s7 .nil)))))))
  case s0 =>
   intro w' ev hE hk ha hc hf
   have e3 : ev (.tmp 3) = .pointer (some ⟨w.heap.size + 1, 0, none⟩) := ha 3 (by decide)
   exact opStep_val (by simp [execOp, e3, go_sem]) rfl
  case s1 =>
   intro w' ev hE hk ha hc hf
   have e32 : ev (.tmp 32) = .pointer (some ⟨w.heap.size + 1, 0, none⟩) := hk.1 _ rfl
   have c0 : w'.cell? ⟨w.heap.size + 1, 0, none⟩ = some (.bool b') := hE.cellv ((hE0.out.cellv ((Blk.new' _ _ (by simp)).alloc _ |>.cell 0)))
   exact opStep_val (by simp [execOp, e32, c0, go_sem]) rfl
  case s2 =>
   intro w' ev hE hk ha hc hf
   have e3 : ev (.tmp 3) = .pointer (some ⟨w.heap.size + 1, 0, none⟩) := ha 3 (by decide)
   exact opStep_val (by simp [execOp, e3, go_sem]) rfl
  case s3 =>
   intro w' ev hE hk ha hc hf
   have e34 : ev (.tmp 34) = .pointer (some ⟨w.heap.size + 1, 1, none⟩) := hk.1 _ rfl
   have c0 : w'.cell? ⟨w.heap.size + 1, 1, none⟩ = some (.slice A' n' c') := hE.cellv ((hE0.out.cellv ((Blk.new' _ _ (by simp)).alloc _ |>.cell 1)))
   exact opStep_val (by simp [execOp, e34, c0, go_sem]) rfl
  case s4 =>
   intro w' ev hE hk ha hc hf
   have e2 : ev (.tmp 2) = .pointer (some ⟨w.heap.size, 0, none⟩) := ha 2 (by decide)
   exact opStep_val (by simp [execOp, e2, go_sem]) rfl
  case s5 =>
   intro w' ev hE hk ha hc hf
   have e36 : ev (.tmp 36) = .pointer (some ⟨w.heap.size, 1, none⟩) := hk.1 _ rfl
   have c0 : w'.cell? ⟨w.heap.size, 1, none⟩ = some (.slice A n c) := hE.cellv ((hE0.out.cellv (((Blk.new _ _ _).alloc _).alloc _ |>.cell 1)))
   exact opStep_val (by simp [execOp, e36, c0, go_sem]) rfl
  case s6 =>
   intro w' ev hE hk ha hc hf
   have e35 : ev (.tmp 35) = .slice A' n' c' := hk.1 _ rfl
   have e37 : ev (.tmp 37) = .slice A n c := hk.2.1 _ rfl
   refine opStep_call (by simp [execOp, resolve, invoke, hf, e35, e37, go_sem]) (difference_any _ _ _ _ _ (h'.out.2.ext ((((Ext.refl _).alloc _).alloc _).alloc _ |>.trans (hE0.out.trans ((Ext.refl _).drew.trans hE)))) (h.out.2.ext ((((Ext.refl _).alloc _).alloc _).alloc _ |>.trans (hE0.out.trans ((Ext.refl _).drew.trans hE)))) (by rw [val_digs, val_digs]; exact Nat.le_of_lt hle.out) (digs_length_mono (Nat.le_of_lt hle.out)) hn'.out) ?_
   rintro e w1 ⟨v1, rfl, hW1, hE1⟩
   exact ⟨v1, rfl, hE1, hW1⟩
  case s7 =>
   intro w' ev hE hk ha hc hf
   have e33 : ev (.tmp 33) = .bool b' := hk.1 _ rfl
   have f38 := hk.2.1 _ rfl
   refine opStep_call (by simp [execOp, resolve, invoke, hf, e33, go_sem]) (signed_any b' _ _ _ f38) ?_
   rintro e w1 ⟨b1, A1, n1, k1, rfl, hI1, hE1⟩
   exact ⟨_, rfl, hE1, b1, A1, n1, k1, rfl, by have hb := hb.out; rw [hd.out, hd'.out] at hb; rw [val_digs, val_digs, val_digs, hd'.out, sgn_add_lt hb (Nat.le_of_lt hle.out)] at hI1; exact hI1⟩
 case fin =>
  intro g w' hE hF
  obtain ⟨b2, A2, n2, k2, e2, hI2⟩ := hF 7 _ rfl
  simp only [List.length_cons, List.length_nil, Nat.reduceAdd, List.drop_succ_cons, List.drop_zero, List.take_succ_cons, List.take_zero, putG, Act.put, List.setIfInBounds_toArray, List.set_cons_succ, List.set_cons_zero, e2]
  clear hF e2
  replace hI2 := hide hI2
  replace hE := hE0.out.trans ((Ext.refl _).drew.trans hE)
  obtain ⟨hcell, hfr⟩ := hE.cells
  replace hE := hide hE
  clear hc0 hf0
  go_wp2
  refine bodyPost_ret (v := .agg #[.bool b2, .slice A2 n2 k2]) (by simp [results, Tryz.results137, go_sem, hcell]) rfl ⟨_, _, _, _, rfl, ?_, ?_⟩
  ·have ht : Ty w' (w.heap.size + 2) 27 := (Ty.new' _ _ (by simp)).ext hE.out
   exact (hI2.out.set ht (by decide) _).set (ht.set _ _) (by decide) _
  ·exact (((((Ext.refl _).alloc _).alloc _).alloc _ |>.trans hE.out).set (by simp <;> omega) _).set (by simp <;> omega) _
theorem add_any (b b' : Bool) (A A' : Option Addr) (n c n' c' : Nat) (x y : Int) (w : World) (h : IsInt w (.bool b) (.slice A n c) x) (h' : IsInt w (.bool b') (.slice A' n' c') y) (hn : (digs x.natAbs).length ≤ 4398046511104) (hn' : (digs y.natAbs).length ≤ 4398046511104) :
  Calls Tryz.prog 137 #[.agg #[.bool b, .slice A n c], .agg #[.bool b', .slice A' n' c']] w (RetInt (x + y) w) := by
 by_cases hb : b = b'
 ·exact add_same b b' A A' n c n' c' x y w h h' hn hn' hb
 ·rcases Nat.lt_or_ge x.natAbs y.natAbs with hl | hl
  ·exact add_lt b b' A A' n c n' c' x y w h h' hn hn' hb hl
  ·exact add_ge b b' A A' n c n' c' x y w h h' hn hn' hb hl
end Go.Proofs.YteicdddphdomkaaGreat
namespace Go.Proofs.YteicdddphdomkaaGreat
open Go.RowKit
structure GS where
 S : Nat → Nat → Prop
 tag : Nat → Nat
 w : World
structure GS.Ok (s : GS) : Prop where
 lt : ∀ b k, s.S b k → b < s.w.heap.size
 safe : ∀ b k, Ty s.w b 137 → s.S b k
structure GS.Chg (s s' : GS) : Prop where
 size : s.w.heap.size ≤ s'.w.heap.size
 up : ∀ b k, s.S b k → s'.S b k
 cell : ∀ b cs T fz, s.w.heap[b]? = some (.cells cs T fz) → ∃ cs' fz', s'.w.heap[b]? = some (.cells cs' T fz') ∧ ∀ k, s.S b k → cs'[k]? = cs[k]?
structure GS.Le (s s' : GS) : Prop where
 ext : Ext s.w s'.w
 up : ∀ b k, s.S b k → s'.S b k
 old : ∀ b k, b < s.w.heap.size → s'.S b k → s.S b k
 tag : ∀ b, b < s.w.heap.size → s'.tag b = s.tag b
 ok : s.Ok → s'.Ok
theorem GS.Le.refl (s : GS) : GS.Le s s := ⟨Ext.refl _, fun _ _ h => h, fun _ _ _ h => h, fun _ _ => rfl, fun h => h⟩
theorem GS.Le.trans {a b c : GS} (h : GS.Le a b) (k : GS.Le b c) : GS.Le a c :=
 ⟨h.ext.trans k.ext, fun b k' h' => k.up _ _ (h.up _ _ h'), fun x k' hx h' => h.old _ _ hx (k.old _ _ (Nat.lt_of_lt_of_le hx h.ext.size) h'), fun x hx => (k.tag x (Nat.lt_of_lt_of_le hx h.ext.size)).trans (h.tag x hx), fun h' => k.ok (h.ok h')⟩
theorem GS.Le.chg {a b : GS} (h : GS.Le a b) : GS.Chg a b := ⟨h.ext.size, h.up, fun x cs T fz hx => ⟨cs, fz, (h.ext.block (lt_of_heap hx)).trans hx, fun _ _ => rfl⟩⟩
theorem GS.Chg.refl (s : GS) : GS.Chg s s := (GS.Le.refl s).chg
theorem GS.Le.heap {s : GS} {w' : World} (h : Ext s.w w') (he : w'.heap = s.w.heap) : GS.Le s { s with w := w' } :=
 ⟨h, fun _ _ h => h, fun _ _ _ h => h, fun _ _ => rfl, fun h' => ⟨fun b k hb => by show b < w'.heap.size; rw [he]; exact h'.lt b k hb, fun b k ⟨cs, fz, hb⟩ => h'.safe b k ⟨cs, fz, by rw [← he]; exact hb⟩⟩⟩
def GS.grown (s : GS) (w' : World) : GS := ⟨fun b k => s.S b k ∨ (s.w.heap.size ≤ b ∧ b < w'.heap.size), s.tag, w'⟩
theorem GS.le_grown {s : GS} {w' : World} (h : Ext s.w w') : GS.Le s (s.grown w') :=
 ⟨h, fun _ _ h => .inl h, fun b k hb h' => h'.elim id fun h2 => absurd hb (by omega), fun _ _ => rfl, fun h' => ⟨fun b k hb => hb.elim (fun h2 => Nat.lt_of_lt_of_le (h'.lt b k h2) h.size) fun h2 => h2.2, fun b k ⟨cs, fz, hb⟩ => by
  rcases Nat.lt_or_ge b s.w.heap.size with h1 | h1
  ·exact .inl (h'.safe b k ⟨cs, fz, (h.block h1).symm.trans hb⟩)
  ·exact .inr ⟨h1, lt_of_heap hb⟩⟩⟩
def GS.mk' (s : GS) (cs : Array Value) (T : TypeId) (i : Nat) : GS := ⟨s.S, fun b => if b = s.w.heap.size then i else s.tag b, s.w.alloc (.cells cs T)⟩
theorem GS.le_mk' (s : GS) (cs : Array Value) (T : TypeId) (i : Nat) (hT : T ≠ 137) : GS.Le s (s.mk' cs T i) :=
 ⟨(Ext.refl _).alloc _, fun _ _ h => h, fun _ _ _ h => h, fun b hb => by show (if b = s.w.heap.size then i else s.tag b) = _; rw [if_neg (by omega)], fun h' => ⟨fun b k hb => Nat.lt_of_lt_of_le (h'.lt b k hb) (by show _ ≤ (s.w.alloc _).heap.size; simp), fun b k ⟨c2, fz, hb⟩ => by
  replace hb : (s.w.alloc (.cells cs T)).heap[b]? = some (.cells c2 137 fz) := hb
  rcases Nat.lt_or_ge b s.w.heap.size with h1 | h1
  ·exact h'.safe b k ⟨c2, fz, (Below.heap_alloc s.w _ b h1).symm.trans hb⟩
  ·exfalso
   have h2 := lt_of_heap hb
   have h3 : b = s.w.heap.size := by have h4 : (s.w.alloc (.cells cs T)).heap.size = s.w.heap.size + 1 := Array.size_push ..; omega
   rw [h3, heap_alloc_new] at hb
   cases hb
   exact hT rfl⟩⟩
structure D where
 rel : GS → Value → Prop
 st : ∀ {s s' : GS} {v : Value}, rel s v → GS.Chg s s' → rel s' v
def ex (u : Value) : D := ⟨fun _ v => v = u, fun h _ => h⟩
def anyD : D := ⟨fun _ _ => True, fun h _ => h⟩
instance : Inhabited D := ⟨anyD⟩
def dAt (ds : List D) (k : Nat) : D := ds.getD k anyD
def agD (ds : List D) : D := ⟨fun s v => ∃ cs : Array Value, v = .agg cs ∧ cs.size = ds.length ∧ ∀ k, k < ds.length → ∃ u, cs[k]? = some u ∧ u.oneCell' = true ∧ (dAt ds k).rel s u,
 fun ⟨cs, h1, h2, h3⟩ hc => ⟨cs, h1, h2, fun k hk => let ⟨u, h4, h5, h6⟩ := h3 k hk; ⟨u, h4, h5, (dAt ds k).st h6 hc⟩⟩⟩
def tupD (ds : List D) : D := ⟨fun s v => ∃ cs : Array Value, v = .tuple cs ∧ cs.size = ds.length ∧ ∀ k, k < ds.length → ∃ u, cs[k]? = some u ∧ (dAt ds k).rel s u,
 fun ⟨cs, h1, h2, h3⟩ hc => ⟨cs, h1, h2, fun k hk => let ⟨u, h4, h6⟩ := h3 k hk; ⟨u, h4, (dAt ds k).st h6 hc⟩⟩⟩
def Lies (s : GS) (b o : Nat) (T : TypeId) (ds : List D) : Prop :=
 ∃ cs fz, s.w.heap[b]? = some (.cells cs T fz) ∧ ∀ k, k < ds.length → s.S b (o + k) ∧ ∃ u, cs[o + k]? = some u ∧ u.oneCell' = true ∧ (dAt ds k).rel s u
theorem Lies.st {s s' : GS} {b o : Nat} {T : TypeId} {ds : List D} (h : Lies s b o T ds) (hc : GS.Chg s s') : Lies s' b o T ds := by
 obtain ⟨cs, fz, h1, h2⟩ := h
 obtain ⟨cs', fz', h3, h4⟩ := hc.cell b cs T fz h1
 refine ⟨cs', fz', h3, fun k hk => ?_⟩
 obtain ⟨h5, u, h6, h7, h8⟩ := h2 k hk
 exact ⟨hc.up _ _ h5, u, (h4 _ h5).trans h6, h7, (dAt ds k).st h8 hc⟩
theorem Lies.cell {s : GS} {b o : Nat} {T : TypeId} {ds : List D} (h : Lies s b o T ds) {k : Nat} (hk : k < ds.length) : ∃ u, s.w.cell? ⟨b, o + k, none⟩ = some u ∧ u.oneCell' = true ∧ (dAt ds k).rel s u := by
 obtain ⟨cs, fz, h1, h2⟩ := h
 obtain ⟨_, u, h3, h4⟩ := h2 k hk
 exact ⟨u, (cell_of_block h1).trans h3, h4⟩
theorem dAt_drop (ds : List D) (i k : Nat) : dAt (ds.drop i) k = dAt ds (i + k) := by simp [dAt, List.getElem?_drop]
theorem dAt_take {ds : List D} {i k : Nat} (h : k < i) : dAt (ds.take i) k = dAt ds k := by simp [dAt, List.getElem?_take, h]
theorem Lies.drop {s : GS} {b o : Nat} {T : TypeId} {ds : List D} (h : Lies s b o T ds) (i : Nat) : Lies s b (o + i) T (ds.drop i) := by
 obtain ⟨cs, fz, h1, h2⟩ := h
 refine ⟨cs, fz, h1, fun k hk => ?_⟩
 rw [List.length_drop] at hk
 rw [dAt_drop, Nat.add_assoc]
 exact h2 (i + k) (by omega)
def epD (T : TypeId) (ds : List D) : D := ⟨fun s v => ∃ b o, v = .pointer (some ⟨b, o, none⟩) ∧ Lies s b o T ds, fun ⟨b, o, h1, h2⟩ hc => ⟨b, o, h1, h2.st hc⟩⟩
def slD (T : TypeId) (sz : Nat) (rows : List (List D)) : D :=
 ⟨fun s v => ∃ (A : Option Addr) (c : Nat), v = .slice A rows.length c ∧ rows.length ≤ c ∧ c ≤ 9223372036854775807 ∧
  (0 < rows.length → ∃ b o, A = some ⟨b, o, none⟩ ∧ (∀ k, k < rows.length → (rows.getD k []).length = sz ∧ Lies s b (o + k * sz) T (rows.getD k []))),
 fun ⟨A, c, h1, h2, h3, h4⟩ hc => ⟨A, c, h1, h2, h3, fun h0 => let ⟨b, o, h5, h6⟩ := h4 h0; ⟨b, o, h5, fun k hk => ⟨(h6 k hk).1, (h6 k hk).2.st hc⟩⟩⟩⟩
def someD {α : Type} (p : α → Prop) (f : α → D) : D := ⟨fun s v => ∃ x, p x ∧ (f x).rel s v, fun ⟨x, h1, h2⟩ hc => ⟨x, h1, (f x).st h2 hc⟩⟩
def D.le (x y : D) : Prop := ∀ s v, x.rel s v → y.rel s v
theorem D.le.refl (x : D) : D.le x x := fun _ _ h => h
theorem D.le.of_eq {x y : D} (h : x = y) : D.le x y := h ▸ D.le.refl x
theorem slD.nil (T : TypeId) (sz : Nat) (s : GS) : (slD T sz []).rel s (.slice none 0 0) := ⟨none, 0, rfl, by simp, by omega, fun h => absurd h (by simp)⟩
theorem rows_drop (rows : List (List D)) (i k : Nat) : (rows.drop i).getD k [] = rows.getD (i + k) [] := by simp [List.getElem?_drop]
theorem rows_take {rows : List (List D)} {i k : Nat} (h : k < i) : (rows.take i).getD k [] = rows.getD k [] := by simp [List.getElem?_take, h]
end Go.Proofs.YteicdddphdomkaaGreat
namespace Go.Proofs.YteicdddphdomkaaGreat
namespace RegG
open Go.RowKit
def OpStep (P : Program) (o : Oper) (ev : Operand → Value) (s : GS) (R : Value → GS → Prop) : Prop :=
 match (execOp ev o).run P s.w with
 | .ok (.value v) w' => ∃ s' : GS, s'.w = w' ∧ R v s'
 | .ok .skip w' => ∃ s' : GS, s'.w = w' ∧ R undef s'
 | .ok (.enter f args) w' => Calls P f args w' fun e w'' => ∃ v, e = .returned v ∧ ∃ s' : GS, s'.w = w'' ∧ R v s'
 | _ => False
theorem opStep_wp {P : Program} {o : Oper} {ev : Operand → Value} {a' : Act} {w' : GS} {Q : Exit → Act → World → Prop} {R : Value → GS → Prop} {K : Act → World → Prop} (hns : notSelect o.op = true) (hev : ∀ y ∈ o.op.operands, a'.eval y = ev y)
  (h : OpStep P o ev w' R) (hK : ∀ v (w'' : GS), R v w'' → K (a'.put o.dst v) w''.w) : o.wp P a' w'.w K Q := by
 unfold Oper.wp
 have hs : ∀ cs b, o.op ≠ .select cs b := by
  intro cs b e
  rw [e] at hns
  cases hns
 rw [execOp_congr o hs hev]
 unfold OpStep at h
 split at h
 ·rename_i v w'' hr; rw [hr]; obtain ⟨s', rfl, h⟩ := h; exact hK _ _ h
 ·rename_i w'' hr; rw [hr]; obtain ⟨s', rfl, h⟩ := h; exact hK _ _ h
 ·rename_i f args w'' hr
  rw [hr]
  exact Calls.mono h fun e w3 ⟨v, he, s', hs', hR⟩ => by subst he; subst hs'; exact hK _ _ hR
 ·exact h.elim
abbrev Fact := List Value → GS → Prop
def Known (sh : List Shape) (Rs : List Fact) (i : Nat) (g : Nat → Value) (w : GS) : Prop :=
 ∀ x, sh[i]? = some x → ∀ j ∈ x.bef, ∀ y F, sh[j]? = some y → Rs[j]? = some F → F (y.deps.map g) w
def StepAt (P : Program) (sh : List Shape) (Rs : List Fact) (a : Act) (w0 : GS) (i : Nat) (o : Oper) (x : Shape) (F : Fact) : Prop :=
 ∀ (g : Nat → Value) (w : GS) (ev : Operand → Value), GS.Le w0 w → Known sh Rs i g w → EnvEq ev g x.env →
  (∀ t, (∀ p ∈ x.env, p.1 ≠ t) → ev (.tmp t) = a.tmps.getD t undef) → (∀ v, ev (.const v) = v) → (∀ f, ev (.func f) = .func (.func f) #[] #[]) →
  (wantedG o g = true → OpStep P o ev w fun v w' => GS.Le w w' ∧ F (x.deps.map (upd g i v)) w') ∧ (wantedG o g = false → F (x.deps.map (upd g i undef)) w)
def StepsAt (P : Program) (sh : List Shape) (Rs : List Fact) (a : Act) (w0 : GS) : Nat → List Oper → List Shape → List Fact → Prop
 | i, o :: L, x :: S, F :: T => StepAt P sh Rs a w0 i o x F ∧ StepsAt P sh Rs a w0 (i + 1) L S T
 | _, _, [], [] => True
 | _, _, _, _ => False
theorem StepsAt.at {P : Program} {sh : List Shape} {Rs : List Fact} {a : Act} {w0 : GS} : ∀ {S : List Shape} {T : List Fact} {L : List Oper} {i : Nat}, StepsAt P sh Rs a w0 i L S T →
  S.length = T.length ∧ ∀ k o x, L[k]? = some o → S[k]? = some x → ∃ F, T[k]? = some F ∧ StepAt P sh Rs a w0 (i + k) o x F
 | [], [], L, i, _ => ⟨rfl, fun k o x _ hx => by simp at hx⟩
 | [], _ :: _, L, i, h => by cases L <;> exact h.elim
 | _ :: _, [], L, i, h => by cases L <;> exact h.elim
 | x :: S, F :: T, [], i, h => h.elim
 | x :: S, F :: T, o :: L, i, h => by
  obtain ⟨h1, h2⟩ := h
  obtain ⟨hl, hh⟩ := StepsAt.at h2
  refine ⟨by simp [hl], fun k o' x' ho hx => ?_⟩
  cases k with
  | zero =>
   simp at ho hx
   subst ho; subst hx
   exact ⟨F, rfl, h1⟩
  | succ k =>
   simp at ho hx
   obtain ⟨F', hF, hs⟩ := hh k o' x' ho hx
   refine ⟨F', by simpa using hF, ?_⟩
   have : i + (k + 1) = i + 1 + k := by omega
   rw [this]
   exact hs
section
variable {P : Program} {L : List Oper} {sh : List Shape} {Rs : List Fact} {a : Act} {w0 : GS}
structure HInv (L : List Oper) (sh : List Shape) (Rs : List Fact) (a : Act) (w0 : GS) (listed : Array Bool) (g : Nat → Value) (a' : Act) (w' : GS) : Prop where
 size : listed.size = L.length
 closed : ∀ j o, L[j]? = some o → listed.getD j false = true → ∀ e ∈ edges o, listed.getD e false = true
 tail : ∀ t, sh.length ≤ t → listed.getD t false = false
 asz : a'.tmps.size = a.tmps.size
 adef : a'.defers = a.defers
 a1 : ∀ j o d, j < sh.length → L[j]? = some o → listed.getD j false = true → o.dst = some d → a'.tmps[d]? = some (g j)
 a2 : ∀ t, (∀ j o, j < sh.length → L[j]? = some o → listed.getD j false = true → o.dst ≠ some t) → a'.tmps[t]? = a.tmps[t]?
 facts : ∀ j y F, sh[j]? = some y → Rs[j]? = some F → listed.getD j false = true → F (y.deps.map g) w'
 ext : GS.Le w0 w'
theorem step_inv (hok : regOk L sh = true) (hd : dstOk L sh.length a.tmps.size = true)
  (hstab : ∀ F ∈ Rs, ∀ vs w1 w2, GS.Le w1 w2 → F vs w1 → F vs w2)
  {listed : Array Bool} {g : Nat → Value} {a' : Act} {w' : GS} (inv : HInv L sh Rs a w0 listed g a' w') {i : Nat} {o : Oper} {x : Shape} {F : Fact} (ho : L[i]? = some o) (hx : sh[i]? = some x) (hF : Rs[i]? = some F)
  (hun : listed.getD i false = false) (hed : ∀ e ∈ edges o, listed.getD e false = true) {v : Value} {w'' : GS} (he : GS.Le w' w'') (hf : F (x.deps.map (upd g i v)) w'') :
  HInv L sh Rs a w0 (listed.setIfInBounds i true) (upd g i v) (a'.put o.dst v) w'' := by
 have hin : i < sh.length := lt_of_sh hx
 have hil : i < listed.size := by rw [inv.size]; exact (List.getElem?_eq_some_iff.1 ho).1
 have hset : ∀ j, (listed.setIfInBounds i true).getD j false = true → j ≠ i → listed.getD j false = true := fun j h hj => by
  rw [getD_set_ne false (fun e => hj e.symm)] at h; exact h
 have hnb : ∀ j y oj, sh[j]? = some y → L[j]? = some oj → listed.getD j false = true → i ∉ y.bef := fun j y oj hy hoj hl hi => by
  have := bef_listed hok inv.closed j y oj hy hoj (inv.closed j oj hoj hl) i hi
  rw [hun] at this; cases this
 refine ⟨by simp [inv.size], fun j oj hoj hl e he' => ?_, fun t ht => ?_, ?_, ?_, fun j oj d hj hoj hl hdj => ?_, fun t ht => ?_, fun j y G hy hG hl => ?_, inv.ext.trans he⟩
 ·by_cases hji : j = i
  ·subst hji
   have : oj = o := Option.some.inj (hoj.symm.trans ho)
   subst this
   exact getD_set_true (hed e he')
  ·exact getD_set_true (inv.closed j oj hoj (hset j hl hji) e he')
 ·rw [getD_set_ne false (by omega)]; exact inv.tail t ht
 ·unfold Act.put; split <;> simp [inv.asz]
 ·unfold Act.put; split <;> simp [inv.adef]
 ·by_cases hji : j = i
  ·subst hji
   have : oj = o := Option.some.inj (hoj.symm.trans ho)
   subst this
   have hdl : d < a'.tmps.size := by
    rw [inv.asz]
    have h2 := List.all_eq_true.1 hd oj (List.mem_of_getElem? (i := j) (by rw [List.getElem?_take]; simp [hin, hoj]))
    simp only [hdj, decide_eq_true_eq] at h2
    exact h2
   simp [Act.put, hdj, upd, hdl]
  ·have hlj := hset j hl hji
   have hne : o.dst ≠ some d := fun e => hji (regOk_dst hok hj hin hoj ho hdj e)
   rw [show upd g i v j = g j by simp [upd, hji], ← inv.a1 j oj d hj hoj hlj hdj]
   unfold Act.put
   split
   ·rename_i d' hd'
    have : d' ≠ d := fun e => hne (by rw [hd', e])
    simp [Array.getElem?_setIfInBounds_ne this]
   ·rfl
 ·have h2 : o.dst ≠ some t := by
   refine ht i o hin ho ?_
   simp [hil]
  rw [← inv.a2 t fun j oj hj hoj hl => ht j oj hj hoj (getD_set_true hl)]
  unfold Act.put
  split
  ·rename_i d' hd'
   have : d' ≠ t := fun e => h2 (by rw [hd', e])
   simp [Array.getElem?_setIfInBounds_ne this]
  ·rfl
 ·by_cases hji : j = i
  ·subst hji
   have e1 : y = x := Option.some.inj (hy.symm.trans hx)
   have e2 : G = F := Option.some.inj (hG.symm.trans hF)
   subst e1; subst e2
   exact hf
  ·have hlj := hset j hl hji
   have hjl : j < L.length := Nat.lt_of_lt_of_le (lt_of_sh hy) (regOk_len hok)
   have hoj : L[j]? = some L[j] := List.getElem?_eq_getElem hjl
   have hib := hnb j y _ hy hoj hlj
   have hmap : y.deps.map (upd g i v) = y.deps.map g := by
    refine List.map_congr_left fun k hk => ?_
    have h1 := (regOk_at hok hoj).2.1 y hy
    simp only [headOk, Bool.and_eq_true] at h1
    have h2 := List.all_eq_true.1 h1.1.1.1.1.2 k hk
    simp only [Bool.or_eq_true, beq_iff_eq] at h2
    have hki : k ≠ i := by
     rintro rfl
     rcases h2 with h2 | h2
     ·exact hji h2.symm
     ·exact hib (by simpa using h2)
    simp [upd, hki]
   rw [hmap]
   exact hstab G (List.mem_of_getElem? hG) _ _ _ he (inv.facts j y G hy hG hlj)
theorem eval_operands (hok : regOk L sh = true) {listed : Array Bool} {g : Nat → Value} {a' : Act} {w' : GS} (inv : HInv L sh Rs a w0 listed g a' w') {i : Nat} {o : Oper} {x : Shape} (ho : L[i]? = some o) (hx : sh[i]? = some x)
  (hun : listed.getD i false = false) (hed : ∀ e ∈ edges o, listed.getD e false = true) : ∀ y ∈ o.op.operands, a'.eval y = evOf a g x.env y := by
 intro y hy
 cases y with
 | tmp t =>
  show a'.tmps.getD t undef = _
  cases hfd : x.env.find? (fun p => p.1 == t) with
  | some p =>
   have hp : p ∈ x.env := List.mem_of_find?_eq_some hfd
   have hpt : p.1 = t := by simpa using List.find?_some hfd
   obtain ⟨h1, h2, o', ho', hd'⟩ := head_env hok hx ho hp
   have hl := bef_listed hok inv.closed i x o hx ho hed p.2 h1
   have := inv.a1 p.2 o' p.1 h2 ho' hl hd'
   simp only [evOf, hfd]
   rw [hpt] at this
   simp [this]
  | none =>
   simp only [evOf, hfd]
   have h1 := (regOk_at hok ho).2.1 x hx
   simp only [headOk, Bool.and_eq_true] at h1
   have h2 := List.all_eq_true.1 h1.1.1.2 (.tmp t) (by simpa using hy)
   simp only [Bool.or_eq_true] at h2
   rcases h2 with h2 | h2
   ·exfalso
    have : t ∈ x.env.map (·.1) := by simpa using h2
    obtain ⟨p, hp, hpt⟩ := List.mem_map.1 this
    have := List.find?_eq_none.1 hfd p hp
    simp [hpt] at this
   ·have : a'.tmps[t]? = a.tmps[t]? := by
     refine inv.a2 t fun j oj hj hoj hl hdj => ?_
     have h3 := List.all_eq_true.1 h2 j (List.mem_range.2 hj)
     rw [hoj] at h3
     simp [hdj] at h3
     rcases h3 with h3 | h3
     ·subst h3; rw [hun] at hl; cases hl
     ·cases hy' : sh[j]? with
      | none => rw [List.getElem?_eq_none_iff] at hy'; omega
      | some y' =>
       have := bef_listed hok inv.closed j y' oj hy' hoj (inv.closed j oj hoj hl) i (by simpa [Shape.befOf, hy'] using h3)
       rw [hun] at this; cases this
    rw [Array.getD_eq_getD_getElem?, Array.getD_eq_getD_getElem?, this]
 | const v => rfl
 | global b => rfl
 | func f => rfl
theorem wanted_of (hok : regOk L sh = true) {listed : Array Bool} {g : Nat → Value} {a' : Act} {w' : GS} (inv : HInv L sh Rs a w0 listed g a' w') {i : Nat} {o : Oper} {x : Shape} (ho : L[i]? = some o) (hx : sh[i]? = some x)
  (hed : ∀ e ∈ edges o, listed.getD e false = true) : Region.wanted o (yielded L.toArray a'.tmps) = wantedG o g := by
 unfold Region.wanted wantedG
 cases hg : o.guard with
 | none => rfl
 | some jb =>
  obtain ⟨j, b⟩ := jb
  have h1 := (regOk_at hok ho).2.1 x hx
  simp only [headOk, Bool.and_eq_true] at h1
  have h2 := h1.1.2
  rw [hg] at h2
  simp only [Bool.and_eq_true, decide_eq_true_eq] at h2
  obtain ⟨⟨h3, h4⟩, h5⟩ := h2
  have hl := bef_listed hok inv.closed i x o hx ho hed j (by simpa using h3)
  split at h5
  ·rename_i o' ho'
   obtain ⟨d, hd'⟩ := Option.isSome_iff_exists.1 h5
   have := inv.a1 j o' d h4 ho' hl hd'
   unfold yielded
   simp only [List.getElem?_toArray, ho', Option.bind_some, hd', this]
   cases g j <;> simp
  ·cases h5
theorem head_run (hok : regOk L sh = true) (hd : dstOk L sh.length a.tmps.size = true)
  (hstab : ∀ F ∈ Rs, ∀ vs w1 w2, GS.Le w1 w2 → F vs w1 → F vs w2) (hstep : StepsAt P sh Rs a w0 0 L sh Rs) {Q : Exit → Act → World → Prop}
  (hend : ∀ g w', GS.Le w0 w' → (∀ (j : Nat) (y : Shape) (F : Fact), sh[j]? = some y → Rs[j]? = some F → F (y.deps.map g) w') → wpList P L.toArray Q (L.drop sh.length) (putG g (L.take sh.length) 0 a) w'.w) :
  ∀ (f : Nat) (listed : Array Bool) (g : Nat → Value) (a' : Act) (w' : GS), falses listed = f → HInv L sh Rs a w0 listed g a' w' → wpAny P .any L.toArray Q f listed a' w'.w := by
 obtain ⟨hlen, hat⟩ := hstep.at
 intro f
 induction f with
 | zero =>
  intro listed g a' w' hf inv
  have hall : ∀ j, j < L.length → listed.getD j false = true := fun j hj => by
   cases hg : listed.getD j false with
   | true => rfl
   | false => have := falses_pos (by rw [inv.size]; exact hj) hg; omega
  refine tail_run hok 0 L.length listed a' w'.w (regOk_len hok) (by omega) inv.size hall (fun j hj => by simp [inv.size, hj]) ?_
  have hsl : sh.length = L.length := by
   have := regOk_len hok
   rcases Nat.lt_or_ge sh.length L.length with hlt | hge
   ·have h1 := hall sh.length hlt
    rw [inv.tail _ (Nat.le_refl _)] at h1; cases h1
   ·omega
  have := hend g w' inv.ext fun j y F hy hF => inv.facts j y F hy hF (hall j (by have := lt_of_sh hy; omega))
  rw [hsl] at this
  have hpa : putG g (L.take L.length) 0 a = a' := by
   obtain ⟨p1, p2, p3, p4⟩ := putG_facts (g := g) (L.take L.length) 0 a (fun j k o o' d hj hk e1 e2 => by
    simp at hj hk
    exact regOk_dst hok (by have := (List.getElem?_eq_some_iff.1 hj).1; omega) (by have := (List.getElem?_eq_some_iff.1 hk).1; omega) hj hk e1 e2) (fun o ho d hdo => by
    rw [← hsl] at ho
    have h2 := List.all_eq_true.1 hd o ho
    simp only [hdo, decide_eq_true_eq] at h2
    exact h2)
   refine act_ext (Array.ext_getElem? fun t => ?_) (p2.trans inv.adef.symm)
   by_cases ht : ∃ (j : Nat) (o : Oper), L[j]? = some o ∧ o.dst = some t
   ·obtain ⟨j, o, hj, hdo⟩ := ht
    rw [p3 j o t (by simpa using hj) hdo, inv.a1 j o t (by have := (List.getElem?_eq_some_iff.1 hj).1; omega) hj (hall j (List.getElem?_eq_some_iff.1 hj).1) hdo]
    simp
   ·rw [p4 t fun j o hj e => ht ⟨j, o, by simpa using hj, e⟩, inv.a2 t fun j o _ hj _ e => ht ⟨j, o, hj, e⟩]
  rw [hpa] at this
  exact this
 | succ f ih =>
  intro listed g a' w' hf inv
  by_cases hdone : ∀ j, j < sh.length → listed.getD j false = true
  ·have hfl : f + 1 + sh.length = L.length := by
    have key : ∀ (l : List Bool) (n : Nat), n ≤ l.length → (∀ j, j < n → l[j]? = some true) → (∀ j, n ≤ j → j < l.length → l[j]? = some false) → (l.filter (!·)).length + n = l.length := by
     intro l
     induction l with
     | nil => intro n hn _ _; simp at hn; simp [hn]
     | cons b l ihl =>
      intro n hn h1 h2
      cases n with
      | zero =>
       have hb := h2 0 (Nat.le_refl _) (by simp)
       simp at hb
       subst hb
       have := ihl 0 (by omega) (fun j hj => by omega) (fun j _ hj => by simpa using h2 (j + 1) (by omega) (by simpa using hj))
       simp at this ⊢
       omega
      | succ n =>
       have hb := h1 0 (by omega)
       simp at hb
       subst hb
       have := ihl n (by simpa using hn) (fun j hj => by simpa using h1 (j + 1) (by omega)) (fun j hj1 hj2 => by simpa using h2 (j + 1) (by omega) (by simpa using hj2))
       simp
       omega
    have := key listed.toList sh.length (by simpa [inv.size] using regOk_len hok) (fun j hj => by
      have h1 := hdone j hj
      have hjl : j < listed.size := by rw [inv.size]; have := regOk_len hok; omega
      simp [hjl] at h1
      simp [hjl, h1]) (fun j hj1 hj2 => by
      have h1 := inv.tail j hj1
      have hjl : j < listed.size := by simpa using hj2
      simp [hjl] at h1
      simp [hjl, h1])
    have e1 : (listed.toList.filter (!·)).length = f + 1 := hf
    rw [e1] at this
    simpa [inv.size] using this
   refine tail_run hok (f + 1) sh.length listed a' w'.w (Nat.le_refl _) hfl inv.size hdone inv.tail ?_
   have := hend g w' inv.ext fun j y F hy hF => inv.facts j y F hy hF (hdone j (lt_of_sh hy))
   have hpa : putG g (L.take sh.length) 0 a = a' := by
    have hget : ∀ j o, (L.take sh.length)[j]? = some o → j < sh.length ∧ L[j]? = some o := fun j o h => by
     rw [List.getElem?_take] at h
     split at h
     ·exact ⟨by assumption, h⟩
     ·cases h
    obtain ⟨p1, p2, p3, p4⟩ := putG_facts (g := g) (L.take sh.length) 0 a (fun j k o o' d hj hk e1 e2 => by
     obtain ⟨hj1, hj2⟩ := hget j o hj
     obtain ⟨hk1, hk2⟩ := hget k o' hk
     exact regOk_dst hok hj1 hk1 hj2 hk2 e1 e2) (fun o ho d hdo => by
     have h2 := List.all_eq_true.1 hd o ho
     simp only [hdo, decide_eq_true_eq] at h2
     exact h2)
    refine act_ext (Array.ext_getElem? fun t => ?_) (p2.trans inv.adef.symm)
    by_cases ht : ∃ (j : Nat) (o : Oper), j < sh.length ∧ L[j]? = some o ∧ o.dst = some t
    ·obtain ⟨j, o, hjn, hj, hdo⟩ := ht
     rw [p3 j o t (by rw [List.getElem?_take, if_pos hjn]; exact hj) hdo, inv.a1 j o t hjn hj (hdone j hjn) hdo]
     simp
    ·rw [p4 t fun j o hj e => ht ⟨j, o, (hget j o hj).1, (hget j o hj).2, e⟩, inv.a2 t fun j o hjn hj _ e => ht ⟨j, o, hjn, hj, e⟩]
   rw [hpa] at this
   exact this
  ·have hex : ∃ j, j < sh.length ∧ listed.getD j false = false := Classical.byContradiction fun hno => hdone fun j hj => by
    cases hg : listed.getD j false with
    | true => rfl
    | false => exact absurd ⟨j, hj, hg⟩ hno
   obtain ⟨j0, hj0, hu0⟩ := hex
   refine ⟨fun h0 => ?_, fun i hi => ?_⟩
   ·obtain ⟨k, _, hk⟩ := first_ready hok inv.size j0 (Nat.lt_of_lt_of_le hj0 (regOk_len hok)) hu0
    rw [h0] at hk; cases hk
   ·obtain ⟨hun, o, ho, hed⟩ := ready_of hok inv.size hi
    have hin : i < sh.length := by
     rcases Nat.lt_or_ge i sh.length with hlt | hge
     ·exact hlt
     ·have := tail_waits_ hok inv.size inv.closed hge ho hed j0 (by omega)
      rw [hu0] at this; cases this
    have hx : sh[i]? = some sh[i] := List.getElem?_eq_getElem hin
    obtain ⟨F, hF, hst⟩ := hat i o _ ho hx
    rw [Nat.zero_add] at hst
    have hil : i < listed.size := by rw [inv.size]; exact (List.getElem?_eq_some_iff.1 ho).1
    have hno := (regOk_at hok ho).2.1 _ hx
    simp only [headOk, Bool.and_eq_true] at hno
    obtain ⟨hs1, hs2⟩ := hst g w' (evOf a g sh[i].env) inv.ext (fun x hx' j hj y G hy hG => by
      have : x = sh[i] := Option.some.inj (hx'.symm.trans hx)
      subst this
      exact inv.facts j y G hy hG (bef_listed hok inv.closed i _ o hx ho hed j hj))
     (envEq_of fun p hp => by
      obtain ⟨h1, h2, o', ho', hd'⟩ := head_env hok hx ho hp
      cases hfd : sh[i].env.find? (fun q => q.1 == p.1) with
      | none => have := List.find?_eq_none.1 hfd p hp; simp at this
      | some q =>
       have hq := List.mem_of_find?_eq_some hfd
       have hqp : q.1 = p.1 := by simpa using List.find?_some hfd
       obtain ⟨_, h4, o2, ho2, hd2⟩ := head_env hok hx ho hq
       rw [hqp] at hd2
       have := regOk_dst hok h4 h2 ho2 ho' hd2 hd'
       simp only [evOf, hfd, this])
     (fun t ht => by
      have : sh[i].env.find? (fun q => q.1 == t) = none := List.find?_eq_none.2 fun p hp => by simpa using ht p hp
      simp only [evOf, this])
     (fun _ => rfl) (fun _ => rfl)
    have hwant := wanted_of hok inv ho hx hed
    have hfs : ∀ v w2 b, (a'.put o.dst v) = b → GS.Le w' w2 → F (sh[i].deps.map (upd g i v)) w2 → wpAny P .any L.toArray Q f (listed.setIfInBounds i true) b w2.w := fun v w2 b hb he hf' => by
     subst hb
     refine ih _ (upd g i v) _ _ ?_ (step_inv hok hd hstab inv ho hx hF hun hed he hf')
     have := falses_set hil hun
     omega
    unfold wpOp
    have ho2 : L.toArray[i]? = some o := by simpa using ho
    rw [ho2]
    show if Region.wanted o (yielded L.toArray a'.tmps) = true then _ else _
    rw [hwant]
    split
    ·rename_i hw
     exact .inl (opStep_wp hno.2 (eval_operands hok inv ho hx hun hed) (hs1 hw) fun v w2 ⟨he, hf'⟩ => hfs v w2 _ rfl he hf')
    ·rename_i hw
     exact hfs undef w' _ rfl (GS.Le.refl _) (hs2 (by simpa using hw))
theorem wp_region_ext {L : List Oper} {Q : Exit → Act → World → Prop} {a : Act} {w : GS} {C : Prop} (hm : wpAny P .any L.toArray Q L.toArray.size (Array.replicate L.toArray.size false) a w.dr.w → C) (sh : List Shape) (Rs : List Fact) (hok : regOk L sh = true) (hd : dstOk L sh.length a.tmps.size = true)
  (hstab : ∀ F ∈ Rs, ∀ vs w1 w2, GS.Le w1 w2 → F vs w1 → F vs w2) (hstep : StepsAt P sh Rs a w.dr 0 L sh Rs)
  (hend : ∀ g w', GS.Le w.dr w' → (∀ (j : Nat) (y : Shape) (F : Fact), sh[j]? = some y → Rs[j]? = some F → F (y.deps.map g) w') → wpList P L.toArray Q (L.drop sh.length) (putG g (L.take sh.length) 0 a) w'.w) :
  C := by
 refine hm ?_
 have hfz : falses (Array.replicate L.toArray.size false) = L.toArray.size := by simp [falses, List.filter_replicate]
 refine head_run hok hd hstab hstep hend _ _ (fun _ => undef) a w.dr hfz ?_
 have hz : ∀ j, (Array.replicate L.toArray.size false).getD j false = false := fun j => by
  rcases Nat.lt_or_ge j L.length with h | h
  ·simp [h]
  ·simp [h]
 exact ⟨by simp, (fun j o _ h => by rw [hz] at h; cases h), fun t _ => hz t, rfl, rfl, (fun j o d _ _ h => by rw [hz] at h; cases h), fun t _ => rfl, (fun j y F _ _ h => by rw [hz] at h; cases h), GS.Le.refl _⟩
end
abbrev VFact := Value → GS → Prop
def OpsKnown (Fs : List VFact) (ev : Operand → Value) (w : GS) : List (Nat × Nat) → Prop
 | [] => True
 | (t, j) :: r => (∀ F, Fs[j]? = some F → F (ev (.tmp t)) w) ∧ OpsKnown Fs ev w r
def UStep (P : Program) (Fs : List VFact) (a : Act) (w0 : GS) (o : Oper) (env : List (Nat × Nat)) (F : VFact) : Prop :=
 ∀ (w : GS) (ev : Operand → Value), GS.Le w0 w → OpsKnown Fs ev w env →
  (∀ t, (∀ p ∈ env, p.1 ≠ t) → ev (.tmp t) = a.tmps.getD t undef) → (∀ v, ev (.const v) = v) → (∀ f, ev (.func f) = .func (.func f) #[] #[]) →
  match o.guard with
  | none => OpStep P o ev w fun v w' => GS.Le w w' ∧ F v w'
  | some (j, b) => ∀ gv, (∀ G, Fs[j]? = some G → G gv w) → (gv = .bool b → OpStep P o ev w fun v w' => GS.Le w w' ∧ F v w') ∧ (gv ≠ .bool b → F undef w)
def USteps (P : Program) (Fs : List VFact) (a : Act) (w0 : GS) : List Oper → List (List (Nat × Nat)) → List VFact → Prop
 | o :: L, x :: S, F :: T => UStep P Fs a w0 o x F ∧ USteps P Fs a w0 L S T
 | _, [], [] => True
 | _, _, _ => False
def unF (F : VFact) : Fact := fun vs w => match vs with | [v] => F v w | _ => False
theorem usteps_steps {P : Program} {a : Act} {w0 : GS} {Fs : List VFact} {sh : List Shape} {L0 : List Oper} (hok : regOk L0 sh = true) (hsh : ∀ (k : Nat) (x : Shape), sh[k]? = some x → x.deps = [k]) :
  ∀ {L : List Oper} {es : List (List (Nat × Nat))} {bs : List (List Nat)} {T : List VFact} {i : Nat}, (∀ k, L[k]? = L0[i + k]?) → (∀ k, (shOf i es bs)[k]? = sh[i + k]?) → es.length = bs.length → USteps P Fs a w0 L es T →
   StepsAt P sh (Fs.map unF) a w0 i L (shOf i es bs) (T.map unF)
 | L, [], [], [], i, _, _, _, _ => by cases L <;> exact trivial
 | L, [], [], _ :: _, i, _, _, _, h => by cases L <;> exact h.elim
 | L, [], _ :: _, T, i, _, _, hl, h => by simp at hl
 | L, _ :: _, [], T, i, _, _, hl, h => by simp at hl
 | [], _ :: _, _ :: _, T, i, _, _, _, h => by cases T <;> exact h.elim
 | _ :: _, _ :: _, _ :: _, [], i, _, _, _, h => h.elim
 | o :: L, e :: es, b :: bs, F :: T, i, hL, hS, hl, h => by
  obtain ⟨h1, h2⟩ := h
  refine ⟨?_, usteps_steps hok hsh (i := i + 1) (fun k => by
   have := hL (k + 1)
   rw [show i + 1 + k = i + (k + 1) by omega, ← this]; rfl) (fun k => by
   have := hS (k + 1)
   rw [show i + 1 + k = i + (k + 1) by omega, ← this]; rfl) (by simpa using hl) h2⟩
  intro g w ev hE hk henv hev hc hf
  have ho : L0[i]? = some o := by have := hL 0; simpa using this.symm
  have hx : sh[i]? = some ⟨e, b, [i]⟩ := by have := hS 0; simpa [shOf] using this.symm
  have hknown : ∀ j, j ∈ b → ∀ G, Fs[j]? = some G → G (g j) w := fun j hj G hG => by
   have hjl : ∃ y, sh[j]? = some y := by
    cases hy : sh[j]? with
    | some y => exact ⟨y, rfl⟩
    | none =>
     exfalso
     have hb := hj
     have hh := (regOk_at hok ho).2.1 _ hx
     simp only [headOk, Bool.and_eq_true] at hh
     have h3 := List.all_eq_true.1 hh.1.1.1.1.1 j hb
     obtain ⟨e', he', he2⟩ := List.any_eq_true.1 h3
     have hlt := (regOk_at hok ho).1 e' he'
     simp only [Bool.or_eq_true, beq_iff_eq] at he2
     have hil := lt_of_sh hx
     rw [List.getElem?_eq_none_iff] at hy
     rcases he2 with rfl | he2
     ·omega
     ·
      have key : ∀ (n : Nat) (y : Shape) (oy : Oper), sh[n]? = some y → L0[n]? = some oy → ∀ m ∈ y.bef, m < n := by
       intro n
       induction n using Nat.strongRecOn with
       | _ n ih =>
        intro y oy hy hoy m hm
        have hh' := (regOk_at hok hoy).2.1 y hy
        simp only [headOk, Bool.and_eq_true] at hh'
        have h4 := List.all_eq_true.1 hh'.1.1.1.1.1 m hm
        obtain ⟨e2, he2, he3⟩ := List.any_eq_true.1 h4
        have hlt2 := (regOk_at hok hoy).1 e2 he2
        simp only [Bool.or_eq_true, beq_iff_eq] at he3
        rcases he3 with rfl | he3
        ·exact hlt2
        ·cases hy2 : sh[e2]? with
         | none => simp [Shape.befOf, hy2] at he3
         | some y2 =>
          have hel : e2 < L0.length := Nat.lt_of_lt_of_le (lt_of_sh hy2) (regOk_len hok)
          have := ih e2 hlt2 y2 _ hy2 (List.getElem?_eq_getElem hel) m (by simpa [Shape.befOf, hy2] using he3)
          omega
      have := key i _ o hx ho j hj
      omega
   obtain ⟨y, hy⟩ := hjl
   have := hk _ hx j hj y (unF G) hy (by rw [List.getElem?_map, hG]; rfl)
   rw [hsh j y hy] at this
   exact this
  have hops : OpsKnown Fs ev w e := by
   have hsub : ∀ p ∈ e, p.2 ∈ b := fun p hp => (head_env hok hx ho hp).1
   have henv' : EnvEq ev g e := henv
   clear hx hev h1 henv hS hl
   induction e with
   | nil => trivial
   | cons p e ih =>
    obtain ⟨t, j⟩ := p
    obtain ⟨q1, q2⟩ := henv'
    exact ⟨fun G hG => by rw [q1]; exact hknown j (hsub (t, j) (by simp)) G hG, ih (fun p hp => hsub p (by simp [hp])) q2⟩
  have := h1 w ev hE hops hev hc hf
  have hmap : ∀ v, unF F ([i].map (upd g i v)) = F v := fun v => by funext w; simp [unF, upd]
  cases hg : o.guard with
  | none =>
   rw [hg] at this
   refine ⟨fun _ => ?_, fun hw => by simp [wantedG, hg] at hw⟩
   simp only [hmap]
   exact this
  | some jb =>
   obtain ⟨j, c⟩ := jb
   rw [hg] at this
   have hjb : j ∈ b := by
    have hh := (regOk_at hok ho).2.1 _ hx
    simp only [headOk, Bool.and_eq_true] at hh
    have h3 := hh.1.2
    rw [hg] at h3
    simp only [Bool.and_eq_true] at h3
    simpa using h3.1.1
   obtain ⟨t1, t2⟩ := this (g j) (fun G hG => hknown j hjb G hG)
   refine ⟨fun hw => ?_, fun hw => ?_⟩
   ·simp only [hmap]
    refine t1 ?_
    simp only [wantedG, hg] at hw
    split at hw
    ·rename_i c' hc'; rw [hc']; congr 1; simpa using hw
    ·cases hw
   ·simp only [hmap]
    refine t2 fun e' => ?_
    simp [wantedG, hg, e'] at hw
theorem wp_region_u {P : Program} {L : List Oper} {Q : Exit → Act → World → Prop} {a : Act} {w : GS} {C : Prop} (hm : wpAny P .any L.toArray Q L.toArray.size (Array.replicate L.toArray.size false) a w.dr.w → C) (es : List (List (Nat × Nat))) (bs : List (List Nat)) (Fs : List VFact)
  (hlen : (es.length == bs.length && es.length == Fs.length) = true) (hok : regOk L (shOf 0 es bs) = true) (hd : dstOk L es.length a.tmps.size = true)
  (hstab : ∀ F ∈ Fs, ∀ v w1 w2, GS.Le w1 w2 → F v w1 → F v w2) (hstep : USteps P Fs a w.dr L es Fs)
  (hend : ∀ (g : Nat → Value) (w' : GS), GS.Le w.dr w' → (∀ (j : Nat) (F : VFact), Fs[j]? = some F → F (g j) w') → wpList P L.toArray Q (L.drop es.length) (putG g (L.take es.length) 0 a) w'.w) :
  C := by
 simp only [Bool.and_eq_true, beq_iff_eq] at hlen
 have hshl : ∀ (es : List (List (Nat × Nat))) (bs : List (List Nat)) (i : Nat), es.length = bs.length → (shOf i es bs).length = es.length := by
  intro es
  induction es with
  | nil => intro bs i _; cases bs <;> rfl
  | cons e es ih =>
   intro bs i h
   cases bs with
   | nil => simp at h
   | cons b bs => simp [shOf, ih bs (i + 1) (by simpa using h)]
 have hl := hshl es bs 0 hlen.1
 refine wp_region_ext hm (shOf 0 es bs) (Fs.map unF) hok (by rw [hl]; exact hd) ?_ ?_ ?_
 ·intro F hF vs w1 w2 he h
  obtain ⟨G, hG, rfl⟩ := List.mem_map.1 hF
  unfold unF at *
  split at h
  ·rename_i v; exact hstab G hG v w1 w2 he h
  ·exact h.elim
 ·exact usteps_steps hok (fun k x hx => by have := (shOf_get hx).1; rwa [Nat.zero_add] at this) (fun k => by rw [Nat.zero_add]) (fun k => by rw [Nat.zero_add]) hlen.1 hstep
 ·intro g w' hE hf
  rw [hl]
  refine hend g w' hE fun j F hF => ?_
  have hjl : j < (shOf 0 es bs).length := by
   rw [hl]
   have := (List.getElem?_eq_some_iff.1 hF).1
   omega
  have hy : (shOf 0 es bs)[j]? = some (shOf 0 es bs)[j] := List.getElem?_eq_getElem hjl
  have := hf j _ (unF F) hy (by rw [List.getElem?_map, hF]; rfl)
  rw [(shOf_get hy).1] at this
  simpa [unF] using this
def Stab (F : VFact) : Prop := ∀ v w1 w2, GS.Le w1 w2 → F v w1 → F v w2
def StabAll : List VFact → Prop
 | [] => True
 | F :: r => Stab F ∧ StabAll r
theorem StabAll.mem : ∀ {Fs : List VFact}, StabAll Fs → ∀ F ∈ Fs, Stab F
 | [], _, F, h => by cases h
 | G :: r, h, F, hF => by
  rcases List.mem_cons.1 hF with rfl | hF
  ·exact h.1
  ·exact StabAll.mem h.2 F hF
theorem wp_region_v {P : Program} {L : List Oper} {Q : Exit → Act → World → Prop} {a : Act} {w : GS} {C : Prop} (hm : wpAny P .any L.toArray Q L.toArray.size (Array.replicate L.toArray.size false) a w.dr.w → C) (es : List (List (Nat × Nat))) (bs : List (List Nat)) (Fs : List VFact)
  (hlen : (es.length == bs.length && es.length == Fs.length) = true) (hok : regOk L (shOf 0 es bs) = true) (hd : dstOk L es.length a.tmps.size = true) (stab : StabAll Fs) (steps : USteps P Fs a w.dr L es Fs)
  (fin : ∀ (g : Nat → Value) (w' : GS), GS.Le w.dr w' → (∀ (j : Nat) (F : VFact), Fs[j]? = some F → F (g j) w') → wpList P L.toArray Q (L.drop es.length) (putG g (L.take es.length) 0 a) w'.w) :
  C :=
 wp_region_u hm es bs Fs hlen hok hd (fun F hF => stab.mem F hF) steps fin
end RegG
theorem GS.le_dr (s : GS) : GS.Le s s.dr := GS.Le.heap ((Ext.refl _).drew) rfl
end Go.Proofs.YteicdddphdomkaaGreat
namespace Go.Proofs.YteicdddphdomkaaGreat
open Go.RowKit
inductive AV
 | d (x : D)
 | ptr (id off : Nat)
 | own (id : Nat)
instance : Inhabited AV := ⟨.d anyD⟩
inductive Ow
 | dead
 | var (T : TypeId) (cells : List AV)
 | row (T : TypeId) (sz : Nat) (rows : List (List D))
instance : Inhabited Ow := ⟨.dead⟩
def Ow.live : Ow → Bool
 | .dead => false
 | _ => true
structure AS where
 fr : List (Nat × AV)
 hp : List Ow
def look : List (Nat × AV) → Nat → Option AV
 | [], _ => none
 | (a, v) :: r, t => bif Nat.beq a t then some v else look r t
theorem look_mem : ∀ {l : List (Nat × AV)} {t : Nat} {av : AV}, look l t = some av → (t, av) ∈ l
 | [], _, _, h => by cases h
 | (a, v) :: r, t, av, h => by
  unfold look at h
  cases hb : Nat.beq a t with
  | true =>
   rw [hb] at h
   have e1 : a = t := Nat.eq_of_beq_eq_true hb
   have e2 : v = av := Option.some.inj h
   subst e1; subst e2
   exact List.mem_cons_self
  | false =>
   rw [hb] at h
   exact List.mem_cons_of_mem _ (look_mem h)
def vblk : Value → Option Nat
 | .pointer (some a) => some a.block
 | .slice (some a) _ _ => some a.block
 | _ => none
def AVr (m : Nat) (ρ : Nat → Value) (s : GS) : AV → Value → Prop
 | .d x, v => x.rel s v
 | .ptr id off, v => id < m ∧ ∃ b, ρ id = .pointer (some ⟨b, 0, none⟩) ∧ v = .pointer (some ⟨b, off, none⟩)
 | .own id, v => id < m ∧ v = ρ id
theorem AVr.chg {m : Nat} {ρ : Nat → Value} {s s' : GS} {av : AV} {v : Value} (h : AVr m ρ s av v) (hc : GS.Chg s s') : AVr m ρ s' av v := by
 cases av with
 | d x => exact x.st h hc
 | ptr id off => exact h
 | own id => exact h
theorem AVr.mono {m m' : Nat} {ρ ρ' : Nat → Value} {s : GS} {av : AV} {v : Value} (h : AVr m ρ s av v) (hm : m ≤ m') (hρ : ∀ i, i < m → ρ' i = ρ i) : AVr m' ρ' s av v := by
 cases av with
 | d x => exact h
 | ptr id off =>
  obtain ⟨h1, b, h2, h3⟩ := h
  exact ⟨Nat.lt_of_lt_of_le h1 hm, b, (hρ id h1).trans h2, h3⟩
 | own id => exact ⟨Nat.lt_of_lt_of_le h.1 hm, h.2.trans (hρ id h.1).symm⟩
def OwR (base m : Nat) (ρ : Nat → Value) (s : GS) (i : Nat) : Ow → Prop
 | .dead => True
 | .var T cells => ∃ (b : Nat) (cs : Array Value), ρ i = .pointer (some ⟨b, 0, none⟩) ∧ base ≤ b ∧ s.w.heap[b]? = some (.cells cs T (0, 0)) ∧ cs.size = cells.length ∧ T ≠ 137 ∧ (∀ k, ¬ s.S b k) ∧ ∀ (k : Nat) av, cells[k]? = some av → ∃ u : Value, cs[k]? = some u ∧ u.oneCell' = true ∧ AVr m ρ s av u
 | .row T sz rows => ∃ xs : List Value, s.w.ownsRow base T sz (ρ i) rows.length xs ∧ T ≠ 137 ∧ 0 < sz ∧ (∀ b, vblk (ρ i) = some b → ∀ k, s.S b k ↔ k < rows.length * sz) ∧ ∀ k, k < rows.length → (rows.getD k []).length = sz ∧ ∀ j, j < sz → ∃ u, xs[k * sz + j]? = some u ∧ u.oneCell' = true ∧ (dAt (rows.getD k []) j).rel s u
theorem OwR.le {base m : Nat} {ρ : Nat → Value} {s s' : GS} {i : Nat} {o : Ow} (h : OwR base m ρ s i o) (hl : GS.Le s s') : OwR base m ρ s' i o := by
 cases o with
 | dead => trivial
 | var T cells =>
  obtain ⟨b, cs, h1, h2, h3, h4, h5, h6, h7⟩ := h
  refine ⟨b, cs, h1, h2, (hl.ext.block (lt_of_heap h3)).trans h3, h4, h5, fun k hk => h6 k (hl.old b k (lt_of_heap h3) hk), fun k av hk => ?_⟩
  obtain ⟨u, h8, h9, h10⟩ := h7 k av hk
  exact ⟨u, h8, h9, h10.chg hl.chg⟩
 | row T sz rows =>
  obtain ⟨xs, ⟨h1, h2⟩, h3, h4, h5, h6⟩ := h
  refine ⟨xs, ⟨h1, ?_⟩, h3, h4, fun b hb k => ?_, fun k hk => ⟨(h6 k hk).1, fun j hj => ?_⟩⟩
  ·rcases h2 with h2 | ⟨g, cap, cur, e1, e2, e3, e4⟩
   ·exact .inl h2
   ·exact .inr ⟨g, cap, cur, e1, e2, (hl.ext.block (lt_of_heap e3)).trans e3, e4⟩
  ·have hlt : b < s.w.heap.size := by
    rcases h2 with ⟨e1, _⟩ | ⟨g, cap, cur, e1, e2, e3, e4⟩
    ·rw [e1] at hb; cases hb
    ·rw [e1] at hb; cases hb; exact lt_of_heap e3
   exact ⟨fun hk => (h5 b hb k).1 (hl.old b k hlt hk), fun hk => hl.up b k ((h5 b hb k).2 hk)⟩
  ·obtain ⟨u, h8, h9, h10⟩ := (h6 k hk).2 j hj
   exact ⟨u, h8, h9, (dAt _ j).st h10 hl.chg⟩
def HpOk (base : Nat) (ρ : Nat → Value) (s : GS) (hp : List Ow) : Prop := ∀ i o, hp[i]? = some o → OwR base hp.length ρ s i o
theorem HpOk.le {base : Nat} {ρ : Nat → Value} {s s' : GS} {hp : List Ow} (h : HpOk base ρ s hp) (hl : GS.Le s s') : HpOk base ρ s' hp := fun i o hi => (h i o hi).le hl
def asD (hp : List Ow) : AV → Option D
 | .d x => some x
 | .own id => match hp[id]? with
  | some (.row T sz rows) => some (slD T sz rows)
  | _ => none
 | .ptr _ _ => none
theorem asD_rel {base : Nat} {ρ : Nat → Value} {s : GS} {hp : List Ow} {av : AV} {v : Value} {x : D} (hh : HpOk base ρ s hp) (h : AVr hp.length ρ s av v) (hx : asD hp av = some x) : x.rel s v := by
 cases av with
 | d y => cases hx; exact h
 | ptr id off => cases hx
 | own id =>
  obtain rfl : v = ρ id := h.2
  replace hx : (match hp[id]? with
   | some (.row T sz rows) => some (slD T sz rows)
   | _ => none) = some x := hx
  split at hx
  ·rename_i T sz rows he
   cases hx
   obtain ⟨xs, ⟨h1, h2⟩, h3, h4, h5, h6⟩ := hh id _ he
   rcases h2 with ⟨e1, e2⟩ | ⟨g, cap, cur, e1, e2, e3, e4, e5, e6, e7⟩
   ·rw [e1]
    exact ⟨none, 0, by rw [e2], by omega, by omega, fun h0 => by omega⟩
   ·rw [e1]
    refine ⟨_, cap, rfl, e4, by simpa [maxLen] using e5, fun h0 => ⟨g, 0, rfl, fun k hk => ⟨(h6 k hk).1, cur, (0, 0), e3, fun j hj => ?_⟩⟩⟩
    rw [(h6 k hk).1] at hj
    obtain ⟨u, h8, h9, h10⟩ := (h6 k hk).2 j hj
    have hlt : k * sz + j < rows.length * sz := by
     have : (k + 1) * sz ≤ rows.length * sz := Nat.mul_le_mul_right sz hk
     rw [Nat.succ_mul] at this
     omega
    refine ⟨by rw [Nat.zero_add]; exact (h5 g (by rw [e1]; rfl) _).2 hlt, u, ?_, h9, h10⟩
    rw [Nat.zero_add, ← h8, ← e7, List.getElem?_take, if_pos hlt]
    simp
  ·cases hx
def AS.arg (σ : AS) : Operand → AV
 | .tmp t => (look σ.fr t).getD (.d anyD)
 | .const v => .d (ex v)
 | .global g => .d (ex (.pointer (some ⟨g, 0, none⟩)))
 | .func f => .d (ex (.func (.func f) #[] #[]))
def AS.put (σ : AS) (dst : Option Tmp) (r : AV) : AS :=
 match dst with
 | some d => { σ with fr := (d, r) :: σ.fr }
 | none => σ
structure StI (s0 : GS) (n : Nat) (σ : AS) (a : Act) (s : GS) (ρ : Nat → Value) : Prop where
 le : GS.Le s0 s
 ok : s.Ok
 fr : ∀ t av, look σ.fr t = some av → AVr σ.hp.length ρ s av (a.tmps.getD t undef)
 sz : a.tmps.size = n
 df : a.defers = []
 hp : HpOk s0.w.heap.size ρ s σ.hp
 sep : ∀ i j o o', i ≠ j → σ.hp[i]? = some o → σ.hp[j]? = some o' → o.live = true → o'.live = true → ∀ b, vblk (ρ i) = some b → vblk (ρ j) ≠ some b
def St (s0 : GS) (n : Nat) (σ : AS) (a : Act) (w : World) : Prop := ∃ (s : GS) (ρ : Nat → Value), s.w = w ∧ StI s0 n σ a s ρ
theorem StI.arg {s0 : GS} {n : Nat} {σ : AS} {a : Act} {s : GS} {ρ : Nat → Value} (h : StI s0 n σ a s ρ) (x : Operand) : AVr σ.hp.length ρ s (σ.arg x) (a.eval x) := by
 cases x with
 | tmp t =>
  show AVr σ.hp.length ρ s ((look σ.fr t).getD (.d anyD)) (a.tmps.getD t undef)
  cases hl : look σ.fr t with
  | none => exact trivial
  | some av => exact h.fr t av hl
 | const v => exact rfl
 | global g => exact rfl
 | func f => exact rfl
theorem look_cons (t u : Nat) (av : AV) (l : List (Nat × AV)) : look ((t, av) :: l) u = if t = u then some av else look l u := by
 show (bif Nat.beq t u then some av else look l u) = _
 cases hb : Nat.beq t u with
 | true => rw [if_pos (Nat.eq_of_beq_eq_true hb)]; rfl
 | false => rw [if_neg (Nat.ne_of_beq_eq_false hb)]; rfl
theorem StI.put {s0 : GS} {n : Nat} {σ : AS} {a : Act} {s s' : GS} {ρ : Nat → Value} (h : StI s0 n σ a s ρ) (hl : GS.Le s s') {dst : Option Tmp} (hd : ∀ d, dst = some d → d < n) {v : Value} {r : AV} (hr : AVr σ.hp.length ρ s' r v) : StI s0 n (σ.put dst r) (a.put dst v) s' ρ := by
 refine ⟨h.le.trans hl, hl.ok h.ok, fun t av ht => ?_, ?_, ?_, ?_, ?_⟩
 ·cases dst with
  | none => exact (h.fr t av ht).chg hl.chg
  | some d =>
   simp only [AS.put, look_cons] at ht
   simp only [Act.put]
   by_cases hdt : d = t
   ·rw [if_pos hdt] at ht
    cases ht
    subst hdt
    have : d < a.tmps.size := by rw [h.sz]; exact hd d rfl
    simp [this]
    exact hr
   ·rw [if_neg hdt] at ht
    have := (h.fr t av ht).chg hl.chg
    rw [Array.getD_eq_getD_getElem?] at this ⊢
    rwa [Array.getElem?_setIfInBounds_ne hdt]
 ·unfold Act.put; split <;> simp [h.sz]
 ·unfold Act.put; split <;> simp [h.df]
 ·cases dst <;> exact h.hp.le hl
 ·cases dst <;> exact h.sep
structure Quiet (P : Program) (hp : List Ow) (o : Oper) (arg : Operand → AV) (r : AV) : Prop where
 run : ∀ (base : Nat) (s : GS) (ρ : Nat → Value) (ev : Operand → Value), s.Ok → base ≤ s.w.heap.size → HpOk base ρ s hp → (∀ x, x ∈ o.op.operands → AVr hp.length ρ s (arg x) (ev x)) →
  RegG.OpStep P o ev s fun v s' => GS.Le s s' ∧ AVr hp.length ρ s' r v
theorem opG_val {P : Program} {o : Oper} {ev : Operand → Value} {s : GS} {R : Value → GS → Prop} {v : Value} (h : (execOp ev o).run P s.w = .ok (.value v) s.w) (hR : R v s) : RegG.OpStep P o ev s R := by
 unfold RegG.OpStep
 rw [h]
 exact ⟨s, rfl, hR⟩
theorem opG_new {P : Program} {o : Oper} {ev : Operand → Value} {s : GS} {R : Value → GS → Prop} {v : Value} {w' : World} (h : (execOp ev o).run P s.w = .ok (.value v) w') (s' : GS) (hw : s'.w = w') (hR : R v s') : RegG.OpStep P o ev s R := by
 unfold RegG.OpStep
 rw [h]
 exact ⟨s', hw, hR⟩
structure Tab (P : Program) (t : TypeId) (d : TypeDesc) (n bytes : Nat) (z : Value) : Prop where
 und : P.underlying t = some d
 inf : (P.info? t).map (fun i => (i.zero, i.size, i.bytes)) = some (some z, n, bytes)
theorem Tab.info {P : Program} {t : TypeId} {d : TypeDesc} {n bytes : Nat} {z : Value} (h : Tab P t d n bytes z) : ∃ i, P.info? t = some i ∧ i.zero = some z ∧ i.size = n ∧ i.bytes = bytes := by
 have := h.inf
 cases hi : P.info? t with
 | none => rw [hi] at this; cases this
 | some i =>
  rw [hi] at this
  simp only [Option.map_some, Option.some.injEq, Prod.mk.injEq] at this
  exact ⟨i, rfl, this.1, this.2.1, this.2.2⟩
theorem Tab.run_size {P : Program} {t : TypeId} {d : TypeDesc} {n bytes : Nat} {z : Value} (h : Tab P t d n bytes z) (w : World) : (sizeOf t).run P w = .ok n w := by
 obtain ⟨i, h1, _, h2, _⟩ := h.info
 simp [sizeOf, typeInfo, h1, h2]
theorem Tab.run_zero {P : Program} {t : TypeId} {d : TypeDesc} {n bytes : Nat} {z : Value} (h : Tab P t d n bytes z) (w : World) : (zeroValue t).run P w = .ok z w := by
 obtain ⟨i, h1, h2, _⟩ := h.info
 simp [zeroValue, typeInfo, h1, h2]
def isAg : TypeDesc → Bool
 | .struct _ | .array _ _ => true
 | _ => false
theorem Tab.run_agg {P : Program} {t : TypeId} {d : TypeDesc} {n bytes : Nat} {z : Value} (h : Tab P t d n bytes z) (w : World) : (isAgg t).run P w = .ok (isAg d) w := by
 unfold isAgg
 rw [Sem.run_bind, run_underlying h.und w]
 cases d <;> simp [isAg]
section
variable {P : Program} {hp : List Ow} {o : Oper} {arg : Operand → AV}
theorem Quiet.move {x : Operand} {r : AV} (hop : o.op = .move x ∨ o.op = .assign x) (hx : arg x = r) : Quiet P hp o arg r := by
 subst hx
 refine ⟨fun base s ρ ev hok hbs hhp h => ?_⟩
 rcases hop with hop | hop
 all_goals
  have h1 := h x (by rw [hop]; simp [Op.operands])
  exact opG_val (v := ev x) (by simp [execOp, hop]) ⟨GS.Le.refl s, h1⟩
theorem Quiet.bin {op : BinOp} {T U : TypeId} {x y : Operand} {a b v : Value} (hop : o.op = .binOp op T x y U) (hx : arg x = .d (ex a)) (hy : arg y = .d (ex b)) (hr : ∀ w, (do eqGuard op T x y a b; binOp op T a b : Sem Value).run P w = .ok v w) : Quiet P hp o arg (.d (ex v)) := by
 refine ⟨fun base s ρ ev hok hbs hhp h => ?_⟩
 have h1 := h x (by rw [hop]; simp [Op.operands])
 have h2 := h y (by rw [hop]; simp [Op.operands])
 rw [hx] at h1; rw [hy] at h2
 have e1 : ev x = a := h1
 have e2 : ev y = b := h2
 have := hr s.w
 refine opG_val (v := v) ?_ ⟨GS.Le.refl s, rfl⟩
 simp only [execOp, hop, e1, e2, Sem.run_bind, this, Result.andThen_ok, Sem.run_pure]
theorem Quiet.add {T U : TypeId} {x y : Operand} {a b : Int} (hop : o.op = .binOp .add T x y U) (hx : arg x = .d (ex (.int .i64 a))) (hy : arg y = .d (ex (.int .i64 b))) (h1 : -9223372036854775808 ≤ a + b) (h2 : a + b ≤ 9223372036854775807) : Quiet P hp o arg (.d (ex (.int .i64 (a + b)))) :=
 Quiet.bin hop hx hy fun w => by
  have e : IntKind.i64.wrap (a + b) = a + b := IntWalk.i64_in _ (by omega)
  simp [eqGuard, binOp, Op.intArith, e]
theorem Quiet.sub {T U : TypeId} {x y : Operand} {a b : Int} (hop : o.op = .binOp .sub T x y U) (hx : arg x = .d (ex (.int .i64 a))) (hy : arg y = .d (ex (.int .i64 b))) (h1 : -9223372036854775808 ≤ a - b) (h2 : a - b ≤ 9223372036854775807) : Quiet P hp o arg (.d (ex (.int .i64 (a - b)))) :=
 Quiet.bin hop hx hy fun w => by
  have e : IntKind.i64.wrap (a - b) = a - b := IntWalk.i64_in _ (by omega)
  simp [eqGuard, binOp, Op.intArith, e]
def cmpB : BinOp → Int → Int → Option Bool
 | .eql, a, b => some (a == b)
 | .neq, a, b => some (a != b)
 | .lss, a, b => some (decide (a < b))
 | .leq, a, b => some (decide (a ≤ b))
 | .gtr, a, b => some (decide (a > b))
 | .geq, a, b => some (decide (a ≥ b))
 | _, _, _ => none
theorem Quiet.cmp {op : BinOp} {T U : TypeId} {x y : Operand} {k : IntKind} {a b : Int} {c : Bool} (hop : o.op = .binOp op T x y U) (hx : arg x = .d (ex (.int k a))) (hy : arg y = .d (ex (.int k b))) (hc : cmpB op a b = some c) : Quiet P hp o arg (.d (ex (.bool c))) :=
 Quiet.bin hop hx hy fun w => by
  cases op <;> simp [cmpB] at hc <;> subst hc <;> simp [eqGuard, binOp, Op.intCmp]
theorem Quiet.not {T : TypeId} {x : Operand} {a : Bool} (hop : o.op = .unOp .not T x) (hx : arg x = .d (ex (.bool a))) : Quiet P hp o arg (.d (ex (.bool (!a)))) := by
 refine ⟨fun base s ρ ev hok hbs hhp h => ?_⟩
 have h1 := h x (by rw [hop]; simp [Op.operands])
 rw [hx] at h1
 have e1 : ev x = .bool a := h1
 exact opG_val (v := .bool (!a)) (by simp [execOp, hop, e1, Op.unary]) ⟨GS.Le.refl s, rfl⟩
theorem Quiet.pickT {c x y : Operand} {r : AV} (hop : o.op = .pick c x y) (hx : arg x = r) (hc : arg c = .d (ex (.bool true))) : Quiet P hp o arg r := by
 subst hx
 refine ⟨fun base s ρ ev hok hbs hhp h => ?_⟩
 have h1 := h c (by rw [hop]; simp [Op.operands])
 have h2 := h x (by rw [hop]; simp [Op.operands])
 rw [hc] at h1
 have e1 : ev c = .bool true := h1
 exact opG_val (v := ev x) (by simp [execOp, hop, e1, asBool]) ⟨GS.Le.refl s, h2⟩
theorem Quiet.pickF {c x y : Operand} {r : AV} (hop : o.op = .pick c x y) (hy : arg y = r) (hc : arg c = .d (ex (.bool false))) : Quiet P hp o arg r := by
 subst hy
 refine ⟨fun base s ρ ev hok hbs hhp h => ?_⟩
 have h1 := h c (by rw [hop]; simp [Op.operands])
 have h2 := h y (by rw [hop]; simp [Op.operands])
 rw [hc] at h1
 have e1 : ev c = .bool false := h1
 exact opG_val (v := ev y) (by simp [execOp, hop, e1, asBool]) ⟨GS.Le.refl s, h2⟩
theorem Quiet.conv {S T : TypeId} {x : Operand} {k k' : IntKind} {a : Int} {d : TypeDesc} {n b n' b' : Nat} {z z' : Value} (hop : o.op = .convert S T x) (hx : arg x = .d (ex (.int k a))) (hS : Tab P S d n b z) (hT : Tab P T (.int k') n' b' z') : Quiet P hp o arg (.d (ex (.int k' (k'.wrap a)))) := by
 refine ⟨fun base s ρ ev hok hbs hhp h => ?_⟩
 have h1 := h x (by rw [hop]; simp [Op.operands])
 rw [hx] at h1
 have e1 : ev x = .int k a := h1
 refine opG_val (v := .int k' (k'.wrap a)) ?_ ⟨GS.Le.refl s, rfl⟩
 simp [execOp, hop, e1, convert, run_underlying hS.und, run_underlying hT.und, Conv.intToInt]
theorem Quiet.len {x : Operand} {t : TypeId} {e n b T sz : Nat} {z : Value} {rows : List (List D)} (hop : o.op = .call { callee := .builtin .len, args := #[x], argTypes := #[t] }) (hx : asD hp (arg x) = some (slD T sz rows)) (ht : Tab P t (.slice e) n b z) : Quiet P hp o arg (.d (ex (.int .i64 rows.length))) := by
 refine ⟨fun base s ρ ev hok hbs hhp h => ?_⟩
 have h1 := asD_rel hhp (h x (by rw [hop]; simp [Op.operands, Call.operands])) hx
 obtain ⟨A, c, e1, h2⟩ := h1
 refine opG_val (v := .int .i64 rows.length) ?_ ⟨GS.Le.refl s, rfl⟩
 simp [execOp, hop, resolve, invoke, builtin, e1, Builtin.len_, run_underlying ht.und, goInt]
theorem Quiet.index {x y : Operand} {t : TypeId} {e n b n' b' T sz : Nat} {d : TypeDesc} {z z' : Value} {rows : List (List D)} {k : IntKind} {i : Int} (hop : o.op = .indexAddr t x y) (hx : asD hp (arg x) = some (slD T sz rows)) (hy : arg y = .d (ex (.int k i))) (ht : Tab P t (.slice e) n b z) (he : Tab P e d n' b' z') (hsz : n' = sz) (h0 : 0 ≤ i) (hi : i < rows.length) : Quiet P hp o arg (.d (epD T (rows.getD i.toNat []))) := by
 refine ⟨fun base s ρ ev hok hbs hhp h => ?_⟩
 have h1 := asD_rel hhp (h x (by rw [hop]; simp [Op.operands])) hx
 have h2 := h y (by rw [hop]; simp [Op.operands])
 rw [hy] at h2
 have e2 : ev y = .int k i := h2
 obtain ⟨A, c, e1, h3, h4, h5⟩ := h1
 obtain ⟨g, p, rfl, h6⟩ := h5 (by omega)
 subst hsz
 refine opG_val (v := .pointer (some ⟨g, p + i.toNat * n', none⟩)) ?_ ⟨GS.Le.refl s, g, _, rfl, (h6 i.toNat (by omega)).2⟩
 simp [execOp, hop, e1, e2, Instr.indexAt, asIntOf, run_underlying ht.und, h0, hi, he.run_size, Addr.add_lit]
theorem Quiet.indexE {x y : Operand} {t : TypeId} {e n b n' b' T len : Nat} {d : TypeDesc} {z z' : Value} {ds : List D} {k : IntKind} {i : Int} (hop : o.op = .indexAddr t x y) (hx : arg x = .d (epD T ds)) (hy : arg y = .d (ex (.int k i))) (ht : Tab P t (.array len e) n b z) (he : Tab P e d n' b' z') (h0 : 0 ≤ i) (hi : i < len) : Quiet P hp o arg (.d (epD T (ds.drop (i.toNat * n')))) := by
 refine ⟨fun base s ρ ev hok hbs hhp h => ?_⟩
 have h1 := h x (by rw [hop]; simp [Op.operands])
 have h2 := h y (by rw [hop]; simp [Op.operands])
 rw [hx] at h1; rw [hy] at h2
 have e2 : ev y = .int k i := h2
 obtain ⟨g, p, e1, h3⟩ := h1
 refine opG_val (v := .pointer (some ⟨g, p + i.toNat * n', none⟩)) ?_ ⟨GS.Le.refl s, g, _, rfl, h3.drop _⟩
 simp [execOp, hop, e1, e2, Instr.indexAt, Instr.sureAddr, asIntOf, run_underlying ht.und, h0, hi, he.run_size, Addr.add_lit]
theorem Quiet.indexP {x y : Operand} {t : TypeId} {e n b n' b' len id off : Nat} {d : TypeDesc} {z z' : Value} {k : IntKind} {i : Int} (hop : o.op = .indexAddr t x y) (hx : arg x = .ptr id off) (hy : arg y = .d (ex (.int k i))) (ht : Tab P t (.array len e) n b z) (he : Tab P e d n' b' z') (h0 : 0 ≤ i) (hi : i < len) : Quiet P hp o arg (.ptr id (off + i.toNat * n')) := by
 refine ⟨fun base s ρ ev hok hbs hhp h => ?_⟩
 have h1 := h x (by rw [hop]; simp [Op.operands])
 have h2 := h y (by rw [hop]; simp [Op.operands])
 rw [hx] at h1; rw [hy] at h2
 have e2 : ev y = .int k i := h2
 obtain ⟨hid, g, h3, e1⟩ := h1
 refine opG_val (v := .pointer (some ⟨g, off + i.toNat * n', none⟩)) ?_ ⟨GS.Le.refl s, hid, g, h3, rfl⟩
 simp [execOp, hop, e1, e2, Instr.indexAt, Instr.sureAddr, asIntOf, run_underlying ht.und, h0, hi, he.run_size, Addr.add_lit]
theorem Quiet.fieldE {x : Operand} {S : TypeId} {fs : Array Field} {f n b n' b' T : Nat} {fd : Field} {d : TypeDesc} {z z' : Value} {ds : List D} (hop : o.op = .fieldAddr S x f) (hx : arg x = .d (epD T ds)) (hS : Tab P S (.struct fs) n b z) (hf : fs[f]? = some fd) (he : Tab P fd.type d n' b' z') (hn : n' ≠ 0) : Quiet P hp o arg (.d (epD T (ds.drop fd.offset))) := by
 refine ⟨fun base s ρ ev hok hbs hhp h => ?_⟩
 have h1 := h x (by rw [hop]; simp [Op.operands])
 rw [hx] at h1
 obtain ⟨g, p, e1, h3⟩ := h1
 refine opG_val (v := .pointer (some ⟨g, p + fd.offset, none⟩)) ?_ ⟨GS.Le.refl s, g, _, rfl, h3.drop _⟩
 simp [execOp, hop, e1, Instr.fieldAt, Instr.sureAddr, run_underlying hS.und, hf, fieldPlace, he.run_size, hn, Addr.add_lit]
theorem Quiet.fieldP {x : Operand} {S : TypeId} {fs : Array Field} {f n b n' b' id off : Nat} {fd : Field} {d : TypeDesc} {z z' : Value} (hop : o.op = .fieldAddr S x f) (hx : arg x = .ptr id off) (hS : Tab P S (.struct fs) n b z) (hf : fs[f]? = some fd) (he : Tab P fd.type d n' b' z') (hn : n' ≠ 0) : Quiet P hp o arg (.ptr id (off + fd.offset)) := by
 refine ⟨fun base s ρ ev hok hbs hhp h => ?_⟩
 have h1 := h x (by rw [hop]; simp [Op.operands])
 rw [hx] at h1
 obtain ⟨hid, g, h3, e1⟩ := h1
 refine opG_val (v := .pointer (some ⟨g, off + fd.offset, none⟩)) ?_ ⟨GS.Le.refl s, hid, g, h3, rfl⟩
 simp [execOp, hop, e1, Instr.fieldAt, Instr.sureAddr, run_underlying hS.und, hf, fieldPlace, he.run_size, hn, Addr.add_lit]
theorem run_loadAgg {w : World} {t : TypeId} {d : TypeDesc} {n bytes : Nat} {z : Value} (ht : Tab P t d n bytes z) (hd : isAg d = true) (g p : Nat) (f : Nat → Value) (h : ∀ j, j < n → w.cell? ⟨g, p + j, none⟩ = some (f j)) : (loadVar t ⟨g, p, none⟩).run P w = .ok (.agg ((List.range n).map f).toArray) w := by
 have := run_loadCells (P := P) w ⟨g, p, none⟩ n f fun j hj => by rw [Addr.add_lit]; exact h j hj
 simp [loadVar, ht.run_agg, hd, ht.run_size, this]
theorem Quiet.loadE {x : Operand} {t : TypeId} {d : TypeDesc} {n b T : Nat} {z : Value} {ds : List D} (hop : o.op = .load t x) (hx : arg x = .d (epD T ds)) (ht : Tab P t d n b z) (hd : isAg d = true) (hn : n ≤ ds.length) : Quiet P hp o arg (.d (agD (ds.take n))) := by
 refine ⟨fun base s ρ ev hok hbs hhp h => ?_⟩
 have h1 := h x (by rw [hop]; simp [Op.operands])
 rw [hx] at h1
 obtain ⟨g, p, e1, h3⟩ := h1
 have hc : ∀ j, ∃ u, j < n → s.w.cell? ⟨g, p + j, none⟩ = some u ∧ u.oneCell' = true ∧ (dAt ds j).rel s u := fun j => by
  by_cases hj : j < n
  ·obtain ⟨u, h4⟩ := h3.cell (k := j) (by omega)
   exact ⟨u, fun _ => h4⟩
  ·exact ⟨undef, fun h => absurd h hj⟩
 obtain ⟨f, hf⟩ : ∃ f : Nat → Value, ∀ j, j < n → s.w.cell? ⟨g, p + j, none⟩ = some (f j) ∧ (f j).oneCell' = true ∧ (dAt ds j).rel s (f j) := ⟨fun j => (hc j).choose, fun j hj => (hc j).choose_spec hj⟩
 have hr := run_loadAgg ht hd g p f fun j hj => (hf j hj).1
 refine opG_val (v := .agg ((List.range n).map f).toArray) ?_ ⟨GS.Le.refl s, _, rfl, by simp; omega, fun k hk => ?_⟩
 ·simp [execOp, hop, e1, Instr.loadAt, Instr.sureAddr, hr]
 ·rw [List.length_take] at hk
  have hkn : k < n := by omega
  rw [dAt_take hkn]
  exact ⟨f k, by simp [hkn], (hf k hkn).2⟩
theorem Quiet.loadE1 {x : Operand} {t : TypeId} {d : TypeDesc} {n b T : Nat} {z : Value} {ds : List D} (hop : o.op = .load t x) (hx : arg x = .d (epD T ds)) (ht : Tab P t d n b z) (hd : isAg d = false) (hn : 0 < ds.length) : Quiet P hp o arg (.d (dAt ds 0)) := by
 refine ⟨fun base s ρ ev hok hbs hhp h => ?_⟩
 have h1 := h x (by rw [hop]; simp [Op.operands])
 rw [hx] at h1
 obtain ⟨g, p, e1, h3⟩ := h1
 obtain ⟨u, h4, h5, h6⟩ := h3.cell hn
 refine opG_val (v := u) ?_ ⟨GS.Le.refl s, h6⟩
 simp at h4
 simp [execOp, hop, e1, Instr.loadAt, Instr.sureAddr, loadVar, ht.run_agg, hd, h4]
theorem Quiet.loadP1 {x : Operand} {t : TypeId} {d : TypeDesc} {n b T id off : Nat} {z : Value} {cells : List AV} {r : AV} (hop : o.op = .load t x) (hx : arg x = .ptr id off) (hh : hp[id]? = some (.var T cells)) (ht : Tab P t d n b z) (hd : isAg d = false) (hc : cells[off]? = some r) : Quiet P hp o arg r := by
 refine ⟨fun base s ρ ev hok hbs hhp h => ?_⟩
 have h1 := h x (by rw [hop]; simp [Op.operands])
 rw [hx] at h1
 obtain ⟨-, g, h3, e1⟩ := h1
 obtain ⟨g', cs, h4, h5, h6, h7, h8, h9, h10⟩ := hhp id _ hh
 rw [h3] at h4
 cases h4
 obtain ⟨u, h11, h12, h13⟩ := h10 off r hc
 refine opG_val (v := u) ?_ ⟨GS.Le.refl s, h13⟩
 have : s.w.cell? ⟨g, off, none⟩ = some u := (cell_of_block h6).trans h11
 simp [execOp, hop, e1, Instr.loadAt, Instr.sureAddr, loadVar, ht.run_agg, hd, this]
def asDs (hp : List Ow) : List AV → Option (List D)
 | [] => some []
 | a :: r => match asD hp a, asDs hp r with
  | some x, some l => some (x :: l)
  | _, _ => none
theorem asDs_get {hp : List Ow} : ∀ {l : List AV} {ds : List D}, asDs hp l = some ds → l.length = ds.length ∧ ∀ (k : Nat) av, l[k]? = some av → asD hp av = some (dAt ds k)
 | [], ds, h => by cases h; exact ⟨rfl, fun k av hk => by cases hk⟩
 | a :: r, ds, h => by
  unfold asDs at h
  split at h
  ·rename_i x l h1 h2
   cases h
   obtain ⟨h3, h4⟩ := asDs_get h2
   refine ⟨by simp [h3], fun k av hk => ?_⟩
   cases k with
   | zero => cases hk; exact h1
   | succ k => exact h4 k av (by simpa using hk)
  ·cases h
theorem Quiet.loadP {x : Operand} {t : TypeId} {d : TypeDesc} {n b T id off : Nat} {z : Value} {cells : List AV} {ds : List D} (hop : o.op = .load t x) (hx : arg x = .ptr id off) (hh : hp[id]? = some (.var T cells)) (ht : Tab P t d n b z) (hd : isAg d = true) (hc : asDs hp ((cells.drop off).take n) = some ds) (hn : off + n ≤ cells.length) : Quiet P hp o arg (.d (agD ds)) := by
 refine ⟨fun base s ρ ev hok hbs hhp h => ?_⟩
 have h1 := h x (by rw [hop]; simp [Op.operands])
 rw [hx] at h1
 obtain ⟨-, g, h3, e1⟩ := h1
 obtain ⟨g', cs, h4, h5, h6, h7, h8, h9, h10⟩ := hhp id _ hh
 rw [h3] at h4
 cases h4
 obtain ⟨hl, hg⟩ := asDs_get hc
 have hl2 : ds.length = n := by rw [← hl]; simp; omega
 have key : ∀ j, ∃ u, j < n → s.w.cell? ⟨g, off + j, none⟩ = some u ∧ u.oneCell' = true ∧ (dAt ds j).rel s u := fun j => by
  by_cases hj : j < n
  ·have hlt : off + j < cells.length := by omega
   obtain ⟨u, h11, h12, h13⟩ := h10 (off + j) _ (List.getElem?_eq_getElem hlt)
   refine ⟨u, fun _ => ⟨(cell_of_block h6).trans h11, h12, ?_⟩⟩
   refine asD_rel hhp h13 (hg j _ ?_)
   rw [List.getElem?_take, if_pos hj, List.getElem?_drop, List.getElem?_eq_getElem hlt]
  ·exact ⟨undef, fun h => absurd h hj⟩
 obtain ⟨f, hf⟩ : ∃ f : Nat → Value, ∀ j, j < n → s.w.cell? ⟨g, off + j, none⟩ = some (f j) ∧ (f j).oneCell' = true ∧ (dAt ds j).rel s (f j) := ⟨fun j => (key j).choose, fun j hj => (key j).choose_spec hj⟩
 have hr := run_loadAgg ht hd g off f fun j hj => (hf j hj).1
 refine opG_val (v := .agg ((List.range n).map f).toArray) ?_ ⟨GS.Le.refl s, _, rfl, by simp [hl2], fun k hk => ?_⟩
 ·simp [execOp, hop, e1, Instr.loadAt, Instr.sureAddr, hr]
 ·rw [hl2] at hk
  exact ⟨f k, by simp [hk], (hf k hk).2⟩
theorem Quiet.extract {x : Operand} {i : Nat} {ds : List D} (hop : o.op = .extract x i) (hx : arg x = .d (tupD ds)) (hi : i < ds.length) : Quiet P hp o arg (.d (dAt ds i)) := by
 refine ⟨fun base s ρ ev hok hbs hhp h => ?_⟩
 have h1 := h x (by rw [hop]; simp [Op.operands])
 rw [hx] at h1
 obtain ⟨cs, e1, h2, h3⟩ := h1
 obtain ⟨u, h4, h5⟩ := h3 i hi
 exact opG_val (v := u) (by simp [execOp, hop, e1, Instr.extract, h4]) ⟨GS.Le.refl s, h5⟩
end
def Abs (P : Program) (f : FuncId) (ds : List D) (r : D) : Prop :=
 (∀ args w, (callFunc f args).run P w = .ok (.enter f args) w) ∧ ∀ (s : GS) (vs : List Value), s.Ok → vs.length = ds.length → (∀ k, k < ds.length → (dAt ds k).rel s (vs.getD k undef)) →
  Calls P f vs.toArray s.w fun e w' => ∃ v, e = .returned v ∧ ∃ s' : GS, s'.w = w' ∧ GS.Le s s' ∧ r.rel s' v
def ArgsLe (hp : List Ow) (arg : Operand → AV) : List Operand → List D → Prop
 | [], [] => True
 | x :: l, d :: ds => (∃ y, asD hp (arg x) = some y ∧ D.le y d) ∧ ArgsLe hp arg l ds
 | _, _ => False
theorem ArgsLe.nil {hp : List Ow} {arg : Operand → AV} : ArgsLe hp arg [] [] := trivial
theorem ArgsLe.cons {hp : List Ow} {arg : Operand → AV} {x : Operand} {l : List Operand} {d y : D} {ds : List D} (h : asD hp (arg x) = some y) (hl : D.le y d) (hr : ArgsLe hp arg l ds) : ArgsLe hp arg (x :: l) (d :: ds) := ⟨⟨y, h, hl⟩, hr⟩
theorem ArgsLe.rel {base : Nat} {ρ : Nat → Value} {s : GS} {hp : List Ow} {arg : Operand → AV} {ev : Operand → Value} (hh : HpOk base ρ s hp) : ∀ {l : List Operand} {ds : List D}, ArgsLe hp arg l ds → (∀ x ∈ l, AVr hp.length ρ s (arg x) (ev x)) → l.length = ds.length ∧ ∀ k, k < ds.length → (dAt ds k).rel s ((l.map ev).getD k undef)
 | [], [], _, _ => ⟨rfl, fun k hk => absurd hk (by simp)⟩
 | [], _ :: _, h, _ => h.elim
 | _ :: _, [], h, _ => h.elim
 | x :: l, d :: ds, ⟨⟨y, h1, h2⟩, h3⟩, h => by
  obtain ⟨h4, h5⟩ := ArgsLe.rel hh h3 fun x hx => h x (List.mem_cons_of_mem _ hx)
  refine ⟨by simp [h4], fun k hk => ?_⟩
  cases k with
  | zero => exact h2 s _ (asD_rel hh (h x List.mem_cons_self) h1)
  | succ k => exact h5 k (by simpa using hk)
theorem Quiet.call {P : Program} {hp : List Ow} {o : Oper} {arg : Operand → AV} {f : Operand} {args : List Operand} {tys : Array TypeId} {fid : FuncId} {ds : List D} {r : D} (hop : o.op = .call { callee := .value f, args := args.toArray, argTypes := tys }) (hf : arg f = .d (ex (.func (.func fid) #[] #[]))) (hc : Abs P fid ds r) (ha : ArgsLe hp arg args ds) : Quiet P hp o arg (.d r) := by
 refine ⟨fun base s ρ ev hok hbs hhp h => ?_⟩
 have h1 := h f (by rw [hop]; simp [Op.operands, Call.operands])
 rw [hf] at h1
 have e1 : ev f = .func (.func fid) #[] #[] := h1
 obtain ⟨h2, h3⟩ := ArgsLe.rel (ev := ev) hhp ha fun x hx => h x (by rw [hop]; simp [Op.operands, Call.operands, hx])
 have h4 := hc.2 s (args.map ev) hok (by simpa using h2) h3
 unfold RegG.OpStep
 have hrun : (execOp ev o).run P s.w = .ok (.enter fid (args.map ev).toArray) s.w := by
  simp [execOp, hop, resolve, e1, Deferred.ofValue, invoke, hc.1]
 rw [hrun]
 exact h4.mono fun e w' ⟨v, he, s', hs, hl, hr⟩ => ⟨v, he, s', hs, hl, hr⟩
end Go.Proofs.YteicdddphdomkaaGreat
namespace Go.Proofs.YteicdddphdomkaaGreat
open Go.RowKit
def lift (s0 : GS) (n : Nat) (Q : Exit → AS → Prop) : Exit → Act → World → Prop := fun e a w => ∃ σ, Q e σ ∧ St s0 n σ a w
structure AWp (P : Program) (s0 : GS) (n : Nat) (c : Code) (Q : Exit → AS → Prop) (σ : AS) : Prop where
 run : ∀ a w, St s0 n σ a w → c.wp P (lift s0 n Q) a w
structure AWl (P : Program) (s0 : GS) (n : Nat) (ops : Array Oper) (Q : Exit → AS → Prop) (l : List Oper) (σ : AS) : Prop where
 run : ∀ a w, St s0 n σ a w → wpList P ops (lift s0 n Q) l a w
def AThenM (next : AS → Prop) (Q : Exit → AS → Prop) : Exit → AS → Prop
 | .normal, σ => next σ
 | e, σ => Q e σ
structure AThen (next : AS → Prop) (Q : Exit → AS → Prop) (e : Exit) (σ : AS) : Prop where
 run : AThenM next Q e σ
def ABlockM (id : Nat) (Q : Exit → AS → Prop) : Exit → AS → Prop
 | .exit j, σ => if j = id then Q .normal σ else Q (.exit j) σ
 | e, σ => Q e σ
structure ABlock (id : Nat) (Q : Exit → AS → Prop) (e : Exit) (σ : AS) : Prop where
 run : ABlockM id Q e σ
section
variable {P : Program} {s0 : GS} {n : Nat} {Q : Exit → AS → Prop} {σ : AS}
theorem AWp.seq {x y : Code} (h : AWp P s0 n x (AThen (AWp P s0 n y Q) Q) σ) : AWp P s0 n (.seq x y) Q σ := ⟨fun a w hs => wp_seq (wp_mono (h.run a w hs) fun e a' w' ⟨σ', ⟨h1⟩, h2⟩ => by
 cases e with
 | normal => exact AWp.run h1 a' w' h2
 | _ => exact ⟨σ', h1, h2⟩)⟩
theorem AWp.block {id : Nat} {c : Code} (h : AWp P s0 n c (ABlock id Q) σ) : AWp P s0 n (.block id c) Q σ := ⟨fun a w hs => wp_block (wp_mono (h.run a w hs) fun e a' w' ⟨σ', ⟨h1⟩, h2⟩ => by
 cases e with
 | exit j =>
  show if j = id then lift s0 n Q .normal a' w' else lift s0 n Q (.exit j) a' w'
  have h1 : if j = id then Q .normal σ' else Q (.exit j) σ' := h1
  split
  ·rename_i hj; rw [if_pos hj] at h1; exact ⟨σ', h1, h2⟩
  ·rename_i hj; rw [if_neg hj] at h1; exact ⟨σ', h1, h2⟩
 | _ => exact ⟨σ', h1, h2⟩)⟩
theorem AWp.skip (h : Q .normal σ) : AWp P s0 n .skip Q σ := ⟨fun _ _ hs => wp_skip ⟨σ, h, hs⟩⟩
theorem AWp.exit {id : Nat} (h : Q (.exit id) σ) : AWp P s0 n (.exit id) Q σ := ⟨fun _ _ hs => wp_exit ⟨σ, h, hs⟩⟩
theorem AWp.ret (h : Q .ret σ) : AWp P s0 n .ret Q σ := ⟨fun _ _ hs => wp_ret ⟨σ, h, hs⟩⟩
theorem St.exD {x : Operand} {v : Value} (hx : σ.arg x = .d (ex v)) {a : Act} {w : World} (hs : St s0 n σ a w) : a.eval x = v := by
 obtain ⟨s, ρ, rfl, h⟩ := hs
 have := h.arg x
 rw [hx] at this
 exact this
theorem AWp.condT {c : Operand} {x y : Code} (hc : σ.arg c = .d (ex (.bool true))) (h : AWp P s0 n x Q σ) : AWp P s0 n (.cond c x y) Q σ := ⟨fun a w hs => wp_cond_true (hs.exD hc) (h.run a w hs)⟩
theorem AWp.condF {c : Operand} {x y : Code} (hc : σ.arg c = .d (ex (.bool false))) (h : AWp P s0 n y Q σ) : AWp P s0 n (.cond c x y) Q σ := ⟨fun a w hs => wp_cond_false (hs.exD hc) (h.run a w hs)⟩
theorem AWp.condEqT {c : Operand} {x y : Code} {t : Bool} (hc : σ.arg c = .d (ex (.bool t))) (ht : t = true) (h : AWp P s0 n x Q σ) : AWp P s0 n (.cond c x y) Q σ := AWp.condT (by rw [hc, ht]) h
theorem AWp.condEqF {c : Operand} {x y : Code} {t : Bool} (hc : σ.arg c = .d (ex (.bool t))) (ht : t = false) (h : AWp P s0 n y Q σ) : AWp P s0 n (.cond c x y) Q σ := AWp.condF (by rw [hc, ht]) h
def AS.le (x y : AS) : Prop := ∀ s0 n a w, St s0 n x a w → St s0 n y a w
def ALoopM (I : Nat → AS → Prop) (m : Nat) (Q : Exit → AS → Prop) : Exit → AS → Prop
 | .normal, σ => ∃ m', m' < m ∧ ∃ σ', I m' σ' ∧ AS.le σ σ'
 | e, σ => Q e σ
structure ALoop (I : Nat → AS → Prop) (m : Nat) (Q : Exit → AS → Prop) (e : Exit) (σ : AS) : Prop where
 run : ALoopM I m Q e σ
theorem AWp.loop {c : Code} (I : Nat → AS → Prop) {m : Nat} {σ' : AS} (hl : AS.le σ σ') (h0 : I m σ') (round : ∀ m σ, I m σ → AWp P s0 n c (ALoop I m Q) σ) : AWp P s0 n (.loop c) Q σ := by
 refine ⟨fun a w hs b k cs => ?_⟩
 have key : ∀ (m : Nat) (a : Act) (w : World) (σ : AS), I m σ → St s0 n σ a w → ∃ e a' w', lift s0 n Q e a' w' ∧ Arrives P (lone (b.at a (.code c :: .inLoop c :: k)) cs w) b k cs e a' w' := by
  intro m
  induction m using Nat.strongRecOn with
  | _ m ih =>
   intro a w σ hI hst
   obtain ⟨e, a1, w1, ⟨σ1, ⟨hq⟩, hst1⟩, harr⟩ := (round m σ hI).run a w hst b (.inLoop c :: k) cs
   cases e with
   | normal =>
    obtain ⟨m', hlt, σ2, hI2, hle⟩ := hq
    obtain ⟨e2, a2, w2, hq2, harr2⟩ := ih m' hlt a1 w1 σ2 hI2 (hle _ _ _ _ hst1)
    exact ⟨e2, a2, w2, hq2, .of_steps (Steps.trans harr (.one step_inLoop)) harr2⟩
   | exit id => exact ⟨_, a1, w1, ⟨σ1, hq, hst1⟩, .pass (x := .inLoop c) rfl (fun _ _ => .inl (by simp)) harr⟩
   | goto l => exact ⟨_, a1, w1, ⟨σ1, hq, hst1⟩, .pass (x := .inLoop c) rfl (fun _ _ => .inl (by simp)) harr⟩
   | ret => exact ⟨_, a1, w1, ⟨σ1, hq, hst1⟩, .pass (x := .inLoop c) rfl (fun _ _ => .inl (by simp)) harr⟩
   | panic ch => exact ⟨_, a1, w1, ⟨σ1, hq, hst1⟩, .pass (x := .inLoop c) rfl (fun _ _ => .inl (by simp)) harr⟩
   | outgrown => exact ⟨_, a1, w1, ⟨σ1, hq, hst1⟩, .pass (x := .inLoop c) rfl (fun _ _ => .inl (by simp)) harr⟩
 obtain ⟨e, a', w', hq, harr⟩ := key m a w σ' h0 (hl _ _ _ _ hs)
 exact ⟨e, a', w', hq, .of_steps (.one step_loop) harr⟩
end
def dLt (dst : Option Tmp) (n : Nat) : Bool := match dst with | some d => Nat.blt d n | none => true
theorem dLt_lt {dst : Option Tmp} {n : Nat} (h : dLt dst n = true) : ∀ d, dst = some d → d < n := fun d hd => by subst hd; exact by simpa [dLt, Nat.blt_eq] using h
section
variable {P : Program} {s0 : GS} {n : Nat} {ops : Array Oper} {Q : Exit → AS → Prop} {rest : List Oper} {o : Oper} {σ : AS}
theorem AWp.region {id : Nat} {l : List Oper} (h : AWl P s0 n l.toArray Q l σ) : AWp P s0 n (.region id l.toArray false) Q σ := ⟨fun a w hs => wp_region_lit (h.run a w hs)⟩
theorem AWl.nil (h : Q .normal σ) : AWl P s0 n ops Q [] σ := ⟨fun _ _ hs => ⟨σ, h, hs⟩⟩
theorem AWl.step (hg : o.guard = none) (h : ∀ (s : GS) (ρ : Nat → Value) (a : Act), StI s0 n σ a s ρ → ∀ K : Act → World → Prop, (∀ σ' a' w', AWl P s0 n ops Q rest σ' → St s0 n σ' a' w' → K a' w') → o.wp P a s.w K (lift s0 n Q)) : AWl P s0 n ops Q (o :: rest) σ := by
 refine ⟨fun a w ⟨s, ρ, hw, hst⟩ => ?_⟩
 subst hw
 exact wpList_plain hg fun K hK => h s ρ a hst K fun σ' a' w' h1 h2 => hK a' w' (h1.run a' w' h2)
theorem AWl.runG {j : Nat} {b : Bool} {d : Nat} (hg : o.guard = some (j, b)) (hy : (ops[j]?).bind (·.dst) = some d) (hl : look σ.fr d = some (.d (ex (.bool b)))) (h : ∀ (s : GS) (ρ : Nat → Value) (a : Act), StI s0 n σ a s ρ → ∀ K : Act → World → Prop, (∀ σ' a' w', AWl P s0 n ops Q rest σ' → St s0 n σ' a' w' → K a' w') → o.wp P a s.w K (lift s0 n Q)) (hd : d < n) : AWl P s0 n ops Q (o :: rest) σ := by
 refine ⟨fun a w ⟨s, ρ, hw, hst⟩ => ?_⟩
 subst hw
 refine wpList_step fun K hK => ?_
 have e1 : a.tmps.getD d undef = .bool b := hst.fr d _ hl
 have hdl : d < a.tmps.size := by rw [hst.sz]; exact hd
 have e2 : a.tmps[d]? = some (.bool b) := by
  rw [Array.getD_eq_getD_getElem?, Array.getElem?_eq_getElem hdl] at e1
  rw [Array.getElem?_eq_getElem hdl]
  exact congrArg some e1
 rw [if_pos (by simp [Region.wanted, hg, yielded, hy, e2])]
 exact h s ρ a hst K fun σ' a' w' h1 h2 => hK a' w' (h1.run a' w' h2)
def isB : Value → Bool → Bool
 | .bool c, b => c == b
 | _, _ => false
theorem isB_ne {u : Value} {b : Bool} (h : isB u b = false) : u ≠ .bool b := fun e => by
 rw [e] at h
 simp [isB] at h
theorem AWl.skipG {j : Nat} {b : Bool} {u : Value} {d : Nat} (hg : o.guard = some (j, b)) (hy : (ops[j]?).bind (·.dst) = some d) (hl : look σ.fr d = some (.d (ex u))) (hne : isB u b = false) (hd : d < n) (hdl : dLt o.dst n = true) (h : AWl P s0 n ops Q rest (σ.put o.dst (.d (ex undef)))) : AWl P s0 n ops Q (o :: rest) σ := by
 refine ⟨fun a w ⟨s, ρ, hw, hst⟩ => ?_⟩
 subst hw
 refine wpList_step fun K hK => ?_
 have e1 : a.tmps.getD d undef = u := hst.fr d _ hl
 have hdl2 : d < a.tmps.size := by rw [hst.sz]; exact hd
 have e2 : a.tmps[d]? = some u := by
  rw [Array.getD_eq_getD_getElem?, Array.getElem?_eq_getElem hdl2] at e1
  rw [Array.getElem?_eq_getElem hdl2]
  exact congrArg some e1
 have hne' : u ≠ .bool b := isB_ne hne
 rw [if_neg (by
  simp only [Region.wanted, hg, yielded, hy, Option.bind_some, e2, beq_iff_eq]
  split
  ·rename_i c hc
   cases hc
   exact fun e => hne' (by rw [Option.some.inj e])
  ·simp)]
 exact hK _ _ (h.run _ _ ⟨s, ρ, rfl, hst.put (GS.Le.refl s) (dLt_lt hdl) rfl⟩)
theorem quiet_wp {r : AV} (hs : notSelect o.op = true) (hd : dLt o.dst n = true) (hq : Quiet P σ.hp o σ.arg r) (h : AWl P s0 n ops Q rest (σ.put o.dst r)) : ∀ (s : GS) (ρ : Nat → Value) (a : Act), StI s0 n σ a s ρ → ∀ K : Act → World → Prop, (∀ σ' a' w', AWl P s0 n ops Q rest σ' → St s0 n σ' a' w' → K a' w') → o.wp P a s.w K (lift s0 n Q) :=
 fun s ρ a hst K hK => RegG.opStep_wp hs (fun _ _ => rfl) (hq.run _ s ρ a.eval hst.ok hst.le.ext.size hst.hp fun x _ => hst.arg x) fun v s' ⟨hl, hr⟩ => hK _ _ _ h ⟨s', ρ, rfl, hst.put hl (dLt_lt hd) hr⟩
theorem AWl.quiet {r : AV} (hg : o.guard = none) (hs : notSelect o.op = true) (hd : dLt o.dst n = true) (hq : Quiet P σ.hp o σ.arg r) (h : AWl P s0 n ops Q rest (σ.put o.dst r)) : AWl P s0 n ops Q (o :: rest) σ := AWl.step hg (quiet_wp hs hd hq h)
theorem AWl.quietG {r : AV} {j : Nat} {b : Bool} {d : Nat} (hg : o.guard = some (j, b)) (hy : (ops[j]?).bind (·.dst) = some d) (hl : look σ.fr d = some (.d (ex (.bool b)))) (hdn : d < n) (hs : notSelect o.op = true) (hd : dLt o.dst n = true) (hq : Quiet P σ.hp o σ.arg r) (h : AWl P s0 n ops Q rest (σ.put o.dst r)) : AWl P s0 n ops Q (o :: rest) σ := AWl.runG hg hy hl (quiet_wp hs hd hq h) hdn
end
section
variable {s0 : GS} {n : Nat} {σ : AS} {a : Act} {s : GS} {ρ : Nat → Value}
theorem live_lt {hp : List Ow} {i : Nat} {o : Ow} (h : hp[i]? = some o) : i < hp.length := (List.getElem?_eq_some_iff.1 h).1
theorem OwR.blk_lt {base m i : Nat} {o : Ow} (h : OwR base m ρ s i o) {b : Nat} (hb : vblk (ρ i) = some b) (hl : o.live = true) : b < s.w.heap.size ∧ base ≤ b := by
 cases o with
 | dead => cases hl
 | var T cells =>
  obtain ⟨g, cs, h1, h2, h3, _⟩ := h
  rw [h1] at hb
  cases hb
  exact ⟨lt_of_heap h3, h2⟩
 | row T sz rows =>
  obtain ⟨xs, ⟨h1, h2⟩, _⟩ := h
  rcases h2 with ⟨e1, _⟩ | ⟨g, cap, cur, e1, e2, e3, _⟩
  ·rw [e1] at hb; cases hb
  ·rw [e1] at hb; cases hb; exact ⟨lt_of_heap e3, e2⟩
theorem OwR.mono {base m m' i : Nat} {ρ' : Nat → Value} {o : Ow} (h : OwR base m ρ s i o) (hm : m ≤ m') (hρ : ∀ j, j < m → ρ' j = ρ j) (hi : i < m) : OwR base m' ρ' s i o := by
 cases o with
 | dead => trivial
 | var T cells =>
  obtain ⟨b, cs, h1, h2, h3, h4, h5, h6, h7⟩ := h
  refine ⟨b, cs, (hρ i hi).trans h1, h2, h3, h4, h5, h6, fun k av hk => ?_⟩
  obtain ⟨u, h8, h9, h10⟩ := h7 k av hk
  exact ⟨u, h8, h9, h10.mono hm hρ⟩
 | row T sz rows =>
  unfold OwR
  rw [hρ i hi]
  exact h
theorem OwR.keep {base m i : Nat} {o : Ow} {s' : GS} (h : OwR base m ρ s i o) (hc : GS.Chg s s') (hb : o.live = true → ∀ b, vblk (ρ i) = some b → s'.w.heap[b]? = s.w.heap[b]? ∧ ∀ k, s'.S b k ↔ s.S b k) : OwR base m ρ s' i o := by
 cases o with
 | dead => trivial
 | var T cells =>
  obtain ⟨b, cs, h1, h2, h3, h4, h5, h6, h7⟩ := h
  obtain ⟨e1, e2⟩ := hb rfl b (by rw [h1]; rfl)
  refine ⟨b, cs, h1, h2, e1.trans h3, h4, h5, fun k hk => h6 k ((e2 k).1 hk), fun k av hk => ?_⟩
  obtain ⟨u, h8, h9, h10⟩ := h7 k av hk
  exact ⟨u, h8, h9, h10.chg hc⟩
 | row T sz rows =>
  obtain ⟨xs, ⟨h1, h2⟩, h3, h4, h5, h6⟩ := h
  refine ⟨xs, ⟨h1, ?_⟩, h3, h4, fun b hb' k => ((hb rfl b hb').2 k).trans (h5 b hb' k), fun k hk => ⟨(h6 k hk).1, fun j hj => ?_⟩⟩
  ·rcases h2 with h2 | ⟨g, cap, cur, e1, e2, e3, e4⟩
   ·exact .inl h2
   ·exact .inr ⟨g, cap, cur, e1, e2, (hb rfl g (by rw [e1]; rfl)).1.trans e3, e4⟩
  ·obtain ⟨u, h8, h9, h10⟩ := (h6 k hk).2 j hj
   exact ⟨u, h8, h9, (dAt _ j).st h10 hc⟩
theorem StI.new (h : StI s0 n σ a s ρ) {s' : GS} (hl : GS.Le s s') {dst : Option Tmp} (hd : ∀ d, dst = some d → d < n) {v u : Value} {r : AV} {ow : Ow} (hr : AVr (σ.hp.length + 1) (fun i => if i = σ.hp.length then u else ρ i) s' r v)
  (ho : OwR s0.w.heap.size (σ.hp.length + 1) (fun i => if i = σ.hp.length then u else ρ i) s' σ.hp.length ow) (hb : ow.live = true → ∀ b, vblk u = some b → ∀ i o, σ.hp[i]? = some o → o.live = true → vblk (ρ i) ≠ some b) :
  StI s0 n { fr := (σ.put dst r).fr, hp := σ.hp ++ [ow] } (a.put dst v) s' (fun i => if i = σ.hp.length then u else ρ i) := by
 have hρ : ∀ j, j < σ.hp.length → (if j = σ.hp.length then u else ρ j) = ρ j := fun j hj => if_neg (by omega)
 have hlen : (σ.hp ++ [ow]).length = σ.hp.length + 1 := by simp
 refine ⟨h.le.trans hl, hl.ok h.ok, fun t av ht => ?_, ?_, ?_, fun i o hi => ?_, fun i j o o' hij hi hj hlo hlo' b hbi hbj => ?_⟩
 ·show AVr (σ.hp ++ [ow]).length _ s' av _
  rw [hlen]
  cases dst with
  | none => exact ((h.fr t av ht).chg hl.chg).mono (Nat.le_succ _) hρ
  | some d =>
   replace ht : look ((d, r) :: σ.fr) t = some av := ht
   rw [look_cons] at ht
   simp only [Act.put]
   by_cases hdt : d = t
   ·rw [if_pos hdt] at ht
    cases ht
    subst hdt
    have : d < a.tmps.size := by rw [h.sz]; exact hd d rfl
    simp [this]
    exact hr
   ·rw [if_neg hdt] at ht
    have := ((h.fr t av ht).chg hl.chg).mono (Nat.le_succ _) hρ
    rw [Array.getD_eq_getD_getElem?] at this ⊢
    rwa [Array.getElem?_setIfInBounds_ne hdt]
 ·unfold Act.put; split <;> simp [h.sz]
 ·unfold Act.put; split <;> simp [h.df]
 ·show OwR s0.w.heap.size (σ.hp ++ [ow]).length _ s' i o
  rw [hlen]
  rw [List.getElem?_append] at hi
  split at hi
  ·rename_i hlt
   exact ((h.hp i o hi).le hl).mono (Nat.le_succ _) hρ hlt
  ·rename_i hge
   have : i = σ.hp.length := by
    have := live_lt hi
    simp at this
    omega
   subst this
   simp at hi
   subst hi
   exact ho
 ·have key : ∀ i o, (σ.hp ++ [ow])[i]? = some o → ∀ b, vblk (if i = σ.hp.length then u else ρ i) = some b → (i < σ.hp.length ∧ σ.hp[i]? = some o ∧ vblk (ρ i) = some b) ∨ (i = σ.hp.length ∧ o = ow ∧ vblk u = some b) := fun i o hi b hbi => by
   rw [List.getElem?_append] at hi
   split at hi
   ·rename_i hlt
    rw [if_neg (by omega)] at hbi
    exact .inl ⟨hlt, hi, hbi⟩
   ·rename_i hge
    have : i = σ.hp.length := by
     have := live_lt hi
     simp at this
     omega
    subst this
    simp at hi
    subst hi
    rw [if_pos rfl] at hbi
    exact .inr ⟨rfl, rfl, hbi⟩
  rcases key i o hi b hbi with ⟨h1, h2, h3⟩ | ⟨h1, h2, h3⟩ <;> rcases key j o' hj b hbj with ⟨h5, h6, h7⟩ | ⟨h5, h6, h7⟩
  ·exact h.sep i j o o' hij h2 h6 hlo hlo' b h3 h7
  ·exact hb (by rw [← h6]; exact hlo') b h7 i o h2 hlo h3
  ·exact hb (by rw [← h2]; exact hlo) b h3 j o' h6 hlo' h7
  ·omega
theorem StI.far (h : StI s0 n σ a s ρ) {b : Nat} (hb : s.w.heap.size ≤ b) : ∀ i o, σ.hp[i]? = some o → o.live = true → vblk (ρ i) ≠ some b := fun i o hi hl hv => by
 have := ((h.hp i o hi).blk_lt hv hl).1
 omega
end
section
variable {P : Program} {s0 : GS} {n : Nat} {ops : Array Oper} {Q : Exit → AS → Prop} {rest : List Oper} {o : Oper} {σ : AS}
theorem run_newVar (t : TypeId) (v : Value) (w : World) : (newVar t v).run P w = .ok ⟨w.heap.size, 0, none⟩ (w.alloc (.cells v.cells t)) := rfl
def AS.new (σ : AS) (dst : Option Tmp) (r : AV) (ow : Ow) : AS := { fr := (σ.put dst r).fr, hp := σ.hp ++ [ow] }
def exs (l : List Value) : List AV := l.map fun u => .d (ex u)
def one1 (l : List Value) : Bool := l.all (·.oneCell')
theorem AWl.alloc {T : TypeId} {d : TypeDesc} {m b : Nat} {z : Value} (hop : o.op = .alloc T) (hg : o.guard = none) (ht : Tab P T d m b z) (hT : T ≠ 137) (h1 : one1 z.cells.toList = true) (hd : dLt o.dst n = true) (h : AWl P s0 n ops Q rest (σ.new o.dst (.ptr σ.hp.length 0) (.var T (exs z.cells.toList)))) : AWl P s0 n ops Q (o :: rest) σ := by
 refine AWl.step hg fun s ρ a hst K hK => ?_
 have hrun : (execOp a.eval o).run P s.w = .ok (.value (.pointer (some ⟨s.w.heap.size, 0, none⟩))) (s.w.alloc (.cells z.cells T)) := by
  simp [execOp, hop, Instr.alloc, ht.run_zero, run_newVar]
 unfold Oper.wp
 rw [hrun]
 refine hK _ _ _ h ⟨s.mk' z.cells T 0, _, rfl, hst.new (s.le_mk' z.cells T 0 hT) (dLt_lt hd) (u := .pointer (some ⟨s.w.heap.size, 0, none⟩)) ⟨by omega, s.w.heap.size, by simp, rfl⟩ ?_ fun _ b hb => by cases hb; exact hst.far (Nat.le_refl _)⟩
 refine ⟨s.w.heap.size, z.cells, by simp, hst.le.ext.size, heap_alloc_new s.w _, by simp [exs], hT, fun k hk => absurd (hst.ok.lt _ _ hk) (Nat.lt_irrefl _), fun k av hk => ?_⟩
 unfold exs at hk
 rw [List.getElem?_map] at hk
 cases hz : z.cells.toList[k]? with
 | none => rw [hz] at hk; cases hk
 | some u =>
  rw [hz] at hk
  cases hk
  exact ⟨u, by simpa using hz, List.all_eq_true.1 h1 u (List.mem_of_getElem? hz), rfl⟩
theorem AWl.box {T : TypeId} {x : Operand} {ds : List D} (hop : o.op = .box T x) (hg : o.guard = none) (hx : σ.arg x = .d (agD ds)) (hT : T ≠ 137) (hd : dLt o.dst n = true) (h : AWl P s0 n ops Q rest (σ.new o.dst (.ptr σ.hp.length 0) (.var T (ds.map .d)))) : AWl P s0 n ops Q (o :: rest) σ := by
 refine AWl.step hg fun s ρ a hst K hK => ?_
 have h1 := hst.arg x
 rw [hx] at h1
 obtain ⟨cs, e1, h2, h3⟩ := h1
 have hrun : (execOp a.eval o).run P s.w = .ok (.value (.pointer (some ⟨s.w.heap.size, 0, none⟩))) (s.w.alloc (.cells cs T)) := by
  simp only [execOp, hop, e1, Instr.box, Sem.run_bind, run_newVar, Result.andThen_ok, Sem.run_pure]
  rfl
 unfold Oper.wp
 rw [hrun]
 have hle := s.le_mk' cs T 0 hT
 refine hK _ _ _ h ⟨s.mk' cs T 0, _, rfl, hst.new hle (dLt_lt hd) (u := .pointer (some ⟨s.w.heap.size, 0, none⟩)) ⟨by omega, s.w.heap.size, by simp, rfl⟩ ?_ fun _ b hb => by cases hb; exact hst.far (Nat.le_refl _)⟩
 refine ⟨s.w.heap.size, cs, by simp, hst.le.ext.size, heap_alloc_new s.w _, by simp [h2], hT, fun k hk => absurd (hst.ok.lt _ _ hk) (Nat.lt_irrefl _), fun k av hk => ?_⟩
 rw [List.getElem?_map] at hk
 cases hz : ds[k]? with
 | none => rw [hz] at hk; cases hk
 | some x =>
  rw [hz] at hk
  cases hk
  have hkl : k < ds.length := (List.getElem?_eq_some_iff.1 hz).1
  obtain ⟨u, h4, h5, h6⟩ := h3 k hkl
  refine ⟨u, h4, h5, ?_⟩
  have : dAt ds k = x := by simp [dAt, hz]
  rw [this] at h6
  exact x.st h6 hle.chg
end
end Go.Proofs.YteicdddphdomkaaGreat
namespace Go.Proofs.YteicdddphdomkaaGreat
open Go.RowKit
def Ow.mapA (f : AV → AV) : Ow → Ow
 | .var T cells => .var T (cells.map f)
 | o => o
theorem Ow.live_mapA (f : AV → AV) (o : Ow) : (o.mapA f).live = o.live := by cases o <;> rfl
theorem look_map (f : AV → AV) : ∀ (l : List (Nat × AV)) (t : Nat), look (l.map fun p => (p.1, f p.2)) t = (look l t).map f
 | [], t => rfl
 | p :: r, t => by
  rw [List.map_cons]
  obtain ⟨a, av⟩ := p
  rw [look_cons, look_cons, look_map f r t]
  split <;> rfl
section
variable {s0 : GS} {n : Nat} {σ : AS} {a : Act} {s : GS} {ρ : Nat → Value}
theorem StI.upd (h : StI s0 n σ a s ρ) {s' : GS} (hle : GS.Le s0 s') (hok : s'.Ok) (hc : GS.Chg s s') {id : Nat} {o o' : Ow} {ρ' : Nat → Value} {f : AV → AV} (hi : σ.hp[id]? = some o) (hlo : o.live = true)
  (hfar : ∀ b, b < s.w.heap.size → vblk (ρ id) ≠ some b → s'.w.heap[b]? = s.w.heap[b]? ∧ ∀ k, s'.S b k ↔ s.S b k) (hρ : ∀ j, j ≠ id → ρ' j = ρ j)
  (hnew : OwR s0.w.heap.size σ.hp.length ρ' s' id o') (hblk : ∀ b, vblk (ρ' id) = some b → vblk (ρ id) = some b ∨ s.w.heap.size ≤ b) (hf : ∀ av v, AVr σ.hp.length ρ s av v → AVr σ.hp.length ρ' s' (f av) v) :
  StI s0 n { fr := σ.fr.map fun p => (p.1, f p.2), hp := (σ.hp.map (Ow.mapA f)).set id o' } a s' ρ' := by
 have hlen : ((σ.hp.map (Ow.mapA f)).set id o').length = σ.hp.length := by simp
 have hget : ∀ i x, ((σ.hp.map (Ow.mapA f)).set id o')[i]? = some x → (i = id ∧ x = o') ∨ (i ≠ id ∧ ∃ y, σ.hp[i]? = some y ∧ x = y.mapA f) := fun i x hx => by
  rw [List.getElem?_set] at hx
  split at hx
  ·rename_i e
   split at hx
   ·cases hx; exact .inl ⟨e.symm, rfl⟩
   ·cases hx
  ·rename_i e
   rw [List.getElem?_map] at hx
   cases hy : σ.hp[i]? with
   | none => rw [hy] at hx; cases hx
   | some y => rw [hy] at hx; cases hx; exact .inr ⟨fun e' => e e'.symm, y, rfl, rfl⟩
 have hother : ∀ i y, i ≠ id → σ.hp[i]? = some y → y.live = true → ∀ b, vblk (ρ i) = some b → b < s.w.heap.size ∧ vblk (ρ id) ≠ some b := fun i y hne hy hl b hb => ⟨((h.hp i y hy).blk_lt hb hl).1, h.sep i id y o hne hy hi hl hlo b hb⟩
 refine ⟨hle, hok, fun t av ht => ?_, h.sz, h.df, fun i x hx => ?_, fun i j x y hij hx hy hlx hly b hb1 hb2 => ?_⟩
 ·show AVr ((σ.hp.map (Ow.mapA f)).set id o').length ρ' s' av _
  rw [hlen]
  rw [look_map] at ht
  cases hl : look σ.fr t with
  | none => rw [hl] at ht; cases ht
  | some av0 =>
   rw [hl] at ht
   cases ht
   exact hf _ _ (h.fr t av0 hl)
 ·show OwR s0.w.heap.size ((σ.hp.map (Ow.mapA f)).set id o').length ρ' s' i x
  rw [hlen]
  rcases hget i x hx with ⟨rfl, rfl⟩ | ⟨hne, y, hy, rfl⟩
  ·exact hnew
  ·have hold := h.hp i y hy
   cases y with
   | dead => trivial
   | var T cells =>
    obtain ⟨b, cs, h1, h2, h3, h4, h5, h6, h7⟩ := hold
    obtain ⟨e1, e2⟩ := hother i _ hne hy rfl b (by rw [h1]; rfl)
    obtain ⟨e3, e4⟩ := hfar b e1 e2
    refine ⟨b, cs, (hρ i hne).trans h1, h2, e3.trans h3, by simpa using h4, h5, fun k hk => h6 k ((e4 k).1 hk), fun k av hk => ?_⟩
    rw [List.getElem?_map] at hk
    cases hk0 : cells[k]? with
    | none => rw [hk0] at hk; cases hk
    | some av0 =>
     rw [hk0] at hk
     cases hk
     obtain ⟨u, h8, h9, h10⟩ := h7 k av0 hk0
     exact ⟨u, h8, h9, hf _ _ h10⟩
   | row T sz rows =>
    have := hold.keep hc fun hl b hb => hfar b (hother i _ hne hy hl b hb).1 (hother i _ hne hy hl b hb).2
    unfold OwR at this
    show OwR s0.w.heap.size σ.hp.length ρ' s' i (.row T sz rows)
    unfold OwR
    rw [hρ i hne]
    exact this
 ·rcases hget i x hx with ⟨rfl, rfl⟩ | ⟨hne, x0, hx0, rfl⟩ <;> rcases hget j y hy with ⟨rfl, rfl⟩ | ⟨hne', y0, hy0, rfl⟩
  ·exact hij rfl
  ·rw [hρ j hne'] at hb2
   rw [Ow.live_mapA] at hly
   obtain ⟨e1, e2⟩ := hother j _ hne' hy0 hly b hb2
   rcases hblk b hb1 with h1 | h1
   ·exact e2 h1
   ·omega
  ·rw [hρ i hne] at hb1
   rw [Ow.live_mapA] at hlx
   obtain ⟨e1, e2⟩ := hother i _ hne hx0 hlx b hb1
   rcases hblk b hb2 with h1 | h1
   ·exact e2 h1
   ·omega
  ·rw [hρ i hne] at hb1
   rw [hρ j hne'] at hb2
   rw [Ow.live_mapA] at hlx hly
   exact h.sep i j x0 y0 hij hx0 hy0 hlx hly b hb1 hb2
end
theorem map_same (l : List (Nat × AV)) : (l.map fun p => (p.1, (fun x => x) p.2)) = l := by simp
theorem mapA_same : ∀ l : List Ow, l.map (Ow.mapA fun x => x) = l
 | [] => rfl
 | o :: l => by rw [List.map_cons, mapA_same l]; cases o <;> simp [Ow.mapA]
def One (hp : List Ow) (av : AV) : Prop := ∀ base ρ s v, HpOk base ρ s hp → AVr hp.length ρ s av v → v.oneCell' = true
theorem One.ex_ {hp : List Ow} {u : Value} (h : u.oneCell' = true) : One hp (.d (ex u)) := fun _ _ _ v _ hv => by have : v = u := hv; rw [this]; exact h
theorem One.sl {hp : List Ow} {T sz : Nat} {rows : List (List D)} : One hp (.d (slD T sz rows)) := fun _ _ _ v _ ⟨A, c, hv, _⟩ => by rw [hv]; rfl
theorem One.ep {hp : List Ow} {T : Nat} {ds : List D} : One hp (.d (epD T ds)) := fun _ _ _ v _ ⟨A, c, hv, _⟩ => by rw [hv]; rfl
theorem Ty.unset {w : World} {p : Addr} {u : Value} {b : Nat} {t : TypeId} (h : Ty (w.setCell p u) b t) : Ty w b t := by
 obtain ⟨cs, fz, h⟩ := h
 by_cases hb : b = p.block
 ·simp only [World.setCell, Array.getElem?_modify, hb, if_true] at h
  cases ho : w.heap[p.block]? with
  | none => rw [ho] at h; cases h
  | some o =>
   rw [ho] at h
   cases o with
   | cells c e f =>
    simp at h
    exact ⟨c, f, by rw [hb, ho]; rw [h.2.1]⟩
   | _ => simp at h
 ·rw [Below.heap_setCell _ _ _ _ hb] at h
  exact ⟨cs, fz, h⟩
theorem GS.ok_heap {s s' : GS} (h : s.Ok) (hS : ∀ b k, s'.S b k → s.S b k) (hsz : s.w.heap.size ≤ s'.w.heap.size) (hS' : ∀ b k, s.S b k → s'.S b k) (ht : ∀ b, Ty s'.w b 137 → Ty s.w b 137) : s'.Ok :=
 ⟨fun b k hb => Nat.lt_of_lt_of_le (h.lt b k (hS b k hb)) hsz, fun b k hb => hS' b k (h.safe b k (ht b hb))⟩
section
variable {P : Program} {s0 : GS} {n : Nat} {ops : Array Oper} {Q : Exit → AS → Prop} {rest : List Oper} {o : Oper} {σ : AS}
theorem AWl.store1 {T T0 : TypeId} {d : TypeDesc} {b id off : Nat} {z : Value} {x y : Operand} {cells : List AV} {av : AV} (hop : o.op = .store T x y) (hg : o.guard = none) (hds : o.dst = none) (hx : σ.arg x = .ptr id off) (hy : σ.arg y = av) (hh : σ.hp[id]? = some (.var T0 cells)) (ht : Tab P T d 1 b z) (h1 : One σ.hp av) (hoff : off < cells.length) (h : AWl P s0 n ops Q rest { fr := σ.fr, hp := σ.hp.set id (.var T0 (cells.set off av)) }) : AWl P s0 n ops Q (o :: rest) σ := by
 refine AWl.step hg fun s ρ a hst K hK => ?_
 have hx' := hst.arg x
 have hy' := hst.arg y
 rw [hx] at hx'; rw [hy] at hy'
 obtain ⟨hid, g, hr1, e1⟩ := hx'
 obtain ⟨g', cs, h2, h3, h4, h5, h6, h7, h8⟩ := hst.hp id _ hh
 rw [hr1] at h2
 cases h2
 have hv1 := h1 _ _ _ _ hst.hp hy'
 have hcell : s.w.cell? ⟨g, off, none⟩ = some (cs[off]'(by omega)) := (cell_of_block h4).trans (Array.getElem?_eq_getElem _)
 have hfz : s.w.frozen? ⟨g, off, none⟩ = false := Blk.frozen h4 off
 have hvc : (a.eval y).cells = #[a.eval y] := by cases hv : a.eval y <;> first | rfl | (rw [hv] at hv1; cases hv1)
 have hrun : (execOp a.eval o).run P s.w = .ok .skip (s.w.setCell ⟨g, off, none⟩ (a.eval y)) := by
  have h9 : (store ⟨g, off, none⟩ (a.eval y)).run P s.w = .ok () (s.w.setCell ⟨g, off, none⟩ (a.eval y)) := by
   cases hv : a.eval y <;> first | (rw [hv] at hv1; cases hv1; done) | simp [store, Sem.run, hcell, hfz]
  simp [execOp, hop, e1, Instr.storeAt, Instr.sureAddr, storeVar, hvc, ht.run_size, storeCells, Addr.add_lit, h9]
 unfold Oper.wp
 rw [hrun]
 have hfar : ∀ b, b ≠ g → (s.w.setCell ⟨g, off, none⟩ (a.eval y)).heap[b]? = s.w.heap[b]? := fun b hb => Below.heap_setCell _ _ _ _ hb
 have hnew : (s.w.setCell ⟨g, off, none⟩ (a.eval y)).heap[g]? = some (.cells (cs.setIfInBounds off (a.eval y)) T0 (0, 0)) := Blk.set h4 off _
 have hext : Ext s0.w (s.w.setCell ⟨g, off, none⟩ (a.eval y)) := hst.le.ext.set h3 _
 have hok : GS.Ok { s with w := s.w.setCell ⟨g, off, none⟩ (a.eval y) } := GS.ok_heap hst.ok (fun _ _ h => h) (by show _ ≤ (s.w.setCell _ _).heap.size; simp [World.setCell]) (fun _ _ h => h) fun b hb => Ty.unset hb
 have hc : GS.Chg s { s with w := s.w.setCell ⟨g, off, none⟩ (a.eval y) } := ⟨by show _ ≤ (s.w.setCell _ _).heap.size; simp [World.setCell], fun _ _ h => h, fun b c T fz hb => by
  by_cases e : b = g
  ·subst e
   rw [h4] at hb
   cases hb
   exact ⟨_, _, hnew, fun k hk => absurd hk (h7 k)⟩
  ·exact ⟨c, fz, (hfar b e).trans hb, fun _ _ => rfl⟩⟩
 have hst' := hst.upd (s' := { s with w := s.w.setCell ⟨g, off, none⟩ (a.eval y) }) (ρ' := ρ) (f := fun x => x) (o' := .var T0 (cells.set off av)) ⟨hext, hst.le.up, hst.le.old, hst.le.tag, fun _ => hok⟩ hok hc hh rfl (fun b _ hb => ⟨hfar b fun e => hb (by rw [hr1, e]; rfl), fun _ => Iff.rfl⟩) (fun _ _ => rfl)
  ⟨g, _, hr1, h3, hnew, by simpa using h5, h6, h7, fun k av' hk => by
   rw [List.getElem?_set] at hk
   split at hk
   ·rename_i e
    subst e
    obtain rfl : av' = av := by first | exact (Option.some.inj hk).symm | (rw [if_pos hoff] at hk; exact (Option.some.inj hk).symm)
    exact ⟨_, by simp [h5, hoff], hv1, hy'.chg hc⟩
   ·rename_i e
    obtain ⟨u, h10, h11, h12⟩ := h8 k av' hk
    exact ⟨u, by rw [Array.getElem?_setIfInBounds_ne e]; exact h10, h11, h12.chg hc⟩⟩ (fun b hb => .inl hb) fun av v h => h.chg hc
 rw [map_same, mapA_same] at hst'
 exact hK _ _ _ h (by rw [hds]; exact ⟨_, ρ, rfl, hst'⟩)
def splice (cells : List AV) (off : Nat) (ds : List AV) : List AV := cells.take off ++ (ds ++ cells.drop (off + ds.length))
theorem splice_get {cells : List AV} {off : Nat} {ds : List AV} (h : off + ds.length ≤ cells.length) (k : Nat) : (splice cells off ds)[k]? = if off ≤ k ∧ k < off + ds.length then ds[k - off]? else cells[k]? := by
 unfold splice
 rw [List.getElem?_append]
 have h1 : (cells.take off).length = off := by simp; omega
 rw [h1]
 split
 ·rename_i hlt
  rw [if_neg (by omega), List.getElem?_take, if_pos hlt]
 ·rename_i hge
  rw [List.getElem?_append]
  split
  ·rename_i hlt
   rw [if_pos (by omega)]
  ·rename_i hge2
   rw [if_neg (by omega), List.getElem?_drop]
   congr 1
   omega
theorem AWl.storeA {T T0 : TypeId} {d : TypeDesc} {b id off m : Nat} {z : Value} {x y : Operand} {cells : List AV} {ds : List D} (hop : o.op = .store T x y) (hg : o.guard = none) (hds : o.dst = none) (hx : σ.arg x = .ptr id off) (hy : σ.arg y = .d (agD ds)) (hh : σ.hp[id]? = some (.var T0 cells)) (ht : Tab P T d m b z) (hm : ds.length = m) (hoff : off + m ≤ cells.length) (h : AWl P s0 n ops Q rest { fr := σ.fr, hp := σ.hp.set id (.var T0 (splice cells off (ds.map .d))) }) : AWl P s0 n ops Q (o :: rest) σ := by
 refine AWl.step hg fun s ρ a hst K hK => ?_
 have hx' := hst.arg x
 have hy' := hst.arg y
 rw [hx] at hx'; rw [hy] at hy'
 obtain ⟨hid, g, hr1, e1⟩ := hx'
 obtain ⟨g', cs, h2, h3, h4, h5, h6, h7, h8⟩ := hst.hp id _ hh
 rw [hr1] at h2
 cases h2
 obtain ⟨vs, e2, hv1, hv2⟩ := hy'
 have hvone : ∀ v ∈ vs.toList, v.oneCell' = true := fun v hv => by
  obtain ⟨k, hk, rfl⟩ := List.getElem_of_mem hv
  simp at hk
  obtain ⟨u, h9, h10, _⟩ := hv2 k (by omega)
  rw [Array.getElem?_eq_getElem hk] at h9
  cases h9
  simpa using h10
 have hvl : vs.toList.length = m := by simp [hv1, hm]
 have hst1 := run_storeCells_at P g off T0 vs.toList 0 cs s.w h4 (by omega) hvone
 simp only [Nat.add_zero] at hst1
 obtain ⟨W, hW⟩ : ∃ W, W = s.w.setRow g (cs.toList.take off ++ vs.toList ++ cs.toList.drop (off + vs.toList.length)).toArray := ⟨_, rfl⟩
 rw [← hW] at hst1
 have hrun : (execOp a.eval o).run P s.w = .ok .skip W := by
  simp [execOp, hop, e1, e2, Instr.storeAt, Instr.sureAddr, storeVar, Value.cells, hv1, hm, ht.run_size, hst1]
 unfold Oper.wp
 rw [hrun]
 have hfar : ∀ b, b ≠ g → W.heap[b]? = s.w.heap[b]? := fun b hb => by rw [hW]; exact setRow_other s.w g b _ (fun e => hb e)
 have hnew : W.heap[g]? = some (.cells (cs.toList.take off ++ vs.toList ++ cs.toList.drop (off + vs.toList.length)).toArray T0 (0, 0)) := by rw [hW]; exact setRow_heap s.w g cs _ T0 _ h4
 have hsz : W.heap.size = s.w.heap.size := by rw [hW]; simp [World.setRow]
 have hext : Ext s0.w W := by
  have h9 := hst.le.ext
  refine ⟨?_, ?_, ?_, by rw [hsz]; exact h9.size, fun k hk => (hfar k (by omega)).trans (h9.block hk)⟩
  ·rw [hW]; exact h9.os
  ·rw [hW]; exact h9.tape
  ·rw [hW]; exact h9.output
 have hok : GS.Ok { s with w := W } := GS.ok_heap hst.ok (fun _ _ h => h) (by show _ ≤ W.heap.size; omega) (fun _ _ h => h) fun b ⟨c, fz, hb⟩ => by
  by_cases e : b = g
  ·subst e
   have hb : W.heap[b]? = _ := hb
   rw [hnew] at hb
   cases hb
   exact absurd rfl h6
  ·exact ⟨c, fz, (hfar b e).symm.trans hb⟩
 have hc : GS.Chg s { s with w := W } := ⟨by show _ ≤ W.heap.size; omega, fun _ _ h => h, fun b c T fz hb => by
  by_cases e : b = g
  ·subst e
   rw [h4] at hb
   cases hb
   exact ⟨_, _, hnew, fun k hk => absurd hk (h7 k)⟩
  ·exact ⟨c, fz, (hfar b e).trans hb, fun _ _ => rfl⟩⟩
 have hml : off + (ds.map AV.d).length ≤ cells.length := by simp; omega
 have hst' := hst.upd (s' := { s with w := W }) (ρ' := ρ) (f := fun x => x) (o' := .var T0 (splice cells off (ds.map .d))) ⟨hext, hst.le.up, hst.le.old, hst.le.tag, fun _ => hok⟩ hok hc hh rfl (fun b _ hb => ⟨hfar b fun e => hb (by rw [hr1, e]; rfl), fun _ => Iff.rfl⟩) (fun _ _ => rfl)
  ⟨g, _, hr1, h3, hnew, by simp [splice]; omega, h6, h7, fun k av' hk => by
   rw [splice_get hml] at hk
   have hget : (cs.toList.take off ++ vs.toList ++ cs.toList.drop (off + vs.toList.length)).toArray[k]? = if off ≤ k ∧ k < off + m then vs[k - off]? else cs[k]? := by
    rw [List.getElem?_toArray, List.append_assoc, List.getElem?_append]
    have hl1 : (cs.toList.take off).length = off := by simp; omega
    rw [hl1]
    split
    ·rename_i hlt
     rw [if_neg (by omega), List.getElem?_take, if_pos hlt]
     simp
    ·rename_i hge
     rw [List.getElem?_append]
     split
     ·rename_i hlt
      rw [if_pos (by omega)]
      simp
     ·rename_i hge2
      rw [if_neg (by omega), List.getElem?_drop]
      simp
      congr 1
      omega
   rw [hget]
   rw [List.length_map, hm] at hk
   split at hk
   ·rename_i hin
    rw [if_pos hin]
    rw [List.getElem?_map] at hk
    cases hdk : ds[k - off]? with
    | none => rw [hdk] at hk; cases hk
    | some x =>
     rw [hdk] at hk
     cases hk
     obtain ⟨u, h9, h10, h11⟩ := hv2 (k - off) (by omega)
     refine ⟨u, h9, h10, ?_⟩
     have : dAt ds (k - off) = x := by simp [dAt, hdk]
     rw [this] at h11
     exact x.st h11 hc
   ·rename_i hin
    rw [if_neg hin]
    obtain ⟨u, h10, h11, h12⟩ := h8 k av' hk
    exact ⟨u, h10, h11, h12.chg hc⟩⟩ (fun b hb => .inl hb) fun av v h => h.chg hc
 rw [map_same, mapA_same] at hst'
 exact hK _ _ _ h (by rw [hds]; exact ⟨_, ρ, rfl, hst'⟩)
end
end Go.Proofs.YteicdddphdomkaaGreat
namespace Go.Proofs.YteicdddphdomkaaGreat
open Go.RowKit
theorem append_st {P : Program} {s0 s : GS} (hle : GS.Le s0 s) (hok : s.Ok) {t ty T sz bytes : Nat} {z : Value} {d : TypeDesc} (ht : P.underlying t = some (.slice T)) (hT : Tab P T d sz bytes z) (hzs : z.cells.size = sz) (hT32 : T ≠ 137) (h0 : 0 < sz)
  {v : Value} {n : Nat} {xs : List Value} (hown : s.w.ownsRow s0.w.heap.size T sz v n xs) (hS : ∀ b, vblk v = some b → ∀ k, s.S b k ↔ k < n * sz)
  (b o m c : Nat) (news : List Value) (hl : news.length = m * sz) (hm : 0 < m) (hnews : ∀ j u, news[j]? = some u → s.w.cell? ⟨b, o + j, none⟩ = some u) (h1 : ∀ u ∈ news, u.oneCell' = true) (hbytes : (n + m) * bytes ≤ 140737488355328) (h63 : n + m ≤ 4611686018427387904) :
  ∃ (v' : Value) (s' : GS), (Builtin.append_ #[t, t] ty #[v, .slice (some ⟨b, o, none⟩) m c]).run P s.w = .ok v' s'.w ∧ GS.Le s0 s' ∧ s'.Ok ∧ GS.Chg s s' ∧ s'.w.ownsRow s0.w.heap.size T sz v' (n + m) (xs ++ news) ∧ (∀ b, vblk v' = some b → ∀ k, s'.S b k ↔ k < (n + m) * sz) ∧
   (∀ b, b < s.w.heap.size → vblk v ≠ some b → s'.w.heap[b]? = s.w.heap[b]? ∧ ∀ k, s'.S b k ↔ s.S b k) ∧ (∀ b, vblk v' = some b → vblk v = some b ∨ s.w.heap.size ≤ b) := by
 obtain ⟨i, hi, hz, hsize, hby⟩ := hT.info
 subst hsize
 subst hby
 have hnews' : ∀ j u, news[j]? = some u → s.w.cell? ((⟨b, o, none⟩ : Addr).add j) = some u := fun j u hj => by rw [Addr.add_lit]; exact hnews j u hj
 have hlen : (xs ++ news).length = (n + m) * i.size := by rw [List.length_append, hown.1, hl, Nat.add_mul]
 have fresh : ∀ (cap : Nat) (arr : Array Value), n + m ≤ cap → cap ≤ maxLen → arr.size = cap * i.size → arr.toList.take ((n + m) * i.size) = xs ++ news → ∃ s' : GS, s'.w = s.w.drew.alloc (.cells arr T) ∧ GS.Le s0 s' ∧ s'.Ok ∧ GS.Chg s s' ∧ s'.w.ownsRow s0.w.heap.size T i.size (.slice (some ⟨s.w.heap.size, 0, none⟩) (n + m) cap) (n + m) (xs ++ news) ∧
   (∀ k, s'.S s.w.heap.size k ↔ k < (n + m) * i.size) ∧ (∀ b, b < s.w.heap.size → s'.w.heap[b]? = s.w.heap[b]? ∧ ∀ k, s'.S b k ↔ s.S b k) := by
  intro cap arr hc1 hc2 hc3 hc4
  have hE : Ext s.w (s.w.drew.alloc (.cells arr T)) := (Ext.refl _).drew.alloc _
  have hnew : (s.w.drew.alloc (.cells arr T)).heap[s.w.heap.size]? = some (.cells arr T (0, 0)) := heap_alloc_new s.w.drew _
  have hsz : (s.w.drew.alloc (.cells arr T)).heap.size = s.w.heap.size + 1 := Array.size_push ..
  have hlt : ∀ k, ¬ s.S s.w.heap.size k := fun k hk => absurd (hok.lt _ _ hk) (Nat.lt_irrefl _)
  have hS' : ∀ b k, b < s.w.heap.size → ((s.S b k ∨ (b = s.w.heap.size ∧ k < (n + m) * i.size)) ↔ s.S b k) := fun b k hb => ⟨fun h => h.elim id fun h => absurd hb (by omega), .inl⟩
  have hok' : GS.Ok ⟨fun b k => s.S b k ∨ (b = s.w.heap.size ∧ k < (n + m) * i.size), s.tag, s.w.drew.alloc (.cells arr T)⟩ := ⟨fun b k hb => by
    show b < (s.w.drew.alloc (.cells arr T)).heap.size
    rcases hb with hb | ⟨hb, _⟩
    ·have := hok.lt _ _ hb; omega
    ·omega, fun b k ⟨cs, fz, hb⟩ => by
    have hb : (s.w.drew.alloc (.cells arr T)).heap[b]? = _ := hb
    have hbl := lt_of_heap hb
    by_cases e : b = s.w.heap.size
    ·subst e
     rw [hnew] at hb
     cases hb
     exact absurd rfl hT32
    ·exact .inl (hok.safe b k ⟨cs, fz, (hE.block (by omega)).symm.trans hb⟩)⟩
  refine ⟨⟨fun b k => s.S b k ∨ (b = s.w.heap.size ∧ k < (n + m) * i.size), s.tag, s.w.drew.alloc (.cells arr T)⟩, rfl, ?_, hok', ?_, ?_, fun k => ⟨fun h => h.elim (fun h => absurd h (hlt k)) fun h => h.2, fun h => .inr ⟨rfl, h⟩⟩, fun b hb => ⟨hE.block hb, fun k => hS' b k hb⟩⟩
  ·refine hle.trans ⟨hE, fun _ _ h => .inl h, fun b k hb h => (hS' b k hb).1 h, fun _ _ => rfl, fun _ => hok'⟩
  ·exact ⟨hE.size, fun _ _ h => .inl h, fun b cs T' fz hb => ⟨cs, fz, (hE.block (lt_of_heap hb)).trans hb, fun _ _ => rfl⟩⟩
  ·exact ⟨hlen, .inr ⟨_, cap, arr, rfl, hle.ext.size, hnew, hc1, hc2, hc3, hc4⟩⟩
 have h63' : n + m ≤ maxLen := by simp only [maxLen]; omega
 have grown : ∀ old, old < n + m → ∃ s' : GS, s'.w = s.w.drew.alloc (.cells (xs.toArray ++ news.toArray ++ Builtin.zeroCells z.cells (grownCap s.w (n + m) old T - (n + m))) T) ∧ GS.Le s0 s' ∧ s'.Ok ∧ GS.Chg s s' ∧ s'.w.ownsRow s0.w.heap.size T i.size (.slice (some ⟨s.w.heap.size, 0, none⟩) (n + m) (grownCap s.w (n + m) old T)) (n + m) (xs ++ news) ∧
   (∀ k, s'.S s.w.heap.size k ↔ k < (n + m) * i.size) ∧ (∀ b, b < s.w.heap.size → s'.w.heap[b]? = s.w.heap[b]? ∧ ∀ k, s'.S b k ↔ s.S b k) := by
  intro old ho
  have hge := grownCap_ge s.w (n + m) old T
  have hcm : grownCap s.w (n + m) old T ≤ maxLen := grownCap_le_maxLen s.w (n + m) old T h63'
  refine fresh _ _ hge hcm ?_ ?_
  ·simp only [Array.size_append, List.size_toArray, size_zeroCells, hzs, hown.1, hl, ← Nat.add_mul]
   congr 1
   omega
  ·simp only [Array.toList_append, List.append_assoc]
   rw [← List.append_assoc, ← hlen]
   exact List.take_left
 rcases hown.2 with ⟨rfl, rfl⟩ | ⟨g, cap, cur, rfl, hbg, hg, hnc, hcm, hcs, htake⟩
 ·have hx : xs = [] := List.eq_nil_of_length_eq_zero (by simpa using hown.1)
  subst hx
  have hr := run_append_nil (P := P) s.w t ty T i z ht hi hz ⟨b, o, none⟩ m c news hl hnews' hm (by omega) (by have hb := hbytes; simp only [Nat.zero_add] at hb; omega)
  obtain ⟨s', e1, e2, e3, e4, e5, e6, e7⟩ := grown 0 (by omega)
  simp only [Nat.zero_add, List.nil_append, Array.empty_append] at e1 e5 e6 ⊢
  rw [← e1] at hr
  exact ⟨_, s', hr, e2, e3, e4, e5, fun b hb k => by cases hb; exact e6 k, fun b hb _ => e7 b hb, fun b hb => by cases hb; exact .inr (Nat.le_refl _)⟩
 ·by_cases hroom : n + m ≤ cap
  ·have hfit : n * i.size + news.length ≤ cur.size := by rw [hl, hcs, ← Nat.add_mul]; exact Nat.mul_le_mul_right _ hroom
   have hr := run_append_room (P := P) s.w t ty T i ht hi g n cap cur hg ⟨b, o, none⟩ m c news hl hnews' h1 hroom hfit
   obtain ⟨W, hW⟩ : ∃ W, W = s.w.setRow g (cur.toList.take (n * i.size) ++ news ++ cur.toList.drop (n * i.size + news.length)).toArray := ⟨_, rfl⟩
   rw [← hW] at hr
   have hfar : ∀ b, b ≠ g → W.heap[b]? = s.w.heap[b]? := fun b hb => by rw [hW]; exact setRow_other s.w g b _ (fun e => hb e)
   have hnew : W.heap[g]? = some (.cells (cur.toList.take (n * i.size) ++ news ++ cur.toList.drop (n * i.size + news.length)).toArray T (0, 0)) := by rw [hW]; exact setRow_heap s.w g cur _ T _ hg
   have hsz : W.heap.size = s.w.heap.size := by rw [hW]; simp [World.setRow]
   have hgl := lt_of_heap hg
   have hSg : ∀ k, s.S g k ↔ k < n * i.size := hS g rfl
   have hS' : ∀ b k, b ≠ g → ((s.S b k ∨ (b = g ∧ k < (n + m) * i.size)) ↔ s.S b k) := fun b k hb => ⟨fun h => h.elim id fun h => absurd h.1 hb, .inl⟩
   have hext : Ext s0.w W := by
    have h9 := hle.ext
    refine ⟨?_, ?_, ?_, by rw [hsz]; exact h9.size, fun k hk => (hfar k (by omega)).trans (h9.block hk)⟩
    ·rw [hW]; exact h9.os
    ·rw [hW]; exact h9.tape
    ·rw [hW]; exact h9.output
   have hok' : GS.Ok ⟨fun b k => s.S b k ∨ (b = g ∧ k < (n + m) * i.size), s.tag, W⟩ := ⟨fun b k hb => by
     show b < W.heap.size
     rcases hb with hb | ⟨hb, _⟩
     ·have := hok.lt _ _ hb; omega
     ·omega, fun b k ⟨cs, fz, hb⟩ => by
     have hb : W.heap[b]? = _ := hb
     by_cases e : b = g
     ·subst e
      rw [hnew] at hb
      cases hb
      exact absurd rfl hT32
     ·exact .inl (hok.safe b k ⟨cs, fz, (hfar b e).symm.trans hb⟩)⟩
   have htk : ∀ k, k < n * i.size → (cur.toList.take (n * i.size) ++ news ++ cur.toList.drop (n * i.size + news.length)).toArray[k]? = cur[k]? := fun k hk => by
    rw [List.getElem?_toArray, List.append_assoc, List.getElem?_append_left (by simp; omega), List.getElem?_take, if_pos hk]
    simp
   refine ⟨_, ⟨fun b k => s.S b k ∨ (b = g ∧ k < (n + m) * i.size), s.tag, W⟩, hr, ⟨hext, fun b k h => .inl (hle.up b k h), fun b k hb h => ?_, hle.tag, fun _ => hok'⟩, hok', ⟨by show _ ≤ W.heap.size; omega, fun _ _ h => .inl h, fun b cs T' fz hb => ?_⟩, ?_, ?_, fun b hb hv => ?_, fun b hb => .inl hb⟩
   ·rcases h with h | ⟨h, _⟩
    ·exact hle.old b k hb h
    ·omega
   ·by_cases e : b = g
    ·subst e
     rw [hg] at hb
     cases hb
     exact ⟨_, _, hnew, fun k hk => htk k ((hSg k).1 hk)⟩
    ·exact ⟨cs, fz, (hfar b e).trans hb, fun _ _ => rfl⟩
   ·refine ⟨hlen, .inr ⟨g, cap, _, rfl, hbg, hnew, hroom, hcm, ?_, ?_⟩⟩
    ·simp only [List.size_toArray, List.length_append, List.length_take, List.length_drop, Array.length_toList]
     omega
    ·rw [htake, ← hlen]
     exact List.take_left
   ·intro b hb k
    cases hb
    constructor
    ·rintro (h | h)
     ·have := (hSg k).1 h
      have : n * i.size ≤ (n + m) * i.size := Nat.mul_le_mul_right _ (by omega)
      omega
     ·exact h.2
    ·intro h
     exact .inr ⟨rfl, h⟩
   ·have hne : b ≠ g := fun e => hv (by rw [e]; rfl)
    exact ⟨hfar b hne, fun k => hS' b k hne⟩
  ·have holds : ∀ j u, xs[j]? = some u → s.w.cell? ((⟨g, 0, none⟩ : Addr).add j) = some u := hown.cells (g := g) rfl
   have hr := run_append_grow (P := P) s.w t ty T i z ht hi hz ⟨g, 0, none⟩ n cap xs hown.1 holds ⟨b, o, none⟩ m c news hl hnews' (by omega) (by omega) (growslice_fits (by omega) hbytes)
   obtain ⟨s', e1, e2, e3, e4, e5, e6, e7⟩ := grown cap (by omega)
   rw [← e1] at hr
   exact ⟨_, s', hr, e2, e3, e4, e5, fun b hb k => by cases hb; exact e6 k, fun b hb _ => e7 b hb, fun b hb => by cases hb; exact .inr (Nat.le_refl _)⟩
def down (id : Nat) (x : D) : AV → AV
 | .own j => bif Nat.beq j id then .d x else .own j
 | av => av
theorem rows_append (r1 r2 : List (List D)) (k : Nat) : (r1 ++ r2).getD k [] = if k < r1.length then r1.getD k [] else r2.getD (k - r1.length) [] := by
 rw [List.getD_eq_getElem?_getD, List.getElem?_append]
 split <;> simp [List.getD_eq_getElem?_getD]
section
variable {P : Program} {s0 : GS} {n : Nat} {ops : Array Oper} {Q : Exit → AS → Prop} {rest : List Oper} {o : Oper} {σ : AS}
def AS.appd (σ : AS) (dst : Option Tmp) (id T sz : Nat) (rows r2 : List (List D)) : AS :=
 AS.put { fr := σ.fr.map fun p => (p.1, down id (slD T sz rows) p.2), hp := (σ.hp.map (Ow.mapA (down id (slD T sz rows)))).set id (.row T sz (rows ++ r2)) } dst (.own id)
theorem news_of {s : GS} {T sz : Nat} {rows : List (List D)} {b o : Nat} (h : ∀ k, k < rows.length → (rows.getD k []).length = sz ∧ Lies s b (o + k * sz) T (rows.getD k [])) : ∃ news : List Value, news.length = rows.length * sz ∧ (∀ j u, news[j]? = some u → s.w.cell? ⟨b, o + j, none⟩ = some u) ∧ (∀ u ∈ news, u.oneCell' = true) ∧
  ∀ k j, k < rows.length → j < sz → ∃ u, news[k * sz + j]? = some u ∧ u.oneCell' = true ∧ (dAt (rows.getD k []) j).rel s u := by
 have key : ∀ i, ∃ u, i < rows.length * sz → s.w.cell? ⟨b, o + i, none⟩ = some u ∧ u.oneCell' = true ∧ (dAt (rows.getD (i / sz) []) (i % sz)).rel s u := fun i => by
  by_cases hi : i < rows.length * sz
  ·have hsz : 0 < sz := Nat.pos_of_ne_zero fun e => by rw [e] at hi; simp at hi
   have hk : i / sz < rows.length := (Nat.div_lt_iff_lt_mul hsz).2 hi
   have hj : i % sz < sz := Nat.mod_lt _ hsz
   obtain ⟨h1, h2⟩ := h (i / sz) hk
   obtain ⟨u, h3, h4, h5⟩ := h2.cell (k := i % sz) (by omega)
   refine ⟨u, fun _ => ⟨?_, h4, h5⟩⟩
   rw [← h3]
   have := Nat.div_add_mod i sz
   rw [Nat.mul_comm] at this
   rw [Nat.add_assoc, this]
  ·exact ⟨undef, fun h => absurd h hi⟩
 obtain ⟨f, hf⟩ : ∃ f : Nat → Value, ∀ i, i < rows.length * sz → s.w.cell? ⟨b, o + i, none⟩ = some (f i) ∧ (f i).oneCell' = true ∧ (dAt (rows.getD (i / sz) []) (i % sz)).rel s (f i) := ⟨fun i => (key i).choose, fun i hi => (key i).choose_spec hi⟩
 refine ⟨(List.range (rows.length * sz)).map f, by simp, fun j u hj => ?_, fun u hu => ?_, fun k j hk hj => ?_⟩
 ·rw [List.getElem?_map] at hj
  by_cases hjl : j < rows.length * sz
  ·rw [List.getElem?_range hjl] at hj
   cases hj
   exact (hf j hjl).1
  ·rw [List.getElem?_eq_none (by simp; omega)] at hj
   cases hj
 ·obtain ⟨i, hi, rfl⟩ := List.mem_map.1 hu
  exact (hf i (List.mem_range.1 hi)).2.1
 ·have hlt : k * sz + j < rows.length * sz := by
   have : (k + 1) * sz ≤ rows.length * sz := Nat.mul_le_mul_right sz hk
   rw [Nat.succ_mul] at this
   omega
  refine ⟨f (k * sz + j), by rw [List.getElem?_map, List.getElem?_range hlt]; rfl, (hf _ hlt).2.1, ?_⟩
  have := (hf _ hlt).2.2
  have e1 : (k * sz + j) / sz = k := by
   rw [Nat.mul_comm, Nat.mul_add_div (by omega), Nat.div_eq_of_lt hj]; omega
  have e2 : (k * sz + j) % sz = j := by
   rw [Nat.mul_comm, Nat.mul_add_mod, Nat.mod_eq_of_lt hj]
  rwa [e1, e2] at this
theorem AWl.append {x y : Operand} {t T T2 sz bytes id m b : Nat} {z z' : Value} {d : TypeDesc} {rows r2 : List (List D)} (hop : o.op = .call { callee := .builtin .append, args := #[x, y], argTypes := #[t, t] }) (hg : o.guard = none) (hx : σ.arg x = .own id) (hy : asD σ.hp (σ.arg y) = some (slD T2 sz r2)) (hh : σ.hp[id]? = some (.row T sz rows)) (ht : Tab P t (.slice T) m b z') (hT : Tab P T d sz bytes z) (hzs : z.cells.size = sz) (hd : dLt o.dst n = true) (hbytes : (rows.length + r2.length) * bytes ≤ 140737488355328) (h63 : rows.length + r2.length ≤ 4611686018427387904) (h : AWl P s0 n ops Q rest (σ.appd o.dst id T sz rows r2)) : AWl P s0 n ops Q (o :: rest) σ := by
 refine AWl.step hg fun s ρ a hst K hK => ?_
 have hx' := hst.arg x
 rw [hx] at hx'
 obtain ⟨hid, e1⟩ := hx'
 obtain ⟨xs, h2, h3, h4, h5, h6⟩ := hst.hp id _ hh
 have hold : (slD T sz rows).rel s (ρ id) := asD_rel (av := .own id) hst.hp ⟨hid, rfl⟩ (by simp [asD, hh])
 obtain ⟨A, c, e2, h7, h8, h9⟩ := asD_rel hst.hp (hst.arg y) hy
 have fin : ∀ (v' : Value) (s' : GS) (xs' : List Value), (execOp a.eval o).run P s.w = .ok (.value v') s'.w → GS.Le s0 s' → s'.Ok → GS.Chg s s' → s'.w.ownsRow s0.w.heap.size T sz v' (rows.length + r2.length) xs' → (∀ b, vblk v' = some b → ∀ k, s'.S b k ↔ k < (rows.length + r2.length) * sz) →
   (∀ b, b < s.w.heap.size → vblk (ρ id) ≠ some b → s'.w.heap[b]? = s.w.heap[b]? ∧ ∀ k, s'.S b k ↔ s.S b k) → (∀ b, vblk v' = some b → vblk (ρ id) = some b ∨ s.w.heap.size ≤ b) →
   (∀ k, k < (rows ++ r2).length → ((rows ++ r2).getD k []).length = sz ∧ ∀ j, j < sz → ∃ u, xs'[k * sz + j]? = some u ∧ u.oneCell' = true ∧ (dAt ((rows ++ r2).getD k []) j).rel s' u) → o.wp P a s.w K (lift s0 n Q) := by
  intro v' s' xs' hrun q1 q2 q3 q4 q5 q6 q7 q8
  unfold Oper.wp
  rw [hrun]
  have hl : (rows ++ r2).length = rows.length + r2.length := List.length_append
  have hst' := hst.upd (s' := s') (o' := .row T sz (rows ++ r2)) (ρ' := fun i => if i = id then v' else ρ i) (f := down id (slD T sz rows)) q1 q2 q3 hh rfl q6 (fun j hj => if_neg hj)
   ⟨xs', by simp only [if_pos]; rw [hl]; exact q4, h3, h4, fun b hb k => by simp only [if_pos] at hb; rw [hl]; exact q5 b hb k, q8⟩ (fun b hb => by simp only [if_pos] at hb; exact q7 b hb) fun av v hav => by
    cases av with
    | d x => exact x.st hav q3
    | ptr i off =>
     obtain ⟨p1, bb, p2, p3⟩ := hav
     refine ⟨p1, bb, ?_, p3⟩
     show (if i = id then v' else ρ i) = _
     by_cases e : i = id
     ·exfalso
      subst e
      rcases h2.2 with ⟨w1, _⟩ | ⟨g, cap, cur, w1, _⟩ <;> rw [w1] at p2 <;> cases p2
     ·rw [if_neg e]; exact p2
    | own j =>
     obtain ⟨p1, p2⟩ := hav
     show AVr σ.hp.length _ s' (bif Nat.beq j id then .d (slD T sz rows) else .own j) v
     cases hb : Nat.beq j id with
     | true =>
      have e : j = id := Nat.eq_of_beq_eq_true hb
      subst e
      rw [p2]
      exact (slD T sz rows).st hold q3
     | false =>
      have e : j ≠ id := Nat.ne_of_beq_eq_false hb
      exact ⟨p1, p2.trans (if_neg e).symm⟩
  have hfin := hst'.put (GS.Le.refl s') (dLt_lt hd) (v := v') (r := .own id) ⟨by simpa using hid, by simp⟩
  exact hK _ _ _ h ⟨s', _, rfl, hfin⟩
 have hexec : ∀ v' w', (Builtin.append_ #[t, t] o.type #[ρ id, a.eval y]).run P s.w = .ok v' w' → (execOp a.eval o).run P s.w = .ok (.value v') w' := fun v' w' hr => by
  simp only [execOp, hop, resolve, invoke, builtin, Sem.run_bind, Sem.run_pure, Result.andThen_ok, List.map_toArray, List.map_cons, List.map_nil, e1, hr]
 rcases Nat.eq_zero_or_pos r2.length with h0 | h0
 ·obtain rfl : r2 = [] := List.eq_nil_of_length_eq_zero h0
  obtain ⟨i, hi, hz, hsize, hby⟩ := hT.info
  have hform : ∃ B N C, ρ id = .slice B N C ∧ N ≤ C := by
   rcases h2.2 with ⟨w1, _⟩ | ⟨g, cap, cur, w1, _, _, w2, _⟩
   ·exact ⟨none, 0, 0, w1, Nat.le_refl _⟩
   ·exact ⟨_, _, _, w1, w2⟩
  obtain ⟨B, N, C, w1, w2⟩ := hform
  have hr : (Builtin.append_ #[t, t] o.type #[ρ id, a.eval y]).run P s.w = .ok (ρ id) s.w := by
   rw [e2, w1]
   cases A with
   | none => exact run_append_nothing s.w _ _ _ _ i ht.und hi _ _ _ w2 _ (Src.ofNil s.w ht.und c)
   | some ad => exact run_append_nothing s.w _ _ _ _ i ht.und hi _ _ _ w2 _ (Src.ofSlice s.w ht.und _ _ _ [] (by simp) (by simp) (by simp))
  refine fin (ρ id) s xs (hexec _ _ hr) hst.le hst.ok (GS.Chg.refl s) (by simpa using h2) (fun b hb k => by simpa using h5 b hb k) (fun b hb _ => ⟨rfl, fun _ => Iff.rfl⟩) (fun b hb => .inl hb) fun k hk => ?_
  rw [List.append_nil] at hk ⊢
  exact ⟨(h6 k hk).1, (h6 k hk).2⟩
 ·obtain ⟨g, p, rfl, h10⟩ := h9 h0
  obtain ⟨news, n1, n2, n3, n4⟩ := news_of h10
  obtain ⟨v', s', hr, q1, q2, q3, q4, q5, q6, q7⟩ := append_st (P := P) (ty := o.type) hst.le hst.ok ht.und hT hzs h3 h4 h2 h5 g p r2.length c news n1 h0 n2 n3 hbytes h63
  refine fin v' s' (xs ++ news) (hexec _ _ (by rw [e2]; exact hr)) q1 q2 q3 q4 q5 q6 q7 fun k hk => ?_
  rw [List.length_append] at hk
  rw [rows_append]
  have hxl : xs.length = rows.length * sz := h2.1
  split
  ·rename_i hlt
   refine ⟨(h6 k hlt).1, fun j hj => ?_⟩
   obtain ⟨u, r1, r2', r3⟩ := (h6 k hlt).2 j hj
   refine ⟨u, ?_, r2', (dAt _ j).st r3 q3⟩
   rw [List.getElem?_append_left]
   ·exact r1
   ·rw [hxl]
    have : (k + 1) * sz ≤ rows.length * sz := Nat.mul_le_mul_right sz hlt
    rw [Nat.succ_mul] at this
    omega
  ·rename_i hge
   refine ⟨(h10 (k - rows.length) (by omega)).1, fun j hj => ?_⟩
   obtain ⟨u, r1, r2', r3⟩ := n4 (k - rows.length) j (by omega) hj
   refine ⟨u, ?_, r2', (dAt _ j).st r3 q3⟩
   have e3 : k * sz = rows.length * sz + (k - rows.length) * sz := by rw [← Nat.add_mul]; congr 1; omega
   rw [List.getElem?_append_right (by omega), hxl, ← r1]
   congr 1
   omega
theorem own_new {s : GS} {ρ : Nat → Value} {a : Act} {T sz cap : Nat} {arr : Array Value} (hst : StI s0 n σ a s ρ) (hT : T ≠ 137) (h0 : 0 < sz) (hc : cap ≤ maxLen) (harr : arr.size = cap * sz) {dst : Option Tmp} (hd : dLt dst n = true) :
  St s0 n (σ.new dst (.own σ.hp.length) (.row T sz [])) (a.put dst (.slice (some ⟨s.w.heap.size, 0, none⟩) 0 cap)) (s.w.alloc (.cells arr T)) :=
 ⟨s.mk' arr T 0, _, rfl, hst.new (s.le_mk' arr T 0 hT) (dLt_lt hd) (u := .slice (some ⟨s.w.heap.size, 0, none⟩) 0 cap) ⟨by omega, by simp⟩
  ⟨[], ⟨by simp, .inr ⟨s.w.heap.size, cap, arr, by simp, hst.le.ext.size, heap_alloc_new s.w _, Nat.zero_le _, hc, harr, by simp⟩⟩, hT, h0, fun b hb k => by
   simp only [if_pos] at hb
   cases hb
   exact ⟨fun hk => absurd (hst.ok.lt _ _ hk) (Nat.lt_irrefl _), fun hk => by simp at hk⟩, fun k hk => by simp at hk⟩ fun _ b hb => by cases hb; exact hst.far (Nat.le_refl _)⟩
theorem AWl.build0 {t T m b sz bytes : Nat} {z z' : Value} {d : TypeDesc} (hop : o.op = .buildSlice t 0 #[]) (hg : o.guard = none) (ht : Tab P t (.slice T) m b z') (hT : Tab P T d sz bytes z) (hT32 : T ≠ 137) (h0 : 0 < sz) (hd : dLt o.dst n = true) (h : AWl P s0 n ops Q rest (σ.new o.dst (.own σ.hp.length) (.row T sz []))) : AWl P s0 n ops Q (o :: rest) σ := by
 refine AWl.step hg fun s ρ a hst K hK => ?_
 have hrun : (execOp a.eval o).run P s.w = .ok (.value (.slice (some ⟨s.w.heap.size, 0, none⟩) 0 0)) (s.w.alloc (.cells #[] T)) := by
  have hn : ∀ arr, (newRow T arr).run P s.w = .ok ⟨s.w.heap.size, 0, none⟩ (s.w.alloc (.cells arr T)) := fun _ => rfl
  simp [execOp, hop, Instr.buildSlice, run_underlying ht.und, hT.run_size, Instr.fill, hn]
  congr 2
  exact Array.eq_empty_of_size_eq_zero (by simp)
 unfold Oper.wp
 rw [hrun]
 exact hK _ _ _ h (own_new hst hT32 h0 (by simp [maxLen]) (by simp) hd)
theorem AWl.make0 {t T m b sz bytes : Nat} {z z' : Value} {d : TypeDesc} {x y : Operand} {c : Int} (hop : o.op = .makeSlice t x y) (hg : o.guard = none) (hx : σ.arg x = .d (ex (.int .i64 0))) (hy : σ.arg y = .d (ex (.int .i64 c))) (ht : Tab P t (.slice T) m b z') (hT : Tab P T d sz bytes z) (hc0 : 0 ≤ c) (hc : c ≤ 1000000000) (hbytes : bytes ≤ 65536) (hT32 : T ≠ 137) (h0 : 0 < sz) (hd : dLt o.dst n = true) (h : AWl P s0 n ops Q rest (σ.new o.dst (.own σ.hp.length) (.row T sz []))) : AWl P s0 n ops Q (o :: rest) σ := by
 refine AWl.step hg fun s ρ a hst K hK => ?_
 have e1 : a.eval x = .int .i64 0 := St.exD hx ⟨s, ρ, rfl, hst⟩
 have e2 : a.eval y = .int .i64 c := St.exD hy ⟨s, ρ, rfl, hst⟩
 obtain ⟨i, hi, hz, hsize, hby⟩ := hT.info
 have w0 : IntKind.i64.wrap 0 = 0 := rfl
 have wc : IntKind.i64.wrap c = c := IntWalk.i64_in _ (by omega)
 obtain ⟨k, rfl⟩ := Int.eq_ofNat_of_zero_le hc0
 have hk : k ≤ 1000000000 := by omega
 have hprod : bytes * k ≤ 65536 * 1000000000 := Nat.mul_le_mul hbytes hk
 have hprod' : ((bytes : Int) * (k : Int)) ≤ 281474976710656 := by
  have : ((bytes * k : Nat) : Int) ≤ ((65536 * 1000000000 : Nat) : Int) := Int.ofNat_le.2 hprod
  rw [Int.natCast_mul] at this
  omega
 have hroom : k * bytes ≤ roomBytes := by
  rw [Nat.mul_comm]
  have : roomBytes = 140737488355328 := rfl
  omega
 obtain ⟨arr, harr, hrun⟩ : ∃ arr : Array Value, arr.size = k * sz ∧ (execOp a.eval o).run P s.w = .ok (.value (.slice (some ⟨s.w.heap.size, 0, none⟩) 0 k)) (s.w.alloc (.cells arr T)) := by
  have hn : ∀ arr, (newRow T arr).run P s.w = .ok ⟨s.w.heap.size, 0, none⟩ (s.w.alloc (.cells arr T)) := fun _ => rfl
  have h281 : ¬ (281474976710656 < (bytes : Int) * (k : Int)) := by omega
  have hroom' : ¬ (roomBytes < k * bytes) := by omega
  have hkn : ¬ ((k : Int) < 0) := by omega
  by_cases hk0 : k * sz = 0
  ·refine ⟨(Array.range (k * sz)).map (fun j => (#[] : Array Value)[j % 0]!), by simp, ?_⟩
   simp [execOp, hop, e1, e2, Instr.makeSlice, run_underlying ht.und, asInt, asIntOf, typeInfo, hi, hby, w0, wc, h281, askRoom, hroom', hT.run_size, hk0, hn, sizeOf, hsize, hkn]
  ·refine ⟨(Array.range (k * sz)).map (fun j => z.cells[j % z.cells.size]!), by simp, ?_⟩
   have hk1 : k ≠ 0 := fun e => hk0 (by rw [e, Nat.zero_mul])
   have hs1 : sz ≠ 0 := by omega
   simp [execOp, hop, e1, e2, Instr.makeSlice, run_underlying ht.und, asInt, asIntOf, typeInfo, hi, hby, w0, wc, h281, askRoom, hroom', sizeOf, hsize, hk1, hs1, zeroValue, hz, hn, hkn]
   exact fun h => absurd h hk0
 unfold Oper.wp
 rw [hrun]
 exact hK _ _ _ h (own_new hst hT32 h0 (by simp only [maxLen]; omega) harr hd)
end
end Go.Proofs.YteicdddphdomkaaGreat
