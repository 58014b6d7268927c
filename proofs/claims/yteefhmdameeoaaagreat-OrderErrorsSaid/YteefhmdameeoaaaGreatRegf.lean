/-
  The region rule once more, for a region that allocates variables: it also tells that their blocks differ.
-/
import Derived.Test.YteefhmdameeoaaaGreatP1
set_option linter.unusedSimpArgs false
set_option linter.unusedVariables false
namespace Go.Proofs.YteefhmdameeoaaaGreat
namespace RegF
open Go.RowKit

def isAl : Op → Bool
  | .alloc _ => true
  | _ => false
/-- What an operation leaves: memory has grown; an alloc yields its new block. -/
def Post (o : Oper) (w : World) (v : Value) (w' : World) : Prop := Ext w w' ∧ (isAl o.op = true → v = .pointer (some ⟨w.heap.size, 0, none⟩) ∧ w.heap.size < w'.heap.size)

def StepAt (P : Program) (sh : List Shape) (Rs : List Fact) (a : Act) (w0 : World) (i : Nat) (o : Oper) (x : Shape) (F : Fact) : Prop :=
  ∀ (g : Nat → Value) (w : World) (ev : Operand → Value), Ext w0 w → Known sh Rs i g w → EnvEq ev g x.env →
    (∀ t, (∀ p ∈ x.env, p.1 ≠ t) → ev (.tmp t) = a.tmps.getD t undef) → (∀ v, ev (.const v) = v) → (∀ f, ev (.func f) = .func (.func f) #[] #[]) →
    (wantedG o g = true → OpStep P o ev w fun v w' => Post o w v w' ∧ F (x.deps.map (upd g i v)) w') ∧ (wantedG o g = false → isAl o.op = false ∧ F (x.deps.map (upd g i undef)) w)

def StepsAt (P : Program) (sh : List Shape) (Rs : List Fact) (a : Act) (w0 : World) : Nat → List Oper → List Shape → List Fact → Prop
  | i, o :: L, x :: S, F :: T => StepAt P sh Rs a w0 i o x F ∧ StepsAt P sh Rs a w0 (i + 1) L S T
  | _, _, [], [] => True
  | _, _, _, _ => False

theorem StepsAt.at {P : Program} {sh : List Shape} {Rs : List Fact} {a : Act} {w0 : World} : ∀ {S : List Shape} {T : List Fact} {L : List Oper} {i : Nat}, StepsAt P sh Rs a w0 i L S T →
    S.length = T.length ∧ ∀ k o x, L[k]? = some o → S[k]? = some x → ∃ F, T[k]? = some F ∧ StepAt P sh Rs a w0 (i + k) o x F
  | [], [], L, i, _ => ⟨rfl, fun k o x _ hx => by simp at hx⟩
  | [], _ :: _, L, i, h => by cases L <;> exact h.elim
  | _ :: _, [], L, i, h => by cases L <;> exact h.elim
  | x :: S, F :: T, [], i, h => h.elim
  | x :: S, F :: T, o :: L, i, h => by
    obtain ⟨h1, h2⟩ := h
    obtain ⟨hl, hh⟩ := StepsAt.at h2
    refine ⟨by simp [hl], fun k o' x' ho hx => ?_⟩
    cases k with
    | zero =>
      simp at ho hx
      subst ho; subst hx
      exact ⟨F, rfl, h1⟩
    | succ k =>
      simp at ho hx
      obtain ⟨F', hF, hs⟩ := hh k o' x' ho hx
      refine ⟨F', by simpa using hF, ?_⟩
      have : i + (k + 1) = i + 1 + k := by omega
      rw [this]
      exact hs

section
variable {P : Program} {L : List Oper} {sh : List Shape} {Rs : List Fact} {a : Act} {w0 : World}

structure HInv (L : List Oper) (sh : List Shape) (Rs : List Fact) (a : Act) (w0 : World) (listed : Array Bool) (g : Nat → Value) (a' : Act) (w' : World) : Prop where
  size : listed.size = L.length
  closed : ∀ j o, L[j]? = some o → listed.getD j false = true → ∀ e ∈ edges o, listed.getD e false = true
  tail : ∀ t, sh.length ≤ t → listed.getD t false = false
  asz : a'.tmps.size = a.tmps.size
  adef : a'.defers = a.defers
  a1 : ∀ j o d, j < sh.length → L[j]? = some o → listed.getD j false = true → o.dst = some d → a'.tmps[d]? = some (g j)
  a2 : ∀ t, (∀ j o, j < sh.length → L[j]? = some o → listed.getD j false = true → o.dst ≠ some t) → a'.tmps[t]? = a.tmps[t]?
  facts : ∀ j y F, sh[j]? = some y → Rs[j]? = some F → listed.getD j false = true → F (y.deps.map g) w'
  ext : Ext w0 w'
  fresh : ∀ i o, i < sh.length → L[i]? = some o → isAl o.op = true → listed.getD i false = true → ∃ b, g i = .pointer (some ⟨b, 0, none⟩) ∧ b < w'.heap.size
  apart : ∀ i j o o', i < sh.length → j < sh.length → L[i]? = some o → L[j]? = some o' → isAl o.op = true → isAl o'.op = true → i ≠ j → listed.getD i false = true → listed.getD j false = true → g i ≠ g j

theorem step_inv (hok : regOk L sh = true) (hd : dstOk L sh.length a.tmps.size = true)
    (hstab : ∀ F ∈ Rs, ∀ vs w1 w2, Ext w1 w2 → F vs w1 → F vs w2)
    {listed : Array Bool} {g : Nat → Value} {a' : Act} {w' : World} (inv : HInv L sh Rs a w0 listed g a' w') {i : Nat} {o : Oper} {x : Shape} {F : Fact} (ho : L[i]? = some o) (hx : sh[i]? = some x) (hF : Rs[i]? = some F)
    (hun : listed.getD i false = false) (hed : ∀ e ∈ edges o, listed.getD e false = true) {v : Value} {w'' : World} (he : Ext w' w'') (hnew : isAl o.op = true → v = .pointer (some ⟨w'.heap.size, 0, none⟩) ∧ w'.heap.size < w''.heap.size) (hf : F (x.deps.map (upd g i v)) w'') :
    HInv L sh Rs a w0 (listed.setIfInBounds i true) (upd g i v) (a'.put o.dst v) w'' := by
  have hin : i < sh.length := lt_of_sh hx
  have hil : i < listed.size := by rw [inv.size]; exact (List.getElem?_eq_some_iff.1 ho).1
  have hset : ∀ j, (listed.setIfInBounds i true).getD j false = true → j ≠ i → listed.getD j false = true := fun j h hj => by
    rw [getD_set_ne false (fun e => hj e.symm)] at h; exact h
  have hnb : ∀ j y oj, sh[j]? = some y → L[j]? = some oj → listed.getD j false = true → i ∉ y.bef := fun j y oj hy hoj hl hi => by
    have := bef_listed hok inv.closed j y oj hy hoj (inv.closed j oj hoj hl) i hi
    rw [hun] at this; cases this
  refine ⟨by simp [inv.size], fun j oj hoj hl e he' => ?_, fun t ht => ?_, ?_, ?_, fun j oj d hj hoj hl hdj => ?_, fun t ht => ?_, fun j y G hy hG hl => ?_, inv.ext.trans he, fun j oj hj hoj haj hl => ?_, fun j k oj ok hj hk hoj hok' haj hak hne hlj hlk => ?_⟩
  · by_cases hji : j = i
    · subst hji
      have : oj = o := Option.some.inj (hoj.symm.trans ho)
      subst this
      exact getD_set_true (hed e he')
    · exact getD_set_true (inv.closed j oj hoj (hset j hl hji) e he')
  · rw [getD_set_ne false (by omega)]; exact inv.tail t ht
  · unfold Act.put; split <;> simp [inv.asz]
  · unfold Act.put; split <;> simp [inv.adef]
  · by_cases hji : j = i
    · subst hji
      have : oj = o := Option.some.inj (hoj.symm.trans ho)
      subst this
      have hdl : d < a'.tmps.size := by
        rw [inv.asz]
        have h2 := List.all_eq_true.1 hd oj (List.mem_of_getElem? (i := j) (by rw [List.getElem?_take]; simp [hin, hoj]))
        simp only [hdj, decide_eq_true_eq] at h2
        exact h2
      simp [Act.put, hdj, upd, hdl]
    · have hlj := hset j hl hji
      have hne : o.dst ≠ some d := fun e => hji (regOk_dst hok hj hin hoj ho hdj e)
      rw [show upd g i v j = g j by simp [upd, hji], ← inv.a1 j oj d hj hoj hlj hdj]
      unfold Act.put
      split
      · rename_i d' hd'
        have : d' ≠ d := fun e => hne (by rw [hd', e])
        simp [Array.getElem?_setIfInBounds_ne this]
      · rfl
  · have h2 : o.dst ≠ some t := by
      refine ht i o hin ho ?_
      simp [hil]
    rw [← inv.a2 t fun j oj hj hoj hl => ht j oj hj hoj (getD_set_true hl)]
    unfold Act.put
    split
    · rename_i d' hd'
      have : d' ≠ t := fun e => h2 (by rw [hd', e])
      simp [Array.getElem?_setIfInBounds_ne this]
    · rfl
  · by_cases hji : j = i
    · subst hji
      have e1 : y = x := Option.some.inj (hy.symm.trans hx)
      have e2 : G = F := Option.some.inj (hG.symm.trans hF)
      subst e1; subst e2
      exact hf
    · have hlj := hset j hl hji
      have hjl : j < L.length := Nat.lt_of_lt_of_le (lt_of_sh hy) (regOk_len hok)
      have hoj : L[j]? = some L[j] := List.getElem?_eq_getElem hjl
      have hib := hnb j y _ hy hoj hlj
      have hmap : y.deps.map (upd g i v) = y.deps.map g := by
        refine List.map_congr_left fun k hk => ?_
        have h1 := (regOk_at hok hoj).2.1 y hy
        simp only [headOk, Bool.and_eq_true] at h1
        have h2 := List.all_eq_true.1 h1.1.1.1.1.2 k hk
        simp only [Bool.or_eq_true, beq_iff_eq] at h2
        have hki : k ≠ i := by
          rintro rfl
          rcases h2 with h2 | h2
          · exact hji h2.symm
          · exact hib (by simpa using h2)
        simp [upd, hki]
      rw [hmap]
      exact hstab G (List.mem_of_getElem? hG) _ _ _ he (inv.facts j y G hy hG hlj)
  · by_cases hji : j = i
    · subst hji
      have : oj = o := Option.some.inj (hoj.symm.trans ho)
      subst this
      obtain ⟨h1, h2⟩ := hnew haj
      exact ⟨w'.heap.size, by simp only [upd, if_true]; exact h1, h2⟩
    · obtain ⟨b, h1, h2⟩ := inv.fresh j oj hj hoj haj (hset j hl hji)
      exact ⟨b, by simp only [upd, if_neg hji]; exact h1, Nat.lt_of_lt_of_le h2 he.size⟩
  · have key : ∀ k ok, k < sh.length → L[k]? = some ok → isAl ok.op = true → k ≠ i → listed.getD k false = true → isAl o.op = true → v ≠ g k := fun k ok hk hok' hak hki hlk hao e => by
      obtain ⟨b, h1, h2⟩ := inv.fresh k ok hk hok' hak hlk
      obtain ⟨h3, _⟩ := hnew hao
      rw [h3, h1] at e
      cases e
      omega
    by_cases hji : j = i
    · subst hji
      have : oj = o := Option.some.inj (hoj.symm.trans ho)
      subst this
      have hkj : k ≠ j := fun h => hne h.symm
      simp only [upd, if_true, if_neg hkj]
      exact key k ok hk hok' hak hkj (hset k hlk hkj) haj
    · by_cases hki : k = i
      · subst hki
        have : ok = o := Option.some.inj (hok'.symm.trans ho)
        subst this
        simp only [upd, if_true, if_neg hji]
        exact fun e => key j oj hj hoj haj hji (hset j hlj hji) hak e.symm
      · simp only [upd, if_neg hji, if_neg hki]
        exact inv.apart j k oj ok hj hk hoj hok' haj hak hne (hset j hlj hji) (hset k hlk hki)

theorem eval_operands (hok : regOk L sh = true) {listed : Array Bool} {g : Nat → Value} {a' : Act} {w' : World} (inv : HInv L sh Rs a w0 listed g a' w') {i : Nat} {o : Oper} {x : Shape} (ho : L[i]? = some o) (hx : sh[i]? = some x)
    (hun : listed.getD i false = false) (hed : ∀ e ∈ edges o, listed.getD e false = true) : ∀ y ∈ o.op.operands, a'.eval y = evOf a g x.env y := by
  intro y hy
  cases y with
  | tmp t =>
    show a'.tmps.getD t undef = _
    cases hfd : x.env.find? (fun p => p.1 == t) with
    | some p =>
      have hp : p ∈ x.env := List.mem_of_find?_eq_some hfd
      have hpt : p.1 = t := by simpa using List.find?_some hfd
      obtain ⟨h1, h2, o', ho', hd'⟩ := head_env hok hx ho hp
      have hl := bef_listed hok inv.closed i x o hx ho hed p.2 h1
      have := inv.a1 p.2 o' p.1 h2 ho' hl hd'
      simp only [evOf, hfd]
      rw [hpt] at this
      simp [this]
    | none =>
      simp only [evOf, hfd]
      have h1 := (regOk_at hok ho).2.1 x hx
      simp only [headOk, Bool.and_eq_true] at h1
      have h2 := List.all_eq_true.1 h1.1.1.2 (.tmp t) (by simpa using hy)
      simp only [Bool.or_eq_true] at h2
      rcases h2 with h2 | h2
      · exfalso
        have : t ∈ x.env.map (·.1) := by simpa using h2
        obtain ⟨p, hp, hpt⟩ := List.mem_map.1 this
        have := List.find?_eq_none.1 hfd p hp
        simp [hpt] at this
      · have : a'.tmps[t]? = a.tmps[t]? := by
          refine inv.a2 t fun j oj hj hoj hl hdj => ?_
          have h3 := List.all_eq_true.1 h2 j (List.mem_range.2 hj)
          rw [hoj] at h3
          simp [hdj] at h3
          rcases h3 with h3 | h3
          · subst h3; rw [hun] at hl; cases hl
          · cases hy' : sh[j]? with
            | none => rw [List.getElem?_eq_none_iff] at hy'; omega
            | some y' =>
              have := bef_listed hok inv.closed j y' oj hy' hoj (inv.closed j oj hoj hl) i (by simpa [Shape.befOf, hy'] using h3)
              rw [hun] at this; cases this
        rw [Array.getD_eq_getD_getElem?, Array.getD_eq_getD_getElem?, this]
  | const v => rfl
  | global b => rfl
  | func f => rfl

theorem wanted_of (hok : regOk L sh = true) {listed : Array Bool} {g : Nat → Value} {a' : Act} {w' : World} (inv : HInv L sh Rs a w0 listed g a' w') {i : Nat} {o : Oper} {x : Shape} (ho : L[i]? = some o) (hx : sh[i]? = some x)
    (hed : ∀ e ∈ edges o, listed.getD e false = true) : Region.wanted o (yielded L.toArray a'.tmps) = wantedG o g := by
  unfold Region.wanted wantedG
  cases hg : o.guard with
  | none => rfl
  | some jb =>
    obtain ⟨j, b⟩ := jb
    have h1 := (regOk_at hok ho).2.1 x hx
    simp only [headOk, Bool.and_eq_true] at h1
    have h2 := h1.1.2
    rw [hg] at h2
    simp only [Bool.and_eq_true, decide_eq_true_eq] at h2
    obtain ⟨⟨h3, h4⟩, h5⟩ := h2
    have hl := bef_listed hok inv.closed i x o hx ho hed j (by simpa using h3)
    split at h5
    · rename_i o' ho'
      obtain ⟨d, hd'⟩ := Option.isSome_iff_exists.1 h5
      have := inv.a1 j o' d h4 ho' hl hd'
      unfold yielded
      simp only [List.getElem?_toArray, ho', Option.bind_some, hd', this]
      cases g j <;> simp
    · cases h5

theorem head_run (hok : regOk L sh = true) (hd : dstOk L sh.length a.tmps.size = true)
    (hstab : ∀ F ∈ Rs, ∀ vs w1 w2, Ext w1 w2 → F vs w1 → F vs w2) (hstep : StepsAt P sh Rs a w0 0 L sh Rs) {Q : Exit → Act → World → Prop}
    (hend : ∀ g w', Ext w0 w' → (∀ (j : Nat) (y : Shape) (F : Fact), sh[j]? = some y → Rs[j]? = some F → F (y.deps.map g) w') → (∀ i j o o', i < sh.length → j < sh.length → L[i]? = some o → L[j]? = some o' → isAl o.op = true → isAl o'.op = true → i ≠ j → g i ≠ g j) → wpList P L.toArray Q (L.drop sh.length) (putG g (L.take sh.length) 0 a) w') :
    ∀ (f : Nat) (listed : Array Bool) (g : Nat → Value) (a' : Act) (w' : World), falses listed = f → HInv L sh Rs a w0 listed g a' w' → wpAny P .any L.toArray Q f listed a' w' := by
  obtain ⟨hlen, hat⟩ := hstep.at
  intro f
  induction f with
  | zero =>
    intro listed g a' w' hf inv
    have hall : ∀ j, j < L.length → listed.getD j false = true := fun j hj => by
      cases hg : listed.getD j false with
      | true => rfl
      | false => have := falses_pos (by rw [inv.size]; exact hj) hg; omega
    refine tail_run hok 0 L.length listed a' w' (regOk_len hok) (by omega) inv.size hall (fun j hj => by simp [inv.size, hj]) ?_
    have hsl : sh.length = L.length := by
      have := regOk_len hok
      rcases Nat.lt_or_ge sh.length L.length with hlt | hge
      · have h1 := hall sh.length hlt
        rw [inv.tail _ (Nat.le_refl _)] at h1; cases h1
      · omega
    have := hend g w' inv.ext (fun j y F hy hF => inv.facts j y F hy hF (hall j (by have := lt_of_sh hy; omega))) (fun i j o o' hi hj hoi hoj hai haj hne => inv.apart i j o o' hi hj hoi hoj hai haj hne (hall i (by omega)) (hall j (by omega)))
    rw [hsl] at this
    have hpa : putG g (L.take L.length) 0 a = a' := by
      obtain ⟨p1, p2, p3, p4⟩ := putG_facts (g := g) (L.take L.length) 0 a (fun j k o o' d hj hk e1 e2 => by
        simp at hj hk
        exact regOk_dst hok (by have := (List.getElem?_eq_some_iff.1 hj).1; omega) (by have := (List.getElem?_eq_some_iff.1 hk).1; omega) hj hk e1 e2) (fun o ho d hdo => by
        rw [← hsl] at ho
        have h2 := List.all_eq_true.1 hd o ho
        simp only [hdo, decide_eq_true_eq] at h2
        exact h2)
      refine act_ext (Array.ext_getElem? fun t => ?_) (p2.trans inv.adef.symm)
      by_cases ht : ∃ (j : Nat) (o : Oper), L[j]? = some o ∧ o.dst = some t
      · obtain ⟨j, o, hj, hdo⟩ := ht
        rw [p3 j o t (by simpa using hj) hdo, inv.a1 j o t (by have := (List.getElem?_eq_some_iff.1 hj).1; omega) hj (hall j (List.getElem?_eq_some_iff.1 hj).1) hdo]
        simp
      · rw [p4 t fun j o hj e => ht ⟨j, o, by simpa using hj, e⟩, inv.a2 t fun j o _ hj _ e => ht ⟨j, o, hj, e⟩]
    rw [hpa] at this
    exact this
  | succ f ih =>
    intro listed g a' w' hf inv
    by_cases hdone : ∀ j, j < sh.length → listed.getD j false = true
    · have hfl : f + 1 + sh.length = L.length := by
        -- the listed ones are just the head
        have key : ∀ (l : List Bool) (n : Nat), n ≤ l.length → (∀ j, j < n → l[j]? = some true) → (∀ j, n ≤ j → j < l.length → l[j]? = some false) → (l.filter (!·)).length + n = l.length := by
          intro l
          induction l with
          | nil => intro n hn _ _; simp at hn; simp [hn]
          | cons b l ihl =>
            intro n hn h1 h2
            cases n with
            | zero =>
              have hb := h2 0 (Nat.le_refl _) (by simp)
              simp at hb
              subst hb
              have := ihl 0 (by omega) (fun j hj => by omega) (fun j _ hj => by simpa using h2 (j + 1) (by omega) (by simpa using hj))
              simp at this ⊢
              omega
            | succ n =>
              have hb := h1 0 (by omega)
              simp at hb
              subst hb
              have := ihl n (by simpa using hn) (fun j hj => by simpa using h1 (j + 1) (by omega)) (fun j hj1 hj2 => by simpa using h2 (j + 1) (by omega) (by simpa using hj2))
              simp
              omega
        have := key listed.toList sh.length (by simpa [inv.size] using regOk_len hok) (fun j hj => by
            have h1 := hdone j hj
            have hjl : j < listed.size := by rw [inv.size]; have := regOk_len hok; omega
            simp [hjl] at h1
            simp [hjl, h1]) (fun j hj1 hj2 => by
            have h1 := inv.tail j hj1
            have hjl : j < listed.size := by simpa using hj2
            simp [hjl] at h1
            simp [hjl, h1])
        have e1 : (listed.toList.filter (!·)).length = f + 1 := hf
        rw [e1] at this
        simpa [inv.size] using this
      refine tail_run hok (f + 1) sh.length listed a' w' (Nat.le_refl _) hfl inv.size hdone inv.tail ?_
      have := hend g w' inv.ext (fun j y F hy hF => inv.facts j y F hy hF (hdone j (lt_of_sh hy))) (fun i j o o' hi hj hoi hoj hai haj hne => inv.apart i j o o' hi hj hoi hoj hai haj hne (hdone i hi) (hdone j hj))
      have hpa : putG g (L.take sh.length) 0 a = a' := by
        have hget : ∀ j o, (L.take sh.length)[j]? = some o → j < sh.length ∧ L[j]? = some o := fun j o h => by
          rw [List.getElem?_take] at h
          split at h
          · exact ⟨by assumption, h⟩
          · cases h
        obtain ⟨p1, p2, p3, p4⟩ := putG_facts (g := g) (L.take sh.length) 0 a (fun j k o o' d hj hk e1 e2 => by
          obtain ⟨hj1, hj2⟩ := hget j o hj
          obtain ⟨hk1, hk2⟩ := hget k o' hk
          exact regOk_dst hok hj1 hk1 hj2 hk2 e1 e2) (fun o ho d hdo => by
          have h2 := List.all_eq_true.1 hd o ho
          simp only [hdo, decide_eq_true_eq] at h2
          exact h2)
        refine act_ext (Array.ext_getElem? fun t => ?_) (p2.trans inv.adef.symm)
        by_cases ht : ∃ (j : Nat) (o : Oper), j < sh.length ∧ L[j]? = some o ∧ o.dst = some t
        · obtain ⟨j, o, hjn, hj, hdo⟩ := ht
          rw [p3 j o t (by rw [List.getElem?_take, if_pos hjn]; exact hj) hdo, inv.a1 j o t hjn hj (hdone j hjn) hdo]
          simp
        · rw [p4 t fun j o hj e => ht ⟨j, o, (hget j o hj).1, (hget j o hj).2, e⟩, inv.a2 t fun j o hjn hj _ e => ht ⟨j, o, hjn, hj, e⟩]
      rw [hpa] at this
      exact this
    · have hex : ∃ j, j < sh.length ∧ listed.getD j false = false := Classical.byContradiction fun hno => hdone fun j hj => by
        cases hg : listed.getD j false with
        | true => rfl
        | false => exact absurd ⟨j, hj, hg⟩ hno
      obtain ⟨j0, hj0, hu0⟩ := hex
      refine ⟨fun h0 => ?_, fun i hi => ?_⟩
      · obtain ⟨k, _, hk⟩ := first_ready hok inv.size j0 (Nat.lt_of_lt_of_le hj0 (regOk_len hok)) hu0
        rw [h0] at hk; cases hk
      · obtain ⟨hun, o, ho, hed⟩ := ready_of hok inv.size hi
        have hin : i < sh.length := by
          rcases Nat.lt_or_ge i sh.length with hlt | hge
          · exact hlt
          · have := tail_waits_ hok inv.size inv.closed hge ho hed j0 (by omega)
            rw [hu0] at this; cases this
        have hx : sh[i]? = some sh[i] := List.getElem?_eq_getElem hin
        obtain ⟨F, hF, hst⟩ := hat i o _ ho hx
        rw [Nat.zero_add] at hst
        have hil : i < listed.size := by rw [inv.size]; exact (List.getElem?_eq_some_iff.1 ho).1
        have hno := (regOk_at hok ho).2.1 _ hx
        simp only [headOk, Bool.and_eq_true] at hno
        obtain ⟨hs1, hs2⟩ := hst g w' (evOf a g sh[i].env) inv.ext (fun x hx' j hj y G hy hG => by
            have : x = sh[i] := Option.some.inj (hx'.symm.trans hx)
            subst this
            exact inv.facts j y G hy hG (bef_listed hok inv.closed i _ o hx ho hed j hj))
          (envEq_of fun p hp => by
            obtain ⟨h1, h2, o', ho', hd'⟩ := head_env hok hx ho hp
            cases hfd : sh[i].env.find? (fun q => q.1 == p.1) with
            | none => have := List.find?_eq_none.1 hfd p hp; simp at this
            | some q =>
              have hq := List.mem_of_find?_eq_some hfd
              have hqp : q.1 = p.1 := by simpa using List.find?_some hfd
              obtain ⟨_, h4, o2, ho2, hd2⟩ := head_env hok hx ho hq
              rw [hqp] at hd2
              have := regOk_dst hok h4 h2 ho2 ho' hd2 hd'
              simp only [evOf, hfd, this])
          (fun t ht => by
            have : sh[i].env.find? (fun q => q.1 == t) = none := List.find?_eq_none.2 fun p hp => by simpa using ht p hp
            simp only [evOf, this])
          (fun _ => rfl) (fun _ => rfl)
        have hwant := wanted_of hok inv ho hx hed
        have hfs : ∀ v w2 b, (a'.put o.dst v) = b → Post o w' v w2 → F (sh[i].deps.map (upd g i v)) w2 → wpAny P .any L.toArray Q f (listed.setIfInBounds i true) b w2 := fun v w2 b hb he hf' => by
          subst hb
          refine ih _ (upd g i v) _ _ ?_ (step_inv hok hd hstab inv ho hx hF hun hed he.1 he.2 hf')
          have := falses_set hil hun
          omega
        unfold wpOp
        have ho2 : L.toArray[i]? = some o := by simpa using ho
        rw [ho2]
        show if Region.wanted o (yielded L.toArray a'.tmps) = true then _ else _
        rw [hwant]
        split
        · rename_i hw
          exact .inl (opStep_wp hno.2 (eval_operands hok inv ho hx hun hed) (hs1 hw) fun v w2 ⟨he, hf'⟩ => hfs v w2 _ rfl he hf')
        · rename_i hw
          exact hfs undef w' _ rfl ⟨Ext.refl _, fun h => by rw [(hs2 (by simpa using hw)).1] at h; cases h⟩ (hs2 (by simpa using hw)).2

/-- THE RULE. -/
theorem wp_region_ext {id : Nat} {L : List Oper} {Q : Exit → Act → World → Prop} {a : Act} {w : World} (hm : P.follows .mixedOrders = true) (sh : List Shape) (Rs : List Fact) (hok : regOk L sh = true) (hd : dstOk L sh.length a.tmps.size = true)
    (hstab : ∀ F ∈ Rs, ∀ vs w1 w2, Ext w1 w2 → F vs w1 → F vs w2) (hstep : StepsAt P sh Rs a w.drew 0 L sh Rs)
    (hend : ∀ g w', Ext w.drew w' → (∀ (j : Nat) (y : Shape) (F : Fact), sh[j]? = some y → Rs[j]? = some F → F (y.deps.map g) w') → (∀ i j o o', i < sh.length → j < sh.length → L[i]? = some o → L[j]? = some o' → isAl o.op = true → isAl o'.op = true → i ≠ j → g i ≠ g j) → wpList P L.toArray Q (L.drop sh.length) (putG g (L.take sh.length) 0 a) w') :
    (Code.region id L.toArray true).wp P Q a w := by
  refine wp_region_any hm ?_
  have hfz : falses (Array.replicate L.toArray.size false) = L.toArray.size := by simp [falses, List.filter_replicate]
  refine head_run hok hd hstab hstep hend _ _ (fun _ => undef) a _ hfz ?_
  have hz : ∀ j, (Array.replicate L.toArray.size false).getD j false = false := fun j => by
    rcases Nat.lt_or_ge j L.length with h | h
    · simp [h]
    · simp [h]
  exact ⟨by simp, (fun j o _ h => by rw [hz] at h; cases h), fun t _ => hz t, rfl, rfl, (fun j o d _ _ h => by rw [hz] at h; cases h), fun t _ => rfl, (fun j y F _ _ h => by rw [hz] at h; cases h), Ext.refl _, (fun i o _ _ _ h => by rw [hz] at h; cases h), (fun i j o o' _ _ _ _ _ _ _ h => by rw [hz] at h; cases h)⟩
end

/-! ### The rule with one fact for each result -/

def UStep (P : Program) (Fs : List VFact) (a : Act) (w0 : World) (o : Oper) (env : List (Nat × Nat)) (F : VFact) : Prop :=
  ∀ (w : World) (ev : Operand → Value), Ext w0 w → OpsKnown Fs ev w env →
    (∀ t, (∀ p ∈ env, p.1 ≠ t) → ev (.tmp t) = a.tmps.getD t undef) → (∀ v, ev (.const v) = v) → (∀ f, ev (.func f) = .func (.func f) #[] #[]) →
    match o.guard with
    | none => OpStep P o ev w fun v w' => Post o w v w' ∧ F v w'
    | some (j, b) => ∀ gv, (∀ G, Fs[j]? = some G → G gv w) → (gv = .bool b → OpStep P o ev w fun v w' => Post o w v w' ∧ F v w') ∧ (gv ≠ .bool b → isAl o.op = false ∧ F undef w)

def USteps (P : Program) (Fs : List VFact) (a : Act) (w0 : World) : List Oper → List (List (Nat × Nat)) → List VFact → Prop
  | o :: L, x :: S, F :: T => UStep P Fs a w0 o x F ∧ USteps P Fs a w0 L S T
  | _, [], [] => True
  | _, _, _ => False

theorem USteps.cons {P : Program} {Fs : List VFact} {a : Act} {w0 : World} {o : Oper} {L : List Oper} {x : List (Nat × Nat)} {S : List (List (Nat × Nat))} {F : VFact} {T : List VFact} (h : UStep P Fs a w0 o x F) (hs : USteps P Fs a w0 L S T) :
    USteps P Fs a w0 (o :: L) (x :: S) (F :: T) := ⟨h, hs⟩
theorem USteps.nil {P : Program} {Fs : List VFact} {a : Act} {w0 : World} {L : List Oper} : USteps P Fs a w0 L [] [] := by cases L <;> trivial

theorem usteps_steps {P : Program} {a : Act} {w0 : World} {Fs : List VFact} {sh : List Shape} {L0 : List Oper} (hok : regOk L0 sh = true) (hsh : ∀ (k : Nat) (x : Shape), sh[k]? = some x → x.deps = [k]) :
    ∀ {L : List Oper} {es : List (List (Nat × Nat))} {bs : List (List Nat)} {T : List VFact} {i : Nat}, (∀ k, L[k]? = L0[i + k]?) → (∀ k, (shOf i es bs)[k]? = sh[i + k]?) → es.length = bs.length → USteps P Fs a w0 L es T →
      StepsAt P sh (Fs.map unF) a w0 i L (shOf i es bs) (T.map unF)
  | L, [], [], [], i, _, _, _, _ => by cases L <;> exact trivial
  | L, [], [], _ :: _, i, _, _, _, h => by cases L <;> exact h.elim
  | L, [], _ :: _, T, i, _, _, hl, h => by simp at hl
  | L, _ :: _, [], T, i, _, _, hl, h => by simp at hl
  | [], _ :: _, _ :: _, T, i, _, _, _, h => by cases T <;> exact h.elim
  | _ :: _, _ :: _, _ :: _, [], i, _, _, _, h => h.elim
  | o :: L, e :: es, b :: bs, F :: T, i, hL, hS, hl, h => by
    obtain ⟨h1, h2⟩ := h
    refine ⟨?_, usteps_steps hok hsh (i := i + 1) (fun k => by
      have := hL (k + 1)
      rw [show i + 1 + k = i + (k + 1) by omega, ← this]; rfl) (fun k => by
      have := hS (k + 1)
      rw [show i + 1 + k = i + (k + 1) by omega, ← this]; rfl) (by simpa using hl) h2⟩
    intro g w ev hE hk henv hev hc hf
    have ho : L0[i]? = some o := by have := hL 0; simpa using this.symm
    have hx : sh[i]? = some ⟨e, b, [i]⟩ := by have := hS 0; simpa [shOf] using this.symm
    have hknown : ∀ j, j ∈ b → ∀ G, Fs[j]? = some G → G (g j) w := fun j hj G hG => by
      have hjl : ∃ y, sh[j]? = some y := by
        cases hy : sh[j]? with
        | some y => exact ⟨y, rfl⟩
        | none =>
          exfalso
          have hb := hj
          have hh := (regOk_at hok ho).2.1 _ hx
          simp only [headOk, Bool.and_eq_true] at hh
          have h3 := List.all_eq_true.1 hh.1.1.1.1.1 j hb
          obtain ⟨e', he', he2⟩ := List.any_eq_true.1 h3
          have hlt := (regOk_at hok ho).1 e' he'
          simp only [Bool.or_eq_true, beq_iff_eq] at he2
          have hil := lt_of_sh hx
          rw [List.getElem?_eq_none_iff] at hy
          rcases he2 with rfl | he2
          · omega
          · -- j stands before e', so it is less than e'
            have key : ∀ (n : Nat) (y : Shape) (oy : Oper), sh[n]? = some y → L0[n]? = some oy → ∀ m ∈ y.bef, m < n := by
              intro n
              induction n using Nat.strongRecOn with
              | _ n ih =>
                intro y oy hy hoy m hm
                have hh' := (regOk_at hok hoy).2.1 y hy
                simp only [headOk, Bool.and_eq_true] at hh'
                have h4 := List.all_eq_true.1 hh'.1.1.1.1.1 m hm
                obtain ⟨e2, he2, he3⟩ := List.any_eq_true.1 h4
                have hlt2 := (regOk_at hok hoy).1 e2 he2
                simp only [Bool.or_eq_true, beq_iff_eq] at he3
                rcases he3 with rfl | he3
                · exact hlt2
                · cases hy2 : sh[e2]? with
                  | none => simp [Shape.befOf, hy2] at he3
                  | some y2 =>
                    have hel : e2 < L0.length := Nat.lt_of_lt_of_le (lt_of_sh hy2) (regOk_len hok)
                    have := ih e2 hlt2 y2 _ hy2 (List.getElem?_eq_getElem hel) m (by simpa [Shape.befOf, hy2] using he3)
                    omega
            have := key i _ o hx ho j hj
            omega
      obtain ⟨y, hy⟩ := hjl
      have := hk _ hx j hj y (unF G) hy (by rw [List.getElem?_map, hG]; rfl)
      rw [hsh j y hy] at this
      exact this
    have hops : OpsKnown Fs ev w e := by
      have hsub : ∀ p ∈ e, p.2 ∈ b := fun p hp => (head_env hok hx ho hp).1
      have henv' : EnvEq ev g e := henv
      clear hx hev h1 henv hS hl
      induction e with
      | nil => trivial
      | cons p e ih =>
        obtain ⟨t, j⟩ := p
        obtain ⟨q1, q2⟩ := henv'
        exact ⟨fun G hG => by rw [q1]; exact hknown j (hsub (t, j) (by simp)) G hG, ih (fun p hp => hsub p (by simp [hp])) q2⟩
    have := h1 w ev hE hops hev hc hf
    have hmap : ∀ v, unF F ([i].map (upd g i v)) = F v := fun v => by funext w; simp [unF, upd]
    cases hg : o.guard with
    | none =>
      rw [hg] at this
      refine ⟨fun _ => ?_, fun hw => by simp [wantedG, hg] at hw⟩
      simp only [hmap]
      exact this
    | some jb =>
      obtain ⟨j, c⟩ := jb
      rw [hg] at this
      have hjb : j ∈ b := by
        have hh := (regOk_at hok ho).2.1 _ hx
        simp only [headOk, Bool.and_eq_true] at hh
        have h3 := hh.1.2
        rw [hg] at h3
        simp only [Bool.and_eq_true] at h3
        simpa using h3.1.1
      obtain ⟨t1, t2⟩ := this (g j) (fun G hG => hknown j hjb G hG)
      refine ⟨fun hw => ?_, fun hw => ?_⟩
      · simp only [hmap]
        refine t1 ?_
        simp only [wantedG, hg] at hw
        split at hw
        · rename_i c' hc'; rw [hc']; congr 1; simpa using hw
        · cases hw
      · simp only [hmap]
        refine t2 fun e' => ?_
        simp [wantedG, hg, e'] at hw

/-- THE RULE, with one fact for each result. -/
theorem wp_region_u {P : Program} {id : Nat} {L : List Oper} {Q : Exit → Act → World → Prop} {a : Act} {w : World} (hm : P.follows .mixedOrders = true) (es : List (List (Nat × Nat))) (bs : List (List Nat)) (Fs : List VFact)
    (hlen : (es.length == bs.length && es.length == Fs.length) = true) (hok : regOk L (shOf 0 es bs) = true) (hd : dstOk L es.length a.tmps.size = true)
    (hstab : ∀ F ∈ Fs, ∀ v w1 w2, Ext w1 w2 → F v w1 → F v w2) (hstep : USteps P Fs a w.drew L es Fs)
    (hend : ∀ (g : Nat → Value) (w' : World), Ext w.drew w' → (∀ (j : Nat) (F : VFact), Fs[j]? = some F → F (g j) w') → (∀ i j o o', i < es.length → j < es.length → L[i]? = some o → L[j]? = some o' → isAl o.op = true → isAl o'.op = true → i ≠ j → g i ≠ g j) → wpList P L.toArray Q (L.drop es.length) (putG g (L.take es.length) 0 a) w') :
    (Code.region id L.toArray true).wp P Q a w := by
  simp only [Bool.and_eq_true, beq_iff_eq] at hlen
  have hshl : ∀ (es : List (List (Nat × Nat))) (bs : List (List Nat)) (i : Nat), es.length = bs.length → (shOf i es bs).length = es.length := by
    intro es
    induction es with
    | nil => intro bs i _; cases bs <;> rfl
    | cons e es ih =>
      intro bs i h
      cases bs with
      | nil => simp at h
      | cons b bs => simp [shOf, ih bs (i + 1) (by simpa using h)]
  have hl := hshl es bs 0 hlen.1
  refine wp_region_ext hm (shOf 0 es bs) (Fs.map unF) hok (by rw [hl]; exact hd) ?_ ?_ ?_
  · intro F hF vs w1 w2 he h
    obtain ⟨G, hG, rfl⟩ := List.mem_map.1 hF
    unfold unF at *
    split at h
    · rename_i v; exact hstab G hG v w1 w2 he h
    · exact h.elim
  · exact usteps_steps hok (fun k x hx => by have := (shOf_get hx).1; rwa [Nat.zero_add] at this) (fun k => by rw [Nat.zero_add]) (fun k => by rw [Nat.zero_add]) hlen.1 hstep
  · intro g w' hE hf hap
    rw [hl]
    refine hend g w' hE (fun j F hF => ?_) (fun i j o o' hi hj => hap i j o o' (by rw [hl]; exact hi) (by rw [hl]; exact hj))
    have hjl : j < (shOf 0 es bs).length := by
      rw [hl]
      have := (List.getElem?_eq_some_iff.1 hF).1
      omega
    have hy : (shOf 0 es bs)[j]? = some (shOf 0 es bs)[j] := List.getElem?_eq_getElem hjl
    have := hf j _ (unF F) hy (by rw [List.getElem?_map, hF]; rfl)
    rw [(shOf_get hy).1] at this
    simpa [unF] using this


theorem opStep_val {P : Program} {o : Oper} {ev : Operand → Value} {w : World} {F : VFact} {v : Value} (ha : isAl o.op = false) (h : (execOp ev o).run P w = .ok (.value v) w) (hF : F v w) : OpStep P o ev w fun v w' => Post o w v w' ∧ F v w' := by
  unfold OpStep
  rw [h]
  exact ⟨⟨Ext.refl _, fun h => by rw [ha] at h; cases h⟩, hF⟩
theorem opStep_grow {P : Program} {o : Oper} {ev : Operand → Value} {w w' : World} {F : VFact} {v : Value} (ha : isAl o.op = false) (h : (execOp ev o).run P w = .ok (.value v) w') (hE : Ext w w') (hF : F v w') : OpStep P o ev w fun v w' => Post o w v w' ∧ F v w' := by
  unfold OpStep
  rw [h]
  exact ⟨⟨hE, fun h => by rw [ha] at h; cases h⟩, hF⟩
theorem opStep_new {P : Program} {o : Oper} {ev : Operand → Value} {w : World} {F : VFact} {ob : Obj} (h : (execOp ev o).run P w = .ok (.value (.pointer (some ⟨w.heap.size, 0, none⟩))) (w.alloc ob)) (hF : F (.pointer (some ⟨w.heap.size, 0, none⟩)) (w.alloc ob)) : OpStep P o ev w fun v w' => Post o w v w' ∧ F v w' := by
  unfold OpStep
  rw [h]
  exact ⟨⟨(Ext.refl _).alloc _, fun _ => ⟨rfl, by simp⟩⟩, hF⟩
theorem opStep_call {P : Program} {o : Oper} {ev : Operand → Value} {w : World} {F : VFact} {f : FuncId} {args : Array Value} {R : Ending → World → Prop} (ha : isAl o.op = false) (h : (execOp ev o).run P w = .ok (.enter f args) w) (hc : Calls P f args w R)
    (hR : ∀ e w', R e w' → ∃ v, e = .returned v ∧ Ext w w' ∧ F v w') : OpStep P o ev w fun v w' => Post o w v w' ∧ F v w' := by
  unfold OpStep
  rw [h]
  refine hc.mono fun e w' hr => ?_
  obtain ⟨v, h1, h2, h3⟩ := hR e w' hr
  exact ⟨v, h1, ⟨h2, fun h => by rw [ha] at h; cases h⟩, h3⟩

/-- The rule as it is called: stab, steps, fin. -/
theorem wp_region_v {P : Program} {id : Nat} {L : List Oper} {Q : Exit → Act → World → Prop} {a : Act} {w : World} (hm : P.follows .mixedOrders = true) (es : List (List (Nat × Nat))) (bs : List (List Nat)) (Fs : List VFact)
    (hlen : (es.length == bs.length && es.length == Fs.length) = true) (hok : regOk L (shOf 0 es bs) = true) (hd : dstOk L es.length a.tmps.size = true) (stab : StabAll Fs) (steps : USteps P Fs a w.drew L es Fs)
    (fin : ∀ (g : Nat → Value) (w' : World), Ext w.drew w' → (∀ (j : Nat) (F : VFact), Fs[j]? = some F → F (g j) w') → (∀ i j o o', i < es.length → j < es.length → L[i]? = some o → L[j]? = some o' → isAl o.op = true → isAl o'.op = true → i ≠ j → g i ≠ g j) → wpList P L.toArray Q (L.drop es.length) (putG g (L.take es.length) 0 a) w') :
    (Code.region id L.toArray true).wp P Q a w :=
  wp_region_u hm es bs Fs hlen hok hd (fun F hF => stab.mem F hF) steps fin


end RegF
end Go.Proofs.YteefhmdameeoaaaGreat
