/-
  Part 6 of the proof that polynomialRing_holds holds; the statement is the last theorem of the last part. No condition.
-/
import Derived.Below
import Derived.ChangeOld
import Derived.Deep.Slices
import Derived.Lib.SmallJoins
import Derived.OpenShut
import Derived.ProofKit
import Derived.ShutString
import Derived.Test.YteicdddphdomkaaGreatRows
import Derived.Test.YteicdddphdomkaaGreatRi5
set_option linter.unusedSimpArgs false
set_option linter.unusedVariables false
namespace Go.Proofs.YteicdddphdomkaaGreat
open Go.RowKit
section
variable {P : Program} {hp : List Ow} {arg : Operand → AV} {dd : Option Tmp} {ty : TypeId} {ps : String} {af : Array Edge} {gd : Option (Nat × Bool)}
theorem Qs.neg {T : TypeId} {x : Operand} {a : Int} (hx : arg x = .d (ex (.int .i64 a))) (h1 : -9223372036854775807 ≤ a) (h2 : a ≤ 9223372036854775807) : Quiet P hp ⟨dd, .unOp .neg T x, ty, ps, af, gd⟩ arg (.d (ex (.int .i64 (-a)))) := by
 refine ⟨fun base s ρ ev hok hbs hhp h => ?_⟩
 have h3 := h x (by simp [Op.operands])
 rw [hx] at h3
 have e1 : ev x = .int .i64 a := h3
 have e2 : IntKind.i64.wrap (-a) = -a := IntWalk.i64_in _ (by omega)
 exact opG_val (v := .int .i64 (-a)) (by simp [execOp, e1, Op.unary, Op.intArith, e2]) ⟨GS.Le.refl s, rfl⟩
theorem Qs.conv64 {S T : TypeId} {x : Operand} {k : IntKind} {a : Int} {d : TypeDesc} {n b n' b' : Nat} {z z' : Value} (hx : arg x = .d (ex (.int k a))) (hS : Tab P S d n b z) (hT : Tab P T (.int .i64) n' b' z') (h1 : -9223372036854775808 ≤ a) (h2 : a ≤ 9223372036854775807) : Quiet P hp ⟨dd, .convert S T x, ty, ps, af, gd⟩ arg (.d (ex (.int .i64 a))) := by
 have := Qs.conv (hp := hp) (dd := dd) (ty := ty) (ps := ps) (af := af) (gd := gd) hx hS hT
 rwa [IntWalk.i64_in _ (by omega)] at this
theorem Qs.succL {T U : TypeId} {x y : Operand} {a : Nat} (hx : arg x = .d (ex (.int .i64 1))) (hy : arg y = .d (ex (.int .i64 (a : Nat)))) (h1 : (a : Int) < 9223372036854775807) : Quiet P hp ⟨dd, .binOp .add T x y U, ty, ps, af, gd⟩ arg (.d (ex (.int .i64 ((a + 1 : Nat) : Int)))) := by
 have := Qs.add (P := P) (hp := hp) (dd := dd) (ty := ty) (ps := ps) (af := af) (gd := gd) (T := T) (U := U) hx hy (by omega) (by omega)
 rwa [show (1 : Int) + a = ((a + 1 : Nat) : Int) by omega] at this
end
section
variable {P : Program} {hp : List Ow} {arg : Operand → AV} {dd : Option Tmp} {ty : TypeId} {ps : String} {af : Array Edge} {gd : Option (Nat × Bool)}
theorem Qs.ixL {x y : Operand} {t : TypeId} {e n b n' b' len T : Nat} {d : TypeDesc} {z z' : Value} {ds r : List D} {κ : IntKind} {i : Int} (hx : arg x = .d (epD T ds)) (hy : arg y = .d (ex (.int κ i))) (ht : Tab P t (.array len e) n b z) (he : Tab P e d n' b' z') (h0 : 0 ≤ i) (hl : i < len) (hr : dropO (i.toNat * n') ds = some r) : Quiet P hp ⟨dd, .indexAddr t x y, ty, ps, af, gd⟩ arg (.d (epD T r)) := by
 rw [(dropO_eq hr).1]
 exact Quiet.indexE (o := ⟨dd, .indexAddr t x y, ty, ps, af, gd⟩) rfl hx hy ht he h0 hl
end
def r5C (r : Nat → Int) : List D := [ex (.int .i8 (r 0)), ex (.int .i8 (r 1)), ex (.int .i8 (r 2)), ex (.int .i8 (r 3)), ex (.int .i8 (r 4))]
theorem r5C_at {r : Nat → Int} {k : Nat} (h : k < 5) : dAt (r5C r) k = ex (.int .i8 (r k)) := by
 match k, h with
 | 0, _ => rfl
 | 1, _ => rfl
 | 2, _ => rfl
 | 3, _ => rfl
 | 4, _ => rfl
theorem CellAt.r5 {r : Nat → Int} {k : Nat} (h : k < 5) : CellAt ((r5C r).drop (k * 1)) 0 (ex (.int .i8 (r k))) := by
 rw [Nat.mul_one]
 refine ⟨by rw [List.length_drop]; show 0 < 5 - k; omega, ?_⟩
 rw [dAt_drop]
 exact r5C_at h
def r5D (T : Nat) (X : List (Nat → Int)) : D := slD T 5 (X.map r5C)
def i5At (X : List (Nat → Int)) (k : Nat) : Nat → Int := X.getD k default
theorem i5At_mem {X : List (Nat → Int)} {k : Nat} (h : k < X.length) : i5At X k ∈ X := by
 unfold i5At
 rw [List.getD_eq_getElem?_getD, List.getElem?_eq_getElem h]
 exact List.getElem_mem h
end Go.Proofs.YteicdddphdomkaaGreat
namespace Go.Proofs.YteicdddphdomkaaGreat
open Go.RowKit
set_option maxRecDepth 100000
theorem Rabs_abs (z : Int) (h0 : -128 ≤ z) (h1 : z ≤ 127) : Abs Tryz.prog 103 [ex (.int .i8 z)] (ex (.int .i64 (z.natAbs : Nat))) := by
 by_cases hz : z < 0
 ·refine Abs.intro Tryz.func103 rfl (callFunc_run Tryz.func103 (by kernel_rfl) (by kernel_rfl)) rfl fun s0 => ?_
  rw [Tryz.ntmps103]
  repeat (first | refine AWs.q rfl rfl ?_; refine ⟨_, Qs.conv64 (ao rfl) (tab_of rfl) (tab_of rfl) (by omega) (by omega), ?_⟩ | refine AWs.q rfl rfl ?_; refine ⟨_, Qs.neg (ao rfl) (by omega) (by omega), ?_⟩ | apply AWp.seq | apply AWp.region | (refine AWs.q rfl rfl ?_; first | (apply Gt.move; refine ⟨_, Qs.move (ao rfl), ?_⟩) | (apply Gt.assign; refine ⟨_, Qs.assign (ao rfl), ?_⟩) | (apply Gt.bin; refine ⟨_, Qs.cmpT rfl (ao rfl) (ao rfl) (by first | (simp only [cmpP, List.length_cons, List.length_nil]; omega) | (simp [cmpP]; done) | (simp [cmpP]; omega)), ?_⟩)) | apply AWl.nil | apply AThen.normal | apply AWp.ret | apply AThen.ret | (apply Gc.cond; refine AWp.condT (ao rfl) ?_))
  exact Fin.ret (Rets.of1 (ResV.tmp rfl rfl) (D.le.of_eq (by congr 2; omega)))
 ·refine Abs.intro Tryz.func103 rfl (callFunc_run Tryz.func103 (by kernel_rfl) (by kernel_rfl)) rfl fun s0 => ?_
  rw [Tryz.ntmps103]
  repeat (first | refine AWs.q rfl rfl ?_; refine ⟨_, Qs.conv64 (ao rfl) (tab_of rfl) (tab_of rfl) (by omega) (by omega), ?_⟩ | apply AWp.seq | apply AWp.region | (refine AWs.q rfl rfl ?_; first | (apply Gt.move; refine ⟨_, Qs.move (ao rfl), ?_⟩) | (apply Gt.assign; refine ⟨_, Qs.assign (ao rfl), ?_⟩) | (apply Gt.bin; refine ⟨_, Qs.cmpF rfl (ao rfl) (ao rfl) (by first | (simp only [cmpP, List.length_cons, List.length_nil]; omega) | (simp [cmpP]; done) | (simp [cmpP]; omega)), ?_⟩)) | apply AWl.nil | apply AThen.normal | apply AWp.skip | apply AWp.ret | (apply Gc.cond; refine AWp.condF (ao rfl) ?_))
  exact Fin.ret (Rets.of1 (ResV.tmp rfl rfl) (D.le.of_eq (by congr 2; omega)))
def lft (deg : Int) (r : Nat → Int) : Nat → Int
 | 0 => deg
 | j + 1 => lft deg r j - ((r (j + 1)).natAbs : Nat) % (lft deg r j + 1)
theorem lft_in {deg : Int} (r : Nat → Int) (h : 0 ≤ deg) : ∀ j, 0 ≤ lft deg r j ∧ lft deg r j ≤ deg
 | 0 => ⟨h, Int.le_refl _⟩
 | j + 1 => by
  have ih := lft_in r h j
  have h1 := Int.emod_nonneg ((r (j + 1)).natAbs : Int) (show lft deg r j + 1 ≠ 0 by omega)
  have h2 := Int.emod_lt_of_pos ((r (j + 1)).natAbs : Int) (show 0 < lft deg r j + 1 by omega)
  simp only [lft]
  omega
def expE (deg : Int) (r : Nat → Int) (n : Nat) : Nat → Int := fun j => if j < n then ((r (j + 1)).natAbs : Nat) % (lft deg r j + 1) else 0
theorem expE_in {deg : Int} (r : Nat → Int) (h : 0 ≤ deg) (n : Nat) : In8 (expE deg r n) 0 deg := fun j _ => by
 unfold expE
 have ih := lft_in r h j
 split
 ·have h1 := Int.emod_nonneg ((r (j + 1)).natAbs : Int) (show lft deg r j + 1 ≠ 0 by omega)
  have h2 := Int.emod_lt_of_pos ((r (j + 1)).natAbs : Int) (show 0 < lft deg r j + 1 by omega)
  omega
 ·omega
theorem expE_set (deg : Int) (r : Nat → Int) (k : Nat) : setM (expE deg r k) k (((r (k + 1)).natAbs : Nat) % (lft deg r k + 1)) = expE deg r (k + 1) := by
 funext j
 simp only [setM, expE]
 rcases Nat.lt_trichotomy j k with h | h | h
 ·rw [if_neg (by omega), if_pos h, if_pos (by omega)]
 ·subst h; simp
 ·rw [if_neg (by omega), if_neg (by omega), if_neg (by omega)]
def rawT (deg : Int) (n : Nat) (r : Nat → Int) : List Tm := sclL ((Int.tmod (r 0) 4 : Int) : Rat) [⟨1, expE deg r n⟩]
def madeTo (deg : Int) (n : Nat) (X : List (Nat → Int)) : List Tm := X.foldl (fun a r => mrg a (rawT deg n r)) []
def madeP (X : List (Nat → Int)) (n : Nat) (deg : Int) (terms : Nat) : List Tm := madeTo deg (min n 4) (X.take (min X.length terms))
theorem tmod4 (z : Int) : -3 ≤ Int.tmod z 4 ∧ Int.tmod z 4 ≤ 3 := by
 rcases Int.le_total 0 z with h | h
 ·rw [Int.tmod_eq_emod_of_nonneg h]; omega
 ·have : Int.tmod z 4 = -((-z) % 4) := by
   rw [← Int.tmod_eq_emod_of_nonneg (by omega), Int.neg_tmod, Int.neg_neg]
  omega
theorem sclL_pb {c : Rat} {P : List Tm} {n N N0 : Nat} {d : Int} (h : PB P n N d) (hs : RSz c N0) : PB (sclL c P) n (N0 + N) d := by
 unfold sclL
 split
 ·exact PB.nil
 ·rename_i hc
  have := tms_pb (t := ⟨c, fun _ => 0⟩) (d0 := 0) h hc hs fun i _ => ⟨Int.le_refl _, Int.le_refl _⟩
  rwa [Int.zero_add] at this
theorem one_pb {m : Nat → Int} {d : Int} (h : In8 m 0 d) : PB [⟨1, m⟩] 1 1 d := PB.single (show (1 : Rat) ≠ 0 by decide) (rsz_one) h
where rsz_one : RSz (1 : Rat) 1 := rsz_sm (x := 1) (by omega) (by omega)
theorem tmod_sz (z : Int) : RSz ((Int.tmod z 4 : Int) : Rat) 1 := by
 have := tmod4 z
 exact rsz_sm (by omega) (by omega)
theorem rawT_pb {deg : Int} (n : Nat) (r : Nat → Int) (h : 0 ≤ deg) : PB (rawT deg n r) 1 2 deg := sclL_pb (one_pb (expE_in r h n)) (tmod_sz _)
theorem madeTo_pb {deg : Int} {n : Nat} (h : 0 ≤ deg) : ∀ (X : List (Nat → Int)) (A : List Tm) (k K : Nat), PB A k K deg → PB (X.foldl (fun a r => mrg a (rawT deg n r)) A) (k + X.length) (K + X.length * 3) deg
 | [], A, k, K, h => h
 | r :: X, A, k, K, hA => by
  have h1 := (hA.add (rawT_pb n r h)).mono (Nat.le_refl _) (Nat.le_refl _) (Int.max_le.2 ⟨Int.le_refl _, Int.le_refl _⟩)
  have := madeTo_pb (n := n) h X _ _ _ h1
  exact this.mono (by simp; omega) (by simp; omega) (Int.le_refl _)
theorem madeP_pb (X : List (Nat → Int)) (n : Nat) {deg : Int} (terms : Nat) (h : 0 ≤ deg) : PB (madeP X n deg terms) terms (terms * 3) deg := by
 have := madeTo_pb (n := min n 4) h (X.take (min X.length terms)) [] 0 0 PB.nil
 have hl : (X.take (min X.length terms)).length ≤ terms := by rw [List.length_take]; omega
 exact this.mono (by omega) (by omega) (Int.le_refl _)
theorem madeTo_take_pb (X : List (Nat → Int)) (n : Nat) {deg : Int} {terms k : Nat} (h : 0 ≤ deg) (hk : k ≤ terms) : PB (madeTo deg n (X.take k)) terms (terms * 3) deg := by
 have := madeTo_pb (n := n) h (X.take k) [] 0 0 PB.nil
 have hl : (X.take k).length ≤ terms := by rw [List.length_take]; omega
 exact this.mono (by omega) (by omega) (Int.le_refl _)
theorem foldl_i5 {α : Type} (f : α → (Nat → Int) → α) (b : α) {X : List (Nat → Int)} {k : Nat} (h : k < X.length) : (X.take (k + 1)).foldl f b = f ((X.take k).foldl f b) (i5At X k) := by
 have e : X.take (k + 1) = X.take k ++ [i5At X k] := by
  rw [List.take_add_one, List.getElem?_eq_getElem h, i5At, List.getD_eq_getElem?_getD, List.getElem?_eq_getElem h]
  rfl
 rw [e, List.foldl_append]
 rfl
def Raw8 (X : List (Nat → Int)) : Prop := ∀ r ∈ X, ∀ j, j < 5 → -128 ≤ r j ∧ r j ≤ 127
theorem RMade_abs (T : Nat) (X : List (Nat → Int)) (n terms : Nat) (deg : Int) (hX : Raw8 X) (hn : n ≤ 8) (ht : terms ≤ 1000) (h0 : 0 ≤ deg) (hd : deg ≤ 1000) : Abs Tryz.prog 41 [agD [r5D T X], ex (.int .i64 (n : Nat)), ex (.int .i64 deg), ex (.int .i64 (terms : Nat))] (polD (madeP X n deg terms)) := by
 refine Abs.intro Tryz.func41 rfl (callFunc_run Tryz.func41 (by kernel_rfl) (by kernel_rfl)) rfl fun s0 => ?_
 rw [Tryz.ntmps41]
 repeat (first | apply AWp.seq | apply AWp.region | (apply Ga.box; refine AWs.bx (ao rfl) rfl rfl rfl rfl ?_) | (apply Ga.b0; refine AWs.b0 (tab_of rfl) (tab_of rfl) rfl rfl rfl rfl rfl ?_) | (refine AWs.q rfl rfl ?_; (apply Gt.assign; refine ⟨_, Qs.assign (ao rfl), ?_⟩)) | apply AWl.nil | apply AThen.normal | apply AWp.block)
 refine AWp.loop (fun mz σ => ∃ k, k ≤ min X.length terms ∧ mz = min X.length terms - k ∧ σ = ⟨[(1, .d (ex (.int .i64 (n : Nat)))), (2, .d (ex (.int .i64 deg))), (3, .d (ex (.int .i64 (terms : Nat)))), (4, .ptr 0 0), (9, .d (polD (madeTo deg (min n 4) (X.take k)))), (10, .d (ex (.int .i64 (k : Nat))))], [.var 37 ([r5D T X].map .d)]⟩) ?le ⟨0, by omega, rfl, rfl⟩ ?round
 case le => exact AS.le_of (by repeat (first | exact FrLe.nil | refine FrLe.cons rfl (AVle.d rfl) ?_ | refine FrLe.cons rfl (AVle.ptr rfl) ?_ | refine FrLe.cons rfl (AVle.ownD rfl (D.le.refl _)) ?_)) (by repeat (first | exact HpLe.nil | refine HpLe.cons (OwLe.varD rfl) ?_))
 case round =>
  rintro mz _ ⟨k, hk, rfl, rfl⟩
  by_cases hlt : k < min X.length terms
  ·have hkX : k < X.length := by omega
   have hkt : k < terms := by omega
   repeat (first | apply AWp.seq | apply AWp.region | (apply Ga.alloc; refine AWs.al (tab_of rfl) rfl rfl rfl rfl rfl rfl ?_) | (apply Ga.store; refine AWs.stF (ao rfl) (ao rfl) rfl (tab_of rfl) rfl rfl rfl ?_) | (refine AWs.q rfl rfl ?_; first | (apply Gt.move; refine ⟨_, Qs.move (ao rfl), ?_⟩) | (apply Gt.assign; refine ⟨_, Qs.assign (ao rfl), ?_⟩) | (apply Gt.load; refine ⟨_, Qs.ldD1 (ao rfl) rfl (tab_of rfl) rfl rfl, ?_⟩) | (apply Gt.fieldAddr; refine ⟨_, Qs.fldP (ao rfl) (tab_of rfl) rfl (tab_of rfl) rfl, ?_⟩) | (apply Gt.len; refine ⟨_, Qs.lenN rfl (tab_of rfl), ?_⟩) | (apply Gt.bin; refine ⟨_, Qs.cmpT rfl (ao rfl) (ao rfl) (by first | (simp only [cmpP, List.length_cons, List.length_nil]; omega) | (simp [cmpP]; done) | (simp [cmpP]; omega)), ?_⟩) | (apply Gt.pick; refine ⟨_, Qs.pickT (ao rfl) (ao rfl), ?_⟩) | (apply Gt.build; (refine Bq.arr (tab_of rfl) (tab_of rfl) rfl rfl ?_; (repeat ((first | refine ⟨_, PartOk.ag (ao rfl), ?_⟩ | refine ⟨_, PartOk.one rfl (by first | exact One.ex_ rfl | exact One.sl | exact One.ep), ?_⟩); refine ⟨_, rfl, ?_⟩)); refine ⟨_, rfl, ?_⟩))) | (refine AWs.qG rfl rfl rfl rfl rfl ?_; first | (apply Gt.move; refine ⟨_, Qs.move (ao rfl), ?_⟩) | (apply Gt.bin; refine ⟨_, Qs.cmpT rfl (ao rfl) (ao rfl) (by first | (simp only [cmpP, List.length_cons, List.length_nil]; omega) | (simp [cmpP]; done) | (simp [cmpP]; omega)), ?_⟩)) | apply AWl.nil | apply AThen.normal | apply AWp.block | apply AWp.skip | (apply Gc.cond; refine AWp.condT (ao rfl) ?_))
   refine AWp.loop (fun mz σ => ∃ i, i ≤ min n 4 ∧ mz = min n 4 - i ∧ σ = ⟨[(1, .d (ex (.int .i64 (n : Nat)))), (2, .d (ex (.int .i64 deg))), (3, .d (ex (.int .i64 (terms : Nat)))), (4, .ptr 0 0), (9, .d (polD (madeTo deg (min n 4) (X.take k)))), (10, .d (ex (.int .i64 (k : Nat)))), (11, .ptr 1 0), (12, .d (ex (.int .i64 (lft deg (i5At X k) i)))), (13, .d (ex (.int .i64 (i : Nat))))], [.var 37 ([r5D T X].map .d), .var 31 ((monC (expE deg (i5At X k) i)).map .d)]⟩) ?lei ⟨0, by omega, rfl, rfl⟩ ?roundi
   case lei => exact AS.le_of (by repeat (first | exact FrLe.nil | refine FrLe.cons rfl (AVle.d rfl) ?_ | refine FrLe.cons rfl (AVle.ptr rfl) ?_)) (by repeat (first | exact HpLe.nil | refine HpLe.cons (OwLe.varD rfl) ?_))
   case roundi =>
    rintro mz _ ⟨i, hi, rfl, rfl⟩
    by_cases hlti : i < min n 4
    ·have hl := lft_in (i5At X k) h0 i
     have hr := hX _ (i5At_mem hkX) (i + 1) (by omega)
     have hs : setM (expE deg (i5At X k) i) i (((i5At X k (i + 1)).natAbs : Nat) % (lft deg (i5At X k) i + 1)) i = ((i5At X k (i + 1)).natAbs : Nat) % (lft deg (i5At X k) i + 1) := if_pos rfl
     have he1 := Int.emod_nonneg ((i5At X k (i + 1)).natAbs : Int) (show lft deg (i5At X k) i + 1 ≠ 0 by omega)
     have he2 := Int.emod_lt_of_pos ((i5At X k (i + 1)).natAbs : Int) (show 0 < lft deg (i5At X k) i + 1 by omega)
     repeat (first | refine AWs.q rfl rfl ?_; refine ⟨_, Qs.succL (ao rfl) (ao rfl) (by omega), ?_⟩ | refine AWs.q rfl rfl ?_; refine ⟨_, Qs.ldEX1 (ao rfl) (tab_of rfl) rfl (CellAt.r5 (show i + 1 < 5 by omega)), ?_⟩ | apply AWp.seq | apply AWp.region | (apply Ga.store; refine AWs.stX1 (ao rfl) (ao rfl) rfl (tab_of rfl) (by first | exact One.ex_ rfl | exact One.sl | exact One.ep) (SetAt.mon (by first | omega | (simp; omega))) rfl ?_) | (refine AWs.q rfl rfl ?_; first | (apply Gt.move; refine ⟨_, Qs.move (ao rfl), ?_⟩) | (apply Gt.assign; refine ⟨_, Qs.assign (ao rfl), ?_⟩) | (apply Gt.load; first | refine ⟨_, Qs.ldD1 (ao rfl) rfl (tab_of rfl) rfl rfl, ?_⟩ | refine ⟨_, Qs.ldX1 (ao rfl) rfl (tab_of rfl) rfl (CellAt.mon0 (by first | omega | (simp; omega))), ?_⟩) | (apply Gt.fieldAddr; refine ⟨_, Qs.fldP (ao rfl) (tab_of rfl) rfl (tab_of rfl) rfl, ?_⟩) | (apply Gt.indexAddr; first | refine ⟨_, Qs.indexN rfl (ao rfl) (tab_of rfl) (tab_of rfl) rfl (by first | omega | (simp; omega)), ?_⟩ | refine ⟨_, Qs.ixP (ao rfl) (ao rfl) (tab_of rfl) (tab_of rfl) (by first | omega | (simp; omega)), ?_⟩ | refine ⟨_, Qs.ixE (ao rfl) (ao rfl) (tab_of rfl) (tab_of rfl) (by first | omega | (simp; omega)), ?_⟩) | (apply Gt.add; first | refine ⟨_, Qs.succ (ao rfl) (ao rfl) (by omega), ?_⟩ | refine ⟨_, Qs.add (ao rfl) (ao rfl) (by omega) (by omega), ?_⟩) | (apply Gt.sub; refine ⟨_, Qs.sub (ao rfl) (ao rfl) (by omega) (by omega), ?_⟩) | (apply Gt.rem; refine ⟨_, Qs.rem (ao rfl) (ao rfl) (by omega) (by omega), ?_⟩) | (apply Gt.bin; refine ⟨_, Qs.cmpT rfl (ao rfl) (ao rfl) (by first | (simp only [cmpP, List.length_cons, List.length_nil]; omega) | (simp [cmpP]; done) | (simp [cmpP]; omega)), ?_⟩) | (apply Gt.pick; refine ⟨_, Qs.pickT (ao rfl) (ao rfl), ?_⟩) | (apply Gt.callv; refine ⟨_, Qs.call (ao rfl) (Rabs_abs (i5At X k (i + 1)) hr.1 hr.2) (by first | ((repeat (first | exact ArgsLe.nil | refine ArgsLe.cons rfl (D.le.refl _) ?_ | refine ArgsLe.cons rfl D.le_nil ?_)); done) | fail), ?_⟩)) | (refine AWs.qG rfl rfl rfl rfl rfl ?_; first | (apply Gt.move; refine ⟨_, Qs.move (ao rfl), ?_⟩) | (apply Gt.bin; refine ⟨_, Qs.cmpT rfl (ao rfl) (ao rfl) (by first | (simp only [cmpP, List.length_cons, List.length_nil]; omega) | (simp [cmpP]; done) | (simp [cmpP]; omega)), ?_⟩)) | apply AWl.nil | apply AThen.normal | apply AWp.block | apply AWp.skip | apply ABlock.normal | (apply Gc.cond; refine AWp.condT (ao rfl) ?_))
     refine ALoop.next (min n 4 - (i + 1)) (by omega) ⟨i + 1, by omega, rfl, rfl⟩ ?_
     exact AS.le_of (by repeat (first | exact FrLe.nil | refine FrLe.cons rfl (AVle.d rfl) ?_ | refine FrLe.cons rfl (AVle.ptr rfl) ?_ | refine FrLe.cons rfl (AVle.int (by rw [hs]; rfl)) ?_)) (by repeat (first | exact HpLe.nil | refine HpLe.cons (OwLe.varD (by rw [expE_set])) ?_ | refine HpLe.cons (OwLe.varD rfl) ?_))
    ·obtain rfl : i = min n 4 := by omega
     have hrm := i5At_mem hkX
     have hr0 := hX _ hrm 0 (by omega)
     have h4 := tmod4 (i5At X k 0)
     have h4' : -3 ≤ Int.tmod (X.getD k default 0) 4 ∧ Int.tmod (X.getD k default 0) 4 ≤ 3 := h4
     have hb := madeTo_take_pb X (min n 4) (terms := terms) h0 (Nat.le_of_lt hkt)
     have hbl := hb.len
     have ht := rawT_pb (min n 4) (i5At X k) h0
     have htl := ht.len
     have h1 := one_pb (expE_in (i5At X k) h0 (min n 4))
     have hz : (i5At X k 0).tmod 4 = IntKind.i64.wrap ((i5At X k 0).tmod 4) := (IntWalk.i64_in _ (by omega)).symm
     have hst : madeTo deg (min n 4) (X.take (k + 1)) = mrg (madeTo deg (min n 4) (X.take k)) (rawT deg (min n 4) (i5At X k)) := foldl_i5 (fun a r => mrg a (rawT deg (min n 4) r)) [] hkX
     rcases (show n ≤ 4 ∨ 4 < n by omega) with hn4 | hn4
     all_goals
      repeat (first | apply AWp.seq | apply AWp.region | (refine AWs.q rfl rfl ?_; first | (apply Gt.move; refine ⟨_, Qs.move (ao rfl), ?_⟩) | (apply Gt.bin; first | refine ⟨_, Qs.cmpT rfl (ao rfl) (ao rfl) (by first | (simp only [cmpP, List.length_cons, List.length_nil]; omega) | (simp [cmpP]; done) | (simp [cmpP]; omega)), ?_⟩ | refine ⟨_, Qs.cmpF rfl (ao rfl) (ao rfl) (by first | (simp only [cmpP, List.length_cons, List.length_nil]; omega) | (simp [cmpP]; done) | (simp [cmpP]; omega)), ?_⟩) | (apply Gt.pick; first | refine ⟨_, Qs.pickT (ao rfl) (ao rfl), ?_⟩ | refine ⟨_, Qs.pickF (ao rfl) (ao rfl), ?_⟩)) | refine AWs.sG rfl rfl rfl rfl rfl ?_ | (refine AWs.qG rfl rfl rfl rfl rfl ?_; first | (apply Gt.move; refine ⟨_, Qs.move (ao rfl), ?_⟩) | (apply Gt.bin; refine ⟨_, Qs.cmpF rfl (ao rfl) (ao rfl) (by first | (simp only [cmpP, List.length_cons, List.length_nil]; omega) | (simp [cmpP]; done) | (simp [cmpP]; omega)), ?_⟩)) | apply AWl.nil | apply AThen.normal | apply AWp.exit | apply AThen.exit | apply ABlock.hit | apply ALoop.exit | (apply Gc.cond; refine AWp.condF (ao rfl) ?_))
      refine AWp.dr' (DrawOk.self (by kernel_rfl)) [[], [], [(58, 1)], [], [(59, 2), (60, 3)], [(61, 4)], [(62, 5)], [(63, 6)], [(64, 7)], [(65, 8)], [], [], [(67, 10), (68, 11)], [(69, 12)], [(66, 9), (70, 13)], [(57, 0), (71, 14)]] [[], [], [1], [], [1, 2, 3], [1, 2, 3, 4], [1, 2, 3, 4, 5], [1, 2, 3, 4, 5, 6], [1, 2, 3, 4, 5, 6, 7], [1, 2, 3, 4, 5, 6, 7, 8], [1, 2, 3, 4, 5, 6, 7, 8, 9], [], [1, 2, 3, 4, 5, 6, 7, 8, 9, 10, 11], [1, 2, 3, 4, 5, 6, 7, 8, 9, 10, 11, 12], [1, 2, 3, 4, 5, 6, 7, 8, 9, 10, 11, 12, 13], [0, 1, 2, 3, 4, 5, 6, 7, 8, 9, 10, 11, 12, 13, 14]] rfl (by kernel_rfl) (by kernel_rfl) (by kernel_rfl) ?_
      repeat (first | refine ⟨_, rfl, ?_⟩ | (apply Gh.move; (refine ⟨_, HStep.q rfl (Qs.move (ah rfl)), ?_⟩; refine ⟨_, rfl, ?_⟩)) | (apply Gh.load; first | (refine ⟨_, HStep.q rfl (Qs.ldD (ah rfl) rfl (tab_of rfl) rfl rfl), ?_⟩; refine ⟨_, rfl, ?_⟩) | (refine ⟨_, HStep.q rfl (Qs.ldD1 (ah rfl) rfl (tab_of rfl) rfl rfl), ?_⟩; refine ⟨_, rfl, ?_⟩) | (refine ⟨_, HStep.q rfl (Qs.ldE1 (ah rfl) (tab_of rfl) rfl rfl), ?_⟩; refine ⟨_, rfl, ?_⟩)) | (apply Gh.fieldAddr; (refine ⟨_, HStep.q rfl (Qs.fldP (ah rfl) (tab_of rfl) rfl (tab_of rfl) rfl), ?_⟩; refine ⟨_, rfl, ?_⟩)) | (apply Gh.indexAddr; first | (refine ⟨_, HStep.q rfl (Qs.indexN rfl (ah rfl) (tab_of rfl) (tab_of rfl) rfl (by first | omega | (simp; omega))), ?_⟩; refine ⟨_, rfl, ?_⟩) | (refine ⟨_, HStep.q rfl (Qs.ixL (ah rfl) (ah rfl) (tab_of rfl) (tab_of rfl) (by decide) (by decide) rfl), ?_⟩; refine ⟨_, rfl, ?_⟩)) | (apply Gh.rem; (refine ⟨_, HStep.q rfl (Qs.remT (ah rfl) (ah rfl) (by decide)), ?_⟩; refine ⟨_, rfl, ?_⟩)) | (apply Gh.bslice; (refine ⟨_, HStep.q rfl (Bq.slice1 (ah rfl) (tab_of rfl) (tab_of rfl) rfl rfl rfl rfl rfl), ?_⟩; refine ⟨_, rfl, ?_⟩)) | (apply Gh.conv; (refine ⟨_, HStep.q rfl (Qs.conv64 (ah rfl) (tab_of rfl) (tab_of rfl) (by omega) (by omega)), ?_⟩; refine ⟨_, rfl, ?_⟩)) | (apply Gh.build; (refine Hq rfl ?_; refine Bq.build (tab_of rfl) rfl rfl rfl ?_; (repeat ((first | refine ⟨_, PartOk.ag (ah rfl), ?_⟩ | refine ⟨_, PartOk.one rfl (by first | exact One.ex_ rfl | exact One.sl | exact One.ep), ?_⟩); refine ⟨_, rfl, ?_⟩)); refine ⟨_, rfl, ?_⟩; refine ⟨_, rfl, ?_⟩)) | (apply Gh.callv; first | (refine ⟨_, HStep.q rfl (Qs.call (ah rfl) (RWhole_abs ((i5At X k 0).tmod 4) (by omega) (by omega)) (by first | ((repeat (first | exact ArgsLe.nil | refine ArgsLe.cons rfl (D.le.refl _) ?_ | refine ArgsLe.cons rfl D.le_nil ?_)); done) | fail)), ?_⟩; refine ⟨_, rfl, ?_⟩) | (refine ⟨_, HStep.q rfl (Qs.call (ah rfl) (RWhole_abs 1 (by omega) (by omega)) (by first | ((repeat (first | exact ArgsLe.nil | refine ArgsLe.cons rfl (D.le.refl _) ?_ | refine ArgsLe.cons rfl D.le_nil ?_)); done) | fail)), ?_⟩; refine ⟨_, rfl, ?_⟩) | (refine ⟨_, HStep.q rfl (Qs.call (ah rfl) (RScale_abs ((Int.tmod (i5At X k 0) 4 : Int) : Rat) [⟨1, expE deg (i5At X k) (min n 4)⟩] 1 1 (tmod_sz _) h1.sz (h1.ex.mono (Int.le_refl _) (by omega)) (by simp) (by omega)) (by first | ((repeat (first | exact ArgsLe.nil | refine ArgsLe.cons rfl (D.le.refl _) ?_ | refine ArgsLe.cons rfl D.le_nil ?_)); done) | fail)), ?_⟩; refine ⟨_, rfl, ?_⟩) | (refine ⟨_, HStep.q rfl (Qs.call (ah rfl) (RAdd_pol (madeTo deg (min n 4) (X.take k)) (rawT deg (min n 4) (i5At X k)) (terms * 3) 2 hb.sz ht.sz (by omega) (by omega)) (by first | ((repeat (first | exact ArgsLe.nil | refine ArgsLe.cons rfl (D.le.refl _) ?_ | refine ArgsLe.cons rfl D.le_nil ?_)); done) | fail)), ?_⟩; refine ⟨_, rfl, ?_⟩)))
      repeat (first | apply AWp.region | (refine AWs.q rfl rfl ?_; first | (apply Gt.move; refine ⟨_, Qs.move (ao rfl), ?_⟩) | (apply Gt.assign; refine ⟨_, Qs.assign (ao rfl), ?_⟩) | (apply Gt.add; refine ⟨_, Qs.succ (ao rfl) (ao rfl) (by omega), ?_⟩)) | apply AWl.nil | apply AThen.normal | apply ABlock.normal)
      refine ALoop.next (min X.length terms - (k + 1)) (by omega) ⟨k + 1, by omega, rfl, rfl⟩ ?_
      exact AS.le_of (by repeat (first | exact FrLe.nil | refine FrLe.cons rfl (AVle.d rfl) ?_ | refine FrLe.cons rfl (AVle.ptr rfl) ?_ | refine FrLe.cons rfl (AVle.le (D.le_pol hst.symm)) ?_)) (by repeat (first | exact HpLe.nil | refine HpLe.cons (OwLe.varD rfl) ?_))
  ·obtain rfl : k = min X.length terms := by omega
   rcases (show X.length ≤ terms ∨ terms < X.length by omega) with ht | ht
   all_goals
    repeat (first | apply AWp.seq | apply AWp.region | (refine AWs.q rfl rfl ?_; first | (apply Gt.move; refine ⟨_, Qs.move (ao rfl), ?_⟩) | (apply Gt.assign; refine ⟨_, Qs.assign (ao rfl), ?_⟩) | (apply Gt.load; refine ⟨_, Qs.ldD1 (ao rfl) rfl (tab_of rfl) rfl rfl, ?_⟩) | (apply Gt.fieldAddr; refine ⟨_, Qs.fldP (ao rfl) (tab_of rfl) rfl (tab_of rfl) rfl, ?_⟩) | (apply Gt.len; refine ⟨_, Qs.lenN rfl (tab_of rfl), ?_⟩) | (apply Gt.bin; first | refine ⟨_, Qs.cmpT rfl (ao rfl) (ao rfl) (by first | (simp only [cmpP, List.length_cons, List.length_nil]; omega) | (simp [cmpP]; done) | (simp [cmpP]; omega)), ?_⟩ | refine ⟨_, Qs.cmpF rfl (ao rfl) (ao rfl) (by first | (simp only [cmpP, List.length_cons, List.length_nil]; omega) | (simp [cmpP]; done) | (simp [cmpP]; omega)), ?_⟩) | (apply Gt.pick; first | refine ⟨_, Qs.pickT (ao rfl) (ao rfl), ?_⟩ | refine ⟨_, Qs.pickF (ao rfl) (ao rfl), ?_⟩)) | refine AWs.sG rfl rfl rfl rfl rfl ?_ | (refine AWs.qG rfl rfl rfl rfl rfl ?_; first | (apply Gt.move; refine ⟨_, Qs.move (ao rfl), ?_⟩) | (apply Gt.bin; refine ⟨_, Qs.cmpF rfl (ao rfl) (ao rfl) (by first | (simp only [cmpP, List.length_cons, List.length_nil]; omega) | (simp [cmpP]; done) | (simp [cmpP]; omega)), ?_⟩)) | apply AWl.nil | apply AThen.normal | apply AWp.exit | apply AWp.ret | apply AThen.exit | apply ABlock.hit | apply ALoop.exit | (apply Gc.cond; refine AWp.condF (ao rfl) ?_))
    exact Fin.ret (Rets.of1 (ResV.tmp rfl rfl) (D.le.refl _))
end Go.Proofs.YteicdddphdomkaaGreat
namespace Go.Proofs.YteicdddphdomkaaGreat
open Go.RowKit
set_option maxRecDepth 100000
def degL (P : List Tm) : Int := P.foldl (fun d t => max d (sumTo t.m 8)) (-1)
theorem degL_take {P : List Tm} {k : Nat} (h : k < P.length) : degL (P.take (k + 1)) = max (degL (P.take k)) (sumTo (tAt P k).m 8) := foldl_tAt (fun d t => max d (sumTo t.m 8)) (-1) h
theorem PDeg_abs (P : List Tm) (hP : PIn P 0 65535) (hn : P.length ≤ 1000000) : Abs Tryz.prog 37 [polD P] (ex (.int .i64 (degL P))) := by
 refine Abs.intro Tryz.func37 rfl (callFunc_run Tryz.func37 (by kernel_rfl) (by kernel_rfl)) rfl fun s0 => ?_
 rw [Tryz.ntmps37]
 repeat (first | apply AWp.seq | apply AWp.region | (refine AWs.q rfl rfl ?_; first | (apply Gt.move; refine ⟨_, Qs.move (ao rfl), ?_⟩) | (apply Gt.assign; refine ⟨_, Qs.assign (ao rfl), ?_⟩) | (apply Gt.len; refine ⟨_, Qs.lenN rfl (tab_of rfl), ?_⟩)) | apply AWl.nil | apply AThen.normal | apply AWp.block)
 refine AWp.loop (fun mz σ => ∃ k, k ≤ P.length ∧ mz = P.length - k ∧ σ = ⟨[(3, .d (ex (.int .i64 (degL (P.take k))))), (6, .d (polD P)), (7, .d (ex (.int .i64 (P.length : Nat)))), (8, .d (ex (.int .i64 (k : Nat))))], []⟩) ?le ⟨0, by omega, rfl, rfl⟩ ?round
 case le => exact AS.le_of (by repeat (first | exact FrLe.nil | refine FrLe.cons rfl (AVle.d rfl) ?_)) (by repeat (exact HpLe.nil))
 case round =>
  rintro mz _ ⟨k, hk, rfl, rfl⟩
  by_cases hlt : k < P.length
  ·have hin := hP _ (tAt_mem hlt)
   have hst := degL_take hlt
   repeat (first | apply AWp.seq | apply AWp.region | (apply Ga.alloc; refine AWs.al (tab_of rfl) rfl rfl rfl rfl rfl rfl ?_) | (apply Ga.store; refine AWs.stF (ao rfl) (ao rfl) rfl (tab_of rfl) rfl rfl rfl ?_) | (refine AWs.q rfl rfl ?_; first | (apply Gt.move; refine ⟨_, Qs.move (ao rfl), ?_⟩) | (apply Gt.assign; refine ⟨_, Qs.assign (ao rfl), ?_⟩) | (apply Gt.load; first | refine ⟨_, Qs.ldD (ao rfl) rfl (tab_of rfl) rfl rfl, ?_⟩ | refine ⟨_, Qs.loadEf (ao rfl) (tab_of rfl) rfl rfl, ?_⟩) | (apply Gt.fieldAddr; refine ⟨_, Qs.fldP (ao rfl) (tab_of rfl) rfl (tab_of rfl) rfl, ?_⟩) | (apply Gt.indexAddr; refine ⟨_, Qs.indexN rfl (ao rfl) (tab_of rfl) (tab_of rfl) rfl (by first | omega | (simp; omega)), ?_⟩) | (apply Gt.add; refine ⟨_, Qs.succ (ao rfl) (ao rfl) (by omega), ?_⟩) | (apply Gt.bin; refine ⟨_, Qs.cmpT rfl (ao rfl) (ao rfl) (by first | (simp only [cmpP, List.length_cons, List.length_nil]; omega) | (simp [cmpP]; done) | (simp [cmpP]; omega)), ?_⟩) | (apply Gt.max; refine ⟨_, Qs.max (ao rfl) (ao rfl), ?_⟩) | (apply Gt.callv; refine ⟨_, Qs.call (ao rfl) (mDegree_abs (tAt P k).m (hin.mono (by omega) (by omega))) (by first | ((repeat (first | exact ArgsLe.nil | refine ArgsLe.cons rfl (D.le.refl _) ?_ | refine ArgsLe.cons rfl D.le_nil ?_)); done) | fail), ?_⟩)) | apply AWl.nil | apply AThen.normal | apply AWp.block | apply AWp.skip | apply ABlock.normal | (apply Gc.cond; refine AWp.condT (ao rfl) ?_))
   refine ALoop.next (P.length - (k + 1)) (by omega) ⟨k + 1, by omega, rfl, rfl⟩ ?_
   exact AS.le_of (by repeat (first | exact FrLe.nil | refine FrLe.cons rfl (AVle.d rfl) ?_ | refine FrLe.cons rfl (AVle.int hst.symm) ?_)) (by repeat (exact HpLe.nil))
  ·obtain rfl : k = P.length := by omega
   repeat (first | apply AWp.seq | apply AWp.region | (refine AWs.q rfl rfl ?_; first | (apply Gt.move; refine ⟨_, Qs.move (ao rfl), ?_⟩) | (apply Gt.assign; refine ⟨_, Qs.assign (ao rfl), ?_⟩) | (apply Gt.bin; refine ⟨_, Qs.cmpF rfl (ao rfl) (ao rfl) (by first | (simp only [cmpP, List.length_cons, List.length_nil]; omega) | (simp [cmpP]; done) | (simp [cmpP]; omega)), ?_⟩)) | apply AWl.nil | apply AThen.normal | apply AWp.exit | apply AWp.ret | apply AThen.exit | apply ABlock.hit | apply ALoop.exit | (apply Gc.cond; refine AWp.condF (ao rfl) ?_))
   exact Fin.ret (Rets.of1 (ResV.tmp rfl rfl) (D.le.of_eq (by rw [List.take_length])))
end Go.Proofs.YteicdddphdomkaaGreat
namespace Go.Proofs.YteicdddphdomkaaGreat
open Go.RowKit
def Top (R : List (Nat → Int)) (P : List Tm) (s : Tm) : Prop := ∃ A B, P = A ++ s :: B ∧ ∀ u ∈ A ++ B, 0 < oCmp R s.m u.m
theorem dot_mid (f : (Nat → Int) → Rat) (A B : List Tm) (s : Tm) : dot f (A ++ s :: B) = s.c * f s.m + dot f (A ++ B) := by
 rw [dot_append, dot_append]
 simp only [dot]
 grind
theorem oCmp_ne {R : List (Nat → Int)} {a b : Nat → Int} (h : 0 < oCmp R a b) : ¬ Eqv a b := fun e => by rw [oCmp_zero.2 e] at h; omega
theorem oCmp_addL (R : List (Nat → Int)) (a b c : Nat → Int) : oCmp R (add8 c a) (add8 c b) = oCmp R a b := by rw [add8_comm c a, add8_comm c b, oCmp_add]
theorem dot_zero_of {f : (Nat → Int) → Rat} {P : List Tm} (h : ∀ t ∈ P, f t.m = 0) : dot f P = 0 := (dot_congr h).trans (dot_zero P)
theorem dot_top {R : List (Nat → Int)} {P Q : List Tm} {s t : Tm} (hP : Top R P s) (hQ : Top R Q t) : dot (del (add8 s.m t.m)) (mulL P Q) = s.c * t.c := by
 obtain ⟨A, B, rfl, hA⟩ := hP
 obtain ⟨A', B', rfl, hA'⟩ := hQ
 rw [dot_mulL, dot_mid]
 have h1 : dot (fun b => del (add8 s.m t.m) (add8 s.m b)) (A' ++ t :: B') = t.c := by
  have h0 : dot (fun b => del (add8 s.m t.m) (add8 s.m b)) (A' ++ B') = 0 := dot_zero_of fun u hu => del_ne (oCmp_ne (R := R) (by rw [oCmp_addL]; exact hA' u hu))
  rw [dot_mid, h0, del_eq (Eqv.refl _)]
  grind
 have h2 : dot (fun a => dot (fun b => del (add8 s.m t.m) (add8 a b)) (A' ++ t :: B')) (A ++ B) = 0 := by
  refine dot_zero_of fun u hu => dot_zero_of fun v hv => del_ne (oCmp_ne (R := R) ?_)
  have h3 : 0 < oCmp R (add8 s.m t.m) (add8 u.m t.m) := by rw [oCmp_add]; exact hA u hu
  have h4 : 0 ≤ oCmp R (add8 u.m t.m) (add8 u.m v.m) := by
   rw [oCmp_addL]
   rcases List.mem_append.1 hv with hv | hv
   ·exact Int.le_of_lt (hA' v (by simp [hv]))
   ·rcases List.mem_cons.1 hv with rfl | hv
    ·rw [oCmp_zero.2 (Eqv.refl _)]; omega
    ·exact Int.le_of_lt (hA' v (by simp [hv]))
  exact (oCmp_trans (Int.le_of_lt h3) h4).2 (.inl h3)
 rw [h1, h2]
 grind
theorem top_cons {s : Tm} {P : List Tm} (h : Dec (s :: P)) : Top [] (s :: P) s := ⟨[], P, rfl, fun u hu => (List.pairwise_cons.1 h).1 u (by simpa using hu)⟩
theorem sim_nil {P : List Tm} (h : Canon P) (hs : Sim P []) : P = [] := by
 have := (canon_unique h Canon.nil hs).length
 exact List.eq_nil_of_length_eq_zero this
theorem mulL_nil_right (P : List Tm) : mulL P [] = [] := by simp [mulL]
theorem pmul_nil_right {P : List Tm} (hc : Canon (pmul P [])) : pmul P [] = [] := sim_nil hc ((pmul_sim P []).trans (by rw [mulL_nil_right]; exact Sim.refl _))
theorem pmul_ne {P Q : List Tm} (hP : Canon P) (hQ : Canon Q) (h : P ≠ []) (h' : Q ≠ []) : pmul P Q ≠ [] := fun e => by
 cases P with
 | nil => exact h rfl
 | cons s P => cases Q with
  | nil => exact h' rfl
  | cons t Q =>
   have h1 := dot_top (top_cons hP.1) (top_cons hQ.1)
   rw [← pmul_sim _ _ _ (del_resp _), e] at h1
   exact rat_mul_ne (hP.2 s (by simp)) (hQ.2 t (by simp)) h1.symm
theorem sub_sim {P Q P' Q' : List Tm} (h : Sim P P') (k : Sim Q Q') : Sim (psub P Q) (P' ++ neg Q') := (mrg_sim _ _).trans (h.append (neg_sim k))
theorem add_sim {P Q P' Q' : List Tm} (h : Sim P P') (k : Sim Q Q') : Sim (mrg P Q) (P' ++ Q') := (mrg_sim _ _).trans (h.append k)
theorem mul_sim {P Q P' Q' : List Tm} (h : Sim P P') (k : Sim Q Q') : Sim (pmul P Q) (mulL P' Q') := (pmul_sim _ _).trans (h.mul k)
theorem constL_one : constL (1 : Int) = [⟨1, fun _ => 0⟩] := by
 rw [constL, if_neg (by decide)]
 rfl
theorem pmul_comm (P Q : List Tm) : Sim (pmul P Q) (pmul Q P) := (pmul_sim _ _).trans ((mulL_comm P Q).trans (pmul_sim _ _).symm)
theorem padd_comm (P Q : List Tm) : Sim (mrg P Q) (mrg Q P) := (mrg_sim _ _).trans ((append_comm P Q).trans (mrg_sim _ _).symm)
theorem pmul_add (P Q R : List Tm) : Sim (pmul P (mrg Q R)) (mrg (pmul P Q) (pmul P R)) := (mul_sim (Sim.refl _) (mrg_sim _ _)).trans ((mulL_add P Q R).trans (add_sim (pmul_sim _ _) (pmul_sim _ _)).symm)
theorem pmul_assoc (P Q R : List Tm) : Sim (pmul (pmul P Q) R) (pmul P (pmul Q R)) := (mul_sim (pmul_sim _ _) (Sim.refl _)).trans ((mulL_assoc P Q R).trans (mul_sim (Sim.refl _) (pmul_sim _ _)).symm)
theorem pmul_one (P : List Tm) : Sim (pmul P (constL (1 : Int))) P := (mul_sim (Sim.refl _) (Sim.refl _)).trans fun f hf => by
 rw [constL_one, dot_mulL]
 simp only [dot]
 congr 1
 funext a
 rw [add8_zero]
 grind
theorem padd_sub (P Q : List Tm) : Sim (mrg (psub P Q) Q) P := fun f hf => by
 rw [mrg_sim _ _ f hf, dot_append, psub, mrg_sim _ _ f hf, dot_append, neg_dot]
 grind
theorem psub_self {P : List Tm} (h : Canon (psub P P)) : psub P P = [] := sim_nil h fun f hf => by
 rw [psub, mrg_sim _ _ f hf, dot_append, neg_dot]
 show _ = (0 : Rat)
 grind
end Go.Proofs.YteicdddphdomkaaGreat
namespace Go.Proofs.YteicdddphdomkaaGreat
open Go.RowKit
set_option maxRecDepth 100000
theorem got_abs (P : List Tm) : Abs Tryz.prog 17 [polD P, ex (.int .i64 0)] (polD P) := by
 refine Abs.intro Tryz.func17 rfl (callFunc_run Tryz.func17 (by kernel_rfl) (by kernel_rfl)) rfl fun s0 => ?_
 rw [Tryz.ntmps17]
 repeat (first | apply AWp.seq | apply AWp.region | (refine AWs.q rfl rfl ?_; first | (apply Gt.move; refine ⟨_, Qs.move (ao rfl), ?_⟩) | (apply Gt.assign; refine ⟨_, Qs.assign (ao rfl), ?_⟩) | (apply Gt.bin; refine ⟨_, Qs.cmpF rfl (ao rfl) (ao rfl) (by first | (simp only [cmpP, List.length_cons, List.length_nil]; omega) | (simp [cmpP]; done) | (simp [cmpP]; omega)), ?_⟩)) | apply AWl.nil | apply AThen.normal | apply AWp.skip | apply AWp.ret | (apply Gc.cond; refine AWp.condF (ao rfl) ?_))
 exact Fin.ret (Rets.of1 (ResV.tmp rfl rfl) (D.le.refl _))
theorem poly_abs (T : Nat) (X : List (Nat → Int)) (hX : Raw8 X) : Abs Tryz.prog 16 [agD [r5D T X]] (polD (madeP X 4 5 6)) := by
 refine Abs.intro Tryz.func16 rfl (callFunc_run Tryz.func16 (by kernel_rfl) (by kernel_rfl)) rfl fun s0 => ?_
 rw [Tryz.ntmps16]
 repeat (first | apply AWp.seq | apply AWp.region | (apply Ga.box; refine AWs.bx (ao rfl) rfl rfl rfl rfl ?_) | (refine AWs.q rfl rfl ?_; first | (apply Gt.assign; refine ⟨_, Qs.assign (ao rfl), ?_⟩) | (apply Gt.load; refine ⟨_, Qs.ldD (ao rfl) rfl (tab_of rfl) rfl rfl, ?_⟩) | (apply Gt.callv; refine ⟨_, Qs.call (ao rfl) (RMade_abs T X 4 6 5 hX (by omega) (by omega) (by omega) (by omega)) (by first | ((repeat (first | exact ArgsLe.nil | refine ArgsLe.cons rfl (D.le.refl _) ?_ | refine ArgsLe.cons rfl D.le_nil ?_)); done) | fail), ?_⟩)) | apply AWl.nil | apply AThen.normal | apply AWp.ret)
 exact Fin.ret (Rets.of1 (ResV.tmp rfl rfl) (D.le.refl _))
def xT : Tm := ⟨1, unitE 0⟩
def yT : Tm := ⟨1, unitE 1⟩
def yyT : Tm := ⟨1 * 1, add8 (unitE 1) (unitE 1)⟩
theorem var_pb (i : Nat) : PB [⟨1, unitE i⟩] 1 1 1 := one_pb unitE_in
theorem one_pol : PB (constL (1 : Int)) 1 1 1 := constL_pb (rsz_sm (by omega) (by omega)) (by omega)
theorem pmul_yy : pmul [yT] [yT] = [yyT] := by
 show mrg [] [yyT] = [yyT]
 rw [nil_mrg]
theorem sum_xyy : mrg [xT] [yyT] = [xT, yyT] := by
 rw [mrg_gt (show lx xT.m yyT.m = 1 by decide), nil_mrg]
theorem yy_pb : PB [yyT] 1 3 2 := by
 rw [← pmul_yy]
 exact (var_pb 1).mul (var_pb 1) (by omega) (by omega)
theorem ones_in (i : Nat) (hi : i < 8) : -1000 ≤ onesOf 255 i ∧ onesOf 255 i ≤ 1000 := by
 unfold onesOf
 omega
theorem lead_xyy : leadF [onesOf 255] xT [yyT] = yyT := by
 show upT [onesOf 255] xT yyT = yyT
 rw [upT, if_pos (by decide)]
theorem square_sim : Sim (pmul (mrg [xT] (constL (1 : Int))) (psub [xT] (constL (1 : Int)))) (psub (pmul [xT] [xT]) (constL (1 : Int))) := by
 refine (mul_sim (add_sim (Sim.refl _) (Sim.refl _)) (sub_sim (Sim.refl _) (Sim.refl _))).trans (Sim.symm ((sub_sim (pmul_sim _ _) (Sim.refl _)).trans ?_))
 intro f hf
 rw [constL_one]
 simp only [mulL, neg, fT, xT, List.map_cons, List.map_nil, List.flatMap_cons, List.flatMap_nil, List.cons_append, List.nil_append, dot]
 rw [add8_zero, zero_add8, add8_zero]
 grind
set_option maxHeartbeats 2000000 in
theorem sanity_abs : Abs Tryz.prog 13 [] (ex (.bool true)) := by
 have hx := var_pb 0
 have hy := var_pb 1
 have h1 := one_pol
 have ha := hx.add h1
 have hs := hx.sub h1
 have hm := ha.mul hs (by omega) (by omega)
 have hxx := hx.mul hx (by omega) (by omega)
 have hd := hxx.sub h1
 have cyy := PMul_pb hy hy (by omega) (by omega) (by omega) (by omega) (by omega)
 rw [show pmul [⟨1, unitE 1⟩] [⟨1, unitE 1⟩] = [yyT] from pmul_yy] at cyy
 have csum := PAdd_pb hx yy_pb (by omega) (by omega)
 rw [show mrg [⟨1, unitE 0⟩] [yyT] = [xT, yyT] from sum_xyy] at csum
 have clead := PLead_abs xT [yyT] [onesOf 255] (fun r hr => by rw [List.mem_singleton.1 hr]; exact fun i hi => ones_in i hi) ((show PIn [xT, yyT] 0 2 from fun t ht => by
  rcases List.mem_cons.1 ht with rfl | ht
  ·exact (hx.ex _ (by simp [xT])).mono (by omega) (by omega)
  ·exact yy_pb.ex t ht).mono (by omega) (by omega)) (by simp)
 rw [lead_xyy] at clead
 have csq := RSame_sim hm.can hd.can square_sim
 have cval := PValid_pb hm (by omega) (by omega) (by omega)
 refine Abs.intro Tryz.func13 rfl (callFunc_run Tryz.func13 (by kernel_rfl) (by kernel_rfl)) rfl fun s0 => ?_
 rw [Tryz.ntmps13]
 have hyy : eqB yyT.m (fun i => ([0, 2] : List Int).getD i 0) = true := by decide
 repeat (first | refine AWs.qG rfl rfl rfl rfl rfl ?_; refine ⟨_, Qs.eqMonT (a := yyT.m) (b := fun i => ([0, 2] : List Int).getD i 0) (ao rfl) (ao rfl) hyy, ?_⟩ | apply AWp.seq | apply AWp.region | (apply Ga.alloc; refine AWs.al (tab_of rfl) rfl rfl rfl rfl rfl rfl ?_) | (apply Ga.store; refine AWs.stF (ao rfl) (ao rfl) rfl (tab_of rfl) rfl rfl rfl ?_) | (refine AWs.q rfl rfl ?_; first | (apply Gt.move; refine ⟨_, Qs.move (ao rfl), ?_⟩) | (apply Gt.assign; refine ⟨_, Qs.assign (ao rfl), ?_⟩) | (apply Gt.bin; refine ⟨_, Qs.cmpF rfl (ao rfl) (ao rfl) (by first | (simp only [cmpP, List.length_cons, List.length_nil]; omega) | (simp [cmpP]; done) | (simp [cmpP]; omega)), ?_⟩) | (apply Gt.ext; refine ⟨_, Qs.ext (ao rfl) rfl, ?_⟩) | (apply Gt.pick; first | refine ⟨_, Qs.pickT (ao rfl) (ao rfl), ?_⟩ | refine ⟨_, Qs.pickF (ao rfl) (ao rfl), ?_⟩) | (apply Gt.callv; first | refine ⟨_, Qs.call (ao rfl) (PVar_abs 0 (by omega)) (by first | ((repeat (first | exact ArgsLe.nil | refine ArgsLe.cons rfl (D.le.refl _) ?_ | refine ArgsLe.cons rfl D.le_nil ?_)); done) | fail), ?_⟩ | refine ⟨_, Qs.call (ao rfl) (PVar_abs 1 (by omega)) (by first | ((repeat (first | exact ArgsLe.nil | refine ArgsLe.cons rfl (D.le.refl _) ?_ | refine ArgsLe.cons rfl D.le_nil ?_)); done) | fail), ?_⟩ | refine ⟨_, Qs.call (ao rfl) (RWhole_abs 1 (by omega) (by omega)) (by first | ((repeat (first | exact ArgsLe.nil | refine ArgsLe.cons rfl (D.le.refl _) ?_ | refine ArgsLe.cons rfl D.le_nil ?_)); done) | fail), ?_⟩ | refine ⟨_, Qs.call (ao rfl) (PConst_abs (1 : Int)) (by first | ((repeat (first | exact ArgsLe.nil | refine ArgsLe.cons rfl (D.le.refl _) ?_ | refine ArgsLe.cons rfl D.le_nil ?_)); done) | fail), ?_⟩ | refine ⟨_, Qs.call (ao rfl) (RX_abs 0 (by omega)) (by first | ((repeat (first | exact ArgsLe.nil | refine ArgsLe.cons rfl (D.le.refl _) ?_ | refine ArgsLe.cons rfl D.le_nil ?_)); done) | fail), ?_⟩ | refine ⟨_, Qs.call (ao rfl) (RInt_abs 1 (by omega) (by omega)) (by first | ((repeat (first | exact ArgsLe.nil | refine ArgsLe.cons rfl (D.le.refl _) ?_ | refine ArgsLe.cons rfl D.le_nil ?_)); done) | fail), ?_⟩ | refine ⟨_, Qs.call (ao rfl) (PAdd_pb hx h1 (by omega) (by omega)) (by first | ((repeat (first | exact ArgsLe.nil | refine ArgsLe.cons rfl (D.le.refl _) ?_ | refine ArgsLe.cons rfl D.le_nil ?_)); done) | fail), ?_⟩ | refine ⟨_, Qs.call (ao rfl) (PSub_pb hx h1 (by omega) (by omega)) (by first | ((repeat (first | exact ArgsLe.nil | refine ArgsLe.cons rfl (D.le.refl _) ?_ | refine ArgsLe.cons rfl D.le_nil ?_)); done) | fail), ?_⟩ | refine ⟨_, Qs.call (ao rfl) (PMul_pb ha hs (by omega) (by omega) (by omega) (by omega) (by omega)) (by first | ((repeat (first | exact ArgsLe.nil | refine ArgsLe.cons rfl (D.le.refl _) ?_ | refine ArgsLe.cons rfl D.le_nil ?_)); done) | fail), ?_⟩ | refine ⟨_, Qs.call (ao rfl) (got_abs _) (by first | ((repeat (first | exact ArgsLe.nil | refine ArgsLe.cons rfl (D.le.refl _) ?_ | refine ArgsLe.cons rfl D.le_nil ?_)); done) | fail), ?_⟩ | refine ⟨_, Qs.call (ao rfl) (cyy) (by first | ((repeat (first | exact ArgsLe.nil | refine ArgsLe.cons rfl (D.le.refl _) ?_ | refine ArgsLe.cons rfl D.le_nil ?_)); done) | fail), ?_⟩ | refine ⟨_, Qs.call (ao rfl) (csum) (by first | ((repeat (first | exact ArgsLe.nil | refine ArgsLe.cons rfl (D.le.refl _) ?_ | refine ArgsLe.cons rfl D.le_nil ?_)); done) | fail), ?_⟩ | refine ⟨_, Qs.call (ao rfl) (RGraded_abs) (by first | ((repeat (first | exact ArgsLe.nil | refine ArgsLe.cons rfl (D.le.refl _) ?_ | refine ArgsLe.cons rfl D.le_nil ?_)); done) | fail), ?_⟩ | refine ⟨_, Qs.call (ao rfl) (clead) (by first | ((repeat (first | exact ArgsLe.nil | refine ArgsLe.cons rfl (D.le.refl _) ?_ | refine ArgsLe.cons rfl D.le_nil ?_)); done) | fail), ?_⟩ | refine ⟨_, Qs.call (ao rfl) (RLex_abs) (by first | ((repeat (first | exact ArgsLe.nil | refine ArgsLe.cons rfl (D.le.refl _) ?_ | refine ArgsLe.cons rfl D.le_nil ?_)); done) | fail), ?_⟩ | refine ⟨_, Qs.call (ao rfl) (PLead0_abs []) (by first | ((repeat (first | exact ArgsLe.nil | refine ArgsLe.cons rfl (D.le.refl _) ?_ | refine ArgsLe.cons rfl D.le_nil ?_)); done) | fail), ?_⟩ | refine ⟨_, Qs.call (ao rfl) (RBy_pb hx hx (by omega) (by omega) (by omega) (by omega) (by omega) (by omega)) (by first | ((repeat (first | exact ArgsLe.nil | refine ArgsLe.cons rfl (D.le.refl _) ?_ | refine ArgsLe.cons rfl D.le_nil ?_)); done) | fail), ?_⟩ | refine ⟨_, Qs.call (ao rfl) (RSub_pb hxx h1 (by omega) (by omega) (by omega)) (by first | ((repeat (first | exact ArgsLe.nil | refine ArgsLe.cons rfl (D.le.refl _) ?_ | refine ArgsLe.cons rfl D.le_nil ?_)); done) | fail), ?_⟩ | refine ⟨_, Qs.call (ao rfl) (csq) (by first | ((repeat (first | exact ArgsLe.nil | refine ArgsLe.cons rfl (D.le.refl _) ?_ | refine ArgsLe.cons rfl D.le_nil ?_)); done) | fail), ?_⟩)) | (refine AWs.qG rfl rfl rfl rfl rfl ?_; first | (apply Gt.move; refine ⟨_, Qs.move (ao rfl), ?_⟩) | (apply Gt.load; refine ⟨_, Qs.ldD (ao rfl) rfl (tab_of rfl) rfl rfl, ?_⟩) | (apply Gt.fieldAddr; refine ⟨_, Qs.fldP (ao rfl) (tab_of rfl) rfl (tab_of rfl) rfl, ?_⟩) | (apply Gt.bin; first | refine ⟨_, Qs.cmpF rfl (ao rfl) (ao rfl) (by first | (simp only [cmpP, List.length_cons, List.length_nil]; omega) | (simp [cmpP]; done) | (simp [cmpP]; omega)), ?_⟩ | refine ⟨_, Qs.cmp (ao rfl) (ao rfl) rfl, ?_⟩) | (apply Gt.un; refine ⟨_, Qs.not (ao rfl), ?_⟩) | (apply Gt.build; (refine Bq.arr (tab_of rfl) (tab_of rfl) rfl rfl ?_; (repeat ((first | refine ⟨_, PartOk.ag (ao rfl), ?_⟩ | refine ⟨_, PartOk.one rfl (by first | exact One.ex_ rfl | exact One.sl | exact One.ep), ?_⟩); refine ⟨_, rfl, ?_⟩)); refine ⟨_, rfl, ?_⟩)) | (apply Gt.callv; first | refine ⟨_, Qs.call (ao rfl) (RX_abs 0 (by omega)) (by first | ((repeat (first | exact ArgsLe.nil | refine ArgsLe.cons rfl (D.le.refl _) ?_ | refine ArgsLe.cons rfl D.le_nil ?_)); done) | fail), ?_⟩ | refine ⟨_, Qs.call (ao rfl) (RX_abs 1 (by omega)) (by first | ((repeat (first | exact ArgsLe.nil | refine ArgsLe.cons rfl (D.le.refl _) ?_ | refine ArgsLe.cons rfl D.le_nil ?_)); done) | fail), ?_⟩ | refine ⟨_, Qs.call (ao rfl) (RSame_true (SameL.refl [⟨1, unitE 0⟩])) (by first | ((repeat (first | exact ArgsLe.nil | refine ArgsLe.cons rfl (D.le.refl _) ?_ | refine ArgsLe.cons rfl D.le_nil ?_)); done) | fail), ?_⟩ | refine ⟨_, Qs.call (ao rfl) (RSame_true (SameL.refl [⟨1, unitE 1⟩])) (by first | ((repeat (first | exact ArgsLe.nil | refine ArgsLe.cons rfl (D.le.refl _) ?_ | refine ArgsLe.cons rfl D.le_nil ?_)); done) | fail), ?_⟩ | refine ⟨_, Qs.call (ao rfl) (RSame_true (SameL.refl (constL (1 : Int)))) (by first | ((repeat (first | exact ArgsLe.nil | refine ArgsLe.cons rfl (D.le.refl _) ?_ | refine ArgsLe.cons rfl D.le_nil ?_)); done) | fail), ?_⟩ | refine ⟨_, Qs.call (ao rfl) (RInt_abs 1 (by omega) (by omega)) (by first | ((repeat (first | exact ArgsLe.nil | refine ArgsLe.cons rfl (D.le.refl _) ?_ | refine ArgsLe.cons rfl D.le_nil ?_)); done) | fail), ?_⟩ | refine ⟨_, Qs.call (ao rfl) (cval) (by first | ((repeat (first | exact ArgsLe.nil | refine ArgsLe.cons rfl (D.le.refl _) ?_ | refine ArgsLe.cons rfl D.le_nil ?_)); done) | fail), ?_⟩ | refine ⟨_, Qs.call (ao rfl) (PDeg_abs [] (fun t h => (by cases h)) (by simp)) (by first | ((repeat (first | exact ArgsLe.nil | refine ArgsLe.cons rfl (D.le.refl _) ?_ | refine ArgsLe.cons rfl D.le_nil ?_)); done) | fail), ?_⟩)) | apply AWl.nil | apply AThen.normal | apply AWp.skip | apply AWp.ret | (apply Gc.cond; refine AWp.condF (ao rfl) ?_))
 exact Fin.ret (Rets.of1 (ResV.tmp rfl rfl) (D.le.refl _))
end Go.Proofs.YteicdddphdomkaaGreat
namespace Go.Proofs.YteicdddphdomkaaGreat
open Go.RowKit
set_option maxRecDepth 100000
set_option maxHeartbeats 8000000 in
theorem ring_abs (T U V : Nat) (X Y Z : List (Nat → Int)) (hX : Raw8 X) (hY : Raw8 Y) (hZ : Raw8 Z) : Abs Tryz.prog 4 [agD [r5D T X], agD [r5D U Y], agD [r5D V Z]] (ex (.bool true)) := by
 have hp : PB (madeP X 4 5 6) 6 18 5 := madeP_pb X 4 6 (by omega)
 have hq : PB (madeP Y 4 5 6) 6 18 5 := madeP_pb Y 4 6 (by omega)
 have hr : PB (madeP Z 4 5 6) 6 18 5 := madeP_pb Z 4 6 (by omega)
 have cp := poly_abs T X hX
 have cq := poly_abs U Y hY
 have cr := poly_abs V Z hZ
 generalize madeP X 4 5 6 = p at hp cp
 generalize madeP Y 4 5 6 = q at hq cq
 generalize madeP Z 4 5 6 = r at hr cr
 have hpq : PB (pmul p q) 36 222 10 := hp.mul hq (by omega) (by omega)
 have hqp : PB (pmul q p) 36 222 10 := hq.mul hp (by omega) (by omega)
 have hqr : PB (pmul q r) 36 222 10 := hq.mul hr (by omega) (by omega)
 have hpr : PB (pmul p r) 36 222 10 := hp.mul hr (by omega) (by omega)
 have hs : PB (mrg q r) 12 37 5 := hq.add hr
 have hs' : PB (mrg r q) 12 37 5 := hr.add hq
 have hl : PB (pmul p (mrg q r)) 72 336 10 := hp.mul hs (by omega) (by omega)
 have hri : PB (mrg (pmul p q) (pmul p r)) 72 445 10 := hpq.add hpr
 have ha : PB (pmul (pmul p q) r) 216 8676 15 := hpq.mul hr (by omega) (by omega)
 have hb : PB (pmul p (pmul q r)) 216 1446 15 := hp.mul hqr (by omega) (by omega)
 have h1 : PB (constL (1 : Int)) 1 1 1 := one_pol
 have hp1 : PB (pmul p (constL (1 : Int))) 6 120 6 := hp.mul h1 (by omega) (by omega)
 have h0 : PB [] 0 0 0 := PB.nil
 have hd : PB (psub p q) 12 37 5 := hp.sub hq
 have hdq : PB (mrg (psub p q) q) 18 56 5 := hd.add hq
 have cpp := PSub_pb hp hp (by omega) (by omega)
 rw [psub_self (hp.sub hp).can] at cpp
 have cp0 := PAdd_pb hp h0 (by omega) (by omega)
 rw [mrg_nil] at cp0
 have hz : (p.length = 0 ∧ (pmul p q).length = 0) ∨ (p.length ≠ 0 ∧ q.length = 0 ∧ (pmul p q).length = 0) ∨ (p.length ≠ 0 ∧ q.length ≠ 0 ∧ (pmul p q).length ≠ 0) := by
  by_cases e : p = []
  ·left; rw [e]; exact ⟨rfl, rfl⟩
  ·have e1 : p.length ≠ 0 := fun h => e (List.eq_nil_of_length_eq_zero h)
   by_cases e' : q = []
   ·right; left
    rw [e', pmul_nil_right (by rw [← e']; exact hpq.can)]
    exact ⟨e1, rfl, rfl⟩
   ·right; right
    exact ⟨e1, fun h => e' (List.eq_nil_of_length_eq_zero h), fun h => pmul_ne hp.can hq.can e e' (List.eq_nil_of_length_eq_zero h)⟩
 rcases hz with ⟨z1, z2⟩ | ⟨z1, z2, z3⟩ | ⟨z1, z2, z3⟩
 all_goals
  refine Abs.intro Tryz.func4 rfl (callFunc_run Tryz.func4 (by kernel_rfl) (by kernel_rfl)) rfl fun s0 => ?_
  rw [Tryz.ntmps4]
  repeat (first | apply AWp.seq | apply AWp.region | (apply Ga.box; refine AWs.bx (ao rfl) rfl rfl rfl rfl ?_) | (refine AWs.q rfl rfl ?_; first | (apply Gt.move; refine ⟨_, Qs.move (ao rfl), ?_⟩) | (apply Gt.assign; refine ⟨_, Qs.assign (ao rfl), ?_⟩) | (apply Gt.un; refine ⟨_, Qs.not (ao rfl), ?_⟩) | (apply Gt.callv; refine ⟨_, Qs.call (ao rfl) (sanity_abs) (by first | ((repeat (first | exact ArgsLe.nil | refine ArgsLe.cons rfl (D.le.refl _) ?_ | refine ArgsLe.cons rfl D.le_nil ?_)); done) | fail), ?_⟩)) | apply AWl.nil | apply AThen.normal | apply AWp.skip | (apply Gc.cond; refine AWp.condF (ao rfl) ?_))
  refine AWp.dr' (DrawOk.self (by kernel_rfl)) [[], [(20, 0)], [], [(22, 2)], [], [(24, 4)]] [[], [0], [], [0, 1, 2], [], [0, 1, 2, 3, 4]] rfl (by kernel_rfl) (by kernel_rfl) (by kernel_rfl) ?_
  repeat (first | refine ⟨_, rfl, ?_⟩ | (apply Gh.load; (refine ⟨_, HStep.q rfl (Qs.ldD (ah rfl) rfl (tab_of rfl) rfl rfl), ?_⟩; refine ⟨_, rfl, ?_⟩)) | (apply Gh.callv; first | (refine ⟨_, HStep.q rfl (Qs.call (ah rfl) (cp) (by first | ((repeat (first | exact ArgsLe.nil | refine ArgsLe.cons rfl (D.le.refl _) ?_ | refine ArgsLe.cons rfl D.le_nil ?_)); done) | fail)), ?_⟩; refine ⟨_, rfl, ?_⟩) | (refine ⟨_, HStep.q rfl (Qs.call (ah rfl) (cq) (by first | ((repeat (first | exact ArgsLe.nil | refine ArgsLe.cons rfl (D.le.refl _) ?_ | refine ArgsLe.cons rfl D.le_nil ?_)); done) | fail)), ?_⟩; refine ⟨_, rfl, ?_⟩) | (refine ⟨_, HStep.q rfl (Qs.call (ah rfl) (cr) (by first | ((repeat (first | exact ArgsLe.nil | refine ArgsLe.cons rfl (D.le.refl _) ?_ | refine ArgsLe.cons rfl D.le_nil ?_)); done) | fail)), ?_⟩; refine ⟨_, rfl, ?_⟩)))
  repeat (first | apply AWp.seq | apply AWp.region | (refine AWs.q rfl rfl ?_; first | (apply Gt.move; refine ⟨_, Qs.move (ao rfl), ?_⟩) | (apply Gt.assign; refine ⟨_, Qs.assign (ao rfl), ?_⟩) | (apply Gt.un; refine ⟨_, Qs.not (ao rfl), ?_⟩) | (apply Gt.ext; refine ⟨_, Qs.ext (ao rfl) rfl, ?_⟩) | (apply Gt.pick; first | refine ⟨_, Qs.pickT (ao rfl) (ao rfl), ?_⟩ | refine ⟨_, Qs.pickF (ao rfl) (ao rfl), ?_⟩) | (apply Gt.callv; first | refine ⟨_, Qs.call (ao rfl) (PMul_pb hp hq (by omega) (by omega) (by omega) (by omega) (by omega)) (by first | ((repeat (first | exact ArgsLe.nil | refine ArgsLe.cons rfl (D.le.refl _) ?_ | refine ArgsLe.cons rfl D.le_nil ?_)); done) | fail), ?_⟩ | refine ⟨_, Qs.call (ao rfl) (PMul_pb hq hr (by omega) (by omega) (by omega) (by omega) (by omega)) (by first | ((repeat (first | exact ArgsLe.nil | refine ArgsLe.cons rfl (D.le.refl _) ?_ | refine ArgsLe.cons rfl D.le_nil ?_)); done) | fail), ?_⟩ | refine ⟨_, Qs.call (ao rfl) (PMul_pb hp hs (by omega) (by omega) (by omega) (by omega) (by omega)) (by first | ((repeat (first | exact ArgsLe.nil | refine ArgsLe.cons rfl (D.le.refl _) ?_ | refine ArgsLe.cons rfl D.le_nil ?_)); done) | fail), ?_⟩ | refine ⟨_, Qs.call (ao rfl) (PMul_pb hp hr (by omega) (by omega) (by omega) (by omega) (by omega)) (by first | ((repeat (first | exact ArgsLe.nil | refine ArgsLe.cons rfl (D.le.refl _) ?_ | refine ArgsLe.cons rfl D.le_nil ?_)); done) | fail), ?_⟩ | refine ⟨_, Qs.call (ao rfl) (got_abs _) (by first | ((repeat (first | exact ArgsLe.nil | refine ArgsLe.cons rfl (D.le.refl _) ?_ | refine ArgsLe.cons rfl D.le_nil ?_)); done) | fail), ?_⟩ | refine ⟨_, Qs.call (ao rfl) (RPValid_pb hpq (by omega) (by omega) (by omega)) (by first | ((repeat (first | exact ArgsLe.nil | refine ArgsLe.cons rfl (D.le.refl _) ?_ | refine ArgsLe.cons rfl D.le_nil ?_)); done) | fail), ?_⟩ | refine ⟨_, Qs.call (ao rfl) (RPValid_pb hs (by omega) (by omega) (by omega)) (by first | ((repeat (first | exact ArgsLe.nil | refine ArgsLe.cons rfl (D.le.refl _) ?_ | refine ArgsLe.cons rfl D.le_nil ?_)); done) | fail), ?_⟩ | refine ⟨_, Qs.call (ao rfl) (PAdd_pb hq hr (by omega) (by omega)) (by first | ((repeat (first | exact ArgsLe.nil | refine ArgsLe.cons rfl (D.le.refl _) ?_ | refine ArgsLe.cons rfl D.le_nil ?_)); done) | fail), ?_⟩ | refine ⟨_, Qs.call (ao rfl) (PAdd_pb hpq hpr (by omega) (by omega)) (by first | ((repeat (first | exact ArgsLe.nil | refine ArgsLe.cons rfl (D.le.refl _) ?_ | refine ArgsLe.cons rfl D.le_nil ?_)); done) | fail), ?_⟩ | refine ⟨_, Qs.call (ao rfl) (RSame_sim hl.can hri.can (pmul_add p q r)) (by first | ((repeat (first | exact ArgsLe.nil | refine ArgsLe.cons rfl (D.le.refl _) ?_ | refine ArgsLe.cons rfl D.le_nil ?_)); done) | fail), ?_⟩)) | refine AWs.sG rfl rfl rfl rfl rfl ?_ | (refine AWs.qG rfl rfl rfl rfl rfl ?_; first | (apply Gt.move; refine ⟨_, Qs.move (ao rfl), ?_⟩) | (apply Gt.len; refine ⟨_, Qs.lenN rfl (tab_of rfl), ?_⟩) | (apply Gt.bin; first | refine ⟨_, Qs.cmpT rfl (ao rfl) (ao rfl) (by first | (simp only [cmpP, List.length_cons, List.length_nil]; omega) | (simp [cmpP]; done) | (simp [cmpP]; omega)), ?_⟩ | refine ⟨_, Qs.cmpF rfl (ao rfl) (ao rfl) (by first | (simp only [cmpP, List.length_cons, List.length_nil]; omega) | (simp [cmpP]; done) | (simp [cmpP]; omega)), ?_⟩ | refine ⟨_, Qs.neBool (ao rfl) (ao rfl) (by kernel_rfl), ?_⟩) | (apply Gt.un; refine ⟨_, Qs.not (ao rfl), ?_⟩) | (apply Gt.ext; refine ⟨_, Qs.ext (ao rfl) rfl, ?_⟩) | (apply Gt.pick; first | refine ⟨_, Qs.pickT (ao rfl) (ao rfl), ?_⟩ | refine ⟨_, Qs.pickF (ao rfl) (ao rfl), ?_⟩) | (apply Gt.callv; first | refine ⟨_, Qs.call (ao rfl) (PMul_pb hq hp (by omega) (by omega) (by omega) (by omega) (by omega)) (by first | ((repeat (first | exact ArgsLe.nil | refine ArgsLe.cons rfl (D.le.refl _) ?_ | refine ArgsLe.cons rfl D.le_nil ?_)); done) | fail), ?_⟩ | refine ⟨_, Qs.call (ao rfl) (PMul_pb hpq hr (by omega) (by omega) (by omega) (by omega) (by omega)) (by first | ((repeat (first | exact ArgsLe.nil | refine ArgsLe.cons rfl (D.le.refl _) ?_ | refine ArgsLe.cons rfl D.le_nil ?_)); done) | fail), ?_⟩ | refine ⟨_, Qs.call (ao rfl) (PMul_pb hp hqr (by omega) (by omega) (by omega) (by omega) (by omega)) (by first | ((repeat (first | exact ArgsLe.nil | refine ArgsLe.cons rfl (D.le.refl _) ?_ | refine ArgsLe.cons rfl D.le_nil ?_)); done) | fail), ?_⟩ | refine ⟨_, Qs.call (ao rfl) (PMul_pb hp h1 (by omega) (by omega) (by omega) (by omega) (by omega)) (by first | ((repeat (first | exact ArgsLe.nil | refine ArgsLe.cons rfl (D.le.refl _) ?_ | refine ArgsLe.cons rfl D.le_nil ?_)); done) | fail), ?_⟩ | refine ⟨_, Qs.call (ao rfl) (got_abs _) (by first | ((repeat (first | exact ArgsLe.nil | refine ArgsLe.cons rfl (D.le.refl _) ?_ | refine ArgsLe.cons rfl D.le_nil ?_)); done) | fail), ?_⟩ | refine ⟨_, Qs.call (ao rfl) (RPValid_pb hqr (by omega) (by omega) (by omega)) (by first | ((repeat (first | exact ArgsLe.nil | refine ArgsLe.cons rfl (D.le.refl _) ?_ | refine ArgsLe.cons rfl D.le_nil ?_)); done) | fail), ?_⟩ | refine ⟨_, Qs.call (ao rfl) (RSame_sim hpq.can hqp.can (pmul_comm p q)) (by first | ((repeat (first | exact ArgsLe.nil | refine ArgsLe.cons rfl (D.le.refl _) ?_ | refine ArgsLe.cons rfl D.le_nil ?_)); done) | fail), ?_⟩ | refine ⟨_, Qs.call (ao rfl) (PAdd_pb hr hq (by omega) (by omega)) (by first | ((repeat (first | exact ArgsLe.nil | refine ArgsLe.cons rfl (D.le.refl _) ?_ | refine ArgsLe.cons rfl D.le_nil ?_)); done) | fail), ?_⟩ | refine ⟨_, Qs.call (ao rfl) (RSame_sim hs.can hs'.can (padd_comm q r)) (by first | ((repeat (first | exact ArgsLe.nil | refine ArgsLe.cons rfl (D.le.refl _) ?_ | refine ArgsLe.cons rfl D.le_nil ?_)); done) | fail), ?_⟩ | refine ⟨_, Qs.call (ao rfl) (cpp) (by first | ((repeat (first | exact ArgsLe.nil | refine ArgsLe.cons rfl (D.le.refl _) ?_ | refine ArgsLe.cons rfl D.le_nil ?_)); done) | fail), ?_⟩ | refine ⟨_, Qs.call (ao rfl) (RSame_sim ha.can hb.can (pmul_assoc p q r)) (by first | ((repeat (first | exact ArgsLe.nil | refine ArgsLe.cons rfl (D.le.refl _) ?_ | refine ArgsLe.cons rfl D.le_nil ?_)); done) | fail), ?_⟩ | refine ⟨_, Qs.call (ao rfl) (cp0) (by first | ((repeat (first | exact ArgsLe.nil | refine ArgsLe.cons rfl (D.le.refl _) ?_ | refine ArgsLe.cons rfl D.le_nil ?_)); done) | fail), ?_⟩ | refine ⟨_, Qs.call (ao rfl) (RSame_true (SameL.refl p)) (by first | ((repeat (first | exact ArgsLe.nil | refine ArgsLe.cons rfl (D.le.refl _) ?_ | refine ArgsLe.cons rfl D.le_nil ?_)); done) | fail), ?_⟩ | refine ⟨_, Qs.call (ao rfl) (RWhole_abs 1 (by omega) (by omega)) (by first | ((repeat (first | exact ArgsLe.nil | refine ArgsLe.cons rfl (D.le.refl _) ?_ | refine ArgsLe.cons rfl D.le_nil ?_)); done) | fail), ?_⟩ | refine ⟨_, Qs.call (ao rfl) (PConst_abs (1 : Int)) (by first | ((repeat (first | exact ArgsLe.nil | refine ArgsLe.cons rfl (D.le.refl _) ?_ | refine ArgsLe.cons rfl D.le_nil ?_)); done) | fail), ?_⟩ | refine ⟨_, Qs.call (ao rfl) (RSame_sim hp1.can hp.can (pmul_one p)) (by first | ((repeat (first | exact ArgsLe.nil | refine ArgsLe.cons rfl (D.le.refl _) ?_ | refine ArgsLe.cons rfl D.le_nil ?_)); done) | fail), ?_⟩ | refine ⟨_, Qs.call (ao rfl) (PSub_pb hp hq (by omega) (by omega)) (by first | ((repeat (first | exact ArgsLe.nil | refine ArgsLe.cons rfl (D.le.refl _) ?_ | refine ArgsLe.cons rfl D.le_nil ?_)); done) | fail), ?_⟩ | refine ⟨_, Qs.call (ao rfl) (PAdd_pb hd hq (by omega) (by omega)) (by first | ((repeat (first | exact ArgsLe.nil | refine ArgsLe.cons rfl (D.le.refl _) ?_ | refine ArgsLe.cons rfl D.le_nil ?_)); done) | fail), ?_⟩ | refine ⟨_, Qs.call (ao rfl) (RSame_sim hdq.can hp.can (padd_sub p q)) (by first | ((repeat (first | exact ArgsLe.nil | refine ArgsLe.cons rfl (D.le.refl _) ?_ | refine ArgsLe.cons rfl D.le_nil ?_)); done) | fail), ?_⟩)) | apply AWl.nil | apply AThen.normal | apply AWp.skip | apply AWp.ret | (apply Gc.cond; refine AWp.condF (ao rfl) ?_))
  exact Fin.ret (Rets.of1 (ResV.tmp rfl rfl) (D.le.refl _))
end Go.Proofs.YteicdddphdomkaaGreat
namespace Go.Proofs.YteicdddphdomkaaGreat
open Go.RowKit Go.Deep Go.ChangeShapes Go.WideShapes
def Good (w : World) (cs : List Value) (ds : List D) : Prop :=
 cs.length = ds.length ∧ ∀ s : GS, s.w = w → (∀ b k, b < w.heap.size → s.S b k) → ∀ k, k < ds.length → ∃ u, cs[k]? = some u ∧ u.oneCell' = true ∧ (dAt ds k).rel s u
theorem Good.nil (w : World) : Good w [] [] := ⟨rfl, fun _ _ _ k hk => absurd hk (Nat.not_lt_zero k)⟩
theorem Good.one {w : World} {v : Value} {d : D} (h1 : v.oneCell' = true) (h : ∀ s : GS, s.w = w → (∀ b k, b < w.heap.size → s.S b k) → d.rel s v) : Good w [v] [d] :=
 ⟨rfl, fun s hw hS k hk => by
  obtain rfl : k = 0 := by simpa using hk
  exact ⟨v, rfl, h1, h s hw hS⟩⟩
theorem Good.app {w : World} {a b : List Value} {da db : List D} (h : Good w a da) (k : Good w b db) : Good w (a ++ b) (da ++ db) :=
 ⟨by rw [List.length_append, List.length_append, h.1, k.1], fun s hw hS j hj => by
  rw [List.length_append] at hj
  by_cases hlt : j < da.length
  ·obtain ⟨u, h1, h2, h3⟩ := h.2 s hw hS j hlt
   refine ⟨u, by rw [List.getElem?_append_left (by rw [h.1]; exact hlt)]; exact h1, h2, ?_⟩
   have e : dAt (da ++ db) j = dAt da j := by simp [dAt, List.getElem?_append_left hlt]
   rwa [e]
  ·obtain ⟨u, h1, h2, h3⟩ := k.2 s hw hS (j - da.length) (by omega)
   refine ⟨u, by rw [List.getElem?_append_right (by rw [h.1]; omega), h.1]; exact h1, h2, ?_⟩
   have e : dAt (da ++ db) j = dAt db (j - da.length) := by simp [dAt, List.getElem?_append_right (show da.length ≤ j by omega)]
   rwa [e]⟩
def Opens (P : Program) (t : TypeId) (R : List D → Prop) : Prop :=
 ∀ (H : Type) (enc : TypeId × Value → H) (w : World) (base : Nat) (spare : Nat → Bool) (held : Bool) (fuel : Nat) (cs : List Value) (x : DataW H × List MemPlace),
  DataW.trod enc P w base spare held fuel t cs = some x → ∃ ds, R ds ∧ Good w cs ds
theorem Opens.mono {P : Program} {t : TypeId} {R R' : List D → Prop} (h : Opens P t R) (hr : ∀ ds, R ds → R' ds) : Opens P t R' := fun H enc w base spare held fuel cs x hx =>
 let ⟨ds, h1, h2⟩ := h H enc w base spare held fuel cs x hx
 ⟨ds, hr ds h1, h2⟩
theorem Opens.int {P : Program} {t : TypeId} {κ : IntKind} (ht : P.underlying t = some (.int κ)) : Opens P t fun ds => ∃ z, (Lit.int κ z).wf = true ∧ ds = [ex (.int κ z)] := fun H enc w base spare held fuel cs x hx => by
 obtain ⟨z, rfl, _, hw⟩ := DataW.trod_int ht hx
 exact ⟨_, ⟨z, hw, rfl⟩, Good.one rfl fun _ _ _ => rfl⟩
theorem good_chunks {w : World} {c : Nat} {R : List D → Prop} : ∀ (n : Nat) (cs : List Value), cs.length = n * c → (∀ i, i < n → ∃ ds, R ds ∧ Good w ((cs.drop (i * c)).take c) ds) → ∃ rows : List (List D), rows.length = n ∧ (∀ r ∈ rows, R r) ∧ Good w cs rows.flatten
 | 0, cs, hl, _ => ⟨[], rfl, fun r hr => (by cases hr), by
   rw [Nat.zero_mul] at hl
   rw [List.eq_nil_of_length_eq_zero hl]
   exact Good.nil w⟩
 | n + 1, cs, hl, h => by
  obtain ⟨d0, h1, h2⟩ := h 0 (by omega)
  rw [Nat.zero_mul, List.drop_zero] at h2
  obtain ⟨rows, h3, h4, h5⟩ := good_chunks (w := w) (c := c) (R := R) n (cs.drop c) (by rw [List.length_drop, hl, Nat.succ_mul]; omega) fun i hi => by
   have := h (i + 1) (by omega)
   rwa [Nat.succ_mul, Nat.add_comm, ← List.drop_drop] at this
  refine ⟨d0 :: rows, by rw [List.length_cons, h3], fun r hr => ?_, ?_⟩
  ·rcases List.mem_cons.1 hr with rfl | hr
   ·exact h1
   ·exact h4 r hr
  ·rw [List.flatten_cons, ← List.take_append_drop c cs]
   exact h2.app h5
theorem Opens.arr {P : Program} {t e : TypeId} {n c : Nat} {R : List D → Prop} (ht : P.underlying t = some (.array n e)) (hc : P.cellsOf e = c) (hn : P.cellsOf t = n * c) (he : Opens P e R) : Opens P t fun ds => ∃ rows : List (List D), rows.length = n ∧ (∀ r ∈ rows, R r) ∧ ds = rows.flatten := fun H enc w base spare held fuel cs x hx => by
 obtain ⟨xs, m, _, _, hl, hxl, hel⟩ := DataW.trod_array ht hx
 rw [hn] at hl
 obtain ⟨rows, h1, h2, h3⟩ := good_chunks (R := R) n cs hl fun i hi => by
  have h := hel i hi
  rw [hc, List.getElem?_eq_getElem (by omega)] at h
  exact he H enc w base spare held m _ _ h
 exact ⟨_, ⟨rows, h1, h2, rfl⟩, h3⟩
def FieldsO (P : Program) : Nat → List Field → List (List D → Prop) → Nat → Prop
 | off, [], [], n => off = n
 | off, f :: fs, R :: Rs, n => f.offset = off ∧ Opens P f.type R ∧ FieldsO P (off + P.cellsOf f.type) fs Rs n
 | _, _, _, _ => False
theorem FieldsO.nil {P : Program} {off n : Nat} (h : off = n) : FieldsO P off [] [] n := h
theorem FieldsO.cons {P : Program} {off n : Nat} {f : Field} {fs : List Field} {R : List D → Prop} {Rs : List (List D → Prop)} (h : f.offset = off) (hR : Opens P f.type R) (hs : FieldsO P (off + P.cellsOf f.type) fs Rs n) : FieldsO P off (f :: fs) (R :: Rs) n := ⟨h, hR, hs⟩
def AllF : List (List D → Prop) → List (List D) → Prop
 | [], [] => True
 | R :: Rs, d :: l => R d ∧ AllF Rs l
 | _, _ => False
theorem good_fields {P : Program} {w : World} {H : Type} {enc : TypeId × Value → H} {base : Nat} {spare : Nat → Bool} {held : Bool} {m n : Nat} {cs : List Value} (hl : cs.length = n) : ∀ {fs : List Field} {Rs : List (List D → Prop)} {off : Nat}, FieldsO P off fs Rs n → off ≤ n → (∀ f ∈ fs, ∃ x, DataW.trod enc P w base spare held m f.type ((cs.drop f.offset).take (P.cellsOf f.type)) = some x) → ∃ l, AllF Rs l ∧ Good w (cs.drop off) l.flatten
 | [], [], off, h, _, _ => ⟨[], trivial, by
   have h : off = n := h
   rw [List.drop_eq_nil_of_le (by omega)]
   exact Good.nil w⟩
 | [], _ :: _, _, h, _, _ => h.elim
 | _ :: _, [], _, h, _, _ => h.elim
 | f :: fs, R :: Rs, off, h, ho, hx => by
  obtain ⟨h1, h2, h3⟩ := h
  obtain ⟨x, hx0⟩ := hx f (by simp)
  obtain ⟨d, hd1, hd2⟩ := h2 H enc w base spare held m _ x hx0
  have hlen : off + P.cellsOf f.type ≤ n := by
   clear hx hx0 hd1 hd2 h2
   induction fs generalizing off Rs f with
   | nil => cases Rs with
    | nil => have h3 : _ = n := h3; omega
    | cons => exact h3.elim
   | cons g fs ih => cases Rs with
    | nil => exact h3.elim
    | cons R' Rs' =>
     obtain ⟨e1, e2, e3⟩ := h3
     by_cases hle : off + P.cellsOf f.type ≤ n
     ·exact hle
     ·exfalso
      have key : ∀ (fs : List Field) (Rs : List (List D → Prop)) (o : Nat), FieldsO P o fs Rs n → o ≤ n := by
       intro fs
       induction fs with
       | nil => intro Rs o h; cases Rs with
        | nil => exact Nat.le_of_eq h
        | cons => exact h.elim
       | cons f fs ih => intro Rs o h; cases Rs with
        | nil => exact h.elim
        | cons R Rs => have := ih Rs _ h.2.2; omega
      have := key _ _ _ e3
      omega
  obtain ⟨l, hl1, hl2⟩ := good_fields hl h3 hlen fun g hg => hx g (by simp [hg])
  refine ⟨d :: l, ⟨hd1, hl1⟩, ?_⟩
  rw [List.flatten_cons]
  rw [h1] at hd2
  have := hd2.app hl2
  rwa [← List.drop_drop, List.take_append_drop] at this
theorem Opens.struct {P : Program} {t : TypeId} {fs : Array Field} {Rs : List (List D → Prop)} (ht : P.underlying t = some (.struct fs)) (h : FieldsO P 0 fs.toList Rs (P.cellsOf t)) : Opens P t fun ds => ∃ l, AllF Rs l ∧ ds = l.flatten := fun H enc w base spare held fuel cs x hx => by
 obtain ⟨xs, m, _, _, hl, hxl, hf⟩ := DataW.trod_struct ht hx
 obtain ⟨l, h1, h2⟩ := good_fields (P := P) (w := w) (enc := enc) (base := base) (spare := spare) (held := held) (m := m) hl h (Nat.zero_le _) fun f hfm => by
  obtain ⟨i, hi⟩ := List.mem_iff_getElem?.1 hfm
  rw [Array.getElem?_toList] at hi
  have h1 := hf i f hi
  have hlt := (Array.getElem?_eq_some_iff.1 hi).1
  rw [List.getElem?_eq_getElem (by omega)] at h1
  exact ⟨_, h1⟩
 exact ⟨_, ⟨l, h1, rfl⟩, by rwa [List.drop_zero] at h2⟩
theorem Opens.slice {P : Program} {t e : TypeId} {c : Nat} {R : List D → Prop} (ht : P.underlying t = some (.slice e)) (hc : P.cellsOf e = c) (hc0 : 0 < c) (he : Opens P e R) (hR : ∀ ds, R ds → ds.length = c) : Opens P t fun ds => ∃ T rows, (∀ r ∈ rows, R r) ∧ ds = [slD T c rows] := fun H enc w base spare held fuel cs x hx => by
 rcases open_slice ht hx with ⟨rfl, _⟩ | ⟨a, len, cap, m, n, Dx, Pl, rfl, hb, hlc, hcap, hm, _, hel⟩
 ·exact ⟨_, ⟨0, [], fun r hr => (by cases hr), rfl⟩, Good.one rfl fun s _ _ => slD.nil _ _ s⟩
 ·have hlm : len ≤ m := by rw [hm]; split <;> omega
  have hcap' : cap ≤ 9223372036854775807 := by simpa [maxLen] using hcap
  obtain ⟨b, off, spot⟩ := a
  have hex : ∀ i, i < len → ∃ ds cs', R ds ∧ w.cells? base ((⟨b, off, spot⟩ : Addr).add (i * c)) c = some cs' ∧ Good w cs' ds := fun i hi => by
   obtain ⟨cs', h1, h2⟩ := hel i (by omega)
   rw [hc] at h1
   obtain ⟨ds, h3, h4⟩ := he H enc w base spare held n cs' _ h2
   exact ⟨ds, cs', h3, h1, h4⟩
  obtain ⟨f, hf⟩ := choose_lt hex
  obtain ⟨g, hg⟩ := choose_lt (p := fun i cs' => R (f i) ∧ w.cells? base ((⟨b, off, spot⟩ : Addr).add (i * c)) c = some cs' ∧ Good w cs' (f i)) hf
  by_cases h0 : len = 0
  ·subst h0
   exact ⟨_, ⟨0, [], fun r hr => (by cases hr), rfl⟩, Good.one rfl fun s _ _ => ⟨_, cap, rfl, by simp, hcap', fun h => absurd h (by simp)⟩⟩
  ·have hspot : spot = none := by
    obtain ⟨h1, h2, h3⟩ := hg 0 (by omega)
    obtain ⟨_, hl, h4⟩ := World.cells?_some h2
    have h5 := h4 0 hc0
    rw [List.getElem?_eq_getElem (by omega), Deep.add_add, Nat.zero_mul, Nat.add_zero] at h5
    have h6 : w.cell? ⟨b, off, spot⟩ = _ := h5
    simpa using World.cell?_spot h6
   subst hspot
   have hcell : ∀ i, i < len → ∀ j, j < c → ∃ u, (g i)[j]? = some u ∧ w.cell? ⟨b, off + i * c + j, none⟩ = some u := fun i hi j hj => by
    obtain ⟨h1, h2, h3⟩ := hg i hi
    obtain ⟨_, hl, h4⟩ := World.cells?_some h2
    have h5 := h4 j (by omega)
    have hlt : j < (g i).length := by omega
    refine ⟨(g i)[j], List.getElem?_eq_getElem hlt, ?_⟩
    rw [List.getElem?_eq_getElem hlt, Deep.add_add] at h5
    rw [← h5]
    congr 1
    unfold Addr.add
    by_cases h0 : i * c + j = 0
    ·rw [if_pos h0]
     show (⟨b, off + i * c + j, none⟩ : Addr) = ⟨b, off, none⟩
     rw [Nat.add_assoc, h0, Nat.add_zero]
    ·rw [if_neg h0]
     show (⟨b, off + i * c + j, none⟩ : Addr) = ⟨b, off + (i * c + j), none⟩
     rw [Nat.add_assoc]
   obtain ⟨u0, _, hu0⟩ := hcell 0 (by omega) 0 hc0
   obtain ⟨cells, T, fz, hblk⟩ : ∃ cells T fz, w.heap[b]? = some (.cells cells T fz) := by
    unfold World.cell? at hu0
    split at hu0
    ·rename_i c0 T0 f0 hb0
     exact ⟨_, _, _, hb0⟩
    ·cases hu0
   refine ⟨[slD T c ((List.range len).map f)], ⟨T, _, fun r hr => ?_, rfl⟩, Good.one rfl fun s hw hS => ?_⟩
   ·obtain ⟨i, hi, rfl⟩ := List.mem_map.1 hr
    exact (hg i (by simpa using hi)).1
   ·refine ⟨_, cap, by simp, by simpa using hlc, hcap', fun _ => ⟨b, off, rfl, fun k hk => ?_⟩⟩
    have hk : k < len := by simpa using hk
    have e : ((List.range len).map f).getD k [] = f k := by simp [List.getD_eq_getElem?_getD, hk]
    rw [e]
    obtain ⟨h1, h2, h3⟩ := hg k hk
    refine ⟨hR _ h1, cells, fz, by rw [hw]; exact hblk, fun j hj => ⟨hS _ _ (lt_of_heap hblk), ?_⟩⟩
    obtain ⟨u, h4, h5, h6⟩ := h3.2 s hw hS j hj
    obtain ⟨u', h7, h8⟩ := hcell k hk j (by rw [← hR _ h1]; exact hj)
    rw [h4] at h7
    cases h7
    refine ⟨u, ?_, h5, h6⟩
    have h9 := cell_of_block (o := off + k * c + j) hblk
    rw [h8] at h9
    exact h9.symm
theorem Good.agg {w : World} {cs : Array Value} {ds : List D} (h : Good w cs.toList ds) {s : GS} (hw : s.w = w) (hS : ∀ b k, b < w.heap.size → s.S b k) : (agD ds).rel s (.agg cs) :=
 ⟨cs, rfl, by simpa using h.1, fun k hk => by
  obtain ⟨u, h1, h2, h3⟩ := h.2 s hw hS k hk
  exact ⟨u, by simpa using h1, h2, h3⟩⟩
def GS.all (w : World) : GS := ⟨fun b _ => b < w.heap.size, fun _ => 0, w⟩
theorem GS.all_ok (w : World) : (GS.all w).Ok := ⟨fun _ _ h => h, fun _ _ ⟨_, _, h⟩ => lt_of_heap h⟩
end Go.Proofs.YteicdddphdomkaaGreat
namespace Go.Proofs.YteicdddphdomkaaGreat
open Go.ChangeShapes Go.WideShapes Go.ChangeAt Go.RowKit Go.Deep
theorem own : ownKnob Tryz.prog.godebug = none := by kernel_rfl
theorem laidOut : laidOutB Tryz.prog = true := by kernel_rfl
end Go.Proofs.YteicdddphdomkaaGreat
namespace Go.Proofs.YteicdddphdomkaaGreat
open Go.RowKit Go.Deep Go.ChangeShapes Go.WideShapes
theorem ones_flat {κ : IntKind} : ∀ {rows : List (List D)}, (∀ r ∈ rows, ∃ z, (Lit.int κ z).wf = true ∧ r = [ex (.int κ z)]) → ∃ zs : List Int, zs.length = rows.length ∧ (∀ z ∈ zs, (Lit.int κ z).wf = true) ∧ rows.flatten = zs.map fun z => ex (.int κ z)
 | [], _ => ⟨[], rfl, fun z hz => (by cases hz), rfl⟩
 | r :: rows, h => by
  obtain ⟨z, h1, h2⟩ := h r (by simp)
  obtain ⟨zs, h3, h4, h5⟩ := ones_flat (rows := rows) fun r hr => h r (by simp [hr])
  refine ⟨z :: zs, by simp [h3], fun u hu => ?_, by simp [h2, h5]⟩
  rcases List.mem_cons.1 hu with rfl | hu
  ·exact h1
  ·exact h4 u hu
theorem opens_five : Opens Tryz.prog 114 fun ds => ∃ r : Nat → Int, (∀ j, j < 5 → -128 ≤ r j ∧ r j ≤ 127) ∧ ds = r5C r :=
 (Opens.arr (c := 1) Tryz.underlying114 (by kernel_rfl) (by kernel_rfl) (Opens.int Tryz.underlying48)).mono fun ds ⟨rows, h1, h2, h3⟩ => by
  obtain ⟨zs, h4, h5, h6⟩ := ones_flat h2
  rw [h1] at h4
  match zs, h4 with
  | [a, b, c, d, e], _ =>
   refine ⟨fun j => [a, b, c, d, e].getD j 0, fun j hj => ?_, h3.trans h6⟩
   have : [a, b, c, d, e].getD j 0 ∈ [a, b, c, d, e] := by
    rw [List.getD_eq_getElem?_getD, List.getElem?_eq_getElem (by simpa using hj)]
    exact List.getElem_mem _
   exact bounds_i8 (h5 _ this)
theorem rows_of {α : Type} [Inhabited α] {p : α → Prop} {f : α → List D} : ∀ {rows : List (List D)}, (∀ r ∈ rows, ∃ x, p x ∧ r = f x) → ∃ X : List α, (∀ x ∈ X, p x) ∧ rows = X.map f
 | [], _ => ⟨[], fun x hx => (by cases hx), rfl⟩
 | r :: rows, h => by
  obtain ⟨x, h1, h2⟩ := h r (by simp)
  obtain ⟨X, h3, h4⟩ := rows_of (rows := rows) fun r hr => h r (by simp [hr])
  refine ⟨x :: X, fun u hu => ?_, by simp [h2, h4]⟩
  rcases List.mem_cons.1 hu with rfl | hu
  ·exact h1
  ·exact h3 u hu
theorem opens_raw : Opens Tryz.prog 37 fun ds => ∃ T X, Raw8 X ∧ ds = [r5D T X] :=
 (Opens.struct (Rs := [fun ds => ∃ T X, Raw8 X ∧ ds = [r5D T X]]) Tryz.underlying37 (FieldsO.cons rfl ((Opens.slice (c := 5) Tryz.underlying35 (by kernel_rfl) (by omega) opens_five fun ds ⟨r, _, h⟩ => by rw [h]; rfl).mono fun ds ⟨T, rows, h1, h2⟩ => by
  obtain ⟨X, h3, h4⟩ := rows_of h1
  exact ⟨T, X, h3, by rw [h2, h4]; rfl⟩) (FieldsO.nil (by kernel_rfl)))).mono fun ds ⟨l, h1, h2⟩ => by
  match l, h1 with
  | [d], ⟨⟨T, X, hX, hd⟩, _⟩ => exact ⟨T, X, hX, by rw [h2, hd]; rfl⟩
end Go.Proofs.YteicdddphdomkaaGreat
namespace Go.Proofs.YteicdddphdomkaaGreat
open Go.ChangeShapes Go.WideShapes Go.ChangeAt Go.RowKit Go.Deep Go.Joins
set_option maxRecDepth 100000 in
theorem polynomialRing_lifted (os : Os) (started : os.Started) (H : Type) (enc : TypeId × Value → H) :
  ReturnsInHanded {} Tryz.checked os 4 .any (Rows.polynomialRingSpec.pre6 enc Tryz.prog Tryz.f4 Rows.polynomialRingRow.domain false) (Rows.polynomialRingSpec.post enc Tryz.prog Tryz.f4 false true false false) := by
 refine returnsInHanded_of_change (C := Tryz.checked) own started (by kernel_rfl) Tryz.func4
  (ChangeSpec.witness6 (enc := enc) (C := Tryz.checked) false ⟨#[], #[.agg #[.slice none 0 0], .agg #[.slice none 0 0], .agg #[.slice none 0 0]], []⟩ 8 (by kernel_rfl) (by kernel_rfl) (by kernel_rfl) (by kernel_rfl)) ?_
 intro W base args ds gs before hval0 hW hcnd _
 have hval : ∀ (j : Nat) t v, Tryz.f4.params[j]? = some t → args[j]? = some v → Value.okWide Tryz.prog W .any base t v := hval0
 have hW' := hW
 obtain ⟨p, q, hA0, hV, rfl, hfz, hnd⟩ := hW
 have hA : DataW.TrodAll enc Tryz.prog W 0 (fun _ => true) true Tryz.f4.params.toList args.toList ds p := hA0
 rw [Tryz.params4] at hA hval
 obtain ⟨v0, vs0, d0, ds0, p0, q0, hargs, rfl, rfl, h0, r0⟩ := trodAll_cons hA
 obtain ⟨v1, vs1, d1, ds1, p1, q1, rfl, rfl, rfl, h1, r1⟩ := trodAll_cons r0
 obtain ⟨v2, vs2, d2, ds2, p2, q2, rfl, rfl, rfl, h2, r2⟩ := trodAll_cons r1
 obtain ⟨rfl, rfl, rfl⟩ := trodAll_nil r2
 obtain rfl : args = #[v0, v1, v2] := by cases args; simp_all
 obtain ⟨rfl, rfl⟩ := trodVars_none hV
 have k0 := h0
 have lt0 : ∀ x ∈ p0, x.block < W.heap.size := by obtain ⟨m, hm⟩ := k0; exact DataW.trod_lt m _ _ _ hm
 have k1 := h1
 have lt1 : ∀ x ∈ p1, x.block < W.heap.size := by obtain ⟨m, hm⟩ := k1; exact DataW.trod_lt m _ _ _ hm
 have k2 := h2
 have lt2 : ∀ x ∈ p2, x.block < W.heap.size := by obtain ⟨m, hm⟩ := k2; exact DataW.trod_lt m _ _ _ hm
 obtain ⟨T0, X0, hX0, e0⟩ : ∃ T X, Raw8 X ∧ (agD [r5D T X]).rel (GS.all W) v0 := by
  obtain ⟨cs, rfl, _⟩ := okWide_struct Tryz.underlying37 (hval 0 37 v0 rfl rfl)
  obtain ⟨fuel, hf⟩ := h0
  obtain ⟨ds, ⟨T, X, hX, rfl⟩, hg⟩ := opens_raw _ _ _ _ _ _ _ _ _ hf
  exact ⟨T, X, hX, hg.agg rfl fun b k h => h⟩
 obtain ⟨T1, X1, hX1, e1⟩ : ∃ T X, Raw8 X ∧ (agD [r5D T X]).rel (GS.all W) v1 := by
  obtain ⟨cs, rfl, _⟩ := okWide_struct Tryz.underlying37 (hval 1 37 v1 rfl rfl)
  obtain ⟨fuel, hf⟩ := h1
  obtain ⟨ds, ⟨T, X, hX, rfl⟩, hg⟩ := opens_raw _ _ _ _ _ _ _ _ _ hf
  exact ⟨T, X, hX, hg.agg rfl fun b k h => h⟩
 obtain ⟨T2, X2, hX2, e2⟩ : ∃ T X, Raw8 X ∧ (agD [r5D T X]).rel (GS.all W) v2 := by
  obtain ⟨cs, rfl, _⟩ := okWide_struct Tryz.underlying37 (hval 2 37 v2 rfl rfl)
  obtain ⟨fuel, hf⟩ := h2
  obtain ⟨ds, ⟨T, X, hX, rfl⟩, hg⟩ := opens_raw _ _ _ _ _ _ _ _ _ hf
  exact ⟨T, X, hX, hg.agg rfl fun b k h => h⟩
 clear hA0 hval0
 refine ((ring_abs T0 T1 T2 X0 X1 X2 hX0 hX1 hX2).2 (GS.all W) [v0, v1, v2] (GS.all_ok W) rfl (fun k hk => ?_)).mono fun e W' ⟨v, he, s', hw, hl, hv⟩ => ?_
 ·match k, hk with
  | 0, _ => exact e0
  | 1, _ => exact e1
  | 2, _ => exact e2
 obtain rfl : v = .bool true := hv
 subst he
 have bel : Below W.heap.size W W' := hw ▸ hl.ext
 exact ⟨_, rfl, _, _, _, [], _, [], hW', trodAll_mk1 (shut_bool Tryz.underlying4 _), (trodAll_cons_mk (Below.trod laidOut (by kernel_rfl) (of_decide_eq_true (by kernel_rfl)) k0 bel lt0) (trodAll_cons_mk (Below.trod laidOut (by kernel_rfl) (of_decide_eq_true (by kernel_rfl)) k1 bel lt1) (trodAll_cons_mk (Below.trod laidOut (by kernel_rfl) (of_decide_eq_true (by kernel_rfl)) k2 bel lt2) trodAll_mk0))), rfl, bel.frame _, fun h => by cases h⟩
theorem polynomialRing_over : Rows.polynomialRingRow.holds Tryz.pinned (OpenSpec.ofChange Rows.polynomialRingSpec) :=
 OpenClaim.holds_of_wide 4 Tryz.f4 rfl rfl rfl rfl rfl rfl rfl ⟨rfl, rfl, rfl, rfl, rfl⟩ rfl rfl rfl rfl rfl (by kernel_rfl) Tryz.func4 (by kernel_rfl)
  (of_decide_eq_true (by kernel_rfl)) (by unfold Func.isWrapper; first | (rw [if_pos (by decide +kernel)]; kernel_rfl) | (rw [if_neg (by decide +kernel)]; exact ⟨rfl, rfl⟩))
  (fun os started H enc _ => polynomialRing_lifted os started H enc)
theorem polynomialRing_holds : Rows.PolynomialRingSaid := polynomialRing_over
#print axioms polynomialRing_holds
end Go.Proofs.YteicdddphdomkaaGreat
