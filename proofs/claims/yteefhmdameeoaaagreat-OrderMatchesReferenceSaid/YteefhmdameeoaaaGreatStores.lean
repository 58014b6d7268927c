/-
  A row stored into a variable of its own.
-/
import Derived.Test.YteefhmdameeoaaaGreatRegf
import Derived.Test.YteefhmdameeoaaaGreatLaw2
set_option linter.unusedSimpArgs false
set_option linter.unusedVariables false
namespace Go.Proofs.YteefhmdameeoaaaGreat
open Go.RowKit

theorem wpList_store_run {P : Program} {w w' : World} {ops : Array Oper} {rest : List Oper} {o : Oper} {a : Act} {Q : Exit → Act → World → Prop} (hgd : o.guard = none) (t : TypeId) (x y : Operand)
    (ho : o.op = .store t x y) (p : Addr) (hx : a.eval x = .pointer (some p)) (v : Value) (hy : a.eval y = v) (hrun : (storeVar t p v).run P w = .ok () w') (h : wpList P ops Q rest (a.put o.dst undef) w') : wpList P ops Q (o :: rest) a w := by
  refine wpList_plain hgd fun K hK => ?_
  unfold Oper.wp execOp
  simp only [ho, hx, hy, Instr.storeAt, Instr.sureAddr, Sem.run_bind, Sem.run_pure, Result.andThen_ok, hrun]
  exact hK _ _ h
theorem wpList_store_go {P : Program} {w w' : World} {ops : Array Oper} {rest : List Oper} {o : Oper} {a : Act} {Q : Exit → Act → World → Prop} {t : TypeId} {x y : Operand} {p : Addr} {v : Value}
    (ho : o.op = .store t x y) (hgd : o.guard = none) (hd : o.dst = none) (hrun : (storeVar t p v).run P w = .ok () w') (hx : a.eval x = .pointer (some p)) (hy : a.eval y = v) (h : wpList P ops Q rest a w') : wpList P ops Q (o :: rest) a w :=
  wpList_store_run hgd t x y ho p hx v hy hrun (by rw [hd]; exact h)
end Go.Proofs.YteefhmdameeoaaaGreat
