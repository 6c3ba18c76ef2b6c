/- Small words that printed texts name: a look ahead at a call, the two builtins max and min of whole numbers, and a cell of a block that an event leaves alone. -/
import Derived.Test.YtipejilcocafmaaWWords
import Derived.Test.YtipejilcocafmaaWLast
import Derived.Test.YtipejilcocafmaaWTab
import Derived.Test.YtipejilcocafmaaWEqStruct
import Derived.Test.YtipejilcocafmaaWRepsOne
import Derived.Test.YtipejilcocafmaaWGuard
namespace Go.Proofs.YtipejilcocafmaaW.PrintMore
open Go.RowKit Go.Proofs.YtipejilcocafmaaW.PrintWords
set_option linter.unusedVariables false
set_option linter.unusedSimpArgs false
theorem max2_int (k k' : IntKind) (x y : Int) : Builtin.max2 (.int k x) (.int k' y) = pure (.int k (if x < y then y else x)) := by simp only [Builtin.max2, gt_iff_lt]
theorem min2_int (k k' : IntKind) (x y : Int) : Builtin.min2 (.int k x) (.int k' y) = pure (.int k (if y < x then y else x)) := by simp only [Builtin.min2]
theorem max_two (ts : Array TypeId) (ty : TypeId) (a b : Value) : Builtin.max_ ts ty #[a, b] = (Builtin.max2 a b >>= fun s => pure s) := by simp only [Builtin.max_, List.foldlM_cons, List.foldlM_nil]
theorem min_two (ts : Array TypeId) (ty : TypeId) (a b : Value) : Builtin.min_ ts ty #[a, b] = (Builtin.min2 a b >>= fun s => pure s) := by simp only [Builtin.min_, List.foldlM_cons, List.foldlM_nil]
end Go.Proofs.YtipejilcocafmaaW.PrintMore
namespace Go.Proofs.YtipejilcocafmaaW.PrintWords
open Go.RowKit
theorem gate_callee {P : Program} {ops : Array Oper} {rest : List Oper} {o : Oper} {a : Act} {Q : Exit → Act → World → Prop} {W : World} {f : FuncId} {as : Array Operand} {ts : Array TypeId} (_ho : o.op = .call { callee := .value (.func f), args := as, argTypes := ts }) (h : wpList P ops Q (o :: rest) a W) : wpList P ops Q (o :: rest) a W := h
theorem gate_builtin {P : Program} {ops : Array Oper} {rest : List Oper} {o : Oper} {a : Act} {Q : Exit → Act → World → Prop} {W : World} {b : Builtin} {xs : Array Operand} {ts : Array TypeId} (_ho : o.op = .call { callee := .builtin b, args := xs, argTypes := ts }) (h : wpList P ops Q (o :: rest) a W) : wpList P ops Q (o :: rest) a W := h
def mx (a b : Int) : Int := if a < b then b else a
def mn (a b : Int) : Int := if b < a then b else a
theorem drewN_self (w : World) (n : Nat) : w.drewN n = w.drewN n := rfl
theorem cell_grown {W w1 : World} {row : Option Nat} (hg : W.grownBy w1 row) {a : Addr} {v : Value} (h : W.cell? a = some v) (hne : some a.block ≠ row) : w1.cell? a = some v := by
  have hb := hg.block a.block (World.block_lt_of_cell? W a h) hne
  simpa [World.cell?, hb] using h
end Go.Proofs.YtipejilcocafmaaW.PrintWords
