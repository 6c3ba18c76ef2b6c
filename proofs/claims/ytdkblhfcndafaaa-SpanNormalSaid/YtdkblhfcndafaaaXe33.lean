-- Printed by xprint.py (mine, in wip/tools) through the kit's print. Not trusted: Lean checks it.
import Derived.Test.YtdkblhfcndafaaaX0
namespace Go.Proofs.Ytdkblhfcndafaaa.X
open Go.RowKit Go.Proofs.YtdkblhfcndafaaaW.PrintWords Go.Proofs.YtdkblhfcndafaaaW.PrintLast Go.Proofs.YtdkblhfcndafaaaW.PrintMore
attribute [local go_sem] max2_int min2_int max_two min_two
set_option linter.unusedVariables false
set_option linter.unusedSimpArgs false

theorem eqA33 (d : Nat) (w : World) (x0 y0 : Int) (x1 y1 : Int) (x2 y2 : Int) (x3 y3 : Bool) (x4 y4 : ByteArray) (x5 y5 : Int) :
  (Op.equalIn (d + 2) 33 (.agg #[.int .i64 x0, .int .i64 x1, .int .i64 x2, .bool x3, .string x4, .int .u64 x5]) (.agg #[.int .i64 y0, .int .i64 y1, .int .i64 y2, .bool y3, .string y4, .int .u64 y5])).run Try.prog w = .ok (x0 == y0 && (x1 == y1 && (x2 == y2 && (x3 == y3 && (x4.toList == y4.toList && (x5 == y5)))))) w := by
 refine eqA_of Try.underlying33 (by kernel_rfl) ?_
 refine eqf_cons (by rfl) (by go_simp; rfl) (by go_simp; rfl) (by go_simp) ?_
 refine eqf_cons (by rfl) (by go_simp; rfl) (by go_simp; rfl) (by go_simp) ?_
 refine eqf_cons (by rfl) (by go_simp; rfl) (by go_simp; rfl) (by go_simp) ?_
 refine eqf_cons (by rfl) (by go_simp; rfl) (by go_simp; rfl) (by go_simp) ?_
 refine eqf_cons (by rfl) (by go_simp; rfl) (by go_simp; rfl) (by go_simp) ?_
 exact eqf_last (by rfl) (by go_simp; rfl) (by go_simp; rfl) (by go_simp)
end Go.Proofs.Ytdkblhfcndafaaa.X
