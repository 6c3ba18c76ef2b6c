-- Printed by xprint.py (mine, in wip/tools) through the kit's print. Not trusted: Lean checks it.
import Derived.Test.YtipejilcocafmaaX0
namespace Go.Proofs.Ytipejilcocafmaa.X
open Go.RowKit Go.Proofs.YtipejilcocafmaaW.PrintWords Go.Proofs.YtipejilcocafmaaW.PrintLast Go.Proofs.YtipejilcocafmaaW.PrintMore
attribute [local go_sem] max2_int min2_int max_two min_two
set_option linter.unusedVariables false
set_option linter.unusedSimpArgs false

/-! ### frisketref04_parts: function 27 -/
def frisketref04_parts.f (a0 : Int) : Option (Int × Int × Int) := some (IntKind.u64.wrap (Int.tdiv a0 9223372036854775808), wrap64 (Int.tmod (IntKind.u64.wrap (Int.tdiv a0 4503599627370496)) 2048), Int.tmod a0 4503599627370496)
set_option maxHeartbeats 8000000 in
set_option maxRecDepth 100000 in
theorem frisketref04_parts.calls (a0 : Int) (r1 : Int) (r2 : Int) (r3 : Int) (w : World) (h : frisketref04_parts.f a0 = some (r1, r2, r3)) :
  Calls Try.prog 27 #[.int .u64 a0] w fun e w' => e = .returned (.tuple #[.int .u64 r1, .int .i64 r2, .int .u64 r3]) ∧ Drawn0 w w' := by
 have H : (some (IntKind.u64.wrap (Int.tdiv a0 9223372036854775808), wrap64 (Int.tmod (IntKind.u64.wrap (Int.tdiv a0 4503599627370496)) 2048), Int.tmod a0 4503599627370496)) = some (r1, r2, r3) := h
 clear h
 simp only [Option.some.injEq, Prod.mk.injEq] at H
 obtain ⟨rfl, rfl, rfl⟩ := H
 go_enter Try.func27, Try.ntmps27
 go_wp2
 go_ret3
 exact ⟨by first | rfl | (simp; done) | (simp [*]; done), by repeat (first | exact Drawn0.refl _ | apply Drawn0.step)⟩

end Go.Proofs.Ytipejilcocafmaa.X
