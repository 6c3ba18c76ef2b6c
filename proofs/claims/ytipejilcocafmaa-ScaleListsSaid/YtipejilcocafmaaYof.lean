/- scale.Of at two: its bits. -/
import Derived.Test.YtipejilcocafmaaYsort
namespace Go.Proofs.Ytipejilcocafmaa.X
open Go.RowKit Go.Proofs.YtipejilcocafmaaW.PrintWords
set_option linter.unusedVariables false
set_option linter.unusedSimpArgs false

def scale_Of.f (a0 : Int) : Option (Int × Int) := if a0 = 2 then some (4611686018427387904, 0) else none
theorem conv_two (w : World) : (convert 3 40 (.int .i64 2)).run Try.prog w = .ok (.float .f64 4611686018427387904) w := by kernel_rfl
theorem bits_two (w : World) : (callFunc 20 #[.float .f64 4611686018427387904]).run Try.prog w = .ok (.value (.int .u64 4611686018427387904)) w := by kernel_rfl
theorem scale_Of.calls (a0 : Int) (r1 r2 : Int) (w : World) (h : scale_Of.f a0 = some (r1, r2)) : Calls Try.prog 11 #[.int .i64 a0] w fun e w' => e = .returned (.tuple #[.int .u64 r1, .int .i64 r2]) ∧ Drawn0 w w' := by
  unfold scale_Of.f at h
  by_cases c : a0 = 2
  · rw [if_pos c] at h
    obtain ⟨rfl, rfl⟩ := Prod.mk.inj (Option.some.inj h)
    subst c
    clear h
    have h1 := conv_two
    have h2 := bits_two
    go_enter Try.func11, Try.ntmps11
    go_wp2
    go_ret2
    exact ⟨rfl, Drawn0.refl _⟩
  · rw [if_neg c] at h; cases h
end Go.Proofs.Ytipejilcocafmaa.X
