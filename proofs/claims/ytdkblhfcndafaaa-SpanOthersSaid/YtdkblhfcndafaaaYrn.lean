/- frisketref01.Next in the print's form. -/
import Derived.Test.YtdkblhfcndafaaaYref1
import Derived.Test.YtdkblhfcndafaaaYp2
namespace Go.Proofs.Ytdkblhfcndafaaa.X
open Go.RowKit Go.Proofs.YtdkblhfcndafaaaW.PrintWords
set_option linter.unusedVariables false
set_option linter.unusedSimpArgs false
def frisketref01_Next.f (l : List Int) : Option (Int × Int × Int) := if l.length ≤ 1000000000 ∧ bytesOk l = true then some (refFrom l 5 1) else none
theorem frisketref01_Next.calls (A0 : Option Addr) (c0 : Nat) (l0 : List Int) (r1 : Int) (r2 : Int) (r3 : Int) (w : World) (hr0 : Kd.C (Kd.int .u8) w A0 l0.length l0) (hc0 : l0.length ≤ c0) (h : frisketref01_Next.f l0 = some (r1, r2, r3)) :
    Calls Try.prog 40 #[.slice A0 l0.length c0] w fun e w' => e = .returned (.tuple #[.int .i64 r1, .int .i64 r2, .int .i64 r3]) ∧ Below w.heap.size w w' := by
  unfold frisketref01_Next.f at h
  split at h
  · rename_i hg
    have h2 := Option.some.inj h
    have := refnext_calls A0 c0 l0 w hr0 hc0 hg.1 (fun i => bytesOk_rd hg.2 i)
    rw [h2] at this
    exact this
  · cases h
end Go.Proofs.Ytdkblhfcndafaaa.X
