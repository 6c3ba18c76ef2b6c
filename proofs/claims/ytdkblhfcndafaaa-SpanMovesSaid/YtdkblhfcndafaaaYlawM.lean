/- SpanMoves answers true at every input, and leaves its arguments as they read. Conditions: none beyond the row's own. -/
import Derived.Test.YtdkblhfcndafaaaYp5
import Derived.Test.YtdkblhfcndafaaaYrow3
namespace Go.Proofs.Ytdkblhfcndafaaa.X
open Go.RowKit Go.Proofs.YtdkblhfcndafaaaW.PrintWords
set_option linter.unusedVariables false
set_option linter.unusedSimpArgs false
theorem spanMoves.walk (A : Option Addr) (c : Nat) (l : List S33) (a1 x0 x1 x2 : Int) (W : World) (hC : Kd.C k33 W A l.length l) (hc : l.length ≤ c) (hw : ∀ i, i < l.length → wfS (rd_T33 l (i : Int))) (_ : -9223372036854775808 ≤ a1 ∧ a1 ≤ 9223372036854775807) :
    Calls Try.prog 3 #[.slice A l.length c, .int .i64 a1, .agg #[.int .i64 x0, .int .i64 x1, .int .i64 x2]] W fun e w' => e = .returned (.bool true) ∧ Below W.heap.size W w' :=
  frisketlaw07_SpanMoves.calls 1000 A c l a1 x0 x1 x2 true W hC hc (moves_all l a1 x0 x1 x2 hw)
end Go.Proofs.Ytdkblhfcndafaaa.X
namespace Go.Proofs.Ytdkblhfcndafaaa
theorem spanMoves_holds : Rows.SpanMovesSaid := X.spanMoves.over (X.spanMoves.lifted X.spanMoves.walk)
#print axioms spanMoves_holds
end Go.Proofs.Ytdkblhfcndafaaa
