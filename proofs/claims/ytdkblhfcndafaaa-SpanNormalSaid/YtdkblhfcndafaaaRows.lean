/-
  No cell of these rows narrows 'for every input' (looked for: loops, veiled, ifaces, maps, wideKeys, modest, calm, conditions, laid).
  DERIVED. THE GIVEN ROWS OF THIS SEAT. 4 by the template 'for every input the law returns true; each argument reads behind the call as it read before'; 0 by the template 'total and deterministic' (their statements: YtdkblhfcndafaaaTotals.lean).
  GIVEN WITH THE SEED: the statements are not yours to turn. If you find one false, say at which input.
  Laid BY PROGRAM, IN A SANDBOX (cutbox-rows.mjs): the forced cells as the released guide's own fill.sh prints them over the translation a3ea1fa96da2cdde… (all of the seat's roots in one cut). By AI agents, Wed Nov 11 2026. No macro, syntax, notation, axiom, sorry.
-/
import Derived.Test.YtdkblhfcndafaaaChecked
import GoSem.Claim
import GoSem.ClaimJoined
import GoSem.ClaimMapViews
import Derived.JoinedTies
import Derived.KernelRfl
namespace Go.Proofs.Ytdkblhfcndafaaa
/- THE CELL 'sum', in the pinned program and in every row, IS THE sha256 OF THE DUMP (.gsa) THAT YtdkblhfcndafaaaProg.lean LOADS. Nothing in Lean hashes anything: it is a label: what it is worth is what the hold of that sum in a sandbox is worth. -/
noncomputable def Try.pinned : Pinned := { name := "ytdkblhfcndafaaa", sum := "a3ea1fa96da2cdde16db84bb070d474b72c1eda6f64e0dc34fa9de73f565f308", checked := Try.checked }
namespace Rows
def none {H : Type} : Left H := { results := [], args := [] }

/-- 'frisketlaw07.SpanMoves': WHATEVER THE INPUT: true; the input reads as it did. -/
def spanMovesSpec : ChangeSpec := { name := "spanMoves", fn := fun _ => fun
  | [d1, d2, d3] => { results := [.lit (.bool true)], args := [d1, d2, d3] }
  | _ => none }
def spanMovesRow : OpenClaim := { program := "ytdkblhfcndafaaa", sum := "a3ea1fa96da2cdde16db84bb070d474b72c1eda6f64e0dc34fa9de73f565f308", func := "frisket/frisketlaw07.SpanMoves", spec := "spanMoves", inPlace := ["math.Float64frombits", "math.archCeil", "math.archFloor", "math.Float64bits", "math.archTrunc"], unfollowed := true, recurses := true, apart := false }
def SpanMovesSaid : Prop := spanMovesRow.holds Try.pinned (OpenSpec.ofChange spanMovesSpec)

/-- ITS FALSE NEIGHBOUR: 'it returns false'. Refute it at one input. -/
def spanMovesWrong : ChangeSpec := { name := "spanMoves", fn := fun _ => fun
  | [d1, d2, d3] => { results := [.lit (.bool false)], args := [d1, d2, d3] }
  | _ => none }
def SpanMovesWrongFalsely : Prop := spanMovesRow.holds Try.pinned (OpenSpec.ofChange spanMovesWrong)

/-- 'frisketlaw07.SpanNormal': WHATEVER THE INPUT: true; the input reads as it did. -/
def spanNormalSpec : ChangeSpec := { name := "spanNormal", fn := fun _ => fun
  | [d1, d2, d3] => { results := [.lit (.bool true)], args := [d1, d2, d3] }
  | _ => none }
def spanNormalRow : OpenClaim := { program := "ytdkblhfcndafaaa", sum := "a3ea1fa96da2cdde16db84bb070d474b72c1eda6f64e0dc34fa9de73f565f308", func := "frisket/frisketlaw07.SpanNormal", spec := "spanNormal", inPlace := ["math.Float64frombits", "math.archCeil", "math.archFloor", "math.Float64bits", "math.archTrunc"], unfollowed := true, recurses := true, apart := false }
def SpanNormalSaid : Prop := spanNormalRow.holds Try.pinned (OpenSpec.ofChange spanNormalSpec)

/-- ITS FALSE NEIGHBOUR: 'it returns false'. Refute it at one input. -/
def spanNormalWrong : ChangeSpec := { name := "spanNormal", fn := fun _ => fun
  | [d1, d2, d3] => { results := [.lit (.bool false)], args := [d1, d2, d3] }
  | _ => none }
def SpanNormalWrongFalsely : Prop := spanNormalRow.holds Try.pinned (OpenSpec.ofChange spanNormalWrong)

/-- 'frisketlaw07.SpanBack': WHATEVER THE INPUT: true; the input reads as it did. -/
def spanBackSpec : ChangeSpec := { name := "spanBack", fn := fun _ => fun
  | [d1, d2, d3] => { results := [.lit (.bool true)], args := [d1, d2, d3] }
  | _ => none }
def spanBackRow : OpenClaim := { program := "ytdkblhfcndafaaa", sum := "a3ea1fa96da2cdde16db84bb070d474b72c1eda6f64e0dc34fa9de73f565f308", func := "frisket/frisketlaw07.SpanBack", spec := "spanBack", inPlace := ["math.Float64frombits", "math.archCeil", "math.archFloor", "math.Float64bits", "math.archTrunc"], unfollowed := true, recurses := true, apart := false }
def SpanBackSaid : Prop := spanBackRow.holds Try.pinned (OpenSpec.ofChange spanBackSpec)

/-- ITS FALSE NEIGHBOUR: 'it returns false'. Refute it at one input. -/
def spanBackWrong : ChangeSpec := { name := "spanBack", fn := fun _ => fun
  | [d1, d2, d3] => { results := [.lit (.bool false)], args := [d1, d2, d3] }
  | _ => none }
def SpanBackWrongFalsely : Prop := spanBackRow.holds Try.pinned (OpenSpec.ofChange spanBackWrong)

/-- 'frisketlaw07.SpanOthers': WHATEVER THE INPUT: true; the input reads as it did. -/
def spanOthersSpec : ChangeSpec := { name := "spanOthers", fn := fun _ => fun
  | [d1, d2, d3] => { results := [.lit (.bool true)], args := [d1, d2, d3] }
  | _ => none }
def spanOthersRow : OpenClaim := { program := "ytdkblhfcndafaaa", sum := "a3ea1fa96da2cdde16db84bb070d474b72c1eda6f64e0dc34fa9de73f565f308", func := "frisket/frisketlaw07.SpanOthers", spec := "spanOthers", inPlace := ["math.Float64frombits", "math.archCeil", "math.archFloor", "math.Float64bits", "math.archTrunc"], unfollowed := true, recurses := true, apart := false }
def SpanOthersSaid : Prop := spanOthersRow.holds Try.pinned (OpenSpec.ofChange spanOthersSpec)

/-- ITS FALSE NEIGHBOUR: 'it returns false'. Refute it at one input. -/
def spanOthersWrong : ChangeSpec := { name := "spanOthers", fn := fun _ => fun
  | [d1, d2, d3] => { results := [.lit (.bool false)], args := [d1, d2, d3] }
  | _ => none }
def SpanOthersWrongFalsely : Prop := spanOthersRow.holds Try.pinned (OpenSpec.ofChange spanOthersWrong)

/- THE SECOND FORM. 'bulk': how many values and letters a reading holds, each counted each time it is reached (what is shared counts as often as it is met; a slice's spare places count too). A statement '..UptoSaid' is the law's where the arguments, and the package variables that the reading takes, are together of bulk at most 1048576: NARROWER than '..Said'. Prove '..Said' where nothing that the law and all that it calls make is longer than what came in: it says more and counts as full. Else prove '..UptoSaid'. A law counts once. -/
mutual
def uptoBulk {H : Type} : DataW H → Nat
  | .lit (.string bytes) => bytes.length + 1
  | .lit _ => 1
  | .nil => 1
  | .ptr d => uptoBulk d + 1
  | .slice elems spare => uptoBulkAll elems + uptoBulkAll spare + 1
  | .agg parts => uptoBulkAll parts + 1
  | .iface _ d => uptoBulk d + 1
  | .map entries => uptoBulkEntries entries + 1
  | .held _ => 1
def uptoBulkAll {H : Type} : List (DataW H) → Nat
  | [] => 0
  | d :: r => uptoBulk d + uptoBulkAll r
def uptoBulkEntries {H : Type} : List (Lit × DataW H) → Nat
  | [] => 0
  | x :: r => uptoBulkEntry x + uptoBulkEntries r
def uptoBulkEntry {H : Type} : Lit × DataW H → Nat
  | (.string bytes, d) => bytes.length + uptoBulk d + 1
  | (_, d) => uptoBulk d + 1
 end
def uptoSmall : (H : Type) → List (DataW H) → Bool := fun _ ds => decide (uptoBulkAll ds ≤ 1048576)
def OpenSpec.upto (s : _root_.Go.ChangeSpec) : _root_.Go.OpenSpec := { _root_.Go.OpenSpec.ofChange s with cond := some uptoSmall }

/-- 'frisketlaw07.SpanMoves', WHERE WHAT IT READS IS OF BULK AT MOST 1048576: true; the input reads as it did. -/
def spanMovesUptoRow : OpenClaim := { program := "ytdkblhfcndafaaa", sum := "a3ea1fa96da2cdde16db84bb070d474b72c1eda6f64e0dc34fa9de73f565f308", func := "frisket/frisketlaw07.SpanMoves", spec := "spanMoves", inPlace := ["math.Float64frombits", "math.archCeil", "math.archFloor", "math.Float64bits", "math.archTrunc"], unfollowed := true, recurses := true, apart := false, narrowed := true }
def SpanMovesUptoSaid : Prop := spanMovesUptoRow.holds Try.pinned (OpenSpec.upto spanMovesSpec)

/-- 'frisketlaw07.SpanNormal', WHERE WHAT IT READS IS OF BULK AT MOST 1048576: true; the input reads as it did. -/
def spanNormalUptoRow : OpenClaim := { program := "ytdkblhfcndafaaa", sum := "a3ea1fa96da2cdde16db84bb070d474b72c1eda6f64e0dc34fa9de73f565f308", func := "frisket/frisketlaw07.SpanNormal", spec := "spanNormal", inPlace := ["math.Float64frombits", "math.archCeil", "math.archFloor", "math.Float64bits", "math.archTrunc"], unfollowed := true, recurses := true, apart := false, narrowed := true }
def SpanNormalUptoSaid : Prop := spanNormalUptoRow.holds Try.pinned (OpenSpec.upto spanNormalSpec)

/-- 'frisketlaw07.SpanBack', WHERE WHAT IT READS IS OF BULK AT MOST 1048576: true; the input reads as it did. -/
def spanBackUptoRow : OpenClaim := { program := "ytdkblhfcndafaaa", sum := "a3ea1fa96da2cdde16db84bb070d474b72c1eda6f64e0dc34fa9de73f565f308", func := "frisket/frisketlaw07.SpanBack", spec := "spanBack", inPlace := ["math.Float64frombits", "math.archCeil", "math.archFloor", "math.Float64bits", "math.archTrunc"], unfollowed := true, recurses := true, apart := false, narrowed := true }
def SpanBackUptoSaid : Prop := spanBackUptoRow.holds Try.pinned (OpenSpec.upto spanBackSpec)

/-- 'frisketlaw07.SpanOthers', WHERE WHAT IT READS IS OF BULK AT MOST 1048576: true; the input reads as it did. -/
def spanOthersUptoRow : OpenClaim := { program := "ytdkblhfcndafaaa", sum := "a3ea1fa96da2cdde16db84bb070d474b72c1eda6f64e0dc34fa9de73f565f308", func := "frisket/frisketlaw07.SpanOthers", spec := "spanOthers", inPlace := ["math.Float64frombits", "math.archCeil", "math.archFloor", "math.Float64bits", "math.archTrunc"], unfollowed := true, recurses := true, apart := false, narrowed := true }
def SpanOthersUptoSaid : Prop := spanOthersUptoRow.holds Try.pinned (OpenSpec.upto spanOthersSpec)

end Rows
end Go.Proofs.Ytdkblhfcndafaaa
