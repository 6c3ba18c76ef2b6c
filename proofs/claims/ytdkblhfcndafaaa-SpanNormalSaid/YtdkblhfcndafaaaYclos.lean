/- The two closures of span.Insert and span.Delete as functions of a number, in every world in which the variables that they captured lie as they lay. -/
import Derived.Test.YtdkblhfcndafaaaX0
namespace Go.Proofs.Ytdkblhfcndafaaa.X
open Go.RowKit Go.Proofs.YtdkblhfcndafaaaW.PrintWords Go.Proofs.YtdkblhfcndafaaaW.PrintLast Go.Proofs.YtdkblhfcndafaaaW.PrintMore
set_option linter.unusedVariables false
set_option linter.unusedSimpArgs false

/-- A function value that gives f of a number, whatever was laid since w; it turns nothing. -/
def FnInt (g : Nat) (lb : Array Value) (f : Int → Int) (w : World) : Prop :=
  ∀ (W : World) (x : Int), Below w.heap.size w W → Calls Try.prog g (#[.int .i64 x] ++ lb) W fun e w' => e = .returned (.int .i64 (f x)) ∧ w' = W

def grownF (least n : Int) (x : Int) : Int := if x < least then x else wrap64 (x + n)
def backF (lo hi : Int) (x : Int) : Int := if x ≤ lo then x else if x < hi then lo else wrap64 (x - (wrap64 (hi - lo)))

theorem grown_fn (w : World) (b1 b2 : Nat) (least n : Int) (h1 : w.cell? ⟨b1, 0, none⟩ = some (.int .i64 least)) (h2 : w.cell? ⟨b2, 0, none⟩ = some (.int .i64 n)) :
    FnInt 20 #[.pointer (some ⟨b1, 0, none⟩), .pointer (some ⟨b2, 0, none⟩)] (grownF least n) w := fun W x hb => by
  have h1' : W.cell? ⟨b1, 0, none⟩ = some (.int .i64 least) := (hb.cell (World.block_lt_of_cell? w _ h1)).trans h1
  have h2' : W.cell? ⟨b2, 0, none⟩ = some (.int .i64 n) := (hb.cell (World.block_lt_of_cell? w _ h2)).trans h2
  clear h1 h2
  unfold grownF
  by_cases hx : x < least
  · go_enter Try.func20, Try.ntmps20
    go_wp2
    go_ret
    exact ⟨rfl, rfl⟩
  · go_enter Try.func20, Try.ntmps20
    go_wp2
    go_ret
    exact ⟨rfl, rfl⟩

theorem back_fn (w : World) (b1 b2 : Nat) (lo hi : Int) (h1 : w.cell? ⟨b1, 0, none⟩ = some (.int .i64 lo)) (h2 : w.cell? ⟨b2, 0, none⟩ = some (.int .i64 hi)) :
    FnInt 22 #[.pointer (some ⟨b1, 0, none⟩), .pointer (some ⟨b2, 0, none⟩)] (backF lo hi) w := fun W x hb => by
  have h1' : W.cell? ⟨b1, 0, none⟩ = some (.int .i64 lo) := (hb.cell (World.block_lt_of_cell? w _ h1)).trans h1
  have h2' : W.cell? ⟨b2, 0, none⟩ = some (.int .i64 hi) := (hb.cell (World.block_lt_of_cell? w _ h2)).trans h2
  clear h1 h2
  unfold backF
  by_cases hx : x ≤ lo
  · go_enter Try.func22, Try.ntmps22
    go_wp2
    go_ret
    exact ⟨rfl, rfl⟩
  · by_cases hy : x < hi
    · go_enter Try.func22, Try.ntmps22
      go_wp2
      go_ret
      exact ⟨rfl, rfl⟩
    · go_enter Try.func22, Try.ntmps22
      go_wp2
      go_ret
      exact ⟨rfl, rfl⟩
end Go.Proofs.Ytdkblhfcndafaaa.X
