/- Plain law: SpanMoves answers yes. -/
import Derived.Test.YtdkblhfcndafaaaYp4
import Derived.Test.YtdkblhfcndafaaaXf3
namespace Go.Proofs.Ytdkblhfcndafaaa.X
open Go.RowKit Go.Proofs.YtdkblhfcndafaaaW.PrintWords Go.Proofs.YtdkblhfcndafaaaW.PrintLast Go.Proofs.YtdkblhfcndafaaaW.PrintMore
set_option linter.unusedVariables false
set_option linter.unusedSimpArgs false
set_option maxRecDepth 100000 in
theorem alive_40 : frisketlaw07_alive.f 40 = some true := by decide +kernel
theorem alive_all (k : Nat) (hk : 40 ≤ k) : frisketlaw07_alive.f k = some true := leO_some (fun k => frisketlaw07_alive.mono k) alive_40 hk
theorem moves_all (l : List S33) (n a b c : Int) (hw : ∀ i, i < l.length → wfS (rd_T33 l (i : Int))) : frisketlaw07_SpanMoves.f 1000 l n a b c = some true := by
  obtain ⟨v, hf, hv⟩ := fits_all l n hw 1000 (by omega)
  unfold frisketlaw07_SpanMoves.f
  rw [hf, Option.bind_some]
  have hno : frisketlaw07_SpanMoves.j0 1000 l true a b c = some true := by
    simp only [frisketlaw07_SpanMoves.j0]
    rw [if_pos trivial, alive_all 999 (by omega)]
    rfl
  cases v with
  | false => rw [if_neg (by simp)]; exact hno
  | true =>
    rw [if_pos rfl]
    obtain ⟨_, hn, hr⟩ := hv rfl
    by_cases c1 : a > 1048576
    · rw [if_pos c1]; exact hno
    rw [if_neg c1]
    by_cases c2 : b > 1048576
    · rw [if_pos c2]; exact hno
    rw [if_neg c2]
    by_cases c3 : c > 1048576
    · rw [decide_eq_true c3]; exact hno
    rw [decide_eq_false c3]
    have hlen := hr.1
    obtain ⟨m1, hm1, e1, e2⟩ := ins_all l n a b hr hn (by omega) (by omega) 999 (by omega)
    obtain ⟨m2, hm2, e3, e4⟩ := del_all l n a c hr hn (by omega) 999 (by omega)
    simp only [frisketlaw07_SpanMoves.j0]
    rw [if_neg (by simp), Option.bind_some, if_pos (by simp; omega), e2, Option.bind_some, e1, Option.bind_some, same_all m1 (by omega) 999 (by omega), Option.bind_some, e4, Option.bind_some, e3, Option.bind_some, same_all m2 (by omega) 999 (by omega), Option.bind_some, List.nil_append, same_all l (by omega) 999 (by omega), Option.bind_some, alive_all 999 (by omega), Option.bind_some]
    rfl
end Go.Proofs.Ytdkblhfcndafaaa.X
