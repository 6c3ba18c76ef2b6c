/- The order of binary64 words that are numbers or infinite: that of whole numbers. The sort of a word. -/
import Derived.Test.YtipejilcocafmaaYflt
namespace Go.Proofs.Ytipejilcocafmaa.X
open Ieee
set_option linter.unusedVariables false
set_option linter.unusedSimpArgs false

theorem sval_lt_inf (n : Nat) (h : rung n < 9218868437227405312) : -(fval 9218868437227405312 : Int) < sval n ∧ sval n < (fval 9218868437227405312 : Int) := by
  have h1 := fval_lt h
  unfold sval
  generalize fval 9218868437227405312 = A at *
  split <;> omega
theorem fval_inf_pos : 0 < fval 9218868437227405312 := by
  have := fval_lt (show 0 < 9218868437227405312 by omega)
  rw [fval_zero] at this
  exact this
theorem order_all (x y : Nat) (hx : rung x ≤ 9218868437227405312) (hy : rung y ≤ 9218868437227405312) : double.order x y = some (compare (sval x) (sval y)) := by
  by_cases h1 : rung x < 9218868437227405312
  · by_cases h2 : rung y < 9218868437227405312
    · exact order_double x y h1 h2
    · have e : rung y = 9218868437227405312 := by omega
      unfold Format.order
      rw [read_double x, if_pos h1, read_double y, if_neg h2, if_pos e]
      obtain ⟨a, b⟩ := sval_lt_inf x h1
      have hs : sval y = if sgn y then -(fval 9218868437227405312 : Int) else (fval 9218868437227405312 : Int) := by unfold sval; rw [e]
      rw [hs]
      generalize fval 9218868437227405312 = A at *
      generalize sval x = X at *
      cases sgn y
      · simp only [Datum.order, Bool.false_eq_true, if_false, compare, compareOfLessAndEq]
        rw [if_pos b]
      · simp only [Datum.order, if_true, compare, compareOfLessAndEq]
        rw [if_neg (by omega), if_neg (by omega)]
  · have e1 : rung x = 9218868437227405312 := by omega
    have hs1 : sval x = if sgn x then -(fval 9218868437227405312 : Int) else (fval 9218868437227405312 : Int) := by unfold sval; rw [e1]
    have hp := fval_inf_pos
    unfold Format.order
    rw [read_double x, if_neg h1, if_pos e1]
    by_cases h2 : rung y < 9218868437227405312
    · rw [read_double y, if_pos h2]
      obtain ⟨a, b⟩ := sval_lt_inf y h2
      rw [hs1]
      generalize fval 9218868437227405312 = A at *
      generalize sval y = Y at *
      cases sgn x
      · simp only [Datum.order, Bool.false_eq_true, if_false, compare, compareOfLessAndEq]
        rw [if_neg (by omega), if_neg (by omega)]
      · simp only [Datum.order, if_true, compare, compareOfLessAndEq]
        rw [if_pos a]
    · have e : rung y = 9218868437227405312 := by omega
      rw [read_double y, if_neg h2, if_pos e]
      have hs : sval y = if sgn y then -(fval 9218868437227405312 : Int) else (fval 9218868437227405312 : Int) := by unfold sval; rw [e]
      rw [hs, hs1]
      generalize fval 9218868437227405312 = A at *
      cases sgn x <;> cases sgn y <;> simp only [Datum.order, Bool.false_eq_true, if_true, if_false, compare, compareOfLessAndEq, Bool.toNat_true, Bool.toNat_false]
      · simp
      · rw [if_neg (show ¬ ((A : Int) < -(A : Int)) by omega), if_neg (show ¬ ((A : Int) = -(A : Int)) by omega)]
        rfl
      · rw [if_pos (show (-(A : Int) < (A : Int)) by omega)]
        rfl
      · simp
theorem order_nan (x y : Nat) (hx : 9218868437227405312 < rung x) : double.order x y = none := by
  unfold Format.order
  rw [read_double x, if_neg (by omega), if_neg (by omega)]
  cases double.read y <;> rfl
theorem order_nan' (x y : Nat) (hy : 9218868437227405312 < rung y) : double.order x y = none := by
  unfold Format.order
  rw [read_double y, if_neg (by omega), if_neg (by omega)]
  cases double.read x <;> rfl
def sortF (n : Nat) : Int := if 9218868437227405312 < rung n then 0 else if rung n = 9218868437227405312 then (if sgn n then 1 else 6) else if rung n = 0 then (if sgn n then 3 else 4) else (if sgn n then 2 else 5)
theorem cmp_lt {a b : Int} (h : a < b) : compare a b = .lt := by simp only [compare, compareOfLessAndEq]; rw [if_pos h]
theorem cmp_gt {a b : Int} (h : b < a) : compare a b = .gt := by simp only [compare, compareOfLessAndEq]; rw [if_neg (by omega), if_neg (by omega)]
theorem cmp_eq (a : Int) : compare a a = .eq := by simp [compare, compareOfLessAndEq]
theorem rung_most : rung 9218868437227405311 = 9218868437227405311 := by decide
theorem sgn_most : sgn 9218868437227405311 = false := by decide
/-- Beside the greatest number. -/
theorem order_most' (n : Nat) (hn : rung n ≤ 9218868437227405312) : double.order n 9218868437227405311 = some (if sgn n = false ∧ rung n = 9218868437227405312 then .gt else if sgn n = false ∧ rung n = 9218868437227405311 then .eq else .lt) := by
  rw [order_all n _ hn (by rw [rung_most]; omega)]
  have e : sval 9218868437227405311 = (fval 9218868437227405311 : Int) := by unfold sval; rw [sgn_most, rung_most]; rfl
  rw [e]
  have h1 := @fval_lt_iff (rung n) 9218868437227405311
  have h2 := @fval_lt_iff 9218868437227405311 (rung n)
  have h3 := @fval_lt_iff 0 9218868437227405311
  rw [fval_zero] at h3
  unfold sval
  generalize hA : fval 9218868437227405311 = A at *
  generalize hB : fval (rung n) = B at *
  cases hs : sgn n
  · simp only [Bool.false_eq_true, if_false, true_and]
    by_cases c1 : rung n = 9218868437227405312
    · rw [if_pos c1, cmp_gt (by omega)]
    · rw [if_neg c1]
      by_cases c2 : rung n = 9218868437227405311
      · rw [if_pos c2]
        have : A = B := by omega
        rw [this, cmp_eq]
      · rw [if_neg c2, cmp_lt (by omega)]
  · simp only [if_true, Bool.true_eq_false, false_and, if_false]
    rw [cmp_lt (by omega)]
end Go.Proofs.Ytipejilcocafmaa.X
