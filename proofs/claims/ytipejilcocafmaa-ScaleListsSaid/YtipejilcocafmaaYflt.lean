/- binary64 words as whole numbers: their order, and the least whole number that is not below one of them up to 64. -/
import Derived.Test.YtipejilcocafmaaYkit
namespace Go.Proofs.Ytipejilcocafmaa.X
open Ieee
set_option linter.unusedVariables false
set_option linter.unusedSimpArgs false

def rung (n : Nat) : Nat := n % 9223372036854775808
def sgn (n : Nat) : Bool := n / 9223372036854775808 % 2 == 1
/-- A number's size, in units of the least one. -/
def fval (r : Nat) : Nat := if r < 4503599627370496 then r else (4503599627370496 + r % 4503599627370496) * 2 ^ (r / 4503599627370496 - 1)
def sval (n : Nat) : Int := if sgn n then -(fval (rung n) : Int) else (fval (rung n) : Int)

theorem fval_lt {a b : Nat} (h : a < b) : fval a < fval b := by
  unfold fval
  by_cases ha : a < 4503599627370496
  · rw [if_pos ha]
    by_cases hb : b < 4503599627370496
    · rw [if_pos hb]; exact h
    · rw [if_neg hb]
      have h1 : 1 ≤ 2 ^ (b / 4503599627370496 - 1) := Nat.one_le_two_pow
      have h2 := Nat.le_mul_of_pos_right (4503599627370496 + b % 4503599627370496) h1
      omega
  · have hb : ¬ b < 4503599627370496 := by omega
    rw [if_neg ha, if_neg hb]
    have hq : a / 4503599627370496 ≤ b / 4503599627370496 := Nat.div_le_div_right (Nat.le_of_lt h)
    have ha1 : 1 ≤ a / 4503599627370496 := by omega
    by_cases he : a / 4503599627370496 = b / 4503599627370496
    · rw [← he]
      have hm : a % 4503599627370496 < b % 4503599627370496 := by omega
      exact Nat.mul_lt_mul_of_pos_right (by omega) (Nat.two_pow_pos _)
    · have e1 : b / 4503599627370496 - 1 = (a / 4503599627370496 - 1) + 1 + (b / 4503599627370496 - a / 4503599627370496 - 1) := by omega
      have hr : a % 4503599627370496 < 4503599627370496 := Nat.mod_lt _ (by omega)
      calc (4503599627370496 + a % 4503599627370496) * 2 ^ (a / 4503599627370496 - 1)
          < (2 * 4503599627370496) * 2 ^ (a / 4503599627370496 - 1) := Nat.mul_lt_mul_of_pos_right (by omega) (Nat.two_pow_pos _)
        _ = 4503599627370496 * 2 ^ ((a / 4503599627370496 - 1) + 1) := by rw [Nat.pow_succ]; rw [Nat.mul_comm 2, Nat.mul_assoc, Nat.mul_comm 2]
        _ ≤ 4503599627370496 * 2 ^ (b / 4503599627370496 - 1) := by rw [e1]; exact Nat.mul_le_mul_left _ (Nat.pow_le_pow_right (by omega) (by omega))
        _ ≤ (4503599627370496 + b % 4503599627370496) * 2 ^ (b / 4503599627370496 - 1) := Nat.mul_le_mul_right _ (by omega)
theorem fval_le_iff {a b : Nat} : fval a ≤ fval b ↔ a ≤ b := by
  constructor
  · intro h
    rcases Nat.lt_or_ge b a with h1 | h1
    · have := fval_lt h1; omega
    · exact h1
  · intro h
    rcases Nat.lt_or_ge a b with h1 | h1
    · exact Nat.le_of_lt (fval_lt h1)
    · have : a = b := by omega
      rw [this]; exact Nat.le_refl _
theorem fval_lt_iff {a b : Nat} : fval a < fval b ↔ a < b := by
  have := @fval_le_iff b a
  omega
theorem fval_zero : fval 0 = 0 := rfl

def fmag (r : Nat) : Nat := if r < 4503599627370496 then r else 4503599627370496 + r % 4503599627370496
def fplc (r : Nat) : Int := if r < 4503599627370496 then -1074 else -1074 + (r / 4503599627370496 - 1 : Nat)
theorem read_double (n : Nat) : double.read n = if rung n < 9218868437227405312 then .number (sgn n) (fmag (rung n)) (fplc (rung n)) else if rung n = 9218868437227405312 then .infinity (sgn n) else .nan (sgn n) (rung n - 9218868437227405312) := by
  have e1 : double.signWeight = 9223372036854775808 := by decide +kernel
  have e2 : double.binade = 4503599627370496 := by decide +kernel
  have e3 : double.infRung = 9218868437227405312 := by decide +kernel
  have e4 : double.leastPlace = -1074 := by decide +kernel
  unfold Format.read
  simp only [e1, e2, e3, e4]
  unfold fmag fplc sgn rung
  by_cases h1 : n % 9223372036854775808 < 4503599627370496
  · rw [if_pos h1, if_pos (by omega), if_pos h1, if_pos h1]
  · rw [if_neg h1]
    by_cases h2 : n % 9223372036854775808 < 9218868437227405312
    · rw [if_pos h2, if_pos h2, if_neg h1, if_neg h1]
    · rw [if_neg h2, if_neg h2]
theorem fval_mag (r : Nat) : fval r = fmag r * 2 ^ (fplc r + 1074).toNat := by
  unfold fval fmag fplc
  split
  · simp
  · have : (-1074 + ((r / 4503599627370496 - 1 : Nat) : Int) + 1074).toNat = r / 4503599627370496 - 1 := by omega
    rw [this]
theorem fplc_ge (r : Nat) : -1074 ≤ fplc r := by unfold fplc; split <;> omega

theorem compare_scale (a b : Int) (c : Int) (hc : 0 < c) : compare (a * c) (b * c) = compare a b := by
  simp only [compare, compareOfLessAndEq]
  have h1 : a * c < b * c ↔ a < b := ⟨fun h => Int.lt_of_mul_lt_mul_right h (Int.le_of_lt hc), fun h => Int.mul_lt_mul_of_pos_right h hc⟩
  have h2 : a * c = b * c ↔ a = b := ⟨fun h => Int.eq_of_mul_eq_mul_right (by omega) h, fun h => by rw [h]⟩
  simp only [h1, h2]
theorem signed_scale (s : Bool) (m : Nat) (i base : Int) (hb : base ≤ i) (h0 : -1074 ≤ base) : signed s m (i - base).toNat * ((2 ^ (base + 1074).toNat : Nat) : Int) = if s then -((m * 2 ^ (i + 1074).toNat : Nat) : Int) else ((m * 2 ^ (i + 1074).toNat : Nat) : Int) := by
  have e : (i + 1074).toNat = (i - base).toNat + (base + 1074).toNat := by omega
  unfold signed
  rw [Nat.shiftLeft_eq, e, Nat.pow_add, ← Nat.mul_assoc]
  cases s
  · simp only [Bool.false_eq_true, if_false]
    rw [← Int.natCast_mul]
  · simp only [if_true]
    rw [Int.neg_mul, ← Int.natCast_mul]
theorem order_number (s t : Bool) (m n : Nat) (i j : Int) (hi : -1074 ≤ i) (hj : -1074 ≤ j) :
    Datum.order (.number s m i) (.number t n j) = some (compare (if s then -((m * 2 ^ (i + 1074).toNat : Nat) : Int) else ((m * 2 ^ (i + 1074).toNat : Nat) : Int)) (if t then -((n * 2 ^ (j + 1074).toNat : Nat) : Int) else ((n * 2 ^ (j + 1074).toNat : Nat) : Int))) := by
  simp only [Datum.order]
  rw [← signed_scale s m i (min i j) (by omega) (by omega), ← signed_scale t n j (min i j) (by omega) (by omega), compare_scale _ _ _ (Int.natCast_pos.mpr (Nat.two_pow_pos _))]
theorem order_double (x y : Nat) (hx : rung x < 9218868437227405312) (hy : rung y < 9218868437227405312) : double.order x y = some (compare (sval x) (sval y)) := by
  unfold Format.order
  rw [read_double, read_double, if_pos hx, if_pos hy, order_number _ _ _ _ _ _ (fplc_ge _) (fplc_ge _), ← fval_mag, ← fval_mag]
  rfl

/-- The least whole number that is not below a number up to 64. -/
def fceil (r : Nat) : Nat := if r < 4503599627370496 then (if r = 0 then 0 else 1) else (4503599627370496 + r % 4503599627370496 + 2 ^ (1075 - r / 4503599627370496) - 1) / 2 ^ (1075 - r / 4503599627370496)
theorem ceil_div (n g : Nat) (hg : 0 < g) : n / g + (!false && n % g != 0).toNat = (n + g - 1) / g := by
  have h := Nat.div_add_mod n g
  have hlt := Nat.mod_lt n hg
  by_cases hz : n % g = 0
  · have e1 : (!false && n % g != 0) = false := by simp [hz]
    rw [e1]
    have e2 : n + g - 1 = g * (n / g) + (g - 1) := by omega
    rw [e2, Nat.mul_add_div hg, Nat.div_eq_of_lt (show g - 1 < g by omega)]
    rfl
  · have e1 : (!false && n % g != 0) = true := by simp [hz]
    rw [e1]
    have e2 : n + g - 1 = g * (n / g + 1) + (n % g - 1) := by rw [Nat.mul_add]; omega
    rw [e2, Nat.mul_add_div hg, Nat.div_eq_of_lt (show n % g - 1 < g by omega)]
    rfl
theorem cut_up (n drop : Nat) : Toward.up.cut false n drop = (n + 2 ^ drop - 1) / 2 ^ drop := by
  unfold Toward.cut
  simp only [Nat.shiftLeft_eq, Nat.one_mul]
  rcases Nat.le_total drop (n.log2 + 2) with h | h
  · rw [Nat.min_eq_left h]
    exact ceil_div n _ (Nat.two_pow_pos _)
  · rw [Nat.min_eq_right h, ceil_div n _ (Nat.two_pow_pos _)]
    rcases Nat.eq_zero_or_pos n with h0 | h0
    · subst h0
      rw [Nat.zero_add, Nat.zero_add, Nat.div_eq_of_lt (by have := Nat.two_pow_pos (Nat.log2 0 + 2); omega), Nat.div_eq_of_lt (by have := Nat.two_pow_pos drop; omega)]
    · have h1 : n < 2 ^ (n.log2 + 2) := by
        have := (Nat.log2_lt (by omega : n ≠ 0)).1 (show n.log2 < n.log2 + 2 by omega)
        exact this
      have h2 : n < 2 ^ drop := Nat.lt_of_lt_of_le h1 (Nat.pow_le_pow_right (by omega) h)
      have e : ∀ g, n < g → (n + g - 1) / g = 1 := fun g hg => by
        have : n + g - 1 = g * 1 + (n - 1) := by omega
        rw [this, Nat.mul_add_div (by omega), Nat.div_eq_of_lt (by omega)]
      rw [e _ h1, e _ h2]
theorem fceil_le (r : Nat) (h : r ≤ 4634204016564240384) : fceil r ≤ 64 := by
  unfold fceil
  split
  · split <;> omega
  · have hq : r / 4503599627370496 ≤ 1029 := by omega
    have hd : 2 ^ 46 ≤ 2 ^ (1075 - r / 4503599627370496) := Nat.pow_le_pow_right (by omega) (by omega)
    have hm : r % 4503599627370496 < 4503599627370496 := Nat.mod_lt _ (by omega)
    generalize hg : 2 ^ (1075 - r / 4503599627370496) = g at hd ⊢
    have h46 : (2 : Nat) ^ 46 = 70368744177664 := by decide
    by_cases he : r / 4503599627370496 = 1029
    · have hr : r % 4503599627370496 = 0 := by omega
      rw [he] at hg
      have : g = 70368744177664 := by rw [← hg]
      rw [hr, this]
      decide
    · have h47 : 2 ^ 47 ≤ g := by rw [← hg]; exact Nat.pow_le_pow_right (by omega) (by omega)
      have h47' : (2 : Nat) ^ 47 = 140737488355328 := by decide
      have : (4503599627370496 + r % 4503599627370496 + g - 1) / g < 65 := by
        rw [Nat.div_lt_iff_lt_mul (by omega)]
        omega
      omega
theorem small_whole : ∀ k : Fin 65, (double.read (double.write (.number false k.val 0))).toInt .zero = some (k.val : Int) := by decide +kernel
theorem nought_whole : (double.read (double.write (.number true 0 0))).toInt .zero = some 0 := by decide +kernel
theorem ceil_whole (n : Nat) (hr : rung n ≤ 4634204016564240384) (hs : sgn n = false ∨ rung n = 0) :
    (double.read (double.write ((double.read n).integral .up))).toInt .zero = some (fceil (rung n) : Int) := by
  have hlt : rung n < 9218868437227405312 := by omega
  rw [read_double n, if_pos hlt]
  unfold Datum.integral
  simp only []
  have hp : fplc (rung n) ≤ -46 := by unfold fplc; split <;> omega
  have e0 : (fplc (rung n)).toNat = 0 := by omega
  rw [e0, Nat.shiftLeft_zero]
  rcases Bool.eq_false_or_eq_true (sgn n) with hsg | hsg
  · have h0 : rung n = 0 := by
      rcases hs with h | h
      · rw [hsg] at h; cases h
      · exact h
    rw [hsg, h0]
    have e1 : Toward.up.cut true (fmag 0) (-fplc 0).toNat = 0 := by decide +kernel
    rw [e1, nought_whole]
    rfl
  · rw [hsg, cut_up]
    have e1 : (fmag (rung n) + 2 ^ (-fplc (rung n)).toNat - 1) / 2 ^ (-fplc (rung n)).toNat = fceil (rung n) := by
      unfold fmag fplc fceil
      split
      · rename_i h
        split
        · rename_i h0
          rw [h0]
          exact Nat.div_eq_of_lt (by have := Nat.two_pow_pos (-(-1074 : Int)).toNat; omega)
        · have h52 : 2 ^ 52 ≤ 2 ^ (-(-1074 : Int)).toNat := Nat.pow_le_pow_right (by omega) (by omega)
          have h52' : (2 : Nat) ^ 52 = 4503599627370496 := by decide
          generalize 2 ^ (-(-1074 : Int)).toNat = g at h52 ⊢
          have : rung n + g - 1 = g * 1 + (rung n - 1) := by omega
          rw [this, Nat.mul_add_div (by omega), Nat.div_eq_of_lt (by omega)]
      · rename_i h
        have : (-(-1074 + ((rung n / 4503599627370496 - 1 : Nat) : Int))).toNat = 1075 - rung n / 4503599627370496 := by omega
        rw [this]
    rw [e1]
    exact small_whole ⟨fceil (rung n), by have := fceil_le _ hr; omega⟩
theorem order_nought (n : Nat) : double.order n 0 = if rung n ≤ 9218868437227405312 then (if rung n = 0 then some .eq else if sgn n then some .lt else some .gt) else none := by
  by_cases h1 : rung n < 9218868437227405312
  · rw [order_double n 0 h1 (by decide), if_pos (by omega)]
    have e0 : sval 0 = 0 := by decide
    rw [e0]
    unfold sval
    by_cases h0 : rung n = 0
    · rw [if_pos h0, h0, fval_zero]
      cases sgn n <;> rfl
    · rw [if_neg h0]
      have hp : 0 < fval (rung n) := by
        have := fval_lt (show 0 < rung n by omega)
        omega
      cases sgn n
      · simp only [Bool.false_eq_true, if_false, compare, compareOfLessAndEq]
        rw [if_neg (by omega), if_neg (by omega)]
      · simp only [if_true, compare, compareOfLessAndEq]
        rw [if_pos (by omega)]
  · unfold Format.order
    rw [read_double n, if_neg h1]
    by_cases h2 : rung n = 9218868437227405312
    · rw [if_pos h2, if_pos (by omega), if_neg (by omega)]
      have : double.read 0 = .number false 0 (-1074) := by decide +kernel
      rw [this]
      cases sgn n <;> rfl
    · rw [if_neg h2, if_neg (by omega)]
      rfl
theorem order_most (n : Nat) (hs : sgn n = false) : double.order n 4634204016564240384 = if rung n ≤ 9218868437227405312 then some (compare (rung n : Int) 4634204016564240384) else none := by
  by_cases h1 : rung n < 9218868437227405312
  · rw [order_double n _ h1 (by decide), if_pos (by omega)]
    unfold sval
    have e1 : sgn 4634204016564240384 = false := by decide
    have e2 : rung 4634204016564240384 = 4634204016564240384 := by decide
    rw [hs, e1, e2]
    simp only [Bool.false_eq_true, if_false, compare, compareOfLessAndEq]
    have h := @fval_lt_iff (rung n) 4634204016564240384
    have h' := @fval_lt_iff 4634204016564240384 (rung n)
    generalize fval 4634204016564240384 = A at h h'
    generalize fval (rung n) = B at h h'
    rcases Nat.lt_trichotomy (rung n) 4634204016564240384 with a | a | a
    · rw [if_pos (by omega), if_pos (by omega)]
    · rw [if_neg (by omega), if_pos (by omega), if_neg (by omega), if_pos (by omega)]
    · rw [if_neg (by omega), if_neg (by omega), if_neg (by omega), if_neg (by omega)]
  · unfold Format.order
    rw [read_double n, if_neg h1]
    by_cases h2 : rung n = 9218868437227405312
    · rw [if_pos h2, if_pos (by omega), h2, hs]
      have : double.read 4634204016564240384 = .number false 4503599627370496 (-46) := by decide +kernel
      rw [this]
      rfl
    · rw [if_neg h2, if_neg (by omega)]
      rfl
end Go.Proofs.Ytipejilcocafmaa.X
