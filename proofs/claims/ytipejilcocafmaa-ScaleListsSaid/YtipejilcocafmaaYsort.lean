/- scale.Sort: the sort of a number, out of its bits. -/
import Derived.Test.YtipejilcocafmaaYfls
import Derived.Test.YtipejilcocafmaaYcells
import Derived.WalkLawsBesides
namespace Go.Proofs.Ytipejilcocafmaa.X
open Go.RowKit Go.Proofs.YtipejilcocafmaaW.PrintWords
set_option linter.unusedVariables false
set_option linter.unusedSimpArgs false

def scale_Sort.f (a0 : Int) : Option Int := if 0 ≤ a0 ∧ a0 < 18446744073709551616 then some (sortF a0.toNat) else none
theorem float64bits_run (n : Nat) (w : World) : (callFunc 20 #[.float .f64 n]).run Try.prog w = .ok (.value (.int .u64 (n : Int))) w := by kernel_rfl
theorem neg_run (n : Nat) (w : World) : (Op.unary .neg (.float .f64 n)).run Try.prog w = .ok (.float .f64 (Op.negFloat .f64 n)) w := rfl
theorem neg_rung (n : Nat) : rung (Op.negFloat .f64 n) = rung n := by
  show (n ^^^ 2 ^ 63) % 2 ^ 63 = n % 2 ^ 63
  rw [Nat.xor_mod_two_pow]
  simp
theorem neg_sgn (n : Nat) (hn : n < 18446744073709551616) : sgn (Op.negFloat .f64 n) = !sgn n := by
  show ((n ^^^ 2 ^ 63) / 2 ^ 63 % 2 == 1) = !(n / 2 ^ 63 % 2 == 1)
  rw [Nat.xor_div_two_pow]
  have h : n / 2 ^ 63 = 0 ∨ n / 2 ^ 63 = 1 := by omega
  rcases h with h | h <;> rw [h] <;> rfl
set_option maxHeartbeats 1000000 in
theorem isNaN_any (n : Nat) (o : Option Ordering) (ho : FloatKind.f64.format.order n n = o) (w : World) : Calls Try.prog 21 #[.float .f64 n] w fun e w' => e = .returned (.bool (o != some .eq)) ∧ w' = w := by
  go_enter Try.func21, Try.ntmps21
  go_wp2
  go_ret
  exact ⟨rfl, rfl⟩
set_option maxHeartbeats 1000000 in
theorem isInf_neg (n : Nat) (o : Option Ordering) (ho : FloatKind.f64.format.order (Op.negFloat .f64 n) 9218868437227405311 = o) (w : World) : Calls Try.prog 22 #[.float .f64 n, .int .i64 (-1)] w fun e w' => e = .returned (.bool (o == some .gt)) ∧ w' = w := by
  have hneg := neg_run n
  generalize Op.negFloat .f64 n = m at ho hneg
  go_enter Try.func22, Try.ntmps22
  go_wp2
  go_ret
  exact ⟨rfl, rfl⟩
set_option maxHeartbeats 1000000 in
theorem isInf_pos (n : Nat) (o : Option Ordering) (ho : FloatKind.f64.format.order n 9218868437227405311 = o) (w : World) : Calls Try.prog 22 #[.float .f64 n, .int .i64 1] w fun e w' => e = .returned (.bool (o == some .gt)) ∧ w' = w := by
  go_enter Try.func22, Try.ntmps22
  go_wp2
  go_ret
  exact ⟨rfl, rfl⟩
theorem signbit_conv (n : Nat) (hn : n < 18446744073709551616) (w : World) : (convert 31 2 (.int .u64 (n : Int))).run Try.prog w = .ok (.int .i64 (if sgn n then (n : Int) - 18446744073709551616 else (n : Int))) w := by
  have e : (convert 31 2 (.int .u64 (n : Int))).run Try.prog w = .ok (.int .i64 (IntKind.i64.wrap (n : Int))) w := by kernel_rfl
  rw [e, IntKind.wrap_i64]
  unfold sgn
  have h : n / 9223372036854775808 = 0 ∨ n / 9223372036854775808 = 1 := by omega
  rcases h with h | h
  · rw [h]
    have : ((n : Int) + 9223372036854775808) % 18446744073709551616 - 9223372036854775808 = (n : Int) := by omega
    rw [this]; rfl
  · rw [h]
    have : ((n : Int) + 9223372036854775808) % 18446744073709551616 - 9223372036854775808 = (n : Int) - 18446744073709551616 := by omega
    rw [this]; rfl
set_option maxHeartbeats 1000000 in
theorem signbit_any (n : Nat) (hn : n < 18446744073709551616) (w : World) : Calls Try.prog 23 #[.float .f64 n] w fun e w' => e = .returned (.bool (sgn n)) ∧ w' = w := by
  have hb := float64bits_run n
  have hc := signbit_conv n hn
  have ht : decide ((if sgn n then (n : Int) - 18446744073709551616 else (n : Int)) < 0) = sgn n := by
    cases sgn n
    · simp
    · simp; omega
  generalize (if sgn n then (n : Int) - 18446744073709551616 else (n : Int)) = z at hc ht
  go_enter Try.func23, Try.ntmps23
  go_wp2
  go_ret
  exact ⟨by rw [← ht]; rfl, rfl⟩
set_option maxHeartbeats 4000000 in
theorem scale_Sort.at (a0 : Int) (w : World) (h0 : 0 ≤ a0) (h1 : a0 < 18446744073709551616) : Calls Try.prog 12 #[.int .u64 a0] w fun e w' => e = .returned (.int .i64 (sortF a0.toNat)) ∧ w' = w := by
  have hf := frombits_run a0
  have hn : a0.toNat < 18446744073709551616 := by omega
  generalize a0.toNat = n at *
  have c1 := isNaN_any n _ rfl
  have c2 := isInf_neg n _ rfl
  have c3 := isInf_pos n _ rfl
  have c4 := signbit_any n hn
  have e1 : FloatKind.f64.format.order n n = Ieee.double.order n n := rfl
  have e2 : FloatKind.f64.format.order (Op.negFloat .f64 n) 9218868437227405311 = Ieee.double.order (Op.negFloat .f64 n) 9218868437227405311 := rfl
  have e3 : FloatKind.f64.format.order n 9218868437227405311 = Ieee.double.order n 9218868437227405311 := rfl
  have e4 : FloatKind.f64.format.order n 0 = Ieee.double.order n 0 := rfl
  rw [e1] at c1
  rw [e2] at c2
  rw [e3] at c3
  rw [order_nought] at e4
  unfold sortF
  by_cases hN : 9218868437227405312 < rung n
  · rw [order_nan n n hN] at c1
    rw [if_pos hN]
    have C1 := Aside0.mk c1
    clear c1 c2 c3 c4 e1 e2 e3 e4
    go_enter Try.func12, Try.ntmps12
    go_wp2_with (go_at_call 21; refine (C1.out _).mono ?_; rintro e w' ⟨rfl, rfl⟩)
    go_ret
    exact ⟨rfl, rfl⟩
  · rw [order_all n n (by omega) (by omega), cmp_eq] at c1
    rw [order_most' _ (by rw [neg_rung]; omega), neg_rung, neg_sgn n hn] at c2
    rw [order_most' _ (by omega)] at c3
    rw [if_pos (by omega)] at e4
    rw [if_neg hN]
    have C1 := Aside0.mk c1
    clear c1 e1 e2 e3
    by_cases hI : rung n = 9218868437227405312
    · rw [if_pos hI]
      cases hs : sgn n with
      | true =>
        rw [hs, if_pos ⟨rfl, hI⟩] at c2
        have C2 := Aside0.mk c2
        clear c2 c3 c4 e4 hs
        go_enter Try.func12, Try.ntmps12
        go_wp2_with (first | (go_at_call 21; refine (C1.out _).mono ?_; rintro e w' ⟨rfl, rfl⟩) | (go_at_call 22; refine (C2.out _).mono ?_; rintro e w' ⟨rfl, rfl⟩))
        go_ret
        exact ⟨rfl, rfl⟩
      | false =>
        rw [hs, if_neg (by simp), if_neg (by simp)] at c2
        rw [hs, if_pos ⟨rfl, hI⟩] at c3
        have C2 := Aside0.mk c2
        have C3 := Aside0.mk c3
        clear c2 c3 c4 e4 hs
        go_enter Try.func12, Try.ntmps12
        go_wp2_with (first | (go_at_call 21; refine (C1.out _).mono ?_; rintro e w' ⟨rfl, rfl⟩) | (go_at_call 22; first | ((with_reducible refine (C2.out _).mono ?_); rintro e w' ⟨rfl, rfl⟩) | ((with_reducible refine (C3.out _).mono ?_); rintro e w' ⟨rfl, rfl⟩)))
        go_ret
        exact ⟨rfl, rfl⟩
    · rw [if_neg hI]
      have C2 : Aside0 (∀ w : World, Calls Try.prog 22 #[.float .f64 n, .int .i64 (-1)] w fun e w' => e = .returned (.bool false) ∧ w' = w) := ⟨fun w => by
        have := c2 w
        rw [if_neg (fun h => hI h.2)] at this
        refine this.mono ?_
        rintro e w' ⟨rfl, rfl⟩
        refine ⟨?_, rfl⟩
        split <;> rfl⟩
      have C3 : Aside0 (∀ w : World, Calls Try.prog 22 #[.float .f64 n, .int .i64 1] w fun e w' => e = .returned (.bool false) ∧ w' = w) := ⟨fun w => by
        have := c3 w
        rw [if_neg (fun h => hI h.2)] at this
        refine this.mono ?_
        rintro e w' ⟨rfl, rfl⟩
        refine ⟨?_, rfl⟩
        split <;> rfl⟩
      clear c2 c3
      by_cases hZ : rung n = 0
      · rw [if_pos hZ] at e4 ⊢
        have C4 := Aside0.mk c4
        clear c4
        cases hs : sgn n with
        | true =>
          have ht : sgn n = true := hs
          rw [hs] at C4
          clear hs ht
          go_enter Try.func12, Try.ntmps12
          go_wp2_with (first | (go_at_call 21; refine (C1.out _).mono ?_; rintro e w' ⟨rfl, rfl⟩) | (go_at_call 23; refine (C4.out _).mono ?_; rintro e w' ⟨rfl, rfl⟩) | (go_at_call 22; first | ((with_reducible refine (C2.out _).mono ?_); rintro e w' ⟨rfl, rfl⟩) | ((with_reducible refine (C3.out _).mono ?_); rintro e w' ⟨rfl, rfl⟩)))
          go_ret
          exact ⟨rfl, rfl⟩
        | false =>
          rw [hs] at C4
          clear hs
          go_enter Try.func12, Try.ntmps12
          go_wp2_with (first | (go_at_call 21; refine (C1.out _).mono ?_; rintro e w' ⟨rfl, rfl⟩) | (go_at_call 23; refine (C4.out _).mono ?_; rintro e w' ⟨rfl, rfl⟩) | (go_at_call 22; first | ((with_reducible refine (C2.out _).mono ?_); rintro e w' ⟨rfl, rfl⟩) | ((with_reducible refine (C3.out _).mono ?_); rintro e w' ⟨rfl, rfl⟩)))
          go_ret
          exact ⟨rfl, rfl⟩
      · rw [if_neg hZ] at e4 ⊢
        clear c4
        cases hs : sgn n with
        | true =>
          rw [hs] at e4
          simp only [if_true] at e4
          clear hs
          go_enter Try.func12, Try.ntmps12
          go_wp2_with (first | (go_at_call 21; refine (C1.out _).mono ?_; rintro e w' ⟨rfl, rfl⟩) | (go_at_call 22; first | ((with_reducible refine (C2.out _).mono ?_); rintro e w' ⟨rfl, rfl⟩) | ((with_reducible refine (C3.out _).mono ?_); rintro e w' ⟨rfl, rfl⟩)))
          go_ret
          exact ⟨rfl, rfl⟩
        | false =>
          rw [hs] at e4
          simp only [Bool.false_eq_true, if_false] at e4
          clear hs
          go_enter Try.func12, Try.ntmps12
          go_wp2_with (first | (go_at_call 21; refine (C1.out _).mono ?_; rintro e w' ⟨rfl, rfl⟩) | (go_at_call 22; first | ((with_reducible refine (C2.out _).mono ?_); rintro e w' ⟨rfl, rfl⟩) | ((with_reducible refine (C3.out _).mono ?_); rintro e w' ⟨rfl, rfl⟩)))
          go_ret
          exact ⟨rfl, rfl⟩
theorem scale_Sort.calls (a0 : Int) (r : Int) (w : World) (h : scale_Sort.f a0 = some r) : Calls Try.prog 12 #[.int .u64 a0] w fun e w' => e = .returned (.int .i64 r) ∧ Drawn0 w w' := by
  unfold scale_Sort.f at h
  by_cases c : 0 ≤ a0 ∧ a0 < 18446744073709551616
  · rw [if_pos c] at h
    obtain rfl := Option.some.inj h
    exact (scale_Sort.at a0 w c.1 c.2).mono fun e w' ⟨he, hw⟩ => ⟨he, by rw [hw]; exact Drawn0.refl _⟩
  · rw [if_neg c] at h; cases h
end Go.Proofs.Ytipejilcocafmaa.X
