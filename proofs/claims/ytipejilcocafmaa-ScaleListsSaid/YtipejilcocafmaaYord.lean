/- scale.Order: which of two numbers is ahead. -/
import Derived.Test.YtipejilcocafmaaYsort
import Derived.Test.YtipejilcocafmaaYbs
namespace Go.Proofs.Ytipejilcocafmaa.X
open Go.RowKit Go.Proofs.YtipejilcocafmaaW.PrintWords
set_option linter.unusedVariables false
set_option linter.unusedSimpArgs false

def orderF (x y : Nat) : Int := if sortF x = sortF y ∧ sortF x ≠ 0 then cmpI (sval x) (sval y) else cmpI (sortF x) (sortF y)
def scale_Order.f (a0 a1 : Int) : Option Int := if (0 ≤ a0 ∧ a0 < 18446744073709551616) ∧ (0 ≤ a1 ∧ a1 < 18446744073709551616) then some (orderF a0.toNat a1.toNat) else none
theorem sortF_num (n : Nat) (h : sortF n ≠ 0) : rung n ≤ 9218868437227405312 := by
  unfold sortF at h
  by_cases c : 9218868437227405312 < rung n
  · rw [if_pos c] at h; exact absurd rfl h
  · omega
set_option maxHeartbeats 1000000 in
theorem isNaN_f64 (n : Nat) (hn : rung n ≤ 9218868437227405312) (w : World) : Calls Try.prog 36 #[.float .f64 n] w fun e w' => e = .returned (.bool false) ∧ w' = w := by
  have ho : FloatKind.f64.format.order n n = some .eq := by
    rw [show FloatKind.f64.format.order n n = Ieee.double.order n n from rfl, order_all n n hn hn, cmp_eq]
  go_enter Try.func36, Try.ntmps36
  go_wp2
  go_ret
  exact ⟨rfl, rfl⟩
set_option maxHeartbeats 1000000 in
theorem compare_f64 (x y : Nat) (hx : rung x ≤ 9218868437227405312) (hy : rung y ≤ 9218868437227405312) (w : World) :
    Calls Try.prog 25 #[.float .f64 x, .float .f64 y] w fun e w' => e = .returned (.int .i64 (cmpI (sval x) (sval y))) ∧ w' = w := by
  have n1 := Aside0.mk (isNaN_f64 x hx)
  have n2 := Aside0.mk (isNaN_f64 y hy)
  have ho : FloatKind.f64.format.order x y = some (compare (sval x) (sval y)) := by
    rw [show FloatKind.f64.format.order x y = Ieee.double.order x y from rfl, order_all x y hx hy]
  clear hx hy
  rcases Int.lt_trichotomy (sval x) (sval y) with c | c | c
  · rw [cmp_lt c] at ho
    rw [show cmpI (sval x) (sval y) = -1 from if_pos c]
    clear c
    go_enter Try.func25, Try.ntmps25
    go_wp2_with (go_at_call 36; first | ((with_reducible refine (n1.out _).mono ?_); rintro e w' ⟨rfl, rfl⟩) | ((with_reducible refine (n2.out _).mono ?_); rintro e w' ⟨rfl, rfl⟩))
    go_ret
    exact ⟨rfl, rfl⟩
  · rw [c, cmp_eq] at ho
    rw [show cmpI (sval x) (sval y) = 0 from by unfold cmpI; rw [if_neg (by omega), if_neg (by omega)]]
    clear c
    go_enter Try.func25, Try.ntmps25
    go_wp2_with (go_at_call 36; first | ((with_reducible refine (n1.out _).mono ?_); rintro e w' ⟨rfl, rfl⟩) | ((with_reducible refine (n2.out _).mono ?_); rintro e w' ⟨rfl, rfl⟩))
    go_ret
    exact ⟨rfl, rfl⟩
  · rw [cmp_gt c] at ho
    rw [show cmpI (sval x) (sval y) = 1 from by unfold cmpI; rw [if_neg (by omega), if_pos (by omega)]]
    clear c
    go_enter Try.func25, Try.ntmps25
    go_wp2_with (go_at_call 36; first | ((with_reducible refine (n1.out _).mono ?_); rintro e w' ⟨rfl, rfl⟩) | ((with_reducible refine (n2.out _).mono ?_); rintro e w' ⟨rfl, rfl⟩))
    go_ret
    exact ⟨rfl, rfl⟩
set_option maxHeartbeats 2000000 in
theorem scale_Order.at (a0 a1 : Int) (w : World) (h0 : 0 ≤ a0) (h1 : a0 < 18446744073709551616) (h2 : 0 ≤ a1) (h3 : a1 < 18446744073709551616) :
    Calls Try.prog 13 #[.int .u64 a0, .int .u64 a1] w fun e w' => e = .returned (.int .i64 (orderF a0.toNat a1.toNat)) ∧ w' = w := by
  have s0 := fun w => scale_Sort.at a0 w h0 h1
  have s1 := fun w => scale_Sort.at a1 w h2 h3
  have f0 := frombits_run a0
  have f1 := frombits_run a1
  have hc := compare_int (sortF a0.toNat) (sortF a1.toNat)
  have hd : sortF a0.toNat ≠ 0 → sortF a0.toNat = sortF a1.toNat → ∀ w, Calls Try.prog 25 #[.float .f64 a0.toNat, .float .f64 a1.toNat] w fun e w' => e = .returned (.int .i64 (cmpI (sval a0.toNat) (sval a1.toNat))) ∧ w' = w :=
    fun h h' w => compare_f64 _ _ (sortF_num _ h) (sortF_num _ (h' ▸ h)) w
  unfold orderF
  generalize a0.toNat = m at *
  generalize a1.toNat = n at *
  generalize cmpI (sval m) (sval n) = d at *
  generalize sortF m = x at *
  generalize sortF n = y at *
  have S0 := Aside0.mk s0
  have S1 := Aside0.mk s1
  have HC := Aside0.mk hc
  clear s0 s1 hc h0 h1 h2 h3
  by_cases c : x = y
  · by_cases c2 : x = 0
    · have hD : True := trivial
      rw [if_neg (fun h => h.2 c2)]
      subst c
      subst c2
      clear hd
      go_enter Try.func13, Try.ntmps13
      go_wp2_with (first | (go_at_call 12; first | ((with_reducible refine (S0.out _).mono ?_); rintro e w' ⟨rfl, rfl⟩) | ((with_reducible refine (S1.out _).mono ?_); rintro e w' ⟨rfl, rfl⟩)) | (go_at_call 24; refine (HC.out _).mono ?_; rintro e w' ⟨rfl, rfl⟩))
      go_ret
      exact ⟨rfl, rfl⟩
    · have HD := Aside0.mk (hd c2 c)
      rw [if_pos ⟨c, c2⟩]
      subst c
      have hz : (x == 0) = false := by simpa using c2
      have hz2 : decide (x = 0) = false := by simpa using c2
      clear hd c2
      go_enter Try.func13, Try.ntmps13
      go_wp2_with (first | (go_at_call 12; first | ((with_reducible refine (S0.out _).mono ?_); rintro e w' ⟨rfl, rfl⟩) | ((with_reducible refine (S1.out _).mono ?_); rintro e w' ⟨rfl, rfl⟩)) | (go_at_call 25; refine (HD.out _).mono ?_; rintro e w' ⟨rfl, rfl⟩))
      go_ret
      exact ⟨rfl, rfl⟩
  · rw [if_neg (fun h => c h.1)]
    have hz : (x != y) = true := by simpa using c
    have hz2 : (x == y) = false := by simpa using c
    have hz3 : decide (x = y) = false := by simpa using c
    clear hd c
    go_enter Try.func13, Try.ntmps13
    go_wp2_with (first | (go_at_call 12; first | ((with_reducible refine (S0.out _).mono ?_); rintro e w' ⟨rfl, rfl⟩) | ((with_reducible refine (S1.out _).mono ?_); rintro e w' ⟨rfl, rfl⟩)) | (go_at_call 24; refine (HC.out _).mono ?_; rintro e w' ⟨rfl, rfl⟩))
    go_ret
    exact ⟨rfl, rfl⟩
theorem scale_Order.calls (a0 a1 : Int) (r : Int) (w : World) (h : scale_Order.f a0 a1 = some r) : Calls Try.prog 13 #[.int .u64 a0, .int .u64 a1] w fun e w' => e = .returned (.int .i64 r) ∧ Drawn0 w w' := by
  unfold scale_Order.f at h
  by_cases c : (0 ≤ a0 ∧ a0 < 18446744073709551616) ∧ (0 ≤ a1 ∧ a1 < 18446744073709551616)
  · rw [if_pos c] at h
    obtain rfl := Option.some.inj h
    exact (scale_Order.at a0 a1 w c.1.1 c.1.2 c.2.1 c.2.2).mono fun e w' ⟨he, hw⟩ => ⟨he, by rw [hw]; exact Drawn0.refl _⟩
  · rw [if_neg c] at h; cases h
end Go.Proofs.Ytipejilcocafmaa.X
