/- Plain laws: the document's order of numbers, and its sorted list, are the program's; ScaleLists answers yes. -/
import Derived.Test.YtipejilcocafmaaYps5
import Derived.Test.YtipejilcocafmaaYp1
import Derived.Test.YtipejilcocafmaaXf3
namespace Go.Proofs.Ytipejilcocafmaa.X
open Go.RowKit Go.Lib Go.Sort Go.Proofs Go.Proofs.YtipejilcocafmaaW.PrintWords
set_option linter.unusedVariables false
set_option linter.unusedSimpArgs false

theorem leO_some {α : Type} {F : Nat → Option α} (hm : ∀ k, LeO (F k) (F (k + 1))) {k k' : Nat} {r : α} (h : F k = some r) (hk : k ≤ k') : F k' = some r := by
  induction hk with
  | refl => exact h
  | step _ ih => exact hm _ _ ih
theorem w64s (n : Int) (h : -9223372036854775808 ≤ n ∧ n ≤ 9223372036854775807) : wrap64 n = n := IntWalk.wrap64_in n h
theorem incN (i : Nat) (h : i < 1000000000000) : wrap64 ((i : Int) + 1) = ((i + 1 : Nat) : Int) := by rw [w64s _ ⟨by omega, by omega⟩]; omega
theorem sort04_eq (n : Nat) (hn : n < 18446744073709551616) (k : Nat) (hk : 2 ≤ k) : frisketref04_Sort.f k (n : Int) = some (sortF n) := by
  obtain ⟨k, rfl⟩ : ∃ q, k = q + 2 := ⟨k - 2, by omega⟩
  rw [sort_eq n hn k]
  have hru : rung n = (n / 4503599627370496 % 2048) * 4503599627370496 + n % 4503599627370496 := by unfold rung; omega
  have hs : n / 9223372036854775808 ≤ 1 := by omega
  have hsg : sgn n = decide (n / 9223372036854775808 = 1) := by
    unfold sgn
    generalize n / 9223372036854775808 = s at hs
    have : s = 0 ∨ s = 1 := by omega
    rcases this with rfl | rfl <;> rfl
  have he : n / 4503599627370496 % 2048 < 2048 := by omega
  have hf : n % 4503599627370496 < 4503599627370496 := by omega
  unfold sortF
  rw [hru, hsg]
  generalize n / 9223372036854775808 = s at *
  generalize n / 4503599627370496 % 2048 = e at *
  generalize n % 4503599627370496 = f at *
  have h01 : s = 0 ∨ s = 1 := by omega
  by_cases c1 : e = 2047
  · rw [if_pos c1]
    by_cases c2 : f = 0
    · rw [if_pos c2, if_neg (show ¬ 9218868437227405312 < e * 4503599627370496 + f by omega), if_pos (show e * 4503599627370496 + f = 9218868437227405312 by omega)]
      rcases h01 with rfl | rfl <;> rfl
    · rw [if_neg c2, if_pos (by omega)]
  · rw [if_neg c1, if_neg (show ¬ 9218868437227405312 < e * 4503599627370496 + f by omega), if_neg (show ¬ e * 4503599627370496 + f = 9218868437227405312 by omega)]
    by_cases c2 : e = 0 ∧ f = 0
    · rw [if_pos c2, if_pos (by omega)]
      rcases h01 with rfl | rfl <;> rfl
    · rw [if_neg c2, if_neg (by omega)]
      rcases h01 with rfl | rfl <;> rfl
theorem sign_eq (a b : Int) : frisketref04_sign.f a b = some (cmpI a b) := by
  unfold frisketref04_sign.f
  rcases Int.lt_trichotomy a b with h | h | h
  · rw [if_pos h, cmpI_lt h]
  · rw [if_neg (by omega), if_neg (by omega), h, cmpI_self]
  · rw [if_neg (by omega), if_pos h, cmpI_gt h]
theorem cmpI_range (a b : Int) : cmpI a b = -1 ∨ cmpI a b = 0 ∨ cmpI a b = 1 := by
  unfold cmpI
  (repeat' split) <;> simp
theorem sval_sign (n : Nat) : sval n = if sgn n then -(fval (rung n) : Int) else (fval (rung n) : Int) := rfl
theorem order04_eq (m n : Nat) (hm : m < 18446744073709551616) (hn : n < 18446744073709551616) (k : Nat) (hk : 2 ≤ k) : frisketref04_Order.f k (m : Int) (n : Int) = some (orderF m n) := by
  unfold frisketref04_Order.f
  rw [sort04_eq m hm k hk, sort04_eq n hn k hk, Option.bind_some, Option.bind_some]
  unfold orderF
  have i1 := sortF_in m
  have i2 := sortF_in n
  by_cases c : sortF m = sortF n
  · rw [if_pos c]
    by_cases c0 : sortF m = 0
    · rw [if_pos c0, if_neg (fun h => h.2 c0), c, cmpI_self]
    · rw [if_neg c0, if_pos ⟨c, c0⟩, sign_eq, Option.bind_some]
      have e1 : Int.tmod (m : Int) 9223372036854775808 = (rung m : Int) := by unfold rung; rw [IntWalk.rem_in _ _ (by omega)]; omega
      have e2 : Int.tmod (n : Int) 9223372036854775808 = (rung n : Int) := by unfold rung; rw [IntWalk.rem_in _ _ (by omega)]; omega
      rw [e1, e2, sval_sign, sval_sign]
      have hlt := @fval_lt_iff (rung m) (rung n)
      have hgt := @fval_lt_iff (rung n) (rung m)
      have key : cmpI (fval (rung m) : Int) (fval (rung n) : Int) = cmpI (rung m : Int) (rung n : Int) := by
        generalize fval (rung m) = A at *
        generalize fval (rung n) = B at *
        rcases Nat.lt_trichotomy (rung m) (rung n) with h | h | h
        · rw [cmpI_lt (show ((rung m : Nat) : Int) < (rung n : Int) by omega), cmpI_lt (by omega)]
        · rw [h, cmpI_self, show A = B by omega, cmpI_self]
        · rw [cmpI_gt (show ((rung n : Nat) : Int) < (rung m : Int) by omega), cmpI_gt (by omega)]
      have neg : ∀ a b : Int, cmpI (-a) (-b) = -(cmpI a b) := by
        intro a b
        rcases Int.lt_trichotomy a b with h | h | h
        · rw [cmpI_lt h, cmpI_gt (by omega)]; rfl
        · rw [h, cmpI_self, cmpI_self]; rfl
        · rw [cmpI_gt h, cmpI_lt (by omega)]
      have wneg : wrap64 (-(cmpI (rung m : Int) (rung n : Int))) = -(cmpI (rung m : Int) (rung n : Int)) := by
        have := cmpI_range (rung m : Int) (rung n : Int)
        exact w64s _ ⟨by omega, by omega⟩
      by_cases c2 : sortF m = 2
      · rw [if_pos c2, wneg]
        have hsm : sgn m = true := by
          unfold sortF at c2
          cases h : sgn m with
          | true => rfl
          | false => rw [h] at c2; simp at c2; (repeat' split at c2) <;> omega
        have hsn : sgn n = true := by
          rw [c] at c2
          unfold sortF at c2
          cases h : sgn n with
          | true => rfl
          | false => rw [h] at c2; simp at c2; (repeat' split at c2) <;> omega
        rw [hsm, hsn]
        show some _ = some (cmpI (-(fval (rung m) : Int)) (-(fval (rung n) : Int)))
        rw [neg, key]
      · rw [if_neg c2]
        by_cases c5 : sortF m = 5
        · have hsm : sgn m = false := by
            unfold sortF at c5
            cases h : sgn m with
            | false => rfl
            | true => rw [h] at c5; simp at c5; (repeat' split at c5) <;> omega
          have hsn : sgn n = false := by
            rw [c] at c5
            unfold sortF at c5
            cases h : sgn n with
            | false => rfl
            | true => rw [h] at c5; simp at c5; (repeat' split at c5) <;> omega
          rw [hsm, hsn]
          show some _ = some (cmpI (fval (rung m) : Int) (fval (rung n) : Int))
          rw [key]
        · have hr : rung m = rung n ∧ (sgn m = sgn n ∨ rung m = 0) := by
            have d1 := c
            unfold sortF at d1 c0 c2 c5
            cases h1 : sgn m <;> cases h2 : sgn n <;> simp [h1, h2] at d1 c0 c2 c5 ⊢ <;> (repeat' split at d1) <;> (repeat' split at c0) <;> omega
          rw [hr.1]
          rcases hr.2 with h | h
          · rw [h, cmpI_self]
            split <;> rw [cmpI_self]
          · rw [hr.1] at h
            rw [h, fval_zero]
            cases sgn m <;> cases sgn n <;> rfl
  · rw [if_neg c, if_neg (fun h => c h.1), sign_eq]
    have u : ∀ x : Int, 0 ≤ x ∧ x ≤ 6 → IntKind.u64.wrap x = x := fun x h => by rw [show IntKind.u64.wrap x = x % 18446744073709551616 by simp [IntKind.wrap, IntKind.bits, IntKind.signed]]; omega
    rw [u _ i1, u _ i2]
    rfl
end Go.Proofs.Ytipejilcocafmaa.X
