/- The document's Cells (on bits) is the program's (by the machine's numbers), for every word. -/
import Derived.Test.YtipejilcocafmaaYcells
import Derived.Test.YtipejilcocafmaaXf14
namespace Go.Proofs.Ytipejilcocafmaa.X
open Go.RowKit Go.Proofs.YtipejilcocafmaaW.PrintWords
set_option linter.unusedVariables false
set_option linter.unusedSimpArgs false

theorem parts_eq (n : Nat) (hn : n < 18446744073709551616) : frisketref04_parts.f (n : Int) = some (((n / 9223372036854775808 : Nat) : Int), ((n / 4503599627370496 % 2048 : Nat) : Int), ((n % 4503599627370496 : Nat) : Int)) := by
  unfold frisketref04_parts.f
  rw [IntWalk.u64_quo _ _ ⟨by omega, by omega, by omega⟩, IntWalk.u64_quo _ _ ⟨by omega, by omega, by omega⟩, IntWalk.rem_in _ _ (by omega), IntWalk.rem_in _ _ (by omega), IntWalk.wrap64_in _ (by omega)]
  simp only [Option.some.injEq, Prod.mk.injEq]
  refine ⟨by omega, by omega, by omega⟩
theorem sort_eq (n : Nat) (hn : n < 18446744073709551616) (k : Nat) : frisketref04_Sort.f (k + 2) (n : Int) =
    some (if n / 4503599627370496 % 2048 = 2047 then (if n % 4503599627370496 = 0 then (if n / 9223372036854775808 = 1 then 1 else 6) else 0) else if n / 4503599627370496 % 2048 = 0 ∧ n % 4503599627370496 = 0 then 4 - ((n / 9223372036854775808 : Nat) : Int) else 5 - 3 * ((n / 9223372036854775808 : Nat) : Int)) := by
  unfold frisketref04_Sort.f
  rw [parts_eq n hn]
  simp only [Option.bind_some]
  have hs : n / 9223372036854775808 ≤ 1 := by omega
  generalize n / 9223372036854775808 = s at hs ⊢
  generalize n / 4503599627370496 % 2048 = e
  generalize n % 4503599627370496 = f
  have w1 : wrap64 ((s : Int)) = (s : Int) := IntWalk.wrap64_in _ (by omega)
  have w2 : wrap64 (4 - (s : Int)) = 4 - (s : Int) := IntWalk.wrap64_in _ (by omega)
  have w3 : wrap64 (3 * (s : Int)) = 3 * (s : Int) := IntWalk.wrap64_in _ (by omega)
  have w4 : wrap64 (5 - 3 * (s : Int)) = 5 - 3 * (s : Int) := IntWalk.wrap64_in _ (by omega)
  by_cases he : e = 2047
  · subst he
    rw [if_pos (by rfl)]
    by_cases hf : f = 0
    · subst hf
      have e1 : decide (((0 : Nat) : Int) > 0) = false := by decide
      rw [e1]
      simp only [frisketref04_Sort.j0, frisketref04_Sort.j1]
      by_cases h1 : s = 1
      · subst h1; rfl
      · have e2 : ((s : Int) == 1) = false := beq_eq_false_iff_ne.mpr (by omega)
        rw [e2]
        simp [h1]
    · have e1 : decide ((f : Int) > 0) = true := decide_eq_true (by omega)
      rw [e1]
      simp only [frisketref04_Sort.j0]
      simp [hf]
  · have he' : ¬ ((e : Int) = 2047) := by omega
    rw [if_neg he', if_neg he]
    simp only [frisketref04_Sort.j0, frisketref04_Sort.j1]
    rw [if_neg (by simp), if_neg he', if_neg (by simp), if_neg he']
    rw [w1, w2, w3, w4]
    by_cases h0 : e = 0
    · subst h0
      rw [if_pos (by rfl)]
      by_cases hf : f = 0
      · subst hf
        rw [if_pos (by rfl), if_pos ⟨rfl, rfl⟩]
      · rw [if_neg (by omega), if_neg (fun h => hf h.2)]
    · rw [if_neg (by omega), if_neg (fun h => h0 h.1)]
theorem cells_loop (m : Nat) (hm : m < 9007199254740992) : ∀ (d j st : Nat) (k : Nat), j + d = 1075 → d ≤ 60 → 0 < st → st * 2 ^ d < 9007199254740992 → d < k →
    frisketref04_Cells.l0 k (m : Int) (st : Int) (j : Int) = if (m + st * 2 ^ d - 1) / (st * 2 ^ d) > 64 then some (0, 41) else some ((((m + st * 2 ^ d - 1) / (st * 2 ^ d) : Nat) : Int), 0)
  | 0, j, st, k, hj, hd, h0, hs, hk => by
    obtain ⟨k, rfl⟩ : ∃ q, k = q + 1 := ⟨k - 1, by omega⟩
    simp only [frisketref04_Cells.l0, Nat.pow_zero, Nat.mul_one] at hs ⊢
    rw [if_neg (by omega), if_neg (by omega)]
    have e1 : IntKind.u64.wrap ((m : Int) + (st : Int)) = ((m + st : Nat) : Int) := by rw [IntWalk.u64_in _ ⟨by omega, by omega⟩]; omega
    have e2 : IntKind.u64.wrap (((m + st : Nat) : Int) - 1) = ((m + st - 1 : Nat) : Int) := by rw [IntWalk.u64_in _ ⟨by omega, by omega⟩]; omega
    have e3 : IntKind.u64.wrap (Int.tdiv ((m + st - 1 : Nat) : Int) (st : Int)) = (((m + st - 1) / st : Nat) : Int) := by
      rw [IntWalk.u64_quo _ _ ⟨by omega, by omega, by omega⟩]; rfl
    have hq : (m + st - 1) / st ≤ m + st - 1 := Nat.div_le_self _ _
    generalize (m + st - 1) / st = q at e3 hq ⊢
    rw [e1, e2, e3, IntWalk.wrap64_in _ ⟨by omega, by omega⟩]
    by_cases h : q > 64
    · rw [if_pos h, if_pos (by omega)]
    · rw [if_neg h, if_neg (by omega)]
  | d + 1, j, st, k, hj, hd, h0, hs, hk => by
    obtain ⟨k, rfl⟩ : ∃ q, k = q + 1 := ⟨k - 1, by omega⟩
    simp only [frisketref04_Cells.l0]
    rw [if_pos (by omega)]
    have hp : st * 2 ^ (d + 1) = (2 * st) * 2 ^ d := by rw [Nat.pow_succ]; rw [Nat.mul_comm (2 ^ d) 2, ← Nat.mul_assoc, Nat.mul_comm st 2]
    have hle : 2 * st ≤ (2 * st) * 2 ^ d := Nat.le_mul_of_pos_right _ (Nat.two_pow_pos d)
    have e1 : IntKind.u64.wrap (2 * (st : Int)) = ((2 * st : Nat) : Int) := by rw [IntWalk.u64_in _ ⟨by omega, by omega⟩]; omega
    have e2 : wrap64 ((j : Int) + 1) = ((j + 1 : Nat) : Int) := by rw [IntWalk.wrap64_in _ ⟨by omega, by omega⟩]; omega
    rw [e1, e2, cells_loop m hm d (j + 1) (2 * st) k (by omega) (by omega) (by omega) (by omega) (by omega), hp]
theorem sort_zero (n : Nat) (hn : n < 18446744073709551616) (k : Nat) (h1 : n / 4503599627370496 % 2048 = 0) (h2 : n % 4503599627370496 = 0) : frisketref04_Sort.f (k + 2) (n : Int) = some (4 - ((n / 9223372036854775808 : Nat) : Int)) := by
  rw [sort_eq n hn k, if_neg (by omega), if_pos ⟨h1, h2⟩]
theorem sort_num (n : Nat) (hn : n < 18446744073709551616) (k : Nat) (h1 : ¬ n / 4503599627370496 % 2048 = 2047) (h2 : ¬ (n / 4503599627370496 % 2048 = 0 ∧ n % 4503599627370496 = 0)) : frisketref04_Sort.f (k + 2) (n : Int) = some (5 - 3 * ((n / 9223372036854775808 : Nat) : Int)) := by
  rw [sort_eq n hn k, if_neg h1, if_neg h2]
theorem sort_big (n : Nat) (hn : n < 18446744073709551616) (k : Nat) (h1 : n / 4503599627370496 % 2048 = 2047) : ∃ v, frisketref04_Sort.f (k + 2) (n : Int) = some v ∧ (v = 0 ∨ v = 1 ∨ v = 6) := by
  rw [sort_eq n hn k, if_pos h1]
  by_cases h2 : n % 4503599627370496 = 0
  · rw [if_pos h2]
    by_cases h3 : n / 9223372036854775808 = 1
    · rw [if_pos h3]; exact ⟨1, rfl, by decide⟩
    · rw [if_neg h3]; exact ⟨6, rfl, by decide⟩
  · rw [if_neg h2]; exact ⟨0, rfl, by decide⟩
theorem cells_err (n : Nat) (v : Int) (h : frisketref04_Sort.f 64 (n : Int) = some v) (h3 : v ≠ 3) (h4 : v ≠ 4) (h5 : v ≠ 5) : frisketref04_Cells.f 64 (n : Int) = some (0, 41) := by
  unfold frisketref04_Cells.f
  rw [h]
  simp only [Option.bind_some]
  have e4 : (v == 4) = false := beq_eq_false_iff_ne.mpr h4
  rw [if_neg h3, e4]
  simp only [frisketref04_Cells.j0]
  rw [if_neg (by simp), if_neg h5]
theorem cells04_64 (n : Nat) (hn : n < 18446744073709551616) : frisketref04_Cells.f 64 (n : Int) = some (cellsF n) := by
  have hru : rung n = (n / 4503599627370496 % 2048) * 4503599627370496 + n % 4503599627370496 := by unfold rung; omega
  have hsg : sgn n = true ↔ n / 9223372036854775808 = 1 := by unfold sgn; simp; omega
  have hs : n / 9223372036854775808 ≤ 1 := by omega
  have hpa := parts_eq n hn
  have he : n / 4503599627370496 % 2048 < 2048 := by omega
  have hf : n % 4503599627370496 < 4503599627370496 := by omega
  have hS0 := sort_zero n hn 62
  have hS1 := sort_num n hn 62
  have hS2 := sort_big n hn 62
  simp only [Nat.reduceAdd] at hS0 hS1 hS2
  generalize n / 9223372036854775808 = s at *
  generalize n / 4503599627370496 % 2048 = e at *
  generalize n % 4503599627370496 = f at *
  by_cases hz : rung n = 0
  · have h1 : e = 0 := by omega
    have h2 : f = 0 := by omega
    have hc : cellsF n = (0, 0) := by unfold cellsF; rw [if_pos hz]
    rw [hc]
    unfold frisketref04_Cells.f
    rw [hS0 h1 h2]
    simp only [Option.bind_some]
    by_cases h3 : s = 0
    · rw [if_neg (by omega)]
      have e4 : ((4 - (s : Int)) == 4) = true := by rw [h3]; rfl
      rw [e4]
      rfl
    · rw [if_pos (by omega)]
      rfl
  · have hnz : ¬ (e = 0 ∧ f = 0) := fun h => hz (by rw [hru, h.1, h.2])
    by_cases h2 : e = 2047
    · have hc : cellsF n = (0, 41) := by
        unfold cellsF
        rw [if_neg hz]
        by_cases h : sgn n = true
        · rw [if_pos h]
        · rw [if_neg h, if_neg (by omega)]
      rw [hc]
      obtain ⟨v, hv, hv'⟩ := hS2 h2
      exact cells_err n v hv (by omega) (by omega) (by omega)
    · have hv := hS1 h2 hnz
      by_cases h1 : s = 1
      · have hc : cellsF n = (0, 41) := by
          unfold cellsF
          rw [if_neg hz, if_pos (hsg.2 h1)]
        rw [hc]
        exact cells_err n _ hv (by omega) (by omega) (by omega)
      · have h0 : s = 0 := by omega
        have hsf : ¬ sgn n = true := by rw [hsg]; omega
        unfold frisketref04_Cells.f
        rw [hv]
        simp only [Option.bind_some]
        have e4 : ((5 - 3 * (s : Int)) == 4) = false := beq_eq_false_iff_ne.mpr (by omega)
        rw [if_neg (by omega), e4]
        simp only [frisketref04_Cells.j0]
        rw [if_neg (by simp), if_pos (by omega), hpa]
        simp only [Option.bind_some]
        have hdiv : rung n / 4503599627370496 = e := by rw [hru]; omega
        have hmod : rung n % 4503599627370496 = f := by rw [hru]; omega
        have hcf : cellsF n = if rung n ≤ 4634204016564240384 then ((fceil (rung n) : Int), 0) else (0, 41) := by
          unfold cellsF
          rw [if_neg hz, if_neg hsf]
        by_cases h4 : e < 1023
        · have hc : fceil (rung n) = 1 := by
            unfold fceil
            by_cases h5 : rung n < 4503599627370496
            · rw [if_pos h5, if_neg hz]
            · rw [if_neg h5, hdiv, hmod]
              have h53 : 2 ^ 53 ≤ 2 ^ (1075 - e) := Nat.pow_le_pow_right (by omega) (by omega)
              have h53' : (2 : Nat) ^ 53 = 9007199254740992 := by decide
              generalize 2 ^ (1075 - e) = g at h53 ⊢
              have : 4503599627370496 + f + g - 1 = g * 1 + (4503599627370496 + f - 1) := by omega
              rw [this, Nat.mul_add_div (by omega), Nat.div_eq_of_lt (by omega)]
          rw [hcf, if_pos (show rung n ≤ 4634204016564240384 by omega), hc, if_pos (show (e : Int) < 1023 by omega)]
          simp only [frisketref04_Cells.j1]
          rfl
        · rw [if_neg (show ¬ (e : Int) < 1023 by omega)]
          by_cases h5 : e = 1023 ∧ f = 0
          · obtain ⟨rfl, rfl⟩ := h5
            have hc : fceil (rung n) = 1 := by
              unfold fceil
              rw [if_neg (by omega), hdiv, hmod]
            rw [hcf, if_pos (show rung n ≤ 4634204016564240384 by omega), hc]
            rfl
          · have hj : (if (e : Int) = 1023 then frisketref04_Cells.j1 63 (e : Int) (f : Int) ((f : Int) == 0) else frisketref04_Cells.j1 63 (e : Int) (f : Int) false) = frisketref04_Cells.j1 63 (e : Int) (f : Int) false := by
              by_cases h6 : (e : Int) = 1023
              · rw [if_pos h6]
                have : ((f : Int) == 0) = false := beq_eq_false_iff_ne.mpr (by omega)
                rw [this]
              · rw [if_neg h6]
            rw [hj, hcf]
            simp only [frisketref04_Cells.j1]
            rw [if_neg (by simp)]
            by_cases h7 : e > 1029
            · rw [if_pos (show (e : Int) > 1029 by omega), if_neg (show ¬ rung n ≤ 4634204016564240384 by omega)]
            · rw [if_neg (show ¬ (e : Int) > 1029 by omega)]
              have e1 : IntKind.u64.wrap ((f : Int) + 4503599627370496) = ((4503599627370496 + f : Nat) : Int) := by rw [IntWalk.u64_in _ ⟨by omega, by omega⟩]; omega
              have h52 : 2 ^ (1075 - e) ≤ 2 ^ 52 := Nat.pow_le_pow_right (by omega) (by omega)
              have h52' : (2 : Nat) ^ 52 = 4503599627370496 := by decide
              have hl := cells_loop (4503599627370496 + f) (by omega) (1075 - e) e 1 62 (by omega) (by omega) (by omega) (by rw [Nat.one_mul]; omega) (by omega)
              have e3 : ((1 : Nat) : Int) = 1 := rfl
              rw [e3] at hl
              rw [e1, hl, Nat.one_mul]
              have hfc : fceil (rung n) = (4503599627370496 + f + 2 ^ (1075 - e) - 1) / 2 ^ (1075 - e) := by
                unfold fceil
                rw [if_neg (by omega), hdiv, hmod]
              rw [← hfc]
              by_cases h8 : rung n ≤ 4634204016564240384
              · have := fceil_le _ h8
                rw [if_pos h8, if_neg (by omega)]
              · rw [if_neg h8]
                have he9 : e = 1029 := by omega
                have hgt : fceil (rung n) > 64 := by
                  rw [hfc, he9]
                  have : (2 : Nat) ^ (1075 - 1029) = 70368744177664 := by decide
                  rw [this]
                  omega
                rw [if_pos hgt]
theorem cells04_eq (n : Nat) (hn : n < 18446744073709551616) : ∃ k, frisketref04_Cells.f k (n : Int) = some (cellsF n) := ⟨64, cells04_64 n hn⟩
end Go.Proofs.Ytipejilcocafmaa.X
