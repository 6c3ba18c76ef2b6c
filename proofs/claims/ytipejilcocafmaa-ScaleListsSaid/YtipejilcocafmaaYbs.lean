/- Binary search as a plain function of a test, and what it finds where the test holds up to a place and not from there on. -/
import Derived.Test.YtipejilcocafmaaYkit
namespace Go.Proofs.Ytipejilcocafmaa.X
open Go.RowKit Go.Proofs.YtipejilcocafmaaW.PrintWords
set_option linter.unusedVariables false
set_option linter.unusedSimpArgs false

/-- 'for i < j { h := (i + j) / 2; if lt h { i = h + 1 } else { j = h } }; return i' -/
def bs (lt : Nat → Bool) : Nat → Nat → Nat → Nat
  | 0, i, _ => i
  | f + 1, i, j => if i < j then (if lt ((i + j) / 2) then bs lt f ((i + j) / 2 + 1) j else bs lt f i ((i + j) / 2)) else i
theorem bs_le (lt : Nat → Bool) : ∀ f i j, i ≤ j → i ≤ bs lt f i j ∧ bs lt f i j ≤ j
  | 0, i, j, h => ⟨Nat.le_refl _, h⟩
  | f + 1, i, j, h => by
    unfold bs
    split
    · split
      · have := bs_le lt f ((i + j) / 2 + 1) j (by omega)
        omega
      · have := bs_le lt f i ((i + j) / 2) (by omega)
        omega
    · omega
/-- With fuel enough: all ahead of the answer pass the test, if the test is one that falls once. -/
theorem bs_spec (lt : Nat → Bool) (n : Nat) (hm : ∀ a b, a ≤ b → b < n → lt b = true → lt a = true) : ∀ f i j, i ≤ j → j ≤ n → j - i ≤ f →
    (∀ a, a < i → lt a = true) → (∀ a, j ≤ a → a < n → lt a = false) → (∀ a, a < bs lt f i j → lt a = true) ∧ (∀ a, bs lt f i j ≤ a → a < n → lt a = false)
  | 0, i, j, hij, hjn, hf, h1, h2 => by
    have : i = j := by omega
    subst this
    exact ⟨h1, h2⟩
  | f + 1, i, j, hij, hjn, hf, h1, h2 => by
    unfold bs
    split
    · rename_i hlt
      split
      · rename_i hl
        refine bs_spec lt n hm f _ _ (by omega) hjn (by omega) (fun a ha => hm a ((i + j) / 2) (by omega) (by omega) hl) h2
      · rename_i hl
        refine bs_spec lt n hm f _ _ (by omega) (by omega) (by omega) h1 (fun a ha hn => ?_)
        cases hb : lt a with
        | false => rfl
        | true => exact absurd (hm _ _ ha hn hb) hl
    · have : i = j := by omega
      subst this
      exact ⟨h1, h2⟩
def bsearch (lt : Nat → Bool) (n : Nat) : Nat := bs lt n 0 n
theorem bsearch_le (lt : Nat → Bool) (n : Nat) : bsearch lt n ≤ n := (bs_le lt n 0 n (Nat.zero_le _)).2
theorem bsearch_spec (lt : Nat → Bool) (n : Nat) (hm : ∀ a b, a ≤ b → b < n → lt b = true → lt a = true) :
    (∀ a, a < bsearch lt n → lt a = true) ∧ (∀ a, bsearch lt n ≤ a → a < n → lt a = false) :=
  bs_spec lt n hm n 0 n (Nat.zero_le _) (Nat.le_refl _) (by omega) (fun _ h => by omega) (fun _ h h' => by omega)
def cmpI (a b : Int) : Int := if a < b then -1 else if b < a then 1 else 0
theorem cmpI_neg (a b : Int) : cmpI a b < 0 ↔ a < b := by unfold cmpI; split <;> (try split) <;> omega
theorem cmpI_zero (a b : Int) : cmpI a b = 0 ↔ a = b := by unfold cmpI; split <;> (try split) <;> omega
/-- What a binary search of the library's answers: the place, and whether what stands there is the thing itself. -/
def SearchPost (R : Nat) (w : World) (e : Ending) (w' : World) : Prop := ∃ b : Bool, e = .returned (.tuple #[.int .i64 (R : Int), .bool b]) ∧ Below w.heap.size w w'
/-- cmp.Compare at int -/
theorem isNaN_int (x : Int) (w : World) : Calls Try.prog 35 #[.int .i64 x] w fun e w' => e = .returned (.bool false) ∧ w' = w := by
  go_enter Try.func35, Try.ntmps35
  go_wp2
  go_ret
  exact ⟨by simp, rfl⟩
theorem compare_int (x y : Int) (w : World) : Calls Try.prog 24 #[.int .i64 x, .int .i64 y] w fun e w' => e = .returned (.int .i64 (cmpI x y)) ∧ w' = w := by
  unfold cmpI
  by_cases h1 : x < y
  · go_enter Try.func24, Try.ntmps24
    go_wp2_with (go_at_call 35; refine (isNaN_int _ _).mono ?_; rintro e w' ⟨rfl, rfl⟩)
    go_ret
    exact ⟨rfl, rfl⟩
  · by_cases h2 : y < x
    · go_enter Try.func24, Try.ntmps24
      go_wp2_with (go_at_call 35; refine (isNaN_int _ _).mono ?_; rintro e w' ⟨rfl, rfl⟩)
      go_ret
      exact ⟨rfl, rfl⟩
    · go_enter Try.func24, Try.ntmps24
      go_wp2_with (go_at_call 35; refine (isNaN_int _ _).mono ?_; rintro e w' ⟨rfl, rfl⟩)
      go_ret
      exact ⟨rfl, rfl⟩
end Go.Proofs.Ytipejilcocafmaa.X
