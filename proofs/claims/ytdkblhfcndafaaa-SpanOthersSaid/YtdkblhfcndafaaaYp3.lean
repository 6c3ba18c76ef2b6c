/- Plain laws: what Fits and Right of the document's package answer; that a list is the same as itself. -/
import Derived.Test.YtdkblhfcndafaaaXf7
import Derived.Test.YtdkblhfcndafaaaXf9
namespace Go.Proofs.Ytdkblhfcndafaaa.X
open Go.RowKit Go.Proofs.YtdkblhfcndafaaaW.PrintWords Go.Proofs.YtdkblhfcndafaaaW.PrintLast Go.Proofs.YtdkblhfcndafaaaW.PrintMore
set_option linter.unusedVariables false
set_option linter.unusedSimpArgs false

theorem w64 (n : Int) (h : -9223372036854775808 ≤ n ∧ n ≤ 9223372036854775807) : wrap64 n = n := IntWalk.wrap64_in n h
theorem leO_some {α : Type} {F : Nat → Option α} (hm : ∀ k, LeO (F k) (F (k + 1))) {k k' : Nat} {r : α} (h : F k = some r) (hk : k ≤ k') : F k' = some r := by
  induction hk with
  | refl => exact h
  | step _ ih => exact hm _ _ ih
/-- A span's fields lie in their kinds' ranges. -/
def wfS (s : S33) : Prop := (-9223372036854775808 ≤ s.f0 ∧ s.f0 ≤ 9223372036854775807) ∧ (-9223372036854775808 ≤ s.f1 ∧ s.f1 ≤ 9223372036854775807) ∧ (-9223372036854775808 ≤ s.f2 ∧ s.f2 ≤ 9223372036854775807) ∧ (0 ≤ s.f5 ∧ s.f5 < 18446744073709551616)
/-- A right span of a text of length n. -/
def goodS (n : Int) (s : S33) : Prop := 0 ≤ s.f0 ∧ s.f0 < s.f1 ∧ s.f1 ≤ n ∧ (s.f3 = true → s.f1 - s.f0 ≤ 4 ∧ s.f4.toList = []) ∧ 0 ≤ s.f2 ∧ s.f2 ≤ 2 ∧ rubyF s.f4 = true ∧ oneF s.f0 s.f1 s.f2 s.f3 s.f4 s.f5 = true
theorem rd_get (l : List S33) (i : Nat) (h : i < l.length) : rd_T33 l (i : Int) = l[i] := by
  unfold rd_T33
  simp [List.getElem?_eq_getElem h]
theorem oneF_good (s : S33) (n : Int) (hw : wfS s) (h : oneF s.f0 s.f1 s.f2 s.f3 s.f4 s.f5 = true) (h1 : s.f1 ≤ n) : goodS n s := by
  have h0 := h
  unfold oneF at h0
  by_cases c1 : s.f2 < 0 ∨ s.f2 > 2 ∨ s.f0 < 0 ∨ s.f0 ≥ s.f1
  · rw [if_pos c1] at h0; cases h0
  rw [if_neg c1] at h0
  by_cases c2 : s.f5 ≠ 0 ∧ ((cellsF s.f5.toNat).2 ≠ 0 ∨ (cellsF s.f5.toNat).1 < 1)
  · rw [if_pos c2] at h0; cases h0
  rw [if_neg c2] at h0
  by_cases c3 : s.f3 = true ∧ (wrap64 (s.f1 - s.f0) > 4 ∨ s.f4.toList ≠ [])
  · rw [if_pos c3] at h0; cases h0
  rw [if_neg c3] at h0
  obtain ⟨w0, w1, w2, w5⟩ := hw
  refine ⟨by omega, by omega, h1, fun h3 => ?_, by omega, by omega, h0, h⟩
  refine ⟨?_, ?_⟩
  · have : ¬ wrap64 (s.f1 - s.f0) > 4 := fun h => c3 ⟨h3, .inl h⟩
    rw [w64 _ ⟨by omega, by omega⟩] at this
    omega
  · exact Classical.byContradiction fun h => c3 ⟨h3, .inr h⟩
/-- What Right says of a list. -/
def rightL (l : List S33) (n : Int) : Prop := l.length ≤ 40 ∧ (∀ i, i < l.length → goodS n (rd_T33 l (i : Int))) ∧ (∀ i, 0 < i → i < l.length → (rd_T33 l ((i - 1 : Nat) : Int)).f1 ≤ (rd_T33 l (i : Int)).f0)
theorem right_run (l : List S33) (n : Int) (hlen : l.length ≤ 1000) (hw : ∀ i, i < l.length → wfS (rd_T33 l (i : Int)) ∧ (rd_T33 l (i : Int)).f4.size ≤ 1000000000) : ∀ (k i : Nat), l.length < i + k → i ≤ l.length →
    ∃ b, frisketref07_Right.l0 k l n (i : Int) = some b ∧ (b = true → l.length ≤ 40 ∧ (∀ j, i ≤ j → j < l.length → goodS n (rd_T33 l (j : Int)) ∧ (0 < j → (rd_T33 l ((j - 1 : Nat) : Int)).f1 ≤ (rd_T33 l (j : Int)).f0)))
  | 0, i, h1, h2 => absurd h1 (by omega)
  | k + 1, i, h1, h2 => by
    simp only [frisketref07_Right.l0]
    by_cases h : i < l.length
    · rw [if_pos (by omega), if_pos (by omega)]
      obtain ⟨hwi, hsz⟩ := hw i h
      have hone : frisketref07_one.f (rd_T33 l (i : Int)).f0 (rd_T33 l (i : Int)).f1 (rd_T33 l (i : Int)).f2 (rd_T33 l (i : Int)).f3 (rd_T33 l (i : Int)).f4 (rd_T33 l (i : Int)).f5 = some (oneF (rd_T33 l (i : Int)).f0 (rd_T33 l (i : Int)).f1 (rd_T33 l (i : Int)).f2 (rd_T33 l (i : Int)).f3 (rd_T33 l (i : Int)).f4 (rd_T33 l (i : Int)).f5) := by
        unfold frisketref07_one.f
        rw [if_pos ⟨hsz, hwi.2.2.2.1, hwi.2.2.2.2⟩]
      rw [hone, Option.bind_some]
      by_cases c : oneF (rd_T33 l (i : Int)).f0 (rd_T33 l (i : Int)).f1 (rd_T33 l (i : Int)).f2 (rd_T33 l (i : Int)).f3 (rd_T33 l (i : Int)).f4 (rd_T33 l (i : Int)).f5 = true
      · rw [if_pos c]
        by_cases c2 : (rd_T33 l (i : Int)).f1 > n
        · rw [if_pos c2]; exact ⟨_, rfl, fun h => by cases h⟩
        rw [if_neg c2]
        have hg := oneF_good _ n hwi c (by omega)
        have hn1 : wrap64 ((i : Int) + 1) = ((i + 1 : Nat) : Int) := by rw [w64 _ ⟨by omega, by omega⟩]; omega
        rw [hn1]
        by_cases c3 : (i : Int) > 0
        · rw [if_pos c3]
          have hm1 : wrap64 ((i : Int) - 1) = ((i - 1 : Nat) : Int) := by rw [w64 _ ⟨by omega, by omega⟩]; omega
          rw [hm1, if_pos (by omega), if_pos (by omega)]
          by_cases c4 : (rd_T33 l (i : Int)).f0 < (rd_T33 l ((i - 1 : Nat) : Int)).f1
          · rw [if_pos c4]; exact ⟨_, rfl, fun h => by cases h⟩
          rw [if_neg c4]
          obtain ⟨b, hb, hs⟩ := right_run l n hlen hw k (i + 1) (by omega) (by omega)
          refine ⟨b, hb, fun h => ⟨(hs h).1, fun j h3 h4 => ?_⟩⟩
          by_cases hj : j = i
          · subst hj
            exact ⟨hg, fun _ => by omega⟩
          · exact (hs h).2 j (by omega) h4
        · rw [if_neg c3]
          obtain ⟨b, hb, hs⟩ := right_run l n hlen hw k (i + 1) (by omega) (by omega)
          refine ⟨b, hb, fun h => ⟨(hs h).1, fun j h3 h4 => ?_⟩⟩
          by_cases hj : j = i
          · subst hj
            exact ⟨hg, fun h => absurd h (by omega)⟩
          · exact (hs h).2 j (by omega) h4
      · rw [if_neg c]; exact ⟨_, rfl, fun h => by cases h⟩
    · rw [if_neg (by omega)]
      exact ⟨_, rfl, fun h => ⟨by have := of_decide_eq_true h; omega, fun j h3 h4 => absurd h4 (by omega)⟩⟩
theorem fits_run (l : List S33) (n : Int) (hlen : l.length ≤ 60) (hw : ∀ i, i < l.length → wfS (rd_T33 l (i : Int))) : ∀ (k i : Nat), l.length + l.length + 1 < i + k → i ≤ l.length → (∀ j, j < i → (rd_T33 l (j : Int)).f4.size ≤ 200) →
    ∃ b, frisketlaw07_Fits.l0 k l n (i : Int) = some b ∧ (b = true → rightL l n)
  | 0, i, h1, h2, _ => absurd h1 (by omega)
  | k + 1, i, h1, h2, h3 => by
    simp only [frisketlaw07_Fits.l0]
    by_cases h : i < l.length
    · rw [if_pos (by omega), if_pos (by omega)]
      by_cases c : ((rd_T33 l (i : Int)).f4.size : Int) > 200
      · rw [if_pos c]; exact ⟨_, rfl, fun h => by cases h⟩
      · rw [if_neg c]
        have hn1 : wrap64 ((i : Int) + 1) = ((i + 1 : Nat) : Int) := by rw [w64 _ ⟨by omega, by omega⟩]; omega
        rw [hn1]
        refine fits_run l n hlen hw k (i + 1) (by omega) (by omega) (fun j hj => ?_)
        by_cases hj' : j = i
        · subst hj'; omega
        · exact h3 j (by omega)
    · rw [if_neg (by omega)]
      obtain ⟨b, hb, hs⟩ := right_run l n (by omega) (fun i hi => ⟨hw i hi, by have := h3 i (by omega); omega⟩) k 0 (by omega) (by omega)
      refine ⟨b, by unfold frisketref07_Right.f; rw [show frisketref07_Right.l0 k l n 0 = some b from hb]; rfl, fun h => ⟨(hs h).1, fun i hi => ((hs h).2 i (by omega) hi).1, fun i h0 hi => ((hs h).2 i (by omega) hi).2 h0⟩⟩
/-- What Fits answers, and what a yes says. -/
theorem fits_all (l : List S33) (n : Int) (hw : ∀ i, i < l.length → wfS (rd_T33 l (i : Int))) (k : Nat) (hk : 200 ≤ k) :
    ∃ b, frisketlaw07_Fits.f k l n = some b ∧ (b = true → 0 ≤ n ∧ n ≤ 1048576 ∧ rightL l n) := by
  unfold frisketlaw07_Fits.f
  obtain ⟨k, rfl⟩ : ∃ q, k = q + 1 := ⟨k - 1, by omega⟩
  simp only [frisketlaw07_Fits.j0]
  by_cases c1 : (l.length : Int) > 60
  · rw [if_pos c1]; exact ⟨_, rfl, fun h => by cases h⟩
  rw [if_neg c1]
  by_cases c2 : n < 0
  · rw [if_pos c2]; exact ⟨_, rfl, fun h => by cases h⟩
  rw [if_neg c2]
  by_cases c3 : n > 1048576
  · rw [if_pos (decide_eq_true c3)]; exact ⟨_, rfl, fun h => by cases h⟩
  rw [if_neg (by simp; omega)]
  obtain ⟨b, hb, hs⟩ := fits_run l n (by omega) hw k 0 (by omega) (by omega) (fun j hj => absurd hj (by omega))
  exact ⟨b, hb, fun h => ⟨by omega, by omega, hs h⟩⟩
theorem same_run (l : List S33) (hlen : l.length ≤ 1000000) : ∀ (k i : Nat), l.length < i + k → i ≤ l.length → frisketref07_Same.l0 k l l (i : Int) = some true
  | 0, i, h1, h2 => absurd h1 (by omega)
  | k + 1, i, h1, h2 => by
    simp only [frisketref07_Same.l0]
    by_cases h : i < l.length
    · rw [if_pos (by omega), if_pos (by omega), if_pos (by omega)]
      rw [if_neg (by simp)]
      have hn1 : wrap64 ((i : Int) + 1) = ((i + 1 : Nat) : Int) := by rw [w64 _ ⟨by omega, by omega⟩]; omega
      rw [hn1]
      exact same_run l hlen k (i + 1) (by omega) (by omega)
    · rw [if_neg (by omega)]
theorem same_all (l : List S33) (hlen : l.length ≤ 1000000) (k : Nat) (hk : l.length < k) : frisketref07_Same.f k l l = some true := by
  unfold frisketref07_Same.f
  rw [if_pos rfl]
  exact same_run l hlen k 0 (by omega) (by omega)
end Go.Proofs.Ytdkblhfcndafaaa.X
