/- Plain laws: the library's merge in place leaves the two parts merged. -/
import Derived.Test.YtipejilcocafmaaYps2
namespace Go.Proofs.Ytipejilcocafmaa.X
open Go.Lib Go.Sort Go.Proofs
set_option linter.unusedVariables false
set_option linter.unusedSimpArgs false

theorem bs_edge (p : Nat → Bool) : ∀ f i j, i ≤ j → j - i ≤ f → (i < bs p f i j → p (bs p f i j - 1) = true) ∧ (bs p f i j < j → p (bs p f i j) = false)
  | 0, i, j, hij, hf => by
    have : i = j := by omega
    subst this
    exact ⟨fun h => absurd h (Nat.lt_irrefl _), fun h => absurd h (Nat.lt_irrefl _)⟩
  | f + 1, i, j, hij, hf => by
    unfold bs
    by_cases c : i < j
    · rw [if_pos c]
      by_cases c2 : p ((i + j) / 2) = true
      · rw [if_pos c2]
        obtain ⟨h1, h2⟩ := bs_edge p f ((i + j) / 2 + 1) j (by omega) (by omega)
        have h3 := (bs_le p f ((i + j) / 2 + 1) j (by omega)).1
        generalize bs p f ((i + j) / 2 + 1) j = s at *
        refine ⟨fun _ => ?_, h2⟩
        by_cases e : (i + j) / 2 + 1 < s
        · exact h1 e
        · rw [show s - 1 = (i + j) / 2 by omega]; exact c2
      · rw [if_neg c2]
        obtain ⟨h1, h2⟩ := bs_edge p f i ((i + j) / 2) (by omega) (by omega)
        have h3 := (bs_le p f i ((i + j) / 2) (by omega)).2
        generalize bs p f i ((i + j) / 2) = s at *
        refine ⟨h1, fun _ => ?_⟩
        by_cases e : s < (i + j) / 2
        · exact h2 e
        · rw [show s = (i + j) / 2 by omega]; simpa using c2
    · rw [if_neg c]
      exact ⟨fun h => absurd h (Nat.lt_irrefl _), fun h => absurd h c⟩
theorem get_in (P X Q : List U64) (i t : Nat) (ht : t < X.length) (hi : i = P.length + t) : (P ++ (X ++ Q)).toArray[i]! = X[t] := by
  subst hi
  rw [getElem!_pos _ _ (by simp; omega)]
  simp [List.getElem_append, ht]
theorem srt_le {l : List U64} (h : Srt keyU l) (i j : Nat) (hij : i ≤ j) (hj : j < l.length) : keyU l[i] ≤ keyU l[j] := by
  by_cases e : i = j
  · subst e; exact Int.le_refl _
  · exact List.pairwise_iff_getElem.1 h i j (by omega) hj (by omega)
theorem take_lt {R : List U64} (h : Srt keyU R) (c : Nat) (hc : c ≤ R.length) (K : Int) (hk : ∀ h0 : 0 < c, keyU (R[c - 1]'(by omega)) < K) : ∀ x ∈ R.take c, keyU x < K := by
  intro x hx
  obtain ⟨i, hi, rfl⟩ := List.mem_take_iff_getElem.1 hx
  have h0 : 0 < c := by omega
  have := srt_le h i (c - 1) (by omega) (by omega)
  have := hk h0
  omega
theorem take_le {R : List U64} (h : Srt keyU R) (c : Nat) (hc : c ≤ R.length) (K : Int) (hk : ∀ h0 : 0 < c, keyU (R[c - 1]'(by omega)) ≤ K) : ∀ x ∈ R.take c, keyU x ≤ K := by
  intro x hx
  have := take_lt h c hc (K + 1) (fun h0 => by have := hk h0; omega) x hx
  omega
theorem drop_lt {R : List U64} (h : Srt keyU R) (c : Nat) (K : Int) (hk : ∀ h0 : c < R.length, K < keyU R[c]) : ∀ x ∈ R.drop c, K < keyU x := by
  intro x hx
  obtain ⟨i, hi, rfl⟩ := List.mem_drop_iff_getElem.1 hx
  have h0 : c < R.length := by omega
  have := srt_le h c (c + i) (by omega) (by omega)
  have := hk h0
  omega
theorem drop_le {R : List U64} (h : Srt keyU R) (c : Nat) (K : Int) (hk : ∀ h0 : c < R.length, K ≤ keyU R[c]) : ∀ x ∈ R.drop c, K ≤ keyU x := by
  intro x hx
  have := drop_lt h c (K - 1) (fun h0 => by have := hk h0; omega) x hx
  omega
theorem srt_take {l : List U64} (h : Srt keyU l) (c : Nat) : Srt keyU (l.take c) := List.Pairwise.sublist (List.take_sublist c l) h
theorem srt_drop {l : List U64} (h : Srt keyU l) (c : Nat) : Srt keyU (l.drop c) := List.Pairwise.sublist (List.drop_sublist c l) h
theorem srt_cross {l : List U64} (h : Srt keyU l) (c : Nat) : ∀ x ∈ l.take c, ∀ y ∈ l.drop c, keyU x ≤ keyU y := by
  have := h
  rw [← List.take_append_drop c l] at this
  exact (List.pairwise_append.1 this).2.2
theorem merge_low (R P Q : List U64) (x : U64) (a m b : Nat) (hR : Srt keyU R) (ha : a = P.length) (hm : m = a + 1) (hb : b = m + R.length) :
    ∃ G, Srt keyU G ∧ Flt keyU ([x] ++ R) G ∧ G.length = 1 + R.length ∧ upGo a (lowAt a m b (P ++ ([x] ++ (R ++ Q))).toArray - 1 - a) (P ++ ([x] ++ (R ++ Q))).toArray = (P ++ (G ++ Q)).toArray := by
  have hle := bs_le (fun h => ltU (P ++ ([x] ++ (R ++ Q))).toArray[h]! (P ++ ([x] ++ (R ++ Q))).toArray[a]!) (b - m) m b (by omega)
  obtain ⟨e1, e2⟩ := bs_edge (fun h => ltU (P ++ ([x] ++ (R ++ Q))).toArray[h]! (P ++ ([x] ++ (R ++ Q))).toArray[a]!) (b - m) m b (by omega) (by omega)
  have hx : (P ++ ([x] ++ (R ++ Q))).toArray[a]! = x := get_at P (R ++ Q) x a ha
  unfold lowAt
  rw [hx] at hle e1 e2 ⊢
  generalize bs (fun h => ltU (P ++ ([x] ++ (R ++ Q))).toArray[h]! x) (b - m) m b = I at *
  have hget : ∀ t (ht : t < R.length), (P ++ ([x] ++ (R ++ Q))).toArray[m + t]! = R[t] := by
    intro t ht
    have := get_in (P ++ [x]) R Q (m + t) t ht (by simp; omega)
    simpa using this
  obtain ⟨c, hc⟩ : ∃ c, c = I - m := ⟨_, rfl⟩
  have hc1 : c ≤ R.length := by omega
  have k1 : ∀ y ∈ R.take c, keyU y < keyU x := take_lt hR c hc1 _ fun h0 => by
    have := e1 (by omega)
    rw [show I - 1 = m + (c - 1) by omega, hget (c - 1) (by omega), ltU_iff] at this
    exact this
  have k2 : ∀ y ∈ R.drop c, keyU x ≤ keyU y := drop_le hR c _ fun h0 => by
    have := e2 (by omega)
    rw [show I = m + c by omega, hget c h0, ltU_eq, decide_eq_false_iff_not] at this
    omega
  refine ⟨R.take c ++ x :: R.drop c, ?_, ?_, ?_, ?_⟩
  · refine srt_append (srt_take hR c) (List.pairwise_cons.2 ⟨k2, srt_drop hR c⟩) fun y hy z hz => ?_
    rcases List.mem_cons.1 hz with rfl | hz
    · exact Int.le_of_lt (k1 y hy)
    · exact srt_cross hR c y hy z hz
  · have h1 : Flt keyU ([x] ++ R.take c) (R.take c ++ [x]) := flt_swap fun y hy z hz => by
      simp at hy; subst hy
      have := k1 z hz
      omega
    have h2 := h1.append (Flt.refl keyU (R.drop c))
    rw [List.append_assoc, List.take_append_drop, List.append_assoc] at h2
    exact h2
  · rw [List.length_append, List.length_cons, List.length_take, List.length_drop]; omega
  · have l1 : (R.take c).length = c := by rw [List.length_take]; omega
    have := upGo_list (R.take c) P (R.drop c ++ Q) x a ha
    rw [l1] at this
    rw [show I - 1 - a = c by omega]
    have e3 : P ++ ([x] ++ (R ++ Q)) = P ++ (x :: (R.take c ++ (R.drop c ++ Q))) := by
      rw [← List.append_assoc (R.take c), List.take_append_drop]; rfl
    rw [e3, this]
    simp
theorem merge_high (L P Q : List U64) (y : U64) (a m : Nat) (hL : Srt keyU L) (ha : a = P.length) (hm : m = a + L.length) :
    ∃ G, Srt keyU G ∧ Flt keyU (L ++ [y]) G ∧ G.length = L.length + 1 ∧ dnGo m (m - hiAt a m (P ++ (L ++ ([y] ++ Q))).toArray) (P ++ (L ++ ([y] ++ Q))).toArray = (P ++ (G ++ Q)).toArray := by
  have hle := bs_le (fun h => !(ltU (P ++ (L ++ ([y] ++ Q))).toArray[m]! (P ++ (L ++ ([y] ++ Q))).toArray[h]!)) (m - a) a m (by omega)
  obtain ⟨e1, e2⟩ := bs_edge (fun h => !(ltU (P ++ (L ++ ([y] ++ Q))).toArray[m]! (P ++ (L ++ ([y] ++ Q))).toArray[h]!)) (m - a) a m (by omega) (by omega)
  have hy : (P ++ (L ++ ([y] ++ Q))).toArray[m]! = y := by
    have := get_at (P ++ L) Q y m (by simp; omega)
    simpa using this
  unfold hiAt
  rw [hy] at hle e1 e2 ⊢
  generalize bs (fun h => !(ltU y (P ++ (L ++ ([y] ++ Q))).toArray[h]!)) (m - a) a m = I at *
  have hget : ∀ t (ht : t < L.length), (P ++ (L ++ ([y] ++ Q))).toArray[a + t]! = L[t] := fun t ht => get_in P L _ (a + t) t ht (by omega)
  obtain ⟨c, hc⟩ : ∃ c, c = I - a := ⟨_, rfl⟩
  have hc1 : c ≤ L.length := by omega
  have k1 : ∀ x ∈ L.take c, keyU x ≤ keyU y := take_le hL c hc1 _ fun h0 => by
    have := e1 (by omega)
    rw [show I - 1 = a + (c - 1) by omega, hget (c - 1) (by omega), ltU_eq] at this
    simp at this
    exact this
  have k2 : ∀ x ∈ L.drop c, keyU y < keyU x := drop_lt hL c _ fun h0 => by
    have := e2 (by omega)
    rw [show I = a + c by omega, hget c h0, ltU_eq] at this
    simp at this
    exact this
  refine ⟨L.take c ++ y :: L.drop c, ?_, ?_, ?_, ?_⟩
  · refine srt_append (srt_take hL c) (List.pairwise_cons.2 ⟨fun z hz => Int.le_of_lt (k2 z hz), srt_drop hL c⟩) fun x hx z hz => ?_
    rcases List.mem_cons.1 hz with rfl | hz
    · exact k1 x hx
    · exact srt_cross hL c x hx z hz
  · have h1 : Flt keyU (L.drop c ++ [y]) ([y] ++ L.drop c) := flt_swap fun x hx z hz => by
      simp at hz; subst hz
      have := k2 x hx
      omega
    have h2 := (Flt.refl keyU (L.take c)).append h1
    rw [← List.append_assoc, List.take_append_drop] at h2
    exact h2
  · rw [List.length_append, List.length_cons, List.length_take, List.length_drop]; omega
  · have l2 : (L.drop c).reverse.length = m - I := by rw [List.length_reverse, List.length_drop]; omega
    have := dnGo_list (L.drop c).reverse (P ++ L.take c) Q y m (by rw [l2, List.length_append, List.length_take]; omega)
    rw [l2, List.reverse_reverse] at this
    have e3 : P ++ (L ++ ([y] ++ Q)) = (P ++ L.take c) ++ (L.drop c ++ y :: Q) := by
      rw [List.append_assoc, ← List.append_assoc (L.take c), List.take_append_drop]; rfl
    rw [e3, this]
    simp
end Go.Proofs.Ytipejilcocafmaa.X
