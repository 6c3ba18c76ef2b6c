/- Plain laws: the library's stable sort leaves the list in order. -/
import Derived.Test.YtipejilcocafmaaYps3
namespace Go.Proofs.Ytipejilcocafmaa.X
open Go.Lib Go.Sort Go.Proofs
set_option linter.unusedVariables false
set_option linter.unusedSimpArgs false

theorem symGo_list : ∀ (f : Nat) (P L R Q : List U64) (a m b : Nat), Srt keyU L → Srt keyU R → 0 < L.length → 0 < R.length → a = P.length → m = a + L.length → b = m + R.length → b - a ≤ f →
    ∃ G, Srt keyU G ∧ Flt keyU (L ++ R) G ∧ G.length = L.length + R.length ∧ symGo f a m b (P ++ (L ++ (R ++ Q))).toArray = (P ++ (G ++ Q)).toArray
  | 0, P, L, R, Q, a, m, b, hL, hR, h1, h2, ha, hm, hb, hf => absurd hf (by omega)
  | f + 1, P, L, R, Q, a, m, b, hL, hR, h1, h2, ha, hm, hb, hf => by
    unfold symGo
    by_cases q1 : m - a = 1
    · rw [if_pos q1]
      match L, hL, h1, hm with
      | [x], _, _, hm' =>
        obtain ⟨G, g1, g2, g3, g4⟩ := merge_low R P Q x a m b hR ha (by simpa using hm') hb
        exact ⟨G, g1, g2, by simpa using g3, g4⟩
      | _ :: _ :: _, _, _, hm' => simp at hm'; omega
    rw [if_neg q1]
    by_cases q2 : b - m = 1
    · rw [if_pos q2]
      match R, hR, h2, hb with
      | [y], _, _, _ =>
        obtain ⟨G, g1, g2, g3, g4⟩ := merge_high L P Q y a m hL ha hm
        exact ⟨G, g1, g2, by simpa using g3, g4⟩
      | _ :: _ :: _, _, _, hb' => simp at hb'; omega
    rw [if_neg q2]
    dsimp only
    have hin := symAt_in a m b (P ++ (L ++ (R ++ Q))).toArray (by omega) (by omega)
    have hS0 : symAt a m b (P ++ (L ++ (R ++ Q))).toArray = bs (fun c => !(ltU (P ++ (L ++ (R ++ Q))).toArray[(a + b) / 2 + m - 1 - c]! (P ++ (L ++ (R ++ Q))).toArray[c]!)) (symHi a m b - symLo a m b) (symLo a m b) (symHi a m b) := rfl
    obtain ⟨e1, e2⟩ := bs_edge (fun c => !(ltU (P ++ (L ++ (R ++ Q))).toArray[(a + b) / 2 + m - 1 - c]! (P ++ (L ++ (R ++ Q))).toArray[c]!)) (symHi a m b - symLo a m b) (symLo a m b) (symHi a m b) hin.2.2.1 (Nat.le_refl _)
    rw [← hS0] at e1 e2
    clear hS0
    have hlo : symLo a m b = if m > (a + b) / 2 then (a + b) / 2 + m - b else a := rfl
    have hhi : symHi a m b = if m > (a + b) / 2 then (a + b) / 2 else m := rfl
    have getL : ∀ t (ht : t < L.length), (P ++ (L ++ (R ++ Q))).toArray[a + t]! = L[t] := fun t ht => get_in P L _ (a + t) t ht (by omega)
    have getR : ∀ t (ht : t < R.length), (P ++ (L ++ (R ++ Q))).toArray[m + t]! = R[t] := fun t ht => by
      have := get_in (P ++ L) R Q (m + t) t ht (by simp; omega)
      simpa using this
    generalize symAt a m b (P ++ (L ++ (R ++ Q))).toArray = S at *
    generalize symLo a m b = lo at *
    generalize symHi a m b = hi at *
    obtain ⟨M, hM⟩ : ∃ M, M = (a + b) / 2 := ⟨_, rfl⟩
    rw [← hM] at hin e1 e2 hlo hhi ⊢
    obtain ⟨i1, i2, i3, i4, i5, i6, i7⟩ := hin
    obtain ⟨s, hs⟩ : ∃ s, s = S - a := ⟨_, rfl⟩
    obtain ⟨e, he⟩ : ∃ e, e = M - S := ⟨_, rfl⟩
    have hsL : s ≤ L.length := by omega
    have heR : e ≤ R.length := by omega
    have hE : M + m - S = m + e := by omega
    rw [hE]
    have lL1 : (L.take s).length = s := by rw [List.length_take]; omega
    have lL2 : (L.drop s).length = L.length - s := List.length_drop ..
    have lR1 : (R.take e).length = e := by rw [List.length_take]; omega
    have lR2 : (R.drop e).length = R.length - e := List.length_drop ..
    -- the first part's begin is not behind the second part's end
    have A : ∀ x ∈ L.take s, ∀ y ∈ R.drop e, keyU x ≤ keyU y := by
      intro x hx y hy
      obtain ⟨i, hi', rfl⟩ := List.mem_take_iff_getElem.1 hx
      obtain ⟨j, hj, rfl⟩ := List.mem_drop_iff_getElem.1 hy
      have hlt : lo < S := by
        by_cases c : m > M
        · rw [if_pos c] at hlo; omega
        · rw [if_neg c] at hlo; omega
      have h3 := e1 hlt
      rw [show M + m - 1 - (S - 1) = m + e by omega, show S - 1 = a + (s - 1) by omega, getR e (by omega), getL (s - 1) (by omega), ltU_eq] at h3
      simp at h3
      have h4 := srt_le hL i (s - 1) (by omega) (by omega)
      have h5 := srt_le hR e (e + j) (by omega) (by omega)
      omega
    -- the second part's begin is ahead of the first part's end
    have B : ∀ x ∈ L.drop s, ∀ y ∈ R.take e, keyU y < keyU x := by
      intro x hx y hy
      obtain ⟨i, hi', rfl⟩ := List.mem_drop_iff_getElem.1 hx
      obtain ⟨j, hj, rfl⟩ := List.mem_take_iff_getElem.1 hy
      have hlt : S < hi := by
        by_cases c : m > M
        · rw [if_pos c] at hhi; omega
        · rw [if_neg c] at hhi; omega
      have h3 := e2 hlt
      rw [show M + m - 1 - S = m + (e - 1) by omega, show S = a + s by omega, getR (e - 1) (by omega), getL s (by omega), ltU_eq] at h3
      simp at h3
      have h4 := srt_le hL s (s + i) (by omega) (by omega)
      have h5 := srt_le hR j (e - 1) (by omega) (by omega)
      omega
    have hd1 : (if S < m ∧ m < m + e then rotGo m (m - S + (m + e - m)) (m - S) (m + e - m) (P ++ (L ++ (R ++ Q))).toArray else (P ++ (L ++ (R ++ Q))).toArray) = (P ++ (L.take s ++ (R.take e ++ (L.drop s ++ (R.drop e ++ Q))))).toArray := by
      have e0 : P ++ (L ++ (R ++ Q)) = (P ++ L.take s) ++ (L.drop s ++ (R.take e ++ (R.drop e ++ Q))) := by
        rw [← List.append_assoc (R.take e), List.take_append_drop, List.append_assoc P, ← List.append_assoc (L.take s), List.take_append_drop]
      by_cases c : S < m ∧ m < m + e
      · rw [if_pos c]
        have := rotGo_list (m - S + (m + e - m)) (L.drop s) (R.take e) (P ++ L.take s) (R.drop e ++ Q) m (by omega) (by omega) (by omega) (by simp; omega)
        rw [lL2, lR1] at this
        rw [e0, show m - S = L.length - s by omega, show m + e - m = e by omega]
        rw [show m - S = L.length - s by omega, show m + e - m = e by omega] at this
        rw [this]
        simp
      · rw [if_neg c, e0]
        by_cases c1 : S < m
        · have : e = 0 := by omega
          subst this
          simp
        · have : L.drop s = [] := List.eq_nil_of_length_eq_zero (by omega)
          rw [this]
          simp
    rw [hd1]
    -- the first half merged
    obtain ⟨G1, g11, g12, g13, g14⟩ : ∃ G, Srt keyU G ∧ Flt keyU (L.take s ++ R.take e) G ∧ G.length = s + e ∧ (if a < S ∧ S < M then symGo f a S M (P ++ (L.take s ++ (R.take e ++ (L.drop s ++ (R.drop e ++ Q))))).toArray else (P ++ (L.take s ++ (R.take e ++ (L.drop s ++ (R.drop e ++ Q))))).toArray) = (P ++ (G ++ (L.drop s ++ (R.drop e ++ Q)))).toArray := by
      by_cases c : a < S ∧ S < M
      · rw [if_pos c]
        obtain ⟨G, g1, g2, g3, g4⟩ := symGo_list f P (L.take s) (R.take e) (L.drop s ++ (R.drop e ++ Q)) a S M (srt_take hL s) (srt_take hR e) (by omega) (by omega) ha (by omega) (by omega) (by omega)
        exact ⟨G, g1, g2, by rw [g3, lL1, lR1], g4⟩
      · rw [if_neg c]
        refine ⟨L.take s ++ R.take e, ?_, Flt.refl _ _, by rw [List.length_append, lL1, lR1], by simp⟩
        by_cases c1 : a < S
        · have : e = 0 := by omega
          subst this
          rw [List.take_zero, List.append_nil]
          exact srt_take hL s
        · have : s = 0 := by omega
          subst this
          rw [List.take_zero, List.nil_append]
          exact srt_take hR e
    rw [g14]
    -- the second half merged
    obtain ⟨G2, g21, g22, g23, g24⟩ : ∃ G, Srt keyU G ∧ Flt keyU (L.drop s ++ R.drop e) G ∧ G.length = (L.length - s) + (R.length - e) ∧ (if M < m + e ∧ m + e < b then symGo f M (m + e) b (P ++ (G1 ++ (L.drop s ++ (R.drop e ++ Q)))).toArray else (P ++ (G1 ++ (L.drop s ++ (R.drop e ++ Q)))).toArray) = (P ++ (G1 ++ (G ++ Q))).toArray := by
      by_cases c : M < m + e ∧ m + e < b
      · rw [if_pos c]
        obtain ⟨G, g1, g2, g3, g4⟩ := symGo_list f (P ++ G1) (L.drop s) (R.drop e) Q M (m + e) b (srt_drop hL s) (srt_drop hR e) (by omega) (by omega) (by rw [List.length_append]; omega) (by omega) (by omega) (by omega)
        refine ⟨G, g1, g2, by rw [g3, lL2, lR2], ?_⟩
        rw [List.append_assoc, List.append_assoc] at g4
        exact g4
      · rw [if_neg c]
        refine ⟨L.drop s ++ R.drop e, ?_, Flt.refl _ _, by rw [List.length_append, lL2, lR2], by simp⟩
        by_cases c1 : M < m + e
        · have : R.drop e = [] := List.eq_nil_of_length_eq_zero (by omega)
          rw [this, List.append_nil]
          exact srt_drop hL s
        · have : L.drop s = [] := List.eq_nil_of_length_eq_zero (by omega)
          rw [this, List.nil_append]
          exact srt_drop hR e
    rw [g24]
    refine ⟨G1 ++ G2, srt_append g11 g21 ?_, ?_, by rw [List.length_append]; omega, by simp⟩
    · intro x hx y hy
      rcases List.mem_append.1 (g12.mem hx) with hx | hx <;> rcases List.mem_append.1 (g22.mem hy) with hy | hy
      · exact srt_cross hL s x hx y hy
      · exact A x hx y hy
      · exact Int.le_of_lt (B y hy x hx)
      · exact srt_cross hR e x hx y hy
    · have h3 : Flt keyU (L.drop s ++ R.take e) (R.take e ++ L.drop s) := flt_swap fun x hx y hy => by
        have := B x hx y hy
        omega
      have h4 := ((Flt.refl keyU (L.take s)).append h3).append (Flt.refl keyU (R.drop e))
      have e5 : L.take s ++ (L.drop s ++ R.take e) ++ R.drop e = L ++ R := by
        rw [← List.append_assoc, List.take_append_drop, List.append_assoc, List.take_append_drop]
      have e6 : L.take s ++ (R.take e ++ L.drop s) ++ R.drop e = (L.take s ++ R.take e) ++ (L.drop s ++ R.drop e) := by simp
      rw [e5, e6] at h4
      exact h4.trans (g12.append g22)
/-! The insertion sort of a part. -/
theorem insInner_list : ∀ (R P Q : List U64) (x : U64) (j : Nat), j = P.length + R.length → insInner (ltOf cfU) P.length j (P ++ (R.reverse ++ x :: Q)).toArray = (P ++ ((insV keyU x R).reverse ++ Q)).toArray
  | [], P, Q, x, j, hj => by
    rw [insInner_stop _ _ _ _ (Or.inl (by simp at hj; omega))]
    simp [insV]
  | y :: R, P, Q, x, j, hj => by
    rw [List.length_cons] at hj
    have ex : (P ++ ((y :: R).reverse ++ x :: Q)).toArray[j]! = x := by
      have := get_at (P ++ (y :: R).reverse) Q x j (by simp; omega)
      simpa using this
    have ey : (P ++ ((y :: R).reverse ++ x :: Q)).toArray[j - 1]! = y := by
      have := get_at (P ++ R.reverse) (x :: Q) y (j - 1) (by simp; omega)
      simpa using this
    have el : ltOf cfU x y = decide (keyU x < keyU y) := ltU_eq x y
    by_cases c : keyU x < keyU y
    · rw [insInner_go _ _ _ _ (by omega) (by rw [ex, ey, el]; exact decide_eq_true c)]
      have e := swp_at' (P ++ R.reverse) [] Q y x (j - 1) j (by simp; omega) (by simp; omega)
      have e1 : P ++ ((y :: R).reverse ++ x :: Q) = (P ++ R.reverse) ++ y :: ([] ++ x :: Q) := by simp
      have e2 : (P ++ R.reverse) ++ x :: ([] ++ y :: Q) = P ++ (R.reverse ++ x :: (y :: Q)) := by simp
      rw [e1, e, e2, insInner_list R P (y :: Q) x (j - 1) (by omega)]
      rw [show insV keyU x (y :: R) = y :: insV keyU x R from if_pos c]
      simp
    · rw [insInner_stop _ _ _ _ (Or.inr (by rw [ex, ey, el]; exact decide_eq_false c))]
      rw [show insV keyU x (y :: R) = x :: y :: R from if_neg c]
      simp
theorem insOuter_list : ∀ (T A P Q : List U64) (i b : Nat), i = P.length + A.length → b = i + T.length → insOuter (ltOf cfU) P.length b i (P ++ (A ++ (T ++ Q))).toArray = (P ++ (T.foldl (insR keyU) A ++ Q)).toArray
  | [], A, P, Q, i, b, hi, hb => by rw [insOuter_stop _ _ _ _ _ (by simp at hb; omega)]; simp
  | t :: T, A, P, Q, i, b, hi, hb => by
    rw [List.length_cons] at hb
    rw [insOuter_go _ _ _ _ _ (by omega)]
    have := insInner_list A.reverse P (T ++ Q) t i (by simp; omega)
    rw [List.reverse_reverse] at this
    rw [show A ++ (t :: T ++ Q) = A ++ t :: (T ++ Q) from rfl, this]
    have hl : (insR keyU A t).length = A.length + 1 := by
      have h := this
      have := congrArg Array.size h
      rw [insInner_sz] at this
      simp at this
      unfold insR
      rw [List.length_reverse]
      omega
    exact insOuter_list T (insR keyU A t) P Q (i + 1) b (by omega) (by omega)
theorem insertion_list (X P Q : List U64) (b : Nat) (hb : b = P.length + X.length) :
    ∃ G, Srt keyU G ∧ Flt keyU X G ∧ G.length = X.length ∧ Sort.insertionSort (ltOf cfU) (P ++ (X ++ Q)).toArray P.length b = (P ++ (G ++ Q)).toArray := by
  cases X with
  | nil =>
    refine ⟨[], List.Pairwise.nil, Flt.refl _ _, rfl, ?_⟩
    unfold Sort.insertionSort
    rw [insOuter_stop _ _ _ _ _ (by simp at hb; omega)]
  | cons x T =>
    obtain ⟨h1, h2⟩ := insAll (key := keyU) T [x] (List.pairwise_singleton _ _)
    have h3 := insOuter_list T [x] P Q (P.length + 1) b (by simp) (by simp at hb; omega)
    refine ⟨T.foldl (insR keyU) [x], h1, h2, ?_, h3⟩
    have := congrArg Array.size h3
    rw [insOuter_sz _ _ _ _ _ (Nat.le_refl _)] at this
    simp at this
    simp
    omega
end Go.Proofs.Ytipejilcocafmaa.X
