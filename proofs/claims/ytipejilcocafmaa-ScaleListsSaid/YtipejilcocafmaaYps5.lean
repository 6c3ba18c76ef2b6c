/- Plain laws: the library's stable sort of up to 60 numbers is the list in order; so is the document's own. -/
import Derived.Test.YtipejilcocafmaaYps4
import Derived.Test.YtipejilcocafmaaYcol
namespace Go.Proofs.Ytipejilcocafmaa.X
open Go.Lib Go.Sort Go.Proofs
set_option linter.unusedVariables false
set_option linter.unusedSimpArgs false

/-- Sorted parts of one length. -/
def Cks (k : Nat) (ls : List (List U64)) : Prop := ∀ l ∈ ls, l.length = k ∧ Srt keyU l
theorem Cks.flat {k : Nat} : ∀ {ls : List (List U64)}, Cks k ls → ls.flatten.length = ls.length * k
  | [], _ => by simp
  | l :: ls, h => by
    have h1 := (h l (List.mem_cons_self ..)).1
    have h2 := Cks.flat (ls := ls) fun l hl => h l (List.mem_cons_of_mem _ hl)
    rw [List.flatten_cons, List.length_append, h1, h2, List.length_cons, Nat.add_mul, Nat.one_mul, Nat.add_comm]
theorem Cks.snoc {k : Nat} {ls : List (List U64)} {l : List U64} (h : Cks k ls) (hl : l.length = k ∧ Srt keyU l) : Cks k (ls ++ [l]) := by
  intro m hm
  rcases List.mem_append.1 hm with hm | hm
  · exact h m hm
  · simp at hm; subst hm; exact hl
theorem blk1_list : ∀ (f : Nat) (ls : List (List U64)) (T : List U64) (n : Nat), Cks 20 ls → n = ls.flatten.length + T.length → T.length ≤ f →
    ∃ ls' T', blk1 n f ls.flatten.length (ls.flatten ++ T).toArray = (ls'.flatten ++ T').toArray ∧ Cks 20 ls' ∧ Srt keyU T' ∧ T'.length ≤ 20 ∧ Flt keyU (ls.flatten ++ T) (ls'.flatten ++ T') ∧ n = ls'.flatten.length + T'.length
  | f, ls, T, n, hc, hn, hf => by
    by_cases c : ls.flatten.length + 20 ≤ n
    · obtain ⟨f, rfl⟩ : ∃ g, f = g + 1 := ⟨f - 1, by omega⟩
      unfold blk1
      rw [if_pos c]
      have l1 : (T.take 20).length = 20 := by rw [List.length_take]; omega
      obtain ⟨G, g1, g2, g3, g4⟩ := insertion_list (T.take 20) ls.flatten (T.drop 20) (ls.flatten.length + 20) (by rw [l1])
      rw [List.take_append_drop] at g4
      rw [g4]
      have e1 : ls.flatten ++ (G ++ T.drop 20) = (ls ++ [G]).flatten ++ T.drop 20 := by simp
      have e2 : ls.flatten.length + 20 = (ls ++ [G]).flatten.length := by simp; omega
      rw [e1, e2]
      obtain ⟨ls', T', r1, r2, r3, r4, r5, r6⟩ := blk1_list f (ls ++ [G]) (T.drop 20) n (hc.snoc ⟨by omega, g1⟩) (by rw [← e2, List.length_drop]; omega) (by rw [List.length_drop]; omega)
      refine ⟨ls', T', r1, r2, r3, r4, Flt.trans ?_ r5, r6⟩
      rw [← e1]
      have := (Flt.refl keyU ls.flatten).append (g2.append (Flt.refl keyU (T.drop 20)))
      rwa [List.take_append_drop] at this
    · have h : blk1 n f ls.flatten.length (ls.flatten ++ T).toArray = Sort.insertionSort (ltOf cfU) (ls.flatten ++ T).toArray ls.flatten.length n := by
        cases f with
        | zero => rfl
        | succ f => unfold blk1; rw [if_neg c]
      obtain ⟨G, g1, g2, g3, g4⟩ := insertion_list T ls.flatten [] n hn
      rw [List.append_nil, List.append_nil] at g4
      rw [h, g4]
      exact ⟨ls, G, rfl, hc, g1, by omega, (Flt.refl keyU _).append g2, by omega⟩
theorem mrg_list (k : Nat) (hk : 0 < k) : ∀ (f : Nat) (ms ls : List (List U64)) (T : List U64) (n : Nat), Cks (2 * k) ms → Cks k ls → Srt keyU T → T.length ≤ k → n = ms.flatten.length + (ls.flatten.length + T.length) → n ≤ ms.flatten.length + f →
    ∃ ms' T', mrg n k f ms.flatten.length (ms.flatten ++ (ls.flatten ++ T)).toArray = (ms'.flatten ++ T').toArray ∧ Cks (2 * k) ms' ∧ Srt keyU T' ∧ T'.length ≤ 2 * k ∧ Flt keyU (ms.flatten ++ (ls.flatten ++ T)) (ms'.flatten ++ T') ∧ n = ms'.flatten.length + T'.length
  | f, ms, ls, T, n, hm, hl, hT, hTk, hn, hf => by
    have stop : ¬ ms.flatten.length + 2 * k ≤ n → mrg n k f ms.flatten.length (ms.flatten ++ (ls.flatten ++ T)).toArray = if ms.flatten.length + k < n then symGo n ms.flatten.length (ms.flatten.length + k) n (ms.flatten ++ (ls.flatten ++ T)).toArray else (ms.flatten ++ (ls.flatten ++ T)).toArray := by
      intro c
      cases f with
      | zero => rfl
      | succ f => unfold mrg; rw [if_neg c]
    match ls, hl with
    | [], _ =>
      rw [List.flatten_nil, List.nil_append] at *
      rw [List.length_nil, Nat.zero_add] at hn
      rw [stop (by omega), if_neg (by omega)]
      exact ⟨ms, T, rfl, hm, hT, by omega, Flt.refl _ _, hn⟩
    | [l], hl =>
      have h1 := hl l (List.mem_cons_self ..)
      rw [show ([l] : List (List U64)).flatten = l by simp] at *
      by_cases c : ms.flatten.length + 2 * k ≤ n
      · obtain ⟨f, rfl⟩ : ∃ g, f = g + 1 := ⟨f - 1, by omega⟩
        unfold mrg
        rw [if_pos c]
        obtain ⟨G, g1, g2, g3, g4⟩ := symGo_list n ms.flatten l T [] ms.flatten.length (ms.flatten.length + k) (ms.flatten.length + 2 * k) h1.2 hT (by omega) (by omega) rfl (by omega) (by omega) (by omega)
        rw [List.append_nil, List.append_nil] at g4
        rw [g4]
        have e1 : ms.flatten ++ G = (ms ++ [G]).flatten ++ (([] : List (List U64)).flatten ++ []) := by simp
        have e2 : ms.flatten.length + 2 * k = (ms ++ [G]).flatten.length := by simp; omega
        rw [e1, e2]
        obtain ⟨ms', T', r1, r2, r3, r4, r5, r6⟩ := mrg_list k hk f (ms ++ [G]) [] [] n (hm.snoc ⟨by omega, g1⟩) (fun _ h => by cases h) List.Pairwise.nil (by simp) (by rw [← e2, List.flatten_nil, List.length_nil]; omega) (by rw [← e2]; omega)
        refine ⟨ms', T', r1, r2, r3, r4, Flt.trans ?_ r5, r6⟩
        rw [← e1]
        exact (Flt.refl keyU ms.flatten).append g2
      · rw [stop c]
        by_cases c2 : ms.flatten.length + k < n
        · rw [if_pos c2]
          obtain ⟨G, g1, g2, g3, g4⟩ := symGo_list n ms.flatten l T [] ms.flatten.length (ms.flatten.length + k) n h1.2 hT (by omega) (by omega) rfl (by omega) (by omega) (by omega)
          rw [List.append_nil, List.append_nil] at g4
          rw [g4]
          exact ⟨ms, G, rfl, hm, g1, by omega, (Flt.refl keyU _).append g2, by omega⟩
        · rw [if_neg c2]
          have : T = [] := List.eq_nil_of_length_eq_zero (by omega)
          subst this
          rw [List.append_nil]
          exact ⟨ms, l, rfl, hm, h1.2, by omega, Flt.refl _ _, by simpa using hn⟩
    | l1 :: l2 :: ls, hl =>
      have h1 := hl l1 (List.mem_cons_self ..)
      have h2 := hl l2 (List.mem_cons_of_mem _ (List.mem_cons_self ..))
      have h3 : Cks k ls := fun l h => hl l (List.mem_cons_of_mem _ (List.mem_cons_of_mem _ h))
      have e0 : (l1 :: l2 :: ls).flatten ++ T = l1 ++ (l2 ++ (ls.flatten ++ T)) := by simp
      have e00 : (l1 :: l2 :: ls).flatten.length = k + (k + ls.flatten.length) := by simp; omega
      rw [e0]
      rw [e00] at hn
      obtain ⟨f, rfl⟩ : ∃ g, f = g + 1 := ⟨f - 1, by omega⟩
      unfold mrg
      rw [if_pos (by omega)]
      obtain ⟨G, g1, g2, g3, g4⟩ := symGo_list n ms.flatten l1 l2 (ls.flatten ++ T) ms.flatten.length (ms.flatten.length + k) (ms.flatten.length + 2 * k) h1.2 h2.2 (by omega) (by omega) rfl (by omega) (by omega) (by omega)
      rw [g4]
      have e1 : ms.flatten ++ (G ++ (ls.flatten ++ T)) = (ms ++ [G]).flatten ++ (ls.flatten ++ T) := by simp
      have e2 : ms.flatten.length + 2 * k = (ms ++ [G]).flatten.length := by simp; omega
      rw [e1, e2]
      obtain ⟨ms', T', r1, r2, r3, r4, r5, r6⟩ := mrg_list k hk f (ms ++ [G]) ls T n (hm.snoc ⟨by omega, g1⟩) h3 hT hTk (by rw [← e2]; omega) (by rw [← e2]; omega)
      refine ⟨ms', T', r1, r2, r3, r4, Flt.trans ?_ r5, r6⟩
      rw [← e1]
      have := (Flt.refl keyU ms.flatten).append (g2.append (Flt.refl keyU (ls.flatten ++ T)))
      rwa [List.append_assoc] at this
theorem ph2_list : ∀ (f k : Nat) (ls : List (List U64)) (T : List U64) (n : Nat), 0 < k → Cks k ls → Srt keyU T → T.length ≤ k → n = ls.flatten.length + T.length → n ≤ k + f →
    ∃ G, ph2 n f k (ls.flatten ++ T).toArray = G.toArray ∧ Srt keyU G ∧ Flt keyU (ls.flatten ++ T) G
  | f, k, ls, T, n, hk, hl, hT, hTk, hn, hf => by
    by_cases c : k < n
    · obtain ⟨f, rfl⟩ : ∃ g, f = g + 1 := ⟨f - 1, by omega⟩
      unfold ph2
      rw [if_pos c]
      obtain ⟨ms', T', r1, r2, r3, r4, r5, r6⟩ := mrg_list k hk n [] ls T n (fun _ h => by cases h) hl hT hTk (by simpa using hn) (by omega)
      rw [List.flatten_nil, List.nil_append] at r1 r5
      rw [List.length_nil] at r1
      rw [r1]
      obtain ⟨G, s1, s2, s3⟩ := ph2_list f (2 * k) ms' T' n (by omega) r2 r3 r4 r6 (by omega)
      exact ⟨G, s1, s2, r5.trans s3⟩
    · have h : ph2 n f k (ls.flatten ++ T).toArray = (ls.flatten ++ T).toArray := by
        cases f with
        | zero => rfl
        | succ f => unfold ph2; rw [if_neg c]
      refine ⟨ls.flatten ++ T, h, ?_, Flt.refl _ _⟩
      have hfl := hl.flat
      match ls, hl, hfl with
      | [], _, _ => simpa using hT
      | [l], hl, hfl =>
        have h1 := hl l (List.mem_cons_self ..)
        have : T = [] := List.eq_nil_of_length_eq_zero (by simp at hfl; simp at hn; omega)
        subst this
        simpa using h1.2
      | _ :: _ :: ls, _, hfl =>
        exfalso
        simp only [List.length_cons] at hfl
        have : (ls.length + 1 + 1) * k = ls.length * k + k + k := by rw [Nat.add_mul, Nat.add_mul, Nat.one_mul]
        have : 0 ≤ ls.length * k := Nat.zero_le _
        omega
theorem stabF_list (l : List U64) : ∃ G, stabF l.length l.toArray = G.toArray ∧ Srt keyU G ∧ Flt keyU l G := by
  unfold stabF
  obtain ⟨ls', T', r1, r2, r3, r4, r5, r6⟩ := blk1_list l.length [] l l.length (fun _ h => by cases h) (by simp) (Nat.le_refl _)
  rw [List.flatten_nil, List.nil_append, List.length_nil] at r1
  rw [List.flatten_nil, List.nil_append] at r5
  rw [r1]
  obtain ⟨G, s1, s2, s3⟩ := ph2_list l.length 20 ls' T' l.length (by omega) r2 r3 r4 r6 (by omega)
  exact ⟨G, s1, s2, r5.trans s3⟩
/-- What the library leaves is the list in order. -/
theorem sortedL_eq (l : List Int) : sortedL l = ((l.map toU).foldl (insR keyU) []).map (·.1) := by
  obtain ⟨G, s1, s2, s3⟩ := stabF_list (l.map toU)
  obtain ⟨h1, h2⟩ := insAll (key := keyU) (l.map toU) [] List.Pairwise.nil
  rw [List.nil_append] at h2
  have e : G = (l.map toU).foldl (insR keyU) [] := srt_one s2 h1 (s3.symm.trans h2)
  unfold sortedL
  rw [List.length_map] at s1
  rw [s1, e]
end Go.Proofs.Ytipejilcocafmaa.X
