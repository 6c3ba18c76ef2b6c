/- Plain laws: sorting by a key, each behind those that are not behind it: there is one such list. -/
import Derived.Test.YtipejilcocafmaaYord
import Derived.Test.YtipejilcocafmaaYsrt
namespace Go.Proofs.Ytipejilcocafmaa.X
open Go.Lib Go.Sort
set_option linter.unusedVariables false
set_option linter.unusedSimpArgs false

section
variable {α : Type} (key : α → Int)
def Srt (l : List α) : Prop := l.Pairwise (fun x y => key x ≤ key y)
/-- The same of each key, in the same order. -/
def Flt (l s : List α) : Prop := ∀ k : Int, s.filter (fun x => decide (key x = k)) = l.filter (fun x => decide (key x = k))
theorem Flt.refl (l : List α) : Flt key l l := fun _ => rfl
variable {key}
theorem Flt.trans {l s t : List α} (h : Flt key l s) (h' : Flt key s t) : Flt key l t := fun k => (h' k).trans (h k)
theorem Flt.symm {l s : List α} (h : Flt key l s) : Flt key s l := fun k => (h k).symm
theorem Flt.append {l s l' s' : List α} (h : Flt key l s) (h' : Flt key l' s') : Flt key (l ++ l') (s ++ s') := fun k => by rw [List.filter_append, List.filter_append, h k, h' k]
theorem Flt.mem {l s : List α} (h : Flt key l s) {x : α} (hx : x ∈ s) : x ∈ l := by
  have : x ∈ s.filter (fun y => decide (key y = key x)) := List.mem_filter.2 ⟨hx, by simp⟩
  rw [h] at this
  exact (List.mem_filter.1 this).1
theorem srt_one : ∀ {s t : List α}, Srt key s → Srt key t → Flt key s t → s = t
  | [], [], _, _, _ => rfl
  | [], b :: t, _, _, h => by have := h.mem (x := b) (List.mem_cons_self ..); cases this
  | a :: s, [], _, _, h => by have := h.symm.mem (x := a) (List.mem_cons_self ..); cases this
  | a :: s, b :: t, hs, ht, h => by
    have hs' := List.pairwise_cons.1 hs
    have ht' := List.pairwise_cons.1 ht
    have h1 : key a ≤ key b := by
      rcases List.mem_cons.1 (h.mem (x := b) (List.mem_cons_self ..)) with e | e
      · rw [e]; exact Int.le_refl _
      · exact hs'.1 _ e
    have h2 : key b ≤ key a := by
      rcases List.mem_cons.1 (h.symm.mem (x := a) (List.mem_cons_self ..)) with e | e
      · rw [e]; exact Int.le_refl _
      · exact ht'.1 _ e
    have hk : key a = key b := Int.le_antisymm h1 h2
    have hab := h (key a)
    rw [List.filter_cons_of_pos (by simpa using hk.symm), List.filter_cons_of_pos (by simp)] at hab
    obtain ⟨e1, e2⟩ := List.cons.inj hab
    subst e1
    refine congrArg _ (srt_one hs'.2 ht'.2 fun k => ?_)
    have := h k
    by_cases c : key b = k
    · rw [List.filter_cons_of_pos (by simp [c]), List.filter_cons_of_pos (by simp [c])] at this
      exact (List.cons.inj this).2
    · rw [List.filter_cons_of_neg (by simp [c]), List.filter_cons_of_neg (by simp [c])] at this
      exact this
/-- Two neighbours with no key in common change places. -/
theorem flt_swap {l m : List α} (h : ∀ x ∈ l, ∀ y ∈ m, key x ≠ key y) : Flt key (l ++ m) (m ++ l) := by
  intro k
  rw [List.filter_append, List.filter_append]
  by_cases c : ∃ x ∈ l, key x = k
  · obtain ⟨x, hx, rfl⟩ := c
    have : m.filter (fun y => decide (key y = key x)) = [] := by
      rw [List.filter_eq_nil_iff]
      intro y hy
      simp only [decide_eq_true_eq]
      exact fun e => h x hx y hy e.symm
    rw [this, List.append_nil, List.nil_append]
  · have : l.filter (fun y => decide (key y = k)) = [] := by
      rw [List.filter_eq_nil_iff]
      intro y hy
      simp only [decide_eq_true_eq]
      exact fun e => c ⟨y, hy, e⟩
    rw [this, List.append_nil, List.nil_append]
theorem srt_append {l m : List α} (hl : Srt key l) (hm : Srt key m) (h : ∀ x ∈ l, ∀ y ∈ m, key x ≤ key y) : Srt key (l ++ m) := List.pairwise_append.2 ⟨hl, hm, h⟩
variable (key)
/-- Put behind those that are not behind it: the list from its end. -/
def insV (x : α) : List α → List α
  | [] => [x]
  | y :: r => if key x < key y then y :: insV x r else x :: y :: r
def insR (l : List α) (x : α) : List α := (insV key x l.reverse).reverse
variable {key}
theorem insV_flt (x : α) : ∀ r : List α, Flt key (x :: r) (insV key x r)
  | [] => Flt.refl _ _
  | y :: r => by
    unfold insV
    split
    · rename_i h
      have h1 : Flt key (x :: y :: r) (y :: x :: r) := by
        have := flt_swap (key := key) (l := [x]) (m := [y]) (by intro a ha b hb; simp at ha hb; subst ha; subst hb; omega)
        exact Flt.append this (Flt.refl key r)
      exact h1.trans (Flt.append (Flt.refl key [y]) (insV_flt x r))
    · exact Flt.refl _ _
theorem insV_down (x : α) : ∀ r : List α, r.Pairwise (fun a b => key b ≤ key a) → (insV key x r).Pairwise (fun a b => key b ≤ key a)
  | [], _ => List.pairwise_singleton _ _
  | y :: r, h => by
    have h' := List.pairwise_cons.1 h
    unfold insV
    split
    · rename_i hxy
      refine List.pairwise_cons.2 ⟨fun z hz => ?_, insV_down x r h'.2⟩
      rcases List.mem_cons.1 ((insV_flt x r).mem hz) with e | e
      · rw [e]; omega
      · exact h'.1 z e
    · rename_i hxy
      refine List.pairwise_cons.2 ⟨fun z hz => ?_, h⟩
      rcases List.mem_cons.1 hz with e | e
      · rw [e]; omega
      · have := h'.1 z e; omega
theorem flt_reverse {l s : List α} (h : Flt key l s) : Flt key l.reverse s.reverse := fun k => by rw [List.filter_reverse, List.filter_reverse, h k]
theorem insR_flt (l : List α) (x : α) : Flt key (l ++ [x]) (insR key l x) := by
  have := flt_reverse (insV_flt (key := key) x l.reverse)
  rwa [List.reverse_cons, List.reverse_reverse] at this
theorem insR_srt (l : List α) (x : α) (h : Srt key l) : Srt key (insR key l x) := by
  unfold insR Srt
  rw [List.pairwise_reverse]
  exact insV_down x _ (List.pairwise_reverse.2 h)
theorem insAll : ∀ (l acc : List α), Srt key acc → Srt key (l.foldl (insR key) acc) ∧ Flt key (acc ++ l) (l.foldl (insR key) acc)
  | [], acc, h => ⟨h, by rw [List.append_nil]; exact Flt.refl _ _⟩
  | x :: l, acc, h => by
    obtain ⟨a, b⟩ := insAll l (insR key acc x) (insR_srt acc x h)
    refine ⟨a, ?_⟩
    have h1 : Flt key (acc ++ [x] ++ l) (insR key acc x ++ l) := Flt.append (insR_flt acc x) (Flt.refl key l)
    rw [List.append_assoc] at h1
    exact h1.trans b
end
end Go.Proofs.Ytipejilcocafmaa.X
