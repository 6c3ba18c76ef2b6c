/- Plain laws: of right spans Insert and Delete answer as the document's own ones. -/
import Derived.Test.YtdkblhfcndafaaaYp3
import Derived.Test.YtdkblhfcndafaaaYins
import Derived.Test.YtdkblhfcndafaaaXf11
import Derived.Test.YtdkblhfcndafaaaXf13
namespace Go.Proofs.Ytdkblhfcndafaaa.X
open Go.RowKit Go.Proofs.YtdkblhfcndafaaaW.PrintWords Go.Proofs.YtdkblhfcndafaaaW.PrintLast Go.Proofs.YtdkblhfcndafaaaW.PrintMore
set_option linter.unusedVariables false
set_option linter.unusedSimpArgs false

theorem movedL_drop (f1 f2 : Int → Int) (l : List S33) (i : Nat) (h : i < l.length) : movedL f1 f2 (l.drop i) = movedOne f1 f2 (rd_T33 l (i : Int)) ++ movedL f1 f2 (l.drop (i + 1)) := by
  rw [List.drop_eq_getElem_cons h, rd_get l i h]
  rfl
theorem ins_run (l : List S33) (n a b : Int) (hr : rightL l n) (hn : n ≤ 1048576) (ha : 0 ≤ a ∧ a ≤ 1048576) (hb : 0 ≤ b ∧ b ≤ 1048576) : ∀ (k i : Nat) (acc : List S33), l.length + l.length < i + i + k → i ≤ l.length → acc.length ≤ i →
    frisketref07_Insert.l0 k l a b acc (i : Int) = some (acc ++ movedL (grownF a b) (grownF (wrap64 (a + 1)) b) (l.drop i))
  | 0, i, acc, h1, h2, _ => absurd h1 (by omega)
  | 1, i, acc, h1, h2, h3 => by
    simp only [frisketref07_Insert.l0]
    rw [if_neg (by omega), show i = l.length by omega, List.drop_length]
    simp [movedL]
  | k + 2, i, acc, h1, h2, h3 => by
    have hlen := hr.1
    simp only [frisketref07_Insert.l0]
    by_cases h : i < l.length
    · rw [if_pos (by omega), if_pos (by omega)]
      have hg := hr.2.1 i h
      have ih := ins_run l n a b hr hn ha hb k (i + 1)
      rw [movedL_drop _ _ l i h]
      have hn1 : wrap64 ((i : Int) + 1) = ((i + 1 : Nat) : Int) := by rw [w64 _ ⟨by omega, by omega⟩]; omega
      generalize rd_T33 l (i : Int) = s at hg ⊢
      obtain ⟨g0, g1, g2, g3, g4, _, _⟩ := hg
      obtain ⟨s0, s1, s2, s3, s4, s5⟩ := s
      dsimp only at g0 g1 g2 g3 g4 ⊢
      simp only [frisketref07_Insert.j2]
      have wa : wrap64 (a + 1) = a + 1 := w64 _ ⟨by omega, by omega⟩
      have w0 : wrap64 (s0 + b) = s0 + b := w64 _ ⟨by omega, by omega⟩
      have w1 : wrap64 (s1 + b) = s1 + b := w64 _ ⟨by omega, by omega⟩
      have w2 : wrap64 (s1 + b - s0) = s1 + b - s0 := w64 _ ⟨by omega, by omega⟩
      have w3 : wrap64 (s1 + b - (s0 + b)) = s1 - s0 := by rw [w64 _ ⟨by omega, by omega⟩]; omega
      have w4 : wrap64 (s1 - s0) = s1 - s0 := w64 _ ⟨by omega, by omega⟩
      have key : ∀ (m : List S33), m.length ≤ 1 → movedOne (grownF a b) (grownF (wrap64 (a + 1)) b) ⟨s0, s1, s2, s3, s4, s5⟩ = m → frisketref07_Insert.l0 k l a b (acc ++ m) ((i + 1 : Nat) : Int) = some (acc ++ (movedOne (grownF a b) (grownF (wrap64 (a + 1)) b) ⟨s0, s1, s2, s3, s4, s5⟩ ++ movedL (grownF a b) (grownF (wrap64 (a + 1)) b) (l.drop (i + 1)))) := by
        intro m hm he
        rw [he, ih (acc ++ m) (by omega) (by omega) (by rw [List.length_append]; omega), List.append_assoc]
      have key0 : movedOne (grownF a b) (grownF (wrap64 (a + 1)) b) ⟨s0, s1, s2, s3, s4, s5⟩ = [] → frisketref07_Insert.l0 k l a b acc ((i + 1 : Nat) : Int) = some (acc ++ (movedOne (grownF a b) (grownF (wrap64 (a + 1)) b) ⟨s0, s1, s2, s3, s4, s5⟩ ++ movedL (grownF a b) (grownF (wrap64 (a + 1)) b) (l.drop (i + 1)))) := by
        intro he
        have := key [] (by simp) he
        rwa [List.append_nil] at this
      rw [hn1]
      have hacc : acc.length < 2513169434916 := by omega
      unfold movedOne grownF at key key0 ⊢
      dsimp only at key key0 ⊢
      rw [wa] at key key0 ⊢
      by_cases c1 : s0 ≥ a
      · rw [if_pos c1, if_pos (show s1 > a by omega)]
        rw [if_neg (show ¬ s0 < a by omega), if_neg (show ¬ s1 < a + 1 by omega), w0, w1] at key key0 ⊢
        rw [w3] at key key0 ⊢
        rw [if_pos (show s0 + b < s1 + b by omega)] at key key0 ⊢
        cases s3 with
        | true =>
          rw [if_pos (show (true = true) from rfl)] at key key0 ⊢
          rw [if_pos (show (true = true) from rfl)]
          have := (g3 rfl).1
          rw [if_pos (show s1 - s0 ≤ 4 by omega)] at key key0 ⊢
          rw [if_pos (show s1 - s0 ≤ 4 by omega), if_pos hacc]
          exact key _ (by simp) rfl
        | false =>
          rw [if_neg (show ¬ (false = true) by simp)] at key key0 ⊢
          rw [if_neg (show ¬ (false = true) by simp), if_pos hacc]
          exact key _ (by simp) rfl
      · rw [if_neg c1]
        rw [if_pos (show s0 < a by omega)] at key key0 ⊢
        by_cases c2 : s1 > a
        · rw [if_pos c2]
          rw [if_neg (show ¬ s1 < a + 1 by omega), w1] at key key0 ⊢
          rw [w2] at key key0 ⊢
          rw [if_pos (show s0 < s1 + b by omega)] at key key0 ⊢
          cases s3 with
          | true =>
            rw [if_pos (show (true = true) from rfl)] at key key0 ⊢
            rw [if_pos (show (true = true) from rfl)]
            by_cases c3 : s1 + b - s0 ≤ 4
            · rw [if_pos c3] at key key0 ⊢
              rw [if_pos c3, if_pos hacc]
              exact key _ (by simp) rfl
            · rw [if_neg c3] at key key0 ⊢
              rw [if_neg c3]
              exact key0 rfl
          | false =>
            rw [if_neg (show ¬ (false = true) by simp)] at key key0 ⊢
            rw [if_neg (show ¬ (false = true) by simp), if_pos hacc]
            exact key _ (by simp) rfl
        · rw [if_neg c2]
          rw [if_pos (show s1 < a + 1 by omega)] at key key0 ⊢
          rw [w4] at key key0 ⊢
          rw [if_pos g1] at key key0 ⊢
          cases s3 with
          | true =>
            rw [if_pos (show (true = true) from rfl)] at key key0 ⊢
            rw [if_pos (show (true = true) from rfl)]
            have := (g3 rfl).1
            rw [if_pos (show s1 - s0 ≤ 4 by omega)] at key key0 ⊢
            rw [if_pos (show s1 - s0 ≤ 4 by omega), if_pos hacc]
            exact key _ (by simp) rfl
          | false =>
            rw [if_neg (show ¬ (false = true) by simp)] at key key0 ⊢
            rw [if_neg (show ¬ (false = true) by simp), if_pos hacc]
            exact key _ (by simp) rfl
    · rw [if_neg (by omega), show i = l.length by omega, List.drop_length]
      simp [movedL]
theorem ins_all (l : List S33) (n a b : Int) (hr : rightL l n) (hn : n ≤ 1048576) (ha : a ≤ 1048576) (hb : b ≤ 1048576) (k : Nat) (hk : 200 ≤ k) :
    ∃ m, m.length ≤ 40 ∧ frisketref07_Insert.f k l a b = some m ∧ span_Insert.f l a b = some m := by
  have hlen := hr.1
  obtain ⟨k, rfl⟩ : ∃ q, k = q + 1 := ⟨k - 1, by omega⟩
  have hnil : frisketref07_Insert.j0 (k + 1) l a b true = some l := by
    simp only [frisketref07_Insert.j0]
    simp only [if_true, Option.bind_some, List.nil_append, List.length_nil]
    rw [if_pos (by omega)]
  unfold frisketref07_Insert.f span_Insert.f
  rw [if_pos (show l.length ≤ 1000000 by omega)]
  by_cases c1 : a < 0
  · rw [if_pos c1, if_pos c1]; exact ⟨l, hlen, hnil, rfl⟩
  rw [if_neg c1, if_neg c1]
  by_cases c2 : b < 0
  · rw [decide_eq_true c2, if_pos c2]; exact ⟨l, hlen, hnil, rfl⟩
  rw [if_neg c2, decide_eq_false c2]
  refine ⟨movedL (grownF a b) (grownF (wrap64 (a + 1)) b) l, Nat.le_trans (movedL_len _ _ l) hlen, ?_, rfl⟩
  simp only [frisketref07_Insert.j0]
  rw [if_neg (by simp)]
  exact ins_run l n a b hr hn ⟨by omega, ha⟩ ⟨by omega, hb⟩ k 0 [] (by omega) (by omega) (by simp)
theorem del_run (l : List S33) (n a b : Int) (hr : rightL l n) (hn : n ≤ 1048576) (ha : 0 ≤ a) (hab : a ≤ b) (hb : b ≤ 1048576) : ∀ (k i : Nat) (acc : List S33), l.length < i + k → i ≤ l.length → acc.length ≤ i →
    frisketref07_Delete.l0 k l a b acc (i : Int) = some (acc ++ movedL (backF a b) (backF a b) (l.drop i))
  | 0, i, acc, h1, h2, _ => absurd h1 (by omega)
  | k + 1, i, acc, h1, h2, h3 => by
    have hlen := hr.1
    simp only [frisketref07_Delete.l0]
    by_cases h : i < l.length
    · rw [if_pos (by omega), if_pos (by omega)]
      have hg := hr.2.1 i h
      have ih := del_run l n a b hr hn ha hab hb k (i + 1)
      rw [movedL_drop _ _ l i h]
      have hn1 : wrap64 ((i : Int) + 1) = ((i + 1 : Nat) : Int) := by rw [w64 _ ⟨by omega, by omega⟩]; omega
      generalize rd_T33 l (i : Int) = s at hg ⊢
      obtain ⟨g0, g1, g2, g3, g4, _, _⟩ := hg
      obtain ⟨s0, s1, s2, s3, s4, s5⟩ := s
      dsimp only at g0 g1 g2 g3 g4 ⊢
      have back : ∀ x : Int, 0 ≤ x → x ≤ 1048576 → wrap64 (x - mx (wrap64 (mn x b - a)) 0) = backF a b x ∧ 0 ≤ backF a b x ∧ backF a b x ≤ 1048576 := by
        intro x hx hx2
        unfold mn
        have hm : wrap64 ((if b < x then b else x) - a) = (if b < x then b else x) - a := w64 _ ⟨by split <;> omega, by split <;> omega⟩
        rw [hm]
        unfold mx backF
        have hm2 : wrap64 (b - a) = b - a := w64 _ ⟨by omega, by omega⟩
        rw [hm2]
        have hm3 : wrap64 (x - (b - a)) = x - (b - a) := w64 _ ⟨by omega, by omega⟩
        rw [hm3, w64 _ ⟨by (repeat' split) <;> omega, by (repeat' split) <;> omega⟩]
        refine ⟨?_, ?_, ?_⟩ <;> (repeat' split) <;> omega
      have mono : backF a b s1 - backF a b s0 ≤ s1 - s0 := by
        unfold backF
        have hm2 : wrap64 (b - a) = b - a := w64 _ ⟨by omega, by omega⟩
        rw [hm2]
        have hm3 : wrap64 (s0 - (b - a)) = s0 - (b - a) := w64 _ ⟨by omega, by omega⟩
        have hm4 : wrap64 (s1 - (b - a)) = s1 - (b - a) := w64 _ ⟨by omega, by omega⟩
        rw [hm3, hm4]
        (repeat' split) <;> omega
      obtain ⟨e0, l0, u0⟩ := back s0 (by omega) (by omega)
      obtain ⟨e1, l1, u1⟩ := back s1 (by omega) (by omega)
      rw [e0, e1, hn1]
      have w4 : wrap64 (backF a b s1 - backF a b s0) = backF a b s1 - backF a b s0 := w64 _ ⟨by omega, by omega⟩
      have hacc : acc.length < 2513169434916 := by omega
      unfold movedOne
      dsimp only
      rw [w4]
      by_cases c : backF a b s0 < backF a b s1
      · rw [if_pos c, if_pos c, if_pos hacc]
        have hb4 : (if s3 = true then (if backF a b s1 - backF a b s0 ≤ 4 then [(⟨backF a b s0, backF a b s1, s2, s3, s4, s5⟩ : S33)] else []) else [⟨backF a b s0, backF a b s1, s2, s3, s4, s5⟩]) = [⟨backF a b s0, backF a b s1, s2, s3, s4, s5⟩] := by
          by_cases c3 : s3 = true
          · rw [if_pos c3, if_pos (by have := (g3 c3).1; omega)]
          · rw [if_neg c3]
        rw [hb4, ih _ (by omega) (by omega) (by rw [List.length_append, List.length_singleton]; omega), List.append_assoc]
      · rw [if_neg c, if_neg c, ih _ (by omega) (by omega) (by omega), List.nil_append]
    · rw [if_neg (by omega), show i = l.length by omega, List.drop_length]
      simp [movedL]
theorem del_all (l : List S33) (n a b : Int) (hr : rightL l n) (hn : n ≤ 1048576) (hb : b ≤ 1048576) (k : Nat) (hk : 200 ≤ k) :
    ∃ m, m.length ≤ 40 ∧ frisketref07_Delete.f k l a b = some m ∧ span_Delete.f l a b = some m := by
  have hlen := hr.1
  obtain ⟨k, rfl⟩ : ∃ q, k = q + 1 := ⟨k - 1, by omega⟩
  have hnil : frisketref07_Delete.j0 (k + 1) l a b true = some l := by
    simp only [frisketref07_Delete.j0]
    simp only [if_true, Option.bind_some, List.nil_append, List.length_nil]
    rw [if_pos (by omega)]
  unfold frisketref07_Delete.f span_Delete.f
  rw [if_pos (show l.length ≤ 1000000 by omega)]
  by_cases c1 : a < 0
  · rw [if_pos c1, if_pos c1]; exact ⟨l, hlen, hnil, rfl⟩
  rw [if_neg c1, if_neg c1]
  by_cases c2 : a > b
  · rw [decide_eq_true c2, if_pos c2]; exact ⟨l, hlen, hnil, rfl⟩
  rw [if_neg c2, decide_eq_false c2]
  refine ⟨movedL (backF a b) (backF a b) l, Nat.le_trans (movedL_len _ _ l) hlen, ?_, rfl⟩
  simp only [frisketref07_Delete.j0]
  rw [if_neg (by simp)]
  exact del_run l n a b hr hn (by omega) (by omega) hb k 0 [] (by omega) (by omega) (by simp)
end Go.Proofs.Ytdkblhfcndafaaa.X
