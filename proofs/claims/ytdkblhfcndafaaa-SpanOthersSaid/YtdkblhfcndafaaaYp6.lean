/- Plain laws: right spans as a list, what Right of the program answers of them, and what moving leaves right; SpanBack answers yes. -/
import Derived.Test.YtdkblhfcndafaaaYp3
import Derived.Test.YtdkblhfcndafaaaYins
import Derived.Test.YtdkblhfcndafaaaXf15
namespace Go.Proofs.Ytdkblhfcndafaaa.X
open Go.RowKit Go.Proofs.YtdkblhfcndafaaaW.PrintWords Go.Proofs.YtdkblhfcndafaaaW.PrintLast Go.Proofs.YtdkblhfcndafaaaW.PrintMore
set_option linter.unusedVariables false
set_option linter.unusedSimpArgs false

theorem inc_nat (i : Nat) (h : i < 1000000000000) : wrap64 ((i : Int) + 1) = ((i + 1 : Nat) : Int) := by rw [w64 _ ⟨by omega, by omega⟩]; omega
/-- A span that may be, wherever it stands. -/
def coreS (s : S33) : Prop := 0 ≤ s.f0 ∧ s.f0 < s.f1 ∧ (s.f3 = true → s.f1 - s.f0 ≤ 4 ∧ s.f4.toList = []) ∧ 0 ≤ s.f2 ∧ s.f2 ≤ 2 ∧ rubyF s.f4 = true ∧ s.f4.size ≤ 200 ∧ (s.f5 = 0 ∨ ((cellsF s.f5.toNat).2 = 0 ∧ ¬ (cellsF s.f5.toNat).1 = 0))
/-- Right spans, from lo on, up to n. -/
def okL : Int → Int → List S33 → Prop
  | _, _, [] => True
  | lo, n, s :: l => coreS s ∧ lo ≤ s.f0 ∧ s.f1 ≤ n ∧ okL s.f1 n l
theorem okL_less {lo lo' n : Int} (h : lo ≤ lo') : ∀ {l : List S33}, okL lo' n l → okL lo n l
  | [], _ => trivial
  | _ :: _, ⟨a, b, c, d⟩ => ⟨a, by omega, c, d⟩
theorem fits_size_run (l : List S33) (n : Int) : ∀ (k i : Nat), i ≤ l.length → l.length ≤ 60 → frisketlaw07_Fits.l0 k l n (i : Int) = some true → ∀ j, i ≤ j → j < l.length → (rd_T33 l (j : Int)).f4.size ≤ 200
  | 0, i, _, _, h => by simp [frisketlaw07_Fits.l0] at h
  | k + 1, i, hi, hl, h => by
    intro j hj1 hj2
    simp only [frisketlaw07_Fits.l0] at h
    have hlt : i < l.length := by omega
    rw [if_pos (by omega), if_pos (by omega)] at h
    by_cases c : ((rd_T33 l (i : Int)).f4.size : Int) > 200
    · rw [if_pos c] at h; cases h
    · rw [if_neg c] at h
      have hn1 : wrap64 ((i : Int) + 1) = ((i + 1 : Nat) : Int) := by rw [w64 _ ⟨by omega, by omega⟩]; omega
      rw [hn1] at h
      by_cases e : j = i
      · subst e; omega
      · exact fits_size_run l n k (i + 1) (by omega) hl h j (by omega) hj2
theorem fits_size (l : List S33) (n : Int) (k : Nat) (h : frisketlaw07_Fits.f k l n = some true) : ∀ j, j < l.length → (rd_T33 l (j : Int)).f4.size ≤ 200 := by
  unfold frisketlaw07_Fits.f at h
  cases k with
  | zero =>
    simp only [frisketlaw07_Fits.j0] at h
    (repeat' split at h) <;> cases h
  | succ k =>
    simp only [frisketlaw07_Fits.j0] at h
    by_cases c1 : (l.length : Int) > 60
    · rw [if_pos c1] at h; cases h
    rw [if_neg c1] at h
    by_cases c2 : n < 0
    · rw [if_pos c2] at h; cases h
    rw [if_neg c2] at h
    by_cases c3 : n > 1048576
    · rw [if_pos (decide_eq_true c3)] at h; cases h
    rw [if_neg (by simp; omega)] at h
    exact fun j hj => fits_size_run l n k 0 (by omega) (by omega) h j (by omega) hj
theorem core_of_good {n : Int} {s : S33} (h : goodS n s) (hs : s.f4.size ≤ 200) (hw : wfS s) : coreS s := by
  obtain ⟨g0, g1, g2, g3, g4, g5, g6, g7⟩ := h
  refine ⟨g0, g1, g3, g4, g5, g6, hs, ?_⟩
  unfold oneF at g7
  by_cases c1 : s.f2 < 0 ∨ s.f2 > 2 ∨ s.f0 < 0 ∨ s.f0 ≥ s.f1
  · rw [if_pos c1] at g7; cases g7
  rw [if_neg c1] at g7
  by_cases c2 : s.f5 ≠ 0 ∧ ((cellsF s.f5.toNat).2 ≠ 0 ∨ (cellsF s.f5.toNat).1 < 1)
  · rw [if_pos c2] at g7; cases g7
  by_cases e : s.f5 = 0
  · exact .inl e
  · refine .inr ⟨?_, ?_⟩
    · exact Classical.byContradiction fun h => c2 ⟨e, .inl h⟩
    · intro h; exact c2 ⟨e, .inr (by omega)⟩
theorem okL_of_right (l : List S33) (n : Int) (hr : rightL l n) (hs : ∀ j, j < l.length → (rd_T33 l (j : Int)).f4.size ≤ 200) (hw : ∀ i, i < l.length → wfS (rd_T33 l (i : Int))) :
    ∀ d i, i + d = l.length → okL (if i = 0 then 0 else (rd_T33 l ((i - 1 : Nat) : Int)).f1) n (l.drop i)
  | 0, i, h => by rw [show i = l.length by omega, List.drop_length]; trivial
  | d + 1, i, h => by
    have hi : i < l.length := by omega
    rw [List.drop_eq_getElem_cons hi, ← rd_get l i hi]
    have hg := hr.2.1 i hi
    refine ⟨core_of_good hg (hs i hi) (hw i hi), ?_, hg.2.2.1, ?_⟩
    · by_cases e : i = 0
      · rw [if_pos e]; exact hg.1
      · rw [if_neg e]; exact hr.2.2 i (by omega) hi
    · have := okL_of_right l n hr hs hw d (i + 1) (by omega)
      rw [if_neg (by omega)] at this
      exact this
theorem okL_all (l : List S33) (n : Int) (hr : rightL l n) (hs : ∀ j, j < l.length → (rd_T33 l (j : Int)).f4.size ≤ 200) (hw : ∀ i, i < l.length → wfS (rd_T33 l (i : Int))) : okL 0 n l := by
  have := okL_of_right l n hr hs hw l.length 0 (by omega)
  rwa [if_pos rfl, List.drop_zero] at this
theorem one_true (s : S33) (h : coreS s) (hn : s.f1 ≤ 1073741824) (k : Nat) (hk : 2 ≤ k) : span_one.f k s.f0 s.f1 s.f2 s.f3 s.f4 s.f5 = some true := by
  obtain ⟨g0, g1, g2, g3, g4, g5, g6, g7⟩ := h
  obtain ⟨k, rfl⟩ : ∃ q, k = q + 2 := ⟨k - 2, by omega⟩
  unfold span_one.f scale_Cells.f
  rw [Option.bind_some, if_neg (by omega), if_neg (by omega), if_neg (by omega), decide_eq_false (by omega)]
  have hj1 : span_one.j1 (k + 1) false s.f0 s.f1 s.f2 s.f3 s.f4 s.f5 = some true := by
    simp only [span_one.j1]
    rw [if_neg (by simp)]
    by_cases c : s.f3 = true
    · rw [if_pos c]
      obtain ⟨h1, h2⟩ := g2 c
      rw [if_pos (by rw [w64 _ ⟨by omega, by omega⟩]; exact h1), h2]
      rfl
    · rw [if_neg c]
      unfold span_ruby.f
      rw [if_pos (by omega), g5]
      rfl
  simp only [span_one.j0]
  rw [if_neg (by simp)]
  by_cases e : s.f5 = 0
  · rw [if_pos e]; exact hj1
  · rw [if_neg e]
    rcases g7 with g7 | ⟨g7, g8⟩
    · exact absurd g7 e
    · rw [if_pos g7]
      have : ((cellsF s.f5.toNat).1 == 0) = false := by simp [g8]
      rw [this]
      exact hj1
theorem right_true_run (l : List S33) (n : Int) (hn : n ≤ 1073741824) (hlen : l.length ≤ 1000) : ∀ (d k i : Nat) (last : Int), i + d = l.length → d + 3 ≤ k → okL last n (l.drop i) → span_Right.l0 k l n last l (l.length : Int) (i : Int) = some (decide ((l.length : Int) ≤ 40))
  | 0, k, i, last, h, hk, _ => by
    obtain ⟨k, rfl⟩ : ∃ q, k = q + 1 := ⟨k - 1, by omega⟩
    simp only [span_Right.l0]
    rw [if_neg (by omega)]
  | d + 1, k, i, last, h, hk, ho => by
    obtain ⟨k, rfl⟩ : ∃ q, k = q + 1 := ⟨k - 1, by omega⟩
    have hi : i < l.length := by omega
    rw [List.drop_eq_getElem_cons hi, ← rd_get l i hi] at ho
    obtain ⟨hc, h1, h2, h3⟩ := ho
    simp only [span_Right.l0]
    have hn1 : wrap64 ((i : Int) + 1) = ((i + 1 : Nat) : Int) := by rw [w64 _ ⟨by omega, by omega⟩]; omega
    rw [if_pos (by omega), if_pos (by omega), if_pos (by omega), one_true _ hc (by omega) k (by omega), Option.bind_some, if_pos rfl, if_neg (by omega), if_neg (by omega), hn1]
    exact right_true_run l n hn hlen d k (i + 1) _ (by omega) (by omega) h3
theorem right_true (l : List S33) (n : Int) (hn : n ≤ 1073741824) (hlen : l.length ≤ 40) (h : okL 0 n l) (k : Nat) (hk : 50 ≤ k) : span_Right.f k l n = some true := by
  unfold span_Right.f
  rw [show span_Right.l0 k l n 0 l (l.length : Int) 0 = some (decide ((l.length : Int) ≤ 40)) from right_true_run l n hn (by omega) l.length k 0 0 (by omega) (by omega) (by rwa [List.drop_zero])]
  rw [decide_eq_true (by omega)]
/-- Moving right spans leaves right spans. -/
theorem okL_moved (f1 f2 : Int → Int) (n N : Int) (hN : N ≤ 1073741824) (h0 : ∀ x, 0 ≤ x → x ≤ n → 0 ≤ f1 x) (h2 : ∀ x, 0 ≤ x → x ≤ n → f2 x ≤ N) (hm : ∀ x y, 0 ≤ x → x ≤ y → y ≤ n → f2 x ≤ f1 y) (hm2 : ∀ x y, 0 ≤ x → x ≤ y → y ≤ n → f2 x ≤ f2 y) :
    ∀ (l : List S33) (lo : Int), 0 ≤ lo → lo ≤ n → okL lo n l → okL (f2 lo) N (movedL f1 f2 l)
  | [], _, _, _, _ => trivial
  | s :: l, lo, hl, hln, ⟨hc, a, b, hr⟩ => by
    have g0 := hc.1
    have g1 := hc.2.1
    have ih := okL_moved f1 f2 n N hN h0 h2 hm hm2 l s.f1 (by omega) b hr
    show okL (f2 lo) N (movedOne f1 f2 s ++ movedL f1 f2 l)
    have q0 := h0 s.f0 g0 (by omega)
    have q1 := h2 s.f1 (by omega) b
    have q2 := hm lo s.f0 hl a (by omega)
    have q3 := hm2 lo s.f1 hl (by omega) b
    unfold movedOne
    obtain ⟨_, _, c2, c3, c4, c5, c6, c7⟩ := hc
    by_cases e : f1 s.f0 < f2 s.f1
    · rw [if_pos e]
      have hw : wrap64 (f2 s.f1 - f1 s.f0) = f2 s.f1 - f1 s.f0 := w64 _ ⟨by omega, by omega⟩
      by_cases e3 : s.f3 = true
      · rw [if_pos e3, hw]
        by_cases e4 : f2 s.f1 - f1 s.f0 ≤ 4
        · rw [if_pos e4]
          exact ⟨⟨q0, e, fun h => ⟨e4, (c2 h).2⟩, c3, c4, c5, c6, c7⟩, q2, q1, ih⟩
        · rw [if_neg e4]
          exact okL_less q3 ih
      · rw [if_neg e3]
        exact ⟨⟨q0, e, fun h => absurd h e3, c3, c4, c5, c6, c7⟩, q2, q1, ih⟩
    · rw [if_neg e]
      exact okL_less q3 ih
theorem grownF_eq (at_ k x : Int) (h0 : 0 ≤ x) (h1 : x ≤ 1073741824) (hk : 0 ≤ k) (hk2 : k ≤ 1073741824) : grownF at_ k x = if x < at_ then x else x + k := by
  unfold grownF; rw [w64 (x + k) ⟨by omega, by omega⟩]
theorem backF_eq (lo hi x : Int) (h0 : 0 ≤ x) (h1 : x ≤ 1073741824) (h2 : 0 ≤ lo) (h3 : lo ≤ hi) (h4 : hi ≤ 4294967296) : backF lo hi x = if x ≤ lo then x else if x < hi then lo else x - (hi - lo) := by
  unfold backF; rw [w64 (hi - lo) ⟨by omega, by omega⟩, w64 (x - (hi - lo)) ⟨by omega, by omega⟩]
/-- Behind scalars that come right spans are right. -/
theorem okL_insert (l : List S33) (n a k : Int) (hn : n ≤ 1048576) (hn0 : 0 ≤ n) (ha : 0 ≤ a) (han : a ≤ n) (hk : 0 ≤ k) (hk2 : k ≤ 1048576) (h : okL 0 n l) : okL 0 (n + k) (movedL (grownF a k) (grownF (a + 1) k) l) := by
  have := okL_moved (grownF a k) (grownF (a + 1) k) n (n + k) (by omega)
    (fun x h0 h1 => by rw [grownF_eq _ _ _ h0 (by omega) hk (by omega)]; split <;> omega)
    (fun x h0 h1 => by rw [grownF_eq _ _ _ h0 (by omega) hk (by omega)]; split <;> omega)
    (fun x y h0 h1 h2 => by rw [grownF_eq _ _ _ h0 (by omega) hk (by omega), grownF_eq _ _ y (by omega) (by omega) hk (by omega)]; (repeat' split) <;> omega)
    (fun x y h0 h1 h2 => by rw [grownF_eq _ _ _ h0 (by omega) hk (by omega), grownF_eq _ _ y (by omega) (by omega) hk (by omega)]; (repeat' split) <;> omega) l 0 (by omega) hn0 h
  refine okL_less ?_ this
  rw [grownF_eq _ _ _ (by omega) (by omega) hk (by omega)]; split <;> omega
/-- Behind scalars that go right spans are right. -/
theorem okL_delete (l : List S33) (n a b : Int) (hn : n ≤ 1073741824) (hn0 : 0 ≤ n) (ha : 0 ≤ a) (han : a ≤ n) (hab : a ≤ b) (hb : b ≤ 4294967296) (h : okL 0 n l) : okL 0 (n - (if n - a < b - a then n - a else b - a)) (movedL (backF a b) (backF a b) l) := by
  have := okL_moved (backF a b) (backF a b) n (n - (if n - a < b - a then n - a else b - a)) (by split <;> omega)
    (fun x h0 h1 => by rw [backF_eq _ _ _ h0 (by omega) ha hab hb]; (repeat' split) <;> omega)
    (fun x h0 h1 => by rw [backF_eq _ _ _ h0 (by omega) ha hab hb]; (repeat' split) <;> omega)
    (fun x y h0 h1 h2 => by rw [backF_eq _ _ _ h0 (by omega) ha hab hb, backF_eq _ _ y (by omega) (by omega) ha hab hb]; (repeat' split) <;> omega)
    (fun x y h0 h1 h2 => by rw [backF_eq _ _ _ h0 (by omega) ha hab hb, backF_eq _ _ y (by omega) (by omega) ha hab hb]; (repeat' split) <;> omega) l 0 (by omega) hn0 h
  refine okL_less ?_ this
  rw [backF_eq _ _ _ (by omega) (by omega) ha hab hb]; (repeat' split) <;> omega
end Go.Proofs.Ytdkblhfcndafaaa.X
