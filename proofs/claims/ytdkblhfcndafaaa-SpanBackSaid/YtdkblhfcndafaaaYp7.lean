/- Plain law: SpanBack answers yes. -/
import Derived.Test.YtdkblhfcndafaaaYp6
import Derived.Test.YtdkblhfcndafaaaXf5
namespace Go.Proofs.Ytdkblhfcndafaaa.X
open Go.RowKit Go.Proofs.YtdkblhfcndafaaaW.PrintWords Go.Proofs.YtdkblhfcndafaaaW.PrintLast Go.Proofs.YtdkblhfcndafaaaW.PrintMore
set_option linter.unusedVariables false
set_option linter.unusedSimpArgs false

set_option maxRecDepth 100000 in
theorem alive_40 : frisketlaw07_alive.f 40 = some true := by decide +kernel
theorem alive_all (k : Nat) (hk : 40 ≤ k) : frisketlaw07_alive.f k = some true := leO_some (fun k => frisketlaw07_alive.mono k) alive_40 hk
theorem and1023 (n : Int) : Go.bits .and .i64 n 1023 = n % 1024 := by
  have hm : (BitVec.ofInt 64 1023).toNat = 2 ^ 10 - 1 := by decide
  have key : (BitVec.ofInt 64 n &&& BitVec.ofInt 64 1023).toNat = (n % ((2 ^ 64 : Nat) : Int)).toNat % 2 ^ 10 := by
    rw [BitVec.toNat_and, BitVec.toNat_ofInt, hm, Nat.and_two_pow_sub_one_eq_mod]
  show IntKind.i64.wrap ((BitVec.ofInt 64 n &&& BitVec.ofInt 64 1023).toNat : Nat) = n % 1024
  rw [key, IntKind.wrap_i64]
  omega
theorem andLow63 (n : Int) : Go.bits .and .i64 n 63 = n % 64 := by
  have hm : (BitVec.ofInt 64 63).toNat = 2 ^ 6 - 1 := by decide
  have key : (BitVec.ofInt 64 n &&& BitVec.ofInt 64 63).toNat = (n % ((2 ^ 64 : Nat) : Int)).toNat % 2 ^ 6 := by
    rw [BitVec.toNat_and, BitVec.toNat_ofInt, hm, Nat.and_two_pow_sub_one_eq_mod]
  show IntKind.i64.wrap ((BitVec.ofInt 64 n &&& BitVec.ofInt 64 63).toNat : Nat) = n % 64
  rw [key, IntKind.wrap_i64]
  omega
/-- What stays of a span where scalars come and go again. -/
def backOne (a k : Int) (s : S33) : List S33 := if s.f3 = true then (if a ≤ s.f0 then [s] else if a ≥ s.f1 then [s] else if s.f1 - s.f0 + k ≤ 4 then [s] else []) else [s]
theorem back_one (a k n : Int) (ha : 0 ≤ a) (hk : 0 ≤ k) (hk2 : k ≤ 1048576) (hn : n ≤ 1048576) (han : a ≤ n) (s : S33) (h : coreS s) (h1 : s.f1 ≤ n) :
    movedL (backF a (a + k)) (backF a (a + k)) (movedOne (grownF a k) (grownF (a + 1) k) s) = backOne a k s := by
  obtain ⟨g0, g1, g2, _, _, _, _, _⟩ := h
  obtain ⟨s0, s1, s2, s3, s4, s5⟩ := s
  dsimp only at g0 g1 g2 h1
  have back : ∀ x y : Int, 0 ≤ x → x < y → y ≤ n → (s3 = true → y - x ≤ 4) → ∀ p q : Int, 0 ≤ p → p ≤ 4194304 → 0 ≤ q → q ≤ 4194304 → backF a (a + k) p = x → backF a (a + k) q = y → movedL (backF a (a + k)) (backF a (a + k)) [⟨p, q, s2, s3, s4, s5⟩] = [⟨x, y, s2, s3, s4, s5⟩] := by
    intro x y hx hxy hy h3 p q _ _ _ _ hp hq
    show movedOne _ _ _ ++ [] = _
    rw [List.append_nil]
    unfold movedOne
    dsimp only
    rw [hp, hq, w64 (y - x) ⟨by omega, by omega⟩, if_pos hxy]
    by_cases c : s3 = true
    · rw [if_pos c, if_pos (h3 c)]
    · rw [if_neg c]
  have h3' : s3 = true → s1 - s0 ≤ 4 := fun h => (g2 h).1
  have e := back s0 s1 g0 g1 h1 h3'
  have eb : ∀ p, 0 ≤ p → p ≤ 4194304 → backF a (a + k) p = if p ≤ a then p else if p < a + k then a else p - k := by
    intro p h0 h1
    rw [backF_eq _ _ _ h0 (by omega) ha (by omega) (by omega), show a + k - a = k by omega]
  unfold movedOne backOne
  dsimp only
  rw [grownF_eq a k s0 g0 (by omega) hk (by omega), grownF_eq (a + 1) k s1 (by omega) (by omega) hk (by omega)]
  by_cases c1 : s0 < a
  · rw [if_pos c1]
    by_cases c2 : s1 < a + 1
    · rw [if_pos c2, if_pos g1, w64 (s1 - s0) ⟨by omega, by omega⟩]
      have e1 := e s0 s1 g0 (by omega) (by omega) (by omega) (by rw [eb _ g0 (by omega), if_pos (by omega)]) (by rw [eb _ (by omega) (by omega), if_pos (by omega)])
      by_cases c : s3 = true
      · rw [if_pos c, if_pos c, if_pos (h3' c), if_neg (by omega), if_pos (by omega)]; exact e1
      · rw [if_neg c, if_neg c]; exact e1
    · rw [if_neg c2, if_pos (by omega), w64 (s1 + k - s0) ⟨by omega, by omega⟩]
      have e1 := e s0 (s1 + k) g0 (by omega) (by omega) (by omega) (by rw [eb _ g0 (by omega), if_pos (by omega)]) (by rw [eb _ (by omega) (by omega)]; (repeat' split) <;> omega)
      by_cases c : s3 = true
      · rw [if_pos c, if_pos c, if_neg (show ¬ a ≤ s0 by omega), if_neg (show ¬ a ≥ s1 by omega)]
        by_cases c4 : s1 + k - s0 ≤ 4
        · rw [if_pos c4, if_pos (by omega)]; exact e1
        · rw [if_neg c4, if_neg (by omega)]; rfl
      · rw [if_neg c, if_neg c]; exact e1
  · rw [if_neg c1, if_neg (show ¬ s1 < a + 1 by omega), if_pos (by omega), w64 (s1 + k - (s0 + k)) ⟨by omega, by omega⟩]
    have e1 := e (s0 + k) (s1 + k) (by omega) (by omega) (by omega) (by omega) (by rw [eb _ (by omega) (by omega)]; (repeat' split) <;> omega) (by rw [eb _ (by omega) (by omega)]; (repeat' split) <;> omega)
    by_cases c : s3 = true
    · rw [if_pos c, if_pos c, if_pos (by have := h3' c; omega), if_pos (by omega)]; exact e1
    · rw [if_neg c, if_neg c]; exact e1
theorem back_list (a k n : Int) (ha : 0 ≤ a) (hk : 0 ≤ k) (hk2 : k ≤ 1048576) (hn : n ≤ 1048576) (han : a ≤ n) : ∀ (l : List S33) (lo : Int), okL lo n l →
    movedL (backF a (a + k)) (backF a (a + k)) (movedL (grownF a k) (grownF (a + 1) k) l) = l.flatMap (backOne a k)
  | [], _, _ => rfl
  | s :: l, lo, ⟨h, _, h1, hr⟩ => by
    have ih := back_list a k n ha hk hk2 hn han l _ hr
    show (movedOne _ _ s ++ movedL _ _ l).flatMap _ = backOne a k s ++ l.flatMap _
    rw [List.flatMap_append]
    exact congr (congrArg HAppend.hAppend (back_one a k n ha hk hk2 hn han s h h1)) ih
theorem backOne_len (a k : Int) (l : List S33) : (l.flatMap (backOne a k)).length ≤ l.length := by
  induction l with
  | nil => simp
  | cons s l ih =>
    rw [List.flatMap_cons, List.length_append, List.length_cons]
    have : (backOne a k s).length ≤ 1 := by unfold backOne; (repeat' split) <;> simp
    omega
set_option maxHeartbeats 4000000 in
theorem back_run (l : List S33) (n a k : Int) (d m : List S33) (hn0 : 0 ≤ n) (hn : n ≤ 1048576) (ha : 0 ≤ a) (han : a ≤ n) (hk : 0 ≤ k) (hk2 : k ≤ 1024) (ho : okL 0 n l) (hlen : l.length ≤ 40) (hd : d = l.flatMap (backOne a k)) :
    ∀ (c f i : Nat) (acc : List S33) (lo : Int), i + c = l.length → c + 200 ≤ f → acc.length ≤ i → okL lo n (l.drop i) → 0 ≤ lo → acc ++ (l.drop i).flatMap (backOne a k) = d → frisketlaw07_SpanBack.l0 f l n a k d acc (i : Int) = some true
  | 0, f, i, acc, lo, h, hf, hacc, _, _, he => by
    obtain ⟨f, rfl⟩ : ∃ q, f = q + 1 := ⟨f - 1, by omega⟩
    have hi : i = l.length := by omega
    rw [hi, List.drop_length, List.flatMap_nil, List.append_nil] at he
    subst he
    simp only [frisketlaw07_SpanBack.l0]
    rw [if_neg (by omega), w64 (a + k) ⟨by omega, by omega⟩, w64 (n - a) ⟨by omega, by omega⟩]
    unfold span_Delete.f
    rw [if_pos (by omega), if_neg (by omega), if_neg (by omega), Option.bind_some, alive_all f (by omega), Option.bind_some, if_pos rfl, same_all acc (by omega) f (by omega), Option.bind_some, if_pos rfl]
    have hmn : mn k (n - a) = if n - a < k then n - a else k := rfl
    have hw : wrap64 (n - mn k (n - a)) = n - (if n - a < a + k - a then n - a else a + k - a) := by
      rw [hmn, show a + k - a = k by omega]
      exact w64 _ ⟨by split <;> omega, by split <;> omega⟩
    have hR := right_true (movedL (backF a (a + k)) (backF a (a + k)) l) (n - (if n - a < a + k - a then n - a else a + k - a)) (by split <;> omega) (Nat.le_trans (movedL_len _ _ l) hlen) (okL_delete l n a (a + k) (by omega) hn0 ha han (by omega) (by omega) ho) f (by omega)
    rw [hw, hR]
    rfl
  | c + 1, f, i, acc, lo, h, hf, hacc, hok, hlo, he => by
    obtain ⟨f, rfl⟩ : ∃ q, f = q + 1 := ⟨f - 1, by omega⟩
    have hi : i < l.length := by omega
    rw [List.drop_eq_getElem_cons hi, ← rd_get l i hi] at hok he
    obtain ⟨hc, h1, h2, h3⟩ := hok
    have ih := back_run l n a k d m hn0 hn ha han hk hk2 ho hlen hd c f (i + 1)
    rw [List.flatMap_cons, ← List.append_assoc] at he
    obtain ⟨g0, g1, -⟩ := hc
    simp only [frisketlaw07_SpanBack.l0]
    rw [if_pos (by omega), if_pos (by omega), inc_nat i (by omega)]
    have yes : backOne a k (rd_T33 l (i : Int)) = [rd_T33 l (i : Int)] → (if acc.length < 2513169434916 then (frisketlaw07_SpanBack.l0 f l n a k d (acc ++ [(⟨(rd_T33 l (i : Int)).f0, (rd_T33 l (i : Int)).f1, (rd_T33 l (i : Int)).f2, (rd_T33 l (i : Int)).f3, (rd_T33 l (i : Int)).f4, (rd_T33 l (i : Int)).f5⟩ : S33)]) ((i + 1 : Nat) : Int)) else none) = some true := by
      intro hb
      rw [hb] at he
      rw [if_pos (by omega)]
      exact ih _ _ (by omega) (by omega) (by rw [List.length_append, List.length_singleton]; omega) h3 (by omega) he
    have no : backOne a k (rd_T33 l (i : Int)) = [] → frisketlaw07_SpanBack.l0 f l n a k d acc ((i + 1 : Nat) : Int) = some true := by
      intro hb
      rw [hb, List.append_nil] at he
      exact ih _ _ (by omega) (by omega) (by omega) h3 (by omega) he
    unfold backOne at yes no
    rw [w64 ((rd_T33 l (i : Int)).f1 - (rd_T33 l (i : Int)).f0) ⟨by omega, by omega⟩, w64 ((rd_T33 l (i : Int)).f1 - (rd_T33 l (i : Int)).f0 + k) ⟨by omega, by omega⟩]
    by_cases c3 : (rd_T33 l (i : Int)).f3 = true
    · rw [if_pos c3] at yes no ⊢
      by_cases c4 : a ≤ (rd_T33 l (i : Int)).f0
      · rw [if_pos c4] at yes ⊢; exact yes rfl
      rw [if_neg c4] at yes no ⊢
      by_cases c5 : a ≥ (rd_T33 l (i : Int)).f1
      · rw [if_pos c5] at yes ⊢; exact yes rfl
      rw [if_neg c5] at yes no ⊢
      by_cases c6 : (rd_T33 l (i : Int)).f1 - (rd_T33 l (i : Int)).f0 + k ≤ 4
      · rw [if_pos c6] at yes ⊢; exact yes rfl
      rw [if_neg c6] at no ⊢
      exact no rfl
    · rw [if_neg c3] at yes ⊢; exact yes rfl
theorem back_all (l : List S33) (n a b : Int) (hw : ∀ i, i < l.length → wfS (rd_T33 l (i : Int))) : frisketlaw07_SpanBack.f 1000 l n a b = some true := by
  obtain ⟨v, hf, hv⟩ := fits_all l n hw 1000 (by omega)
  unfold frisketlaw07_SpanBack.f
  rw [hf, Option.bind_some, and1023, andLow63]
  cases v with
  | false => rw [if_neg (by simp), alive_all 1000 (by omega)]; rfl
  | true =>
    rw [if_pos rfl]
    obtain ⟨hn0, hn, hr⟩ := hv rfl
    have ho := okL_all l n hr (fits_size l n 1000 hf) hw
    have hlen := hr.1
    have main : ∀ x k : Int, 0 ≤ x → x ≤ n → 0 ≤ k → k ≤ 64 → frisketlaw07_SpanBack.j0 1000 l n x k = some true := by
      intro x k hx hxn hk hk2
      simp only [frisketlaw07_SpanBack.j0]
      unfold span_Insert.f
      rw [if_pos (by omega), if_neg (by omega), if_neg (by omega), Option.bind_some, w64 (x + 1) ⟨by omega, by omega⟩, w64 (n + k) ⟨by omega, by omega⟩, w64 (x + k) ⟨by omega, by omega⟩]
      have hl2 := movedL_len (grownF x k) (grownF (x + 1) k) l
      rw [right_true _ _ (by omega) (by omega) (okL_insert l n x k hn hn0 hx hxn hk (by omega) ho) 999 (by omega), Option.bind_some, if_pos rfl]
      unfold span_Delete.f
      rw [if_pos (by omega), if_neg (by omega), if_neg (by omega), Option.bind_some]
      rw [back_list x k n hx hk (by omega) hn hxn l 0 ho]
      exact back_run l n x k _ [] hn0 hn hx hxn hk (by omega) ho hlen rfl l.length 999 0 [] 0 (by omega) (by omega) (by simp) (by rwa [List.drop_zero]) (by omega) (by rw [List.drop_zero, List.nil_append])
    by_cases c : a % 1024 > n
    · rw [if_pos c]; exact main n _ hn0 (by omega) (by omega) (by omega)
    · rw [if_neg c]; exact main _ _ (by omega) (by omega) (by omega) (by omega)
end Go.Proofs.Ytdkblhfcndafaaa.X
