/- The document's first scalar of bytes is the program's. -/
import Derived.Test.YtdkblhfcndafaaaYref1
import Derived.Laws.BitsLemmas
namespace Go.Proofs.Ytdkblhfcndafaaa.X
open Go.RowKit Go.Proofs.YtdkblhfcndafaaaW.PrintWords
set_option linter.unusedVariables false
set_option linter.unusedSimpArgs false

def bytesOk (l : List Int) : Bool := l.all (fun x => decide (0 ≤ x) && decide (x ≤ 255))
theorem bytesOk_rd {l : List Int} (h : bytesOk l = true) (i : Int) : 0 ≤ rd l i ∧ rd l i ≤ 255 := by
  unfold rd
  rcases Nat.lt_or_ge i.toNat l.length with h1 | h1
  · rw [List.getD_eq_getElem?_getD, List.getElem?_eq_getElem h1]
    have := List.all_eq_true.1 h _ (List.getElem_mem h1)
    simpa using this
  · rw [List.getD_eq_getElem?_getD, List.getElem?_eq_none h1]
    simp
theorem bytesOk_cons {x : Int} {l : List Int} : bytesOk (x :: l) = true ↔ (0 ≤ x ∧ x ≤ 255) ∧ bytesOk l = true := by
  unfold bytesOk
  simp
theorem bytesOk_drop {l : List Int} (h : bytesOk l = true) (n : Nat) : bytesOk (l.drop n) = true := by
  unfold bytesOk at h ⊢
  rw [List.all_eq_true] at h ⊢
  exact fun x hx => h x (List.mem_of_mem_drop hx)
theorem andNot_tab : ∀ x : Fin 256, (Go.bits .andNot .i64 (x.val : Int) 63 == 128) = (decide (128 ≤ x.val) && decide (x.val < 192)) := by decide +kernel
theorem andNot_iff (x : Int) (h0 : 0 ≤ x) (h1 : x ≤ 255) : Go.bits .andNot .i64 x 63 = 128 ↔ 128 ≤ x ∧ x < 192 := by
  obtain ⟨n, rfl⟩ := Int.eq_ofNat_of_zero_le h0
  have h := andNot_tab ⟨n, by omega⟩
  simp only at h
  rw [← beq_iff_eq, h]
  simp
  omega
theorem wraps_i64 (n : Int) (h₀ : 0 ≤ n) (h₁ : n < 2 ^ 60) : IntKind.i64.wrap n = n := IntWalk.i64_in _ ⟨by omega, by omega⟩
theorem and63 (x : Int) (h0 : 0 ≤ x) (h1 : x ≤ 255) : Go.bits .and .i64 x 63 = x % 64 := by
  have := bits_mask .i64 60 (by decide) wraps_i64 6 (by decide) x h0 (by omega)
  simpa using this
theorem or6 (c y : Int) (h0 : 0 ≤ c) (h1 : c < 16777216) (h2 : 0 ≤ y) (h3 : y < 64) : Go.bits .or .i64 (wrap64 (c * 64)) y = c * 64 + y := by
  rw [IntWalk.wrap64_in _ ⟨by omega, by omega⟩]
  exact bits_join .i64 60 (by decide) wraps_i64 6 (c * 64) y (by omega) (by omega) (by omega) h2 (by omega) (by omega)
theorem contF_cons (c x : Int) (xs : List Int) (h0 : 0 ≤ c) (h1 : c < 16777216) (h2 : 0 ≤ x) (h3 : x ≤ 255) : contF c (x :: xs) = if 128 ≤ x ∧ x < 192 then contF (c * 64 + x % 64) xs else none := by
  simp only [contF]
  rw [and63 x h2 h3, or6 c _ h0 h1 (by omega) (by omega)]
  by_cases h : 128 ≤ x ∧ x < 192
  · rw [if_pos h, if_pos ((andNot_iff x h2 h3).2 h)]
  · rw [if_neg h, if_neg (fun h' => h ((andNot_iff x h2 h3).1 h'))]
theorem refC_cons (c x : Int) (xs : List Int) (h0 : 0 ≤ c) (h1 : c < 16777216) (h2 : 0 ≤ x) : refC c (x :: xs) = refC (c * 64 + x % 64) xs := by
  simp only [refC]
  rw [IntWalk.wrap64_in (64 * c) ⟨by omega, by omega⟩, IntWalk.wrap64_in _ ⟨by omega, by omega⟩, Int.mul_comm 64 c]
theorem bytesC_eq (c : Int) (h0 : 0 ≤ c) (h1 : c < 2097152) : bytesC c = if c < 128 then [c] else if c < 2048 then [192 + c / 64, 128 + c % 64] else if c < 65536 then [224 + c / 4096, 128 + c / 64 % 64, 128 + c % 64] else [240 + c / 262144, 128 + c / 4096 % 64, 128 + c / 64 % 64, 128 + c % 64] := by
  unfold bytesC frisketref01_Bytes.f
  have t : ∀ m : Int, 0 < m → Int.tdiv c m = c / m := fun m hm => Int.tdiv_eq_ediv_of_nonneg h0
  have q : ∀ m : Int, 64 ≤ m → 0 ≤ c / m ∧ c / m ≤ c := fun m hm => ⟨Int.ediv_nonneg h0 (by omega), Int.ediv_le_self m h0⟩
  have q1 := q 64 (by omega)
  have q2 := q 4096 (by omega)
  have q3 := q 262144 (by omega)
  rw [t 64 (by omega), t 4096 (by omega), t 262144 (by omega)]
  have w : ∀ x : Int, 0 ≤ x → x < 4194304 → wrap64 x = x := fun x a b => IntWalk.wrap64_in x ⟨by omega, by omega⟩
  rw [w _ q1.1 (by omega), w _ q2.1 (by omega), w _ q3.1 (by omega)]
  rw [IntWalk.rem_in _ _ h0, IntWalk.rem_in _ _ q1.1, IntWalk.rem_in _ _ q2.1]
  rw [w (192 + c / 64) (by omega) (by omega), w (128 + c % 64) (by omega) (by omega), w (224 + c / 4096) (by omega) (by omega), w (128 + c / 64 % 64) (by omega) (by omega), w (240 + c / 262144) (by omega) (by omega), w (128 + c / 4096 % 64) (by omega) (by omega)]
  by_cases a : c < 128
  · rw [if_pos a, if_pos a]; simp; omega
  · rw [if_neg a, if_neg a]
    by_cases b : c < 2048
    · rw [if_pos b, if_pos b]; simp; omega
    · rw [if_neg b, if_neg b]
      by_cases d : c < 65536
      · rw [if_pos d, if_pos d]; simp; omega
      · rw [if_neg d, if_neg d]; simp; omega
theorem strOfNums_back {xs : List Int} (hx : bytesOk xs = true) : (strOfNums xs).toList.map (fun u => (u.toNat : Int)) = xs := by
  rw [ByteArray.toList_eq, strOfNums_data, List.map_map]
  induction xs with
  | nil => rfl
  | cons x xs ih =>
    obtain ⟨h, h'⟩ := bytesOk_cons.1 hx
    rw [List.map_cons, ih h']
    congr 1
    simp only [Function.comp, UInt8.toNat_ofNat']
    omega
theorem strOfNums_beq {xs ys : List Int} (hx : bytesOk xs = true) (hy : bytesOk ys = true) : ((strOfNums xs).toList == (strOfNums ys).toList) = decide (xs = ys) := by
  rw [Bool.eq_iff_iff, beq_iff_eq, decide_eq_true_iff]
  constructor
  · intro h
    rw [← strOfNums_back hx, ← strOfNums_back hy, h]
  · intro h
    rw [h]
theorem bytesC_ok (c : Int) (h0 : 0 ≤ c) (h1 : c < 2097152) : bytesOk (bytesC c) = true := by
  rw [bytesC_eq c h0 h1]
  repeat' split
  all_goals simp [bytesOk]; omega
theorem scalarF_iff (c : Int) (h0 : 0 ≤ c) : scalarF c = true ↔ c ≤ 1114111 ∧ (c < 55296 ∨ 57343 < c) := by
  unfold scalarF
  simp
  omega
theorem try1 (b0 : Int) (r : List Int) : refTry (b0 :: r) 1 = b0 := by simp [refTry, refC, refC0, rd]
theorem try2 (b0 b1 : Int) (r : List Int) (h0 : 0 ≤ b0 ∧ b0 ≤ 255) (h1 : 0 ≤ b1 ∧ b1 ≤ 255) : refTry (b0 :: b1 :: r) 2 = b0 % 32 * 64 + b1 % 64 := by
  have e : refTry (b0 :: b1 :: r) 2 = refC (b0 % 32) [b1] := by simp [refTry, refC0, rd]
  rw [e, refC_cons _ _ _ (by omega) (by omega) h1.1]
  rfl
theorem try3 (b0 b1 b2 : Int) (r : List Int) (h0 : 0 ≤ b0 ∧ b0 ≤ 255) (h1 : 0 ≤ b1 ∧ b1 ≤ 255) (h2 : 0 ≤ b2 ∧ b2 ≤ 255) : refTry (b0 :: b1 :: b2 :: r) 3 = (b0 % 16 * 64 + b1 % 64) * 64 + b2 % 64 := by
  have e : refTry (b0 :: b1 :: b2 :: r) 3 = refC (b0 % 16) [b1, b2] := by simp [refTry, refC0, rd]
  rw [e, refC_cons _ _ _ (by omega) (by omega) h1.1, refC_cons _ _ _ (by omega) (by omega) h2.1]
  rfl
theorem try4 (b0 b1 b2 b3 : Int) (r : List Int) (h0 : 0 ≤ b0 ∧ b0 ≤ 255) (h1 : 0 ≤ b1 ∧ b1 ≤ 255) (h2 : 0 ≤ b2 ∧ b2 ≤ 255) (h3 : 0 ≤ b3 ∧ b3 ≤ 255) : refTry (b0 :: b1 :: b2 :: b3 :: r) 4 = ((b0 % 8 * 64 + b1 % 64) * 64 + b2 % 64) * 64 + b3 % 64 := by
  have e : refTry (b0 :: b1 :: b2 :: b3 :: r) 4 = refC (b0 % 8) [b1, b2, b3] := by simp [refTry, refC0, rd]
  rw [e, refC_cons _ _ _ (by omega) (by omega) h1.1, refC_cons _ _ _ (by omega) (by omega) h2.1, refC_cons _ _ _ (by omega) (by omega) h3.1]
  rfl
theorem ok_gen (l : List Int) (n : Nat) (hl : bytesOk l = true) (h0 : 0 ≤ refTry l n) (h1 : refTry l n < 2097152) : refOk l n = (scalarF (refTry l n) && decide (bytesC (refTry l n) = l.take n)) := by
  unfold refOk
  rw [strOfNums_beq (bytesC_ok _ h0 h1)]
  unfold bytesOk at hl ⊢
  rw [List.all_eq_true] at hl ⊢
  exact fun x hx => hl x (List.mem_of_mem_take hx)
theorem ok1 (b0 : Int) (r : List Int) (hl : bytesOk (b0 :: r) = true) : refOk (b0 :: r) 1 = decide (b0 < 128) := by
  have hb := (bytesOk_cons.1 hl).1
  have ht := try1 b0 r
  rw [ok_gen _ _ hl (by omega) (by omega), ht, Bool.eq_iff_iff]
  rw [Bool.and_eq_true, scalarF_iff _ hb.1, decide_eq_true_iff, decide_eq_true_iff, bytesC_eq b0 (by omega) (by omega)]
  by_cases h : b0 < 128
  · rw [if_pos h]; simp; omega
  · rw [if_neg h, if_pos (by omega)]; simp [h]
theorem ok2 (b0 b1 : Int) (r : List Int) (hl : bytesOk (b0 :: b1 :: r) = true) : refOk (b0 :: b1 :: r) 2 = decide (192 ≤ b0 ∧ b0 < 224 ∧ 128 ≤ b1 ∧ b1 < 192 ∧ 128 ≤ b0 % 32 * 64 + b1 % 64) := by
  have hb := (bytesOk_cons.1 hl).1
  have hc := (bytesOk_cons.1 (bytesOk_cons.1 hl).2).1
  have ht := try2 b0 b1 r hb hc
  rw [ok_gen _ _ hl (by omega) (by omega), ht, Bool.eq_iff_iff]
  rw [Bool.and_eq_true, scalarF_iff _ (by omega), decide_eq_true_iff, decide_eq_true_iff, bytesC_eq _ (by omega) (by omega)]
  by_cases h : b0 % 32 * 64 + b1 % 64 < 128
  · rw [if_pos h]; simp; omega
  · rw [if_neg h, if_pos (by omega)]; simp; omega
theorem ok3 (b0 b1 b2 : Int) (r : List Int) (hl : bytesOk (b0 :: b1 :: b2 :: r) = true) : refOk (b0 :: b1 :: b2 :: r) 3 = (scalarF ((b0 % 16 * 64 + b1 % 64) * 64 + b2 % 64) && decide (224 ≤ b0 ∧ b0 < 240 ∧ 128 ≤ b1 ∧ b1 < 192 ∧ 128 ≤ b2 ∧ b2 < 192 ∧ 2048 ≤ (b0 % 16 * 64 + b1 % 64) * 64 + b2 % 64)) := by
  have hb := (bytesOk_cons.1 hl).1
  have hc := (bytesOk_cons.1 (bytesOk_cons.1 hl).2).1
  have hd := (bytesOk_cons.1 (bytesOk_cons.1 (bytesOk_cons.1 hl).2).2).1
  have ht := try3 b0 b1 b2 r hb hc hd
  rw [ok_gen _ _ hl (by omega) (by omega), ht]
  congr 1
  rw [decide_eq_decide, bytesC_eq _ (by omega) (by omega)]
  by_cases h : (b0 % 16 * 64 + b1 % 64) * 64 + b2 % 64 < 128
  · rw [if_pos h]; simp; omega
  · rw [if_neg h]
    by_cases h' : (b0 % 16 * 64 + b1 % 64) * 64 + b2 % 64 < 2048
    · rw [if_pos h']; simp; omega
    · rw [if_neg h', if_pos (by omega)]; simp; omega
theorem ok4 (b0 b1 b2 b3 : Int) (r : List Int) (hl : bytesOk (b0 :: b1 :: b2 :: b3 :: r) = true) : refOk (b0 :: b1 :: b2 :: b3 :: r) 4 = (scalarF (((b0 % 8 * 64 + b1 % 64) * 64 + b2 % 64) * 64 + b3 % 64) && decide (240 ≤ b0 ∧ b0 < 248 ∧ 128 ≤ b1 ∧ b1 < 192 ∧ 128 ≤ b2 ∧ b2 < 192 ∧ 128 ≤ b3 ∧ b3 < 192 ∧ 65536 ≤ ((b0 % 8 * 64 + b1 % 64) * 64 + b2 % 64) * 64 + b3 % 64)) := by
  have hb := (bytesOk_cons.1 hl).1
  have hc := (bytesOk_cons.1 (bytesOk_cons.1 hl).2).1
  have hd := (bytesOk_cons.1 (bytesOk_cons.1 (bytesOk_cons.1 hl).2).2).1
  have he := (bytesOk_cons.1 (bytesOk_cons.1 (bytesOk_cons.1 (bytesOk_cons.1 hl).2).2).2).1
  have ht := try4 b0 b1 b2 b3 r hb hc hd he
  rw [ok_gen _ _ hl (by omega) (by omega), ht]
  congr 1
  rw [decide_eq_decide, bytesC_eq _ (by omega) (by omega)]
  by_cases h : ((b0 % 8 * 64 + b1 % 64) * 64 + b2 % 64) * 64 + b3 % 64 < 128
  · rw [if_pos h]; simp; omega
  · rw [if_neg h]
    by_cases h' : ((b0 % 8 * 64 + b1 % 64) * 64 + b2 % 64) * 64 + b3 % 64 < 2048
    · rw [if_pos h']; simp; omega
    · rw [if_neg h']
      by_cases h'' : ((b0 % 8 * 64 + b1 % 64) * 64 + b2 % 64) * 64 + b3 % 64 < 65536
      · rw [if_pos h'']; simp; omega
      · rw [if_neg h'']; simp; omega

theorem nextF_cons (b0 : Int) (r : List Int) : nextF (b0 :: r) = if lenF b0 = 0 then (0, 0, 11) else if lenF b0 > (b0 :: r).length then (0, 0, 11) else tailF (lenF b0) (contF (b0 - headF (lenF b0)) (((b0 :: r).take (lenF b0).toNat).drop 1)) := by
  unfold nextF
  rw [if_neg (by simp)]
  rfl
theorem lenF_1 {x : Int} (h : x < 128) : lenF x = 1 := by unfold lenF; rw [if_pos h]
theorem lenF_2 {x : Int} (h : 192 ≤ x ∧ x < 224) : lenF x = 2 := by unfold lenF; rw [if_neg (by omega), if_pos h]
theorem lenF_3 {x : Int} (h : 224 ≤ x ∧ x < 240) : lenF x = 3 := by unfold lenF; rw [if_neg (by omega), if_neg (by omega), if_pos h]
theorem lenF_4 {x : Int} (h : 240 ≤ x ∧ x < 248) : lenF x = 4 := by unfold lenF; rw [if_neg (by omega), if_neg (by omega), if_neg (by omega), if_pos h]
theorem lenF_0 {x : Int} (h : 128 ≤ x) (h' : ¬ (192 ≤ x ∧ x < 248)) : lenF x = 0 := by unfold lenF; rw [if_neg (by omega), if_neg (by omega), if_neg (by omega), if_neg (by omega)]
theorem next_short (b0 : Int) (r : List Int) (h1 : 128 ≤ b0) (h : lenF b0 ≠ 0 → lenF b0 > (b0 :: r).length) : nextF (b0 :: r) = (0, 0, 11) := by
  rw [nextF_cons]
  by_cases h0 : lenF b0 = 0
  · rw [if_pos h0]
  · rw [if_neg h0, if_pos (h h0)]
theorem next_1 (b0 : Int) (r : List Int) (h0 : 0 ≤ b0) (h : b0 < 128) : nextF (b0 :: r) = (b0, 1, 0) := by
  rw [nextF_cons, lenF_1 h, if_neg (by decide), if_neg (by simp; omega)]
  have : scalarF b0 = true := (scalarF_iff b0 h0).2 ⟨by omega, by omega⟩
  simp [contF, tailF, headF, this]
theorem next_2 (b0 b1 : Int) (r : List Int) (h : 192 ≤ b0 ∧ b0 < 224) (hc : 0 ≤ b1 ∧ b1 ≤ 255) : nextF (b0 :: b1 :: r) = if 128 ≤ b1 ∧ b1 < 192 ∧ 128 ≤ b0 % 32 * 64 + b1 % 64 then (b0 % 32 * 64 + b1 % 64, 2, 0) else (0, 0, 11) := by
  rw [nextF_cons, lenF_2 h, if_neg (by decide), if_neg (by simp; omega)]
  have e1 : ((b0 :: b1 :: r).take (2 : Int).toNat).drop 1 = [b1] := rfl
  have e2 : headF 2 = 192 := rfl
  have e3 : limF 2 = 128 := rfl
  have hsub : b0 - 192 = b0 % 32 := by omega
  rw [e1, e2, hsub, contF_cons _ _ _ (by omega) (by omega) hc.1 hc.2]
  by_cases c3 : 128 ≤ b1 ∧ b1 < 192
  · rw [if_pos c3]
    have hs : scalarF (b0 % 32 * 64 + b1 % 64) = true := (scalarF_iff _ (by omega)).2 ⟨by omega, by omega⟩
    simp only [contF, tailF, e3, hs]
    rw [if_neg (by simp)]
    by_cases c4 : 128 ≤ b0 % 32 * 64 + b1 % 64
    · rw [if_neg (by omega), if_pos ⟨c3.1, c3.2, c4⟩]
    · rw [if_pos ⟨by decide, by omega⟩, if_neg (fun h => c4 h.2.2)]
  · rw [if_neg c3, if_neg (fun h => c3 ⟨h.1, h.2.1⟩)]
    rfl
theorem next_3 (b0 b1 b2 : Int) (r : List Int) (h : 224 ≤ b0 ∧ b0 < 240) (hc : 0 ≤ b1 ∧ b1 ≤ 255) (hd : 0 ≤ b2 ∧ b2 ≤ 255) : nextF (b0 :: b1 :: b2 :: r) = if scalarF ((b0 % 16 * 64 + b1 % 64) * 64 + b2 % 64) = true ∧ (128 ≤ b1 ∧ b1 < 192) ∧ (128 ≤ b2 ∧ b2 < 192) ∧ 2048 ≤ (b0 % 16 * 64 + b1 % 64) * 64 + b2 % 64 then ((b0 % 16 * 64 + b1 % 64) * 64 + b2 % 64, 3, 0) else (0, 0, 11) := by
  rw [nextF_cons, lenF_3 h, if_neg (by decide), if_neg (by simp; omega)]
  have e1 : ((b0 :: b1 :: b2 :: r).take (3 : Int).toNat).drop 1 = [b1, b2] := rfl
  have e2 : headF 3 = 224 := rfl
  have e3 : limF 3 = 2048 := rfl
  have hsub : b0 - 224 = b0 % 16 := by omega
  rw [e1, e2, hsub, contF_cons _ _ _ (by omega) (by omega) hc.1 hc.2]
  by_cases c3 : 128 ≤ b1 ∧ b1 < 192
  · rw [if_pos c3, contF_cons _ _ _ (by omega) (by omega) hd.1 hd.2]
    by_cases c4 : 128 ≤ b2 ∧ b2 < 192
    · rw [if_pos c4]
      simp only [contF, tailF, e3]
      generalize (b0 % 16 * 64 + b1 % 64) * 64 + b2 % 64 = T
      cases hs : scalarF T with
      | false => rw [if_pos rfl, if_neg (by simp)]
      | true =>
        rw [if_neg (by simp)]
        by_cases c5 : 2048 ≤ T
        · rw [if_neg (by omega), if_pos ⟨rfl, c3, c4, c5⟩]
        · rw [if_pos ⟨by decide, by omega⟩, if_neg (fun h => c5 h.2.2.2)]
    · rw [if_neg c4, if_neg (fun h => c4 h.2.2.1)]
      rfl
  · rw [if_neg c3, if_neg (fun h => c3 h.2.1)]
    rfl
theorem next_4 (b0 b1 b2 b3 : Int) (r : List Int) (h : 240 ≤ b0 ∧ b0 < 248) (hc : 0 ≤ b1 ∧ b1 ≤ 255) (hd : 0 ≤ b2 ∧ b2 ≤ 255) (he : 0 ≤ b3 ∧ b3 ≤ 255) : nextF (b0 :: b1 :: b2 :: b3 :: r) = if scalarF (((b0 % 8 * 64 + b1 % 64) * 64 + b2 % 64) * 64 + b3 % 64) = true ∧ (128 ≤ b1 ∧ b1 < 192) ∧ (128 ≤ b2 ∧ b2 < 192) ∧ (128 ≤ b3 ∧ b3 < 192) ∧ 65536 ≤ ((b0 % 8 * 64 + b1 % 64) * 64 + b2 % 64) * 64 + b3 % 64 then (((b0 % 8 * 64 + b1 % 64) * 64 + b2 % 64) * 64 + b3 % 64, 4, 0) else (0, 0, 11) := by
  rw [nextF_cons, lenF_4 h, if_neg (by decide), if_neg (by simp; omega)]
  have e1 : ((b0 :: b1 :: b2 :: b3 :: r).take (4 : Int).toNat).drop 1 = [b1, b2, b3] := rfl
  have e2 : headF 4 = 240 := rfl
  have e3 : limF 4 = 65536 := rfl
  have hsub : b0 - 240 = b0 % 8 := by omega
  rw [e1, e2, hsub, contF_cons _ _ _ (by omega) (by omega) hc.1 hc.2]
  by_cases c3 : 128 ≤ b1 ∧ b1 < 192
  · rw [if_pos c3, contF_cons _ _ _ (by omega) (by omega) hd.1 hd.2]
    by_cases c4 : 128 ≤ b2 ∧ b2 < 192
    · rw [if_pos c4, contF_cons _ _ _ (by omega) (by omega) he.1 he.2]
      by_cases c6 : 128 ≤ b3 ∧ b3 < 192
      · rw [if_pos c6]
        simp only [contF, tailF, e3]
        generalize ((b0 % 8 * 64 + b1 % 64) * 64 + b2 % 64) * 64 + b3 % 64 = T
        cases hs : scalarF T with
        | false => rw [if_pos rfl, if_neg (by simp)]
        | true =>
          rw [if_neg (by simp)]
          by_cases c5 : 65536 ≤ T
          · rw [if_neg (by omega), if_pos ⟨rfl, c3, c4, c6, c5⟩]
          · rw [if_pos ⟨by decide, by omega⟩, if_neg (fun h => c5 h.2.2.2.2)]
      · rw [if_neg c6, if_neg (fun h => c6 h.2.2.2.1)]
        rfl
    · rw [if_neg c4, if_neg (fun h => c4 h.2.2.1)]
      rfl
  · rw [if_neg c3, if_neg (fun h => c3 h.2.1)]
    rfl
theorem from_step (l : List Int) (f n : Nat) : refFrom l (f + 1) n = if n ≤ 4 ∧ n ≤ l.length then (if refOk l n then (refTry l n, (n : Int), 0) else refFrom l f (n + 1)) else (0, 0, 11) := rfl
theorem from_5 (l : List Int) (f : Nat) : refFrom l f 5 = (0, 0, 11) := by
  cases f with
  | zero => rfl
  | succ f => rw [from_step, if_neg (by omega)]
/-- From 4 on: nothing, if the first byte begins no four. -/
theorem from_4 (b0 : Int) (r : List Int) (hl : bytesOk (b0 :: r) = true) (h : ¬ (240 ≤ b0 ∧ b0 < 248)) (f : Nat) : refFrom (b0 :: r) f 4 = (0, 0, 11) := by
  cases f with
  | zero => rfl
  | succ f =>
    rw [from_step]
    by_cases hq : 4 ≤ 4 ∧ 4 ≤ (b0 :: r).length
    · rw [if_pos hq]
      match r, hl, hq with
      | [], _, hq => simp at hq
      | [_], _, hq => simp at hq
      | [_, _], _, hq => simp at hq
      | b1 :: b2 :: b3 :: r, hl, _ => rw [ok4 b0 b1 b2 b3 r hl, if_neg (by simp; omega), from_5]
    · rw [if_neg hq]
theorem from_3 (b0 : Int) (r : List Int) (hl : bytesOk (b0 :: r) = true) (h : ¬ (224 ≤ b0 ∧ b0 < 248)) (f : Nat) : refFrom (b0 :: r) f 3 = (0, 0, 11) := by
  cases f with
  | zero => rfl
  | succ f =>
    rw [from_step]
    by_cases hq : 3 ≤ 4 ∧ 3 ≤ (b0 :: r).length
    · rw [if_pos hq]
      match r, hl, hq with
      | [], _, hq => simp at hq
      | [_], _, hq => simp at hq
      | b1 :: b2 :: r, hl, _ => rw [ok3 b0 b1 b2 r hl, if_neg (by simp; omega), from_4 _ _ hl (by omega)]
    · rw [if_neg hq]
theorem from_2 (b0 : Int) (r : List Int) (hl : bytesOk (b0 :: r) = true) (h : ¬ (192 ≤ b0 ∧ b0 < 248)) (f : Nat) : refFrom (b0 :: r) f 2 = (0, 0, 11) := by
  cases f with
  | zero => rfl
  | succ f =>
    rw [from_step]
    by_cases hq : 2 ≤ 4 ∧ 2 ≤ (b0 :: r).length
    · rw [if_pos hq]
      match r, hl, hq with
      | [], _, hq => simp at hq
      | b1 :: r, hl, _ => rw [ok2 b0 b1 r hl, if_neg (by simp; omega), from_3 _ _ hl (by omega)]
    · rw [if_neg hq]
theorem refFrom_nextF (l : List Int) (hl : bytesOk l = true) : refFrom l 5 1 = nextF l := by
  cases l with
  | nil => rfl
  | cons b0 r =>
    have hb := (bytesOk_cons.1 hl).1
    rw [from_step, if_pos ⟨by omega, by simp⟩, ok1 b0 r hl, try1]
    by_cases c1 : b0 < 128
    · rw [if_pos (decide_eq_true c1), next_1 b0 r hb.1 c1]; rfl
    · rw [if_neg (by simpa using c1)]
      by_cases c0 : 192 ≤ b0 ∧ b0 < 248
      case neg => rw [from_2 b0 r hl c0, next_short b0 r (by omega) (fun h => absurd (lenF_0 (by omega) c0) h)]
      match r, hl with
      | [], hl =>
        rw [next_short b0 [] (by omega) (fun _ => by
          rcases (by omega : b0 < 224 ∨ (224 ≤ b0 ∧ b0 < 240) ∨ 240 ≤ b0) with h | h | h
          · rw [lenF_2 ⟨c0.1, h⟩]; simp
          · rw [lenF_3 h]; simp
          · rw [lenF_4 ⟨h, c0.2⟩]; simp)]
        rw [from_step, if_neg (by simp)]
      | b1 :: r, hl =>
        have hc := (bytesOk_cons.1 (bytesOk_cons.1 hl).2).1
        rw [from_step, if_pos ⟨by omega, by simp⟩, ok2 b0 b1 r hl, try2 b0 b1 r hb hc]
        by_cases c2 : b0 < 224
        · rw [next_2 b0 b1 r ⟨c0.1, c2⟩ hc, from_3 _ _ hl (by omega)]
          by_cases c3 : 128 ≤ b1 ∧ b1 < 192 ∧ 128 ≤ b0 % 32 * 64 + b1 % 64
          · rw [if_pos (by simp; omega), if_pos c3]; rfl
          · rw [if_neg (by simp; omega), if_neg c3]
        · rw [if_neg (by simp; omega)]
          match r, hl with
          | [], hl =>
            rw [next_short b0 [b1] (by omega) (fun _ => by
              rcases (by omega : (224 ≤ b0 ∧ b0 < 240) ∨ 240 ≤ b0) with h | h
              · rw [lenF_3 h]; simp
              · rw [lenF_4 ⟨h, c0.2⟩]; simp)]
            rw [from_step, if_neg (by simp)]
          | b2 :: r, hl =>
            have hd := (bytesOk_cons.1 (bytesOk_cons.1 (bytesOk_cons.1 hl).2).2).1
            rw [from_step, if_pos ⟨by omega, by simp⟩, ok3 b0 b1 b2 r hl, try3 b0 b1 b2 r hb hc hd]
            by_cases c3 : b0 < 240
            · rw [next_3 b0 b1 b2 r ⟨by omega, c3⟩ hc hd, from_4 _ _ hl (by omega)]
              generalize (b0 % 16 * 64 + b1 % 64) * 64 + b2 % 64 = T
              by_cases c4 : scalarF T = true ∧ (128 ≤ b1 ∧ b1 < 192) ∧ (128 ≤ b2 ∧ b2 < 192) ∧ 2048 ≤ T
              · rw [if_pos (by rw [c4.1, Bool.true_and, decide_eq_true_iff]; omega), if_pos c4]; rfl
              · rw [if_neg (by rw [Bool.and_eq_true, decide_eq_true_iff]; exact fun h => c4 ⟨h.1, by omega⟩), if_neg c4]
            · rw [if_neg (by rw [Bool.and_eq_true, decide_eq_true_iff]; omega)]
              match r, hl with
              | [], hl =>
                rw [next_short b0 [b1, b2] (by omega) (fun _ => by rw [lenF_4 ⟨by omega, c0.2⟩]; simp)]
                rw [from_step, if_neg (by simp)]
              | b3 :: r, hl =>
                have he := (bytesOk_cons.1 (bytesOk_cons.1 (bytesOk_cons.1 (bytesOk_cons.1 hl).2).2).2).1
                rw [from_step, if_pos ⟨by omega, by simp⟩, ok4 b0 b1 b2 b3 r hl, try4 b0 b1 b2 b3 r hb hc hd he, from_5, next_4 b0 b1 b2 b3 r ⟨by omega, c0.2⟩ hc hd he]
                generalize ((b0 % 8 * 64 + b1 % 64) * 64 + b2 % 64) * 64 + b3 % 64 = T
                by_cases c4 : scalarF T = true ∧ (128 ≤ b1 ∧ b1 < 192) ∧ (128 ≤ b2 ∧ b2 < 192) ∧ (128 ≤ b3 ∧ b3 < 192) ∧ 65536 ≤ T
                · rw [if_pos (by rw [c4.1, Bool.true_and, decide_eq_true_iff]; omega), if_pos c4]; rfl
                · rw [if_neg (by rw [Bool.and_eq_true, decide_eq_true_iff]; exact fun h => c4 ⟨h.1, by omega⟩), if_neg c4]
end Go.Proofs.Ytdkblhfcndafaaa.X
