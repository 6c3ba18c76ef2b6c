/- Plain law: ScaleLists answers yes. -/
import Derived.Test.YtipejilcocafmaaYps6
namespace Go.Proofs.Ytipejilcocafmaa.X
open Go.RowKit Go.Lib Go.Sort Go.Proofs Go.Proofs.YtipejilcocafmaaW.PrintWords
set_option linter.unusedVariables false
set_option linter.unusedSimpArgs false

theorem rd_nat (l : List Int) (i : Nat) (h : i < l.length) : rd l (i : Int) = l[i] := by
  unfold rd
  rw [Int.toNat_natCast, List.getD_eq_getElem?_getD, List.getElem?_eq_getElem h]
  rfl
theorem okU_get (l : List Int) (h : okU l = true) (i : Nat) (hi : i < l.length) : 0 ≤ l[i] ∧ l[i] < 18446744073709551616 := by
  have := List.all_eq_true.1 h l[i] (List.getElem_mem hi)
  simpa using this
abbrev vals (l : List U64) : List Int := l.map (·.1)
theorem rd_vals (l : List U64) (i : Nat) (h : i < l.length) : rd (vals l) (i : Int) = (l[i]).1 := by
  rw [rd_nat _ _ (by simpa using h)]
  simp
/-- The inner loop of the document's sorted list: R turned is what is still to look at, D what is behind. -/
theorem ins_loop (l : List Int) (i : Nat) (x : U64) (hi : i < l.length) (hx : rd l (i : Int) = x.1) (hil : i < 1000) : ∀ (R D : List U64) (k : Nat), (R.length + D.length ≤ 1000) → R.length + 3 ≤ k →
    ∃ k', k' + R.length + 1 ≥ k ∧ frisketref04_Sorted.l1 k l (vals (R.reverse ++ D)) (i : Int) (R.length : Int) = frisketref04_Sorted.l0 k' l (vals ((insV keyU x R).reverse ++ D)) ((i + 1 : Nat) : Int)
  | [], D, k, hl, hk => by
    obtain ⟨k, rfl⟩ : ∃ q, k = q + 1 := ⟨k - 1, by omega⟩
    refine ⟨k, by simp, ?_⟩
    simp only [frisketref04_Sorted.l1]
    rw [if_neg (by simp)]
    simp only [Option.bind_some]
    rw [if_pos (by simp), if_pos (by simp), if_pos (by simp), if_pos (by omega), if_pos (by omega), if_pos (by simp), if_pos (by simp at hl ⊢; omega), incN i (by omega)]
    simp [hx, insV]
  | y :: R, D, k, hl, hk => by
    rw [List.length_cons] at hk hl
    obtain ⟨k, rfl⟩ : ∃ q, k = q + 1 := ⟨k - 1, by omega⟩
    have hy : rd (vals ((y :: R).reverse ++ D)) (R.length : Int) = y.1 := by
      rw [rd_vals _ _ (by simp)]
      simp
    have hord : frisketref04_Order.f k (y.1) (x.1) = some (orderF y.1.toNat x.1.toNat) := by
      have := order04_eq y.1.toNat x.1.toNat (by have := y.2; omega) (by have := x.2; omega) k (by omega)
      rwa [Int.toNat_of_nonneg y.2.1, Int.toNat_of_nonneg x.2.1] at this
    have hc : orderF y.1.toNat x.1.toNat > 0 ↔ keyU x < keyU y := by
      rw [rank_cmp]
      show cmpI (keyU y) (keyU x) > 0 ↔ _
      rcases Int.lt_trichotomy (keyU y) (keyU x) with h | h | h
      · rw [cmpI_lt h]; omega
      · rw [h, cmpI_self]; omega
      · rw [cmpI_gt h]; omega
    simp only [frisketref04_Sorted.l1]
    have hw : wrap64 (((y :: R).length : Nat) - 1 : Int) = (R.length : Int) := by
      rw [List.length_cons, w64s _ ⟨by omega, by omega⟩]; omega
    rw [hw, if_pos (by first | (simp; done) | (simp; omega)), if_pos (by omega), if_pos (by first | (simp; done) | (simp; omega)), if_pos (by omega), if_pos (by omega), hy, hx, hord, Option.bind_some]
    by_cases c : keyU x < keyU y
    · rw [if_pos (hc.2 c)]
      obtain ⟨k', h1, h2⟩ := ins_loop l i x hi hx hil R (y :: D) k (by rw [List.length_cons]; omega) (by omega)
      refine ⟨k', by rw [List.length_cons]; omega, ?_⟩
      have e1 : (y :: R).reverse ++ D = R.reverse ++ y :: D := by simp
      rw [e1, h2, show insV keyU x (y :: R) = y :: insV keyU x R from if_pos c]
      simp
    · rw [if_neg (fun h => c (hc.1 h))]
      refine ⟨k, by rw [List.length_cons]; omega, ?_⟩
      simp only [Option.bind_some]
      have hlen : (vals ((y :: R).reverse ++ D)).length = R.length + 1 + D.length := by simp; omega
      have et : (vals ((y :: R).reverse ++ D)).take ((((y :: R).length : Nat) : Int)).toNat = vals (y :: R).reverse := by
        rw [Int.toNat_natCast]
        have e2 : vals ((y :: R).reverse ++ D) = vals (y :: R).reverse ++ vals D := by simp [vals]
        rw [e2]
        exact List.take_left' (by simp)
      have ed : (vals ((y :: R).reverse ++ D)).drop ((((y :: R).length : Nat) : Int)).toNat = vals D := by
        rw [Int.toNat_natCast]
        have e2 : vals ((y :: R).reverse ++ D) = vals (y :: R).reverse ++ vals D := by simp [vals]
        rw [e2]
        exact List.drop_left' (by simp)
      rw [if_pos (by omega), if_pos (by rw [hlen, List.length_cons]; omega), et, if_pos (by simp; omega), if_pos (by simp; omega), ed, if_pos (by simp; omega), incN i (by omega), show insV keyU x (y :: R) = x :: y :: R from if_neg c]
      simp
theorem insV_len (x : U64) : ∀ R : List U64, (insV keyU x R).length = R.length + 1
  | [] => rfl
  | y :: R => by
    unfold insV
    split
    · rw [List.length_cons, insV_len x R, List.length_cons]
    · rfl
theorem sorted_loop (l : List Int) (hok : okU l = true) (hlen : l.length ≤ 60) : ∀ (d i : Nat) (acc : List U64) (k : Nat), i + d = l.length → acc.length = i → d * 100 + 1 ≤ k →
    frisketref04_Sorted.l0 k l (vals acc) (i : Int) = some (vals (((l.drop i).map toU).foldl (insR keyU) acc))
  | 0, i, acc, k, h, ha, hk => by
    obtain ⟨k, rfl⟩ : ∃ q, k = q + 1 := ⟨k - 1, by omega⟩
    simp only [frisketref04_Sorted.l0]
    rw [if_neg (by omega), show i = l.length by omega, List.drop_length]
    rfl
  | d + 1, i, acc, k, h, ha, hk => by
    obtain ⟨k, rfl⟩ : ∃ q, k = q + 1 := ⟨k - 1, by omega⟩
    have hi : i < l.length := by omega
    simp only [frisketref04_Sorted.l0]
    rw [if_pos (by omega)]
    have hx : rd l (i : Int) = (toU l[i]).1 := by
      have := okU_get l hok i hi
      rw [rd_nat l i hi, toU_val _ this.1 this.2]
    obtain ⟨k', h1, h2⟩ := ins_loop l i (toU l[i]) hi hx (by omega) acc.reverse [] k (by simp; omega) (by rw [List.length_reverse]; omega)
    rw [List.length_reverse] at h1 h2
    rw [List.reverse_reverse, List.append_nil, List.append_nil] at h2
    have hal : ((vals acc).length : Int) = (acc.length : Int) := by simp
    rw [hal, h2]
    have hr : (insV keyU (toU l[i]) acc.reverse).reverse = insR keyU acc (toU l[i]) := rfl
    rw [hr, List.drop_eq_getElem_cons hi, List.map_cons, List.foldl_cons]
    exact sorted_loop l hok hlen d (i + 1) _ k' (by omega) (by rw [← hr, List.length_reverse, insV_len, List.length_reverse]; omega) (by omega)
theorem sorted04_eq (l : List Int) (hok : okU l = true) (hlen : l.length ≤ 60) (k : Nat) (hk : 6001 ≤ k) : frisketref04_Sorted.f k l = some (sortedL l) := by
  unfold frisketref04_Sorted.f
  have := sorted_loop l hok hlen l.length 0 [] k (by omega) rfl (by omega)
  rw [List.drop_zero] at this
  rw [sortedL_eq]
  exact this
theorem same04_run (l : List Int) (hlen : l.length ≤ 1000) : ∀ (d i k : Nat), i + d = l.length → d + 1 ≤ k → frisketref04_Same.l0 k l l (i : Int) = some true
  | 0, i, k, h, hk => by
    obtain ⟨k, rfl⟩ : ∃ q, k = q + 1 := ⟨k - 1, by omega⟩
    simp only [frisketref04_Same.l0]
    rw [if_neg (by omega)]
  | d + 1, i, k, h, hk => by
    obtain ⟨k, rfl⟩ : ∃ q, k = q + 1 := ⟨k - 1, by omega⟩
    simp only [frisketref04_Same.l0]
    rw [if_pos (by omega), if_pos (by omega), if_pos (by omega), if_pos trivial, incN i (by omega)]
    exact same04_run l hlen d (i + 1) k (by omega) (by omega)
theorem same04_all (l : List Int) (hlen : l.length ≤ 1000) (k : Nat) (hk : l.length + 1 ≤ k) : frisketref04_Same.f k l l = some true := by
  unfold frisketref04_Same.f
  rw [if_pos rfl]
  exact same04_run l hlen l.length 0 k (by omega) (by omega)
theorem cellsF_small (n : Nat) : 0 ≤ (cellsF n).1 ∧ (cellsF n).1 ≤ 64 := by
  unfold cellsF
  (repeat' split) <;> dsimp only <;> try omega
  rename_i h
  have := fceil_le _ h
  omega
theorem cells04_at (x : Int) (h0 : 0 ≤ x) (h1 : x < 18446744073709551616) (k : Nat) (hk : 64 ≤ k) : frisketref04_Cells.f k x = some (cellsF x.toNat) := by
  have h := cells04_64 x.toNat (by omega)
  rw [Int.toNat_of_nonneg h0] at h
  exact leO_some (F := fun k => frisketref04_Cells.f k x) (fun k => frisketref04_Cells.mono x k) h hk
theorem sum_run (l : List Int) (hok : okU l = true) (hlen : l.length ≤ 60) : ∀ (d i : Nat) (n : Int) (k k' : Nat), i + d = l.length → d + 70 ≤ k → d + 70 ≤ k' →
    ∃ r, scale_Sum.l0 k n l (l.length : Int) (i : Int) = some r ∧ frisketref04_Sum.l0 k' l n (i : Int) = some r
  | 0, i, n, k, k', h, hk, hk' => by
    obtain ⟨k, rfl⟩ : ∃ q, k = q + 1 := ⟨k - 1, by omega⟩
    obtain ⟨k', rfl⟩ : ∃ q, k' = q + 1 := ⟨k' - 1, by omega⟩
    simp only [scale_Sum.l0, frisketref04_Sum.l0]
    rw [if_neg (by omega), if_neg (by omega)]
    exact ⟨_, rfl, rfl⟩
  | d + 1, i, n, k, k', h, hk, hk' => by
    obtain ⟨k, rfl⟩ : ∃ q, k = q + 1 := ⟨k - 1, by omega⟩
    obtain ⟨k', rfl⟩ : ∃ q, k' = q + 1 := ⟨k' - 1, by omega⟩
    have hi : i < l.length := by omega
    have hx := okU_get l hok i hi
    simp only [scale_Sum.l0, frisketref04_Sum.l0]
    rw [if_pos (show (i : Int) < (l.length : Int) by omega), if_pos (show (0 : Int) ≤ (i : Int) by omega), if_pos (show (i : Int) < (l.length : Int) by omega), if_pos (show (i : Int) < (l.length : Int) by omega), if_pos (show (0 : Int) ≤ (i : Int) by omega), rd_nat l i hi, cells04_at _ hx.1 hx.2 k' (by omega)]
    unfold scale_Cells.f
    rw [Option.bind_some, Option.bind_some, incN i (by omega)]
    by_cases c : (cellsF (l[i]).toNat).2 = 0
    · rw [if_pos c, if_pos c]
      exact sum_run l hok hlen d (i + 1) _ k k' (by omega) (by omega) (by omega)
    · rw [if_neg c, if_neg c]
      exact ⟨_, rfl, rfl⟩
set_option maxRecDepth 100000 in
theorem alive04 : frisketlaw04_alive.f = some true := by decide +kernel
theorem lists_all (l : List Int) (hok : okU l = true) : frisketlaw04_ScaleLists.f 10000 l = some true := by
  unfold frisketlaw04_ScaleLists.f
  rw [alive04]
  by_cases c : (l.length : Int) > 60
  · rw [if_pos c]; rfl
  · rw [if_neg c]
    have hl : l.length ≤ 60 := by omega
    obtain ⟨r, h1, h2⟩ := sum_run l hok hl l.length 0 0 10000 10000 (by omega) (by omega) (by omega)
    have hs := same04_all (sortedL l) (by rw [sortedL_length]; omega) 10000 (by rw [sortedL_length]; omega)
    have hs2 := same04_all l (by omega) 10000 (by omega)
    rw [Option.bind_some, if_pos (by simp; omega)]
    unfold scale_Sum.f frisketref04_Sum.f
    rw [show scale_Sum.l0 10000 0 l (l.length : Int) 0 = some r from h1, show frisketref04_Sum.l0 10000 l 0 0 = some r from h2, Option.bind_some, Option.bind_some, Option.bind_some, if_pos rfl, if_pos rfl, if_pos rfl]
    unfold scale_Sorted.f
    rw [if_pos ⟨hl, hok⟩, Option.bind_some, sorted04_eq l hok hl 10000 (by omega), Option.bind_some, hs, Option.bind_some, if_pos rfl, List.nil_append, hs2]
    rfl
end Go.Proofs.Ytipejilcocafmaa.X
