/- Plain laws: what the library's stable sort leaves of a row is the list in order. -/
import Derived.Test.YtipejilcocafmaaYps1
import Derived.Test.YtipejilcocafmaaYstab
namespace Go.Proofs.Ytipejilcocafmaa.X
open Go.Lib Go.Sort Go.Proofs
set_option linter.unusedVariables false
set_option linter.unusedSimpArgs false

def fInf : Int := (fval 9218868437227405312 : Int)
/-- A number's rank: its sort, and among those of a sort its value. -/
def rank (n : Nat) : Int := sortF n * (2 * fInf + 1) + (if sortF n = 0 then 0 else sval n)
def keyU (x : U64) : Int := rank x.1.toNat
theorem sval_in (n : Nat) (h : sortF n ≠ 0) : -fInf ≤ sval n ∧ sval n ≤ fInf := by
  have h1 := sortF_num n h
  have h2 := @fval_le_iff (rung n) 9218868437227405312
  have h3 := h2.2 h1
  unfold sval fInf
  generalize fval 9218868437227405312 = A at *
  split <;> omega
theorem fInf_pos : 0 ≤ fInf := by unfold fInf; omega
theorem sortF_in (n : Nat) : 0 ≤ sortF n ∧ sortF n ≤ 6 := by unfold sortF; (repeat' split) <;> omega
theorem cmpI_lt {a b : Int} (h : a < b) : cmpI a b = -1 := if_pos h
theorem cmpI_gt {a b : Int} (h : b < a) : cmpI a b = 1 := by unfold cmpI; rw [if_neg (by omega), if_pos h]
theorem cmpI_self (a : Int) : cmpI a a = 0 := by unfold cmpI; rw [if_neg (by omega), if_neg (by omega)]
theorem rank_cmp (m n : Nat) : orderF m n = cmpI (rank m) (rank n) := by
  have hF := fInf_pos
  unfold orderF rank
  by_cases c : sortF m = sortF n
  · by_cases c0 : sortF m = 0
    · rw [if_neg (fun h => h.2 c0), if_pos c0, if_pos (c ▸ c0), c]
      rw [cmpI_self, cmpI_self]
    · rw [if_pos ⟨c, c0⟩, if_neg c0, if_neg (c ▸ c0), c]
      generalize sortF n * (2 * fInf + 1) = q
      rcases Int.lt_trichotomy (sval m) (sval n) with h | h | h
      · rw [cmpI_lt h, cmpI_lt (by omega)]
      · rw [h, cmpI_self, cmpI_self]
      · rw [cmpI_gt h, cmpI_gt (by omega)]
  · rw [if_neg (fun h => c h.1)]
    have bm : -fInf ≤ (if sortF m = 0 then 0 else sval m) ∧ (if sortF m = 0 then 0 else sval m) ≤ fInf := by
      split
      · omega
      · rename_i h; exact sval_in m h
    have bn : -fInf ≤ (if sortF n = 0 then 0 else sval n) ∧ (if sortF n = 0 then 0 else sval n) ≤ fInf := by
      split
      · omega
      · rename_i h; exact sval_in n h
    generalize (if sortF m = 0 then 0 else sval m) = s at *
    generalize (if sortF n = 0 then 0 else sval n) = t at *
    generalize sortF m = a at *
    generalize sortF n = b at *
    have mul : ∀ x y : Int, x < y → x * (2 * fInf + 1) + (2 * fInf + 1) ≤ y * (2 * fInf + 1) := by
      intro x y h
      have := Int.mul_le_mul_of_nonneg_right (show x + 1 ≤ y by omega) (show 0 ≤ 2 * fInf + 1 by omega)
      rwa [Int.add_mul, Int.one_mul] at this
    by_cases h1 : a < b
    · have := mul a b h1
      rw [cmpI_lt h1, cmpI_lt (by omega)]
    · have h2 : b < a := by omega
      have := mul b a h2
      rw [cmpI_gt h2, cmpI_gt (by omega)]
theorem ltU_iff (x y : U64) : ltU x y = true ↔ keyU x < keyU y := by
  show decide (orderF _ _ < 0) = true ↔ _
  rw [decide_eq_true_iff, rank_cmp, cmpI_neg]
  rfl
theorem ltU_eq (x y : U64) : ltU x y = decide (keyU x < keyU y) := by
  rw [Bool.eq_iff_iff, ltU_iff, decide_eq_true_iff]
/-! Rows as lists. -/
theorem get_at (P Q : List U64) (x : U64) (i : Nat) (hi : i = P.length) : (P ++ x :: Q).toArray[i]! = x := by
  subst hi
  simp [getElem!_pos]
theorem swp_at (P M Q : List U64) (x y : U64) (i j : Nat) (hi : i = P.length) (hj : j = P.length + 1 + M.length) : swp (P ++ x :: (M ++ y :: Q)).toArray i j = (P ++ y :: (M ++ x :: Q)).toArray := by
  have e1 : (P ++ x :: (M ++ y :: Q)).toArray[i]! = x := get_at P _ x i hi
  have e2 : (P ++ x :: (M ++ y :: Q)).toArray[j]! = y := by
    have := get_at (P ++ x :: M) Q y j (by simp; omega)
    simpa using this
  unfold swp
  rw [e1, e2]
  subst hi hj
  simp only [List.setIfInBounds_toArray]
  congr 1
  rw [List.set_append_right _ _ (by omega), Nat.sub_self, List.set_cons_zero, List.set_append_right _ _ (by omega), show P.length + 1 + M.length - P.length = M.length + 1 by omega, List.set_cons_succ, List.set_append_right _ _ (by omega), Nat.sub_self, List.set_cons_zero]
theorem swp_at' (P M Q : List U64) (x y : U64) (i j : Nat) (hi : i = P.length) (hj : j = P.length + 1 + M.length) : swp (P ++ x :: (M ++ y :: Q)).toArray j i = (P ++ y :: (M ++ x :: Q)).toArray := by
  rw [← swp_at P M Q x y i j hi hj]
  have hne : i ≠ j := by omega
  unfold swp
  exact Array.setIfInBounds_comm _ _ (fun h => hne h.symm)
theorem swapGo_list : ∀ (X Y P M Q : List U64) (a b i : Nat), X.length = Y.length → a + i = P.length → b + i = P.length + X.length + M.length →
    swapGo a b i X.length (P ++ (X ++ (M ++ (Y ++ Q)))).toArray = (P ++ (Y ++ (M ++ (X ++ Q)))).toArray
  | [], [], P, M, Q, a, b, i, _, _, _ => rfl
  | [], _ :: _, _, _, _, _, _, _, h, _, _ => by simp at h
  | _ :: _, [], _, _, _, _, _, _, h, _, _ => by simp at h
  | x :: X, y :: Y, P, M, Q, a, b, i, h, ha, hb => by
    have hl : X.length = Y.length := by simpa using h
    rw [List.length_cons] at hb
    show swapGo a b (i + 1) X.length (swp _ (a + i) (b + i)) = _
    have e := swp_at P (X ++ M) (Y ++ Q) x y (a + i) (b + i) ha (by simp; omega)
    have e1 : P ++ (x :: X ++ (M ++ (y :: Y ++ Q))) = P ++ x :: ((X ++ M) ++ y :: (Y ++ Q)) := by simp
    have e2 : P ++ y :: ((X ++ M) ++ x :: (Y ++ Q)) = (P ++ [y]) ++ (X ++ ((M ++ [x]) ++ (Y ++ Q))) := by simp
    rw [e1, e, e2, swapGo_list X Y (P ++ [y]) (M ++ [x]) Q a b (i + 1) hl (by simp; omega) (by simp; omega)]
    simp
theorem rotGo_list : ∀ (f : Nat) (X Y P Q : List U64) (m : Nat), 0 < X.length → 0 < Y.length → X.length + Y.length ≤ f → m = P.length + X.length →
    rotGo m f X.length Y.length (P ++ (X ++ (Y ++ Q))).toArray = (P ++ (Y ++ (X ++ Q))).toArray
  | 0, X, Y, P, Q, m, h1, h2, hf, hm => absurd hf (by omega)
  | f + 1, X, Y, P, Q, m, h1, h2, hf, hm => by
    unfold rotGo
    by_cases c1 : X.length = Y.length
    · rw [if_pos c1]
      have := swapGo_list X Y P [] Q (m - X.length) m 0 c1 (by omega) (by simp; omega)
      simpa using this
    · rw [if_neg c1]
      by_cases c2 : Y.length < X.length
      · rw [if_pos c2]
        have hx : X = X.take Y.length ++ X.drop Y.length := (List.take_append_drop _ _).symm
        have l1 : (X.take Y.length).length = Y.length := by rw [List.length_take]; omega
        have l2 : (X.drop Y.length).length = X.length - Y.length := List.length_drop ..
        generalize hX1 : X.take Y.length = X1 at *
        generalize hX2 : X.drop Y.length = X2 at *
        have e := swapGo_list X1 Y P X2 Q (m - X.length) m 0 l1 (by omega) (by omega)
        have e1 : P ++ (X ++ (Y ++ Q)) = P ++ (X1 ++ (X2 ++ (Y ++ Q))) := by rw [hx]; simp
        have e2 : P ++ (Y ++ (X2 ++ (X1 ++ Q))) = (P ++ Y) ++ (X2 ++ (X1 ++ Q)) := by simp
        rw [l1] at e
        have ih := rotGo_list f X2 X1 (P ++ Y) Q m (by omega) (by omega) (by omega) (by simp; omega)
        rw [l1, l2] at ih
        rw [e1, e, e2, ih, hx]
        simp
      · rw [if_neg c2]
        have hy : Y = Y.take (Y.length - X.length) ++ Y.drop (Y.length - X.length) := (List.take_append_drop _ _).symm
        have l1 : (Y.take (Y.length - X.length)).length = Y.length - X.length := by rw [List.length_take]; omega
        have l2 : (Y.drop (Y.length - X.length)).length = X.length := by rw [List.length_drop]; omega
        generalize hY1 : Y.take (Y.length - X.length) = Y1 at *
        generalize hY2 : Y.drop (Y.length - X.length) = Y2 at *
        have e := swapGo_list X Y2 P Y1 Q (m - X.length) (m + Y.length - X.length) 0 l2.symm (by omega) (by omega)
        have e1 : P ++ (X ++ (Y ++ Q)) = P ++ (X ++ (Y1 ++ (Y2 ++ Q))) := by rw [hy]; simp
        have ih := rotGo_list f Y2 Y1 P (X ++ Q) m (by omega) (by omega) (by omega) (by omega)
        rw [l1, l2] at ih
        rw [e1, e, ih, hy]
        simp
theorem upGo_list : ∀ (X P Q : List U64) (x : U64) (k : Nat), k = P.length → upGo k X.length (P ++ (x :: (X ++ Q))).toArray = (P ++ (X ++ x :: Q)).toArray
  | [], P, Q, x, k, _ => rfl
  | y :: X, P, Q, x, k, hk => by
    show upGo (k + 1) X.length (swp _ k (k + 1)) = _
    have e := swp_at P [] (X ++ Q) x y k (k + 1) hk (by simp; omega)
    have e1 : P ++ y :: ([] ++ x :: (X ++ Q)) = (P ++ [y]) ++ (x :: (X ++ Q)) := by simp
    rw [show P ++ (x :: (y :: X ++ Q)) = P ++ x :: ([] ++ y :: (X ++ Q)) by simp, e, e1, upGo_list X (P ++ [y]) Q x (k + 1) (by simp; omega)]
    simp
theorem dnGo_list : ∀ (R P Q : List U64) (x : U64) (k : Nat), k = P.length + R.length → dnGo k R.length (P ++ (R.reverse ++ x :: Q)).toArray = (P ++ (x :: (R.reverse ++ Q))).toArray
  | [], P, Q, x, k, _ => rfl
  | y :: R, P, Q, x, k, hk => by
    rw [List.length_cons] at hk
    show dnGo (k - 1) R.length (swp _ k (k - 1)) = _
    have e := swp_at' (P ++ R.reverse) [] Q y x (k - 1) k (by simp; omega) (by simp; omega)
    have e1 : P ++ ((y :: R).reverse ++ x :: Q) = (P ++ R.reverse) ++ y :: ([] ++ x :: Q) := by simp
    have e2 : (P ++ R.reverse) ++ x :: ([] ++ y :: Q) = P ++ (R.reverse ++ x :: (y :: Q)) := by simp
    rw [e1, e, e2, dnGo_list R P (y :: Q) x (k - 1) (by omega)]
    simp
end Go.Proofs.Ytipejilcocafmaa.X
