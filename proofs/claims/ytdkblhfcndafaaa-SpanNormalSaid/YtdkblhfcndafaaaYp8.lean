/- Plain laws: which style a scalar has among right spans (Style, Normal of the program). -/
import Derived.Test.YtdkblhfcndafaaaYp6
import Derived.Test.YtdkblhfcndafaaaXf14
import Derived.Test.YtdkblhfcndafaaaXf16
namespace Go.Proofs.Ytdkblhfcndafaaa.X
open Go.RowKit Go.Proofs.YtdkblhfcndafaaaW.PrintWords Go.Proofs.YtdkblhfcndafaaaW.PrintLast Go.Proofs.YtdkblhfcndafaaaW.PrintMore
set_option linter.unusedVariables false
set_option linter.unusedSimpArgs false

abbrev Tup := Int × Bool × List UInt8 × Int
def bareT (s : S33) : Tup := (s.f2, s.f3, s.f4.toList, s.f5)
def zeroT : Tup := (0, false, [], 0)
/-- The style of the first span that has x; d, if none has. -/
def stOr : List S33 → Int → Tup → Tup
  | [], _, d => d
  | s :: l, x, d => if s.f0 ≤ x ∧ x < s.f1 then bareT s else stOr l x d
theorem empty_list : (⟨#[]⟩ : ByteArray).toList = [] := by decide +kernel
theorem rd_zero (s : S33) (l : List S33) : rd_T33 (s :: l) ((0 : Nat) : Int) = s := rfl
theorem rd_succ (s : S33) (l : List S33) (i : Nat) : rd_T33 (s :: l) ((i + 1 : Nat) : Int) = rd_T33 l (i : Int) := by
  unfold rd_T33
  rw [Int.toNat_natCast, Int.toNat_natCast, List.getD_cons_succ]
theorem okL_core {n : Int} : ∀ {l : List S33} {lo : Int}, okL lo n l → ∀ i, i < l.length → coreS (rd_T33 l (i : Int)) ∧ lo ≤ (rd_T33 l (i : Int)).f0 ∧ (rd_T33 l (i : Int)).f1 ≤ n
  | [], _, _, i, h => absurd h (by simp)
  | s :: l, lo, hok, 0, _ => by rw [rd_zero]; exact ⟨hok.1, hok.2.1, hok.2.2.1⟩
  | s :: l, lo, hok, i + 1, h => by
    rw [rd_succ]
    obtain ⟨hc, h1, h2, h3⟩ := hok
    obtain ⟨a, b, c⟩ := okL_core h3 i (by simpa using h)
    have := hc.2.1
    exact ⟨a, by omega, c⟩
theorem okL_lt {n : Int} : ∀ {l : List S33} {lo : Int}, okL lo n l → ∀ a b, a < b → b < l.length → (rd_T33 l (a : Int)).f1 ≤ (rd_T33 l (b : Int)).f0
  | [], _, _, _, _, _, h => absurd h (by simp)
  | s :: l, lo, hok, 0, 0, h, _ => absurd h (by omega)
  | s :: l, lo, hok, 0, b + 1, _, h => by
    rw [rd_zero, rd_succ]
    exact (okL_core hok.2.2.2 b (by simpa using h)).2.1
  | s :: l, lo, hok, a + 1, 0, h, _ => absurd h (by omega)
  | s :: l, lo, hok, a + 1, b + 1, hab, h => by
    rw [rd_succ, rd_succ]
    exact okL_lt hok.2.2.2 a b (by omega) (by simpa using h)
theorem stOr_before {n x : Int} {d : Tup} : ∀ {l : List S33} {lo : Int}, okL lo n l → x < lo → stOr l x d = d
  | [], _, _, _ => rfl
  | s :: l, lo, ⟨hc, h1, _, h3⟩, hx => by
    have := hc.2.1
    unfold stOr
    rw [if_neg (by omega)]
    exact stOr_before h3 (by omega)
theorem stOr_at {n x : Int} {d : Tup} : ∀ {l : List S33} {lo : Int}, okL lo n l → ∀ i, i < l.length → (rd_T33 l (i : Int)).f0 ≤ x → x < (rd_T33 l (i : Int)).f1 → stOr l x d = bareT (rd_T33 l (i : Int))
  | [], _, _, _, h, _, _ => absurd h (by simp)
  | s :: l, lo, _, 0, _, h1, h2 => by
    rw [rd_zero] at h1 h2 ⊢
    unfold stOr
    rw [if_pos ⟨h1, h2⟩]
  | s :: l, lo, hok, i + 1, h, h1, h2 => by
    rw [rd_succ] at h1 h2 ⊢
    have hi : i < l.length := by simpa using h
    have := (okL_core hok.2.2.2 i hi).2.1
    unfold stOr
    rw [if_neg (by omega)]
    exact stOr_at hok.2.2.2 i hi h1 h2
theorem stOr_none {x : Int} {d : Tup} : ∀ {l : List S33}, (∀ i, i < l.length → ¬ ((rd_T33 l (i : Int)).f0 ≤ x ∧ x < (rd_T33 l (i : Int)).f1)) → stOr l x d = d
  | [], _ => rfl
  | s :: l, h => by
    unfold stOr
    rw [if_neg (by have := h 0 (by simp); rwa [rd_zero] at this)]
    exact stOr_none fun i hi => by have := h (i + 1) (by simp; omega); rwa [rd_succ] at this
/-- What Style answers of right spans. -/
theorem style_eq (l : List S33) (n : Int) (hn : n ≤ 1073741824) (hlen : l.length ≤ 1000) (h : okL 0 n l) (x : Int) :
    ∃ (p2 : Int) (p3 : Bool) (p4 : ByteArray) (p5 : Int), span_Style.f l x = some (0, 0, p2, p3, p4, p5) ∧ (p2, p3, p4.toList, p5) = stOr l x zeroT := by
  have hlt : ∀ a, a < l.length → (span_At.lt l x a = true ↔ (rd_T33 l (a : Int)).f1 ≤ x) := by
    intro a ha
    obtain ⟨hc, _, h2⟩ := okL_core h a ha
    have h0 := hc.1
    have h1 := hc.2.1
    unfold span_At.lt span_At.cf
    rw [w64 _ ⟨by omega, by omega⟩, decide_eq_true_iff, cmpI_neg]
    omega
  have hf : ∀ a, a < l.length → span_At.lt l x a = false → x < (rd_T33 l (a : Int)).f1 := by
    intro a ha hq
    have : ¬ (rd_T33 l (a : Int)).f1 ≤ x := fun hc => by have := (hlt a ha).2 hc; rw [hq] at this; cases this
    omega
  obtain ⟨b1, b2⟩ := bsearch_spec (span_At.lt l x) l.length (fun a b hab hb hq => by
    have h1 := (hlt b hb).1 hq
    refine (hlt a (by omega)).2 ?_
    by_cases e : a = b
    · subst e; exact h1
    · have := okL_lt h a b (by omega) hb
      have := (okL_core h b hb).1.2.1
      omega)
  have hle := bsearch_le (span_At.lt l x) l.length
  unfold span_Style.f span_At.f
  rw [if_pos (by omega)]
  generalize bsearch (span_At.lt l x) l.length = K at b1 b2 hle ⊢
  by_cases c1 : K = l.length
  · rw [if_pos c1]
    refine ⟨0, false, ⟨#[]⟩, 0, rfl, ?_⟩
    rw [stOr_none]
    · rw [empty_list]; rfl
    · intro i hi hc
      have := (hlt i hi).1 (b1 i (by omega))
      omega
  rw [if_neg c1]
  have hK : K < l.length := by omega
  by_cases c2 : (rd_T33 l (K : Int)).f0 > x
  · rw [if_pos c2]
    refine ⟨0, false, ⟨#[]⟩, 0, rfl, ?_⟩
    rw [stOr_none]
    · rw [empty_list]; rfl
    · intro i hi hc
      by_cases c3 : i < K
      · have := (hlt i hi).1 (b1 i c3)
        omega
      · by_cases e : i = K
        · subst e; omega
        · have := okL_lt h K i (by omega) hi
          have := (okL_core h K hK).1.2.1
          omega
  · rw [if_neg c2, Option.bind_some, if_pos rfl, if_pos (show (0 : Int) ≤ (K : Int) by omega), if_pos (show (K : Int) < (l.length : Int) by omega)]
    refine ⟨_, _, _, _, rfl, ?_⟩
    rw [stOr_at h K hK (by omega) (hf K hK (b2 K (by omega) hK))]
    rfl
/-- One step of Normal, on what there is so far, turned. -/
def joinS (t s : S33) : Prop := t.f1 = s.f0 ∧ bareT t = bareT s ∧ s.f3 = false ∧ s.f4.toList = []
instance (t s : S33) : Decidable (joinS t s) := by unfold joinS; infer_instance
def stepR : List S33 → S33 → List S33
  | [], s => if bareT s = zeroT then [] else [s]
  | t :: r, s => if bareT s = zeroT then t :: r else if joinS t s then ⟨t.f0, s.f1, t.f2, t.f3, t.f4, t.f5⟩ :: r else s :: t :: r
theorem stepR_nil (s : S33) : stepR [] s = if bareT s = zeroT then [] else [s] := rfl
theorem stepR_cons (t : S33) (r : List S33) (s : S33) : stepR (t :: r) s = if bareT s = zeroT then t :: r else if joinS t s then ⟨t.f0, s.f1, t.f2, t.f3, t.f4, t.f5⟩ :: r else s :: t :: r := rfl
def okR : List S33 → Int → Prop
  | [], _ => True
  | t :: r, hi => coreS t ∧ t.f1 ≤ hi ∧ okR r t.f0
def nfR : List S33 → Prop
  | [] => True
  | [s] => bareT s ≠ zeroT
  | s :: t :: r => bareT s ≠ zeroT ∧ ¬ joinS t s ∧ nfR (t :: r)
theorem okR_more {hi hi' : Int} (h : hi ≤ hi') : ∀ {r : List S33}, okR r hi → okR r hi'
  | [], _ => trivial
  | _ :: _, ⟨a, b, c⟩ => ⟨a, by omega, c⟩
theorem stR_behind {x : Int} {d : Tup} : ∀ {r : List S33} {hi : Int}, okR r hi → hi ≤ x → stOr r x d = d
  | [], _, _, _ => rfl
  | t :: r, hi, ⟨hc, h1, h2⟩, hx => by
    have := hc.2.1
    unfold stOr
    rw [if_neg (by omega)]
    exact stR_behind h2 (by omega)
theorem step_ok (acc : List S33) (s : S33) (hi : Int) (hs : coreS s) (ha : okR acc hi) (hh : hi ≤ s.f0) : okR (stepR acc s) s.f1 := by
  have h01 := hs.2.1
  have base : okR acc s.f1 := okR_more (by omega) ha
  have base0 : okR acc s.f0 := okR_more hh ha
  cases acc with
  | nil =>
    rw [stepR_nil]
    split
    · trivial
    · exact ⟨hs, Int.le_refl _, trivial⟩
  | cons t r =>
    rw [stepR_cons]
    split
    · exact base
    · split
      · rename_i hj
        obtain ⟨j1, j2, j3, j4⟩ := hj
        obtain ⟨⟨g0, g1, g2, g3, g4, g5, g6, g7⟩, _, hr⟩ := base
        have e3 : t.f3 = s.f3 := congrArg (fun q : Tup => q.2.1) j2
        exact ⟨⟨g0, by show t.f0 < s.f1; omega, (fun h => by have h : t.f3 = true := h; rw [e3, j3] at h; cases h), g3, g4, g5, g6, g7⟩, Int.le_refl _, hr⟩
      · exact ⟨hs, Int.le_refl _, base0⟩
theorem step_st (acc : List S33) (s : S33) (hi : Int) (hs : coreS s) (ha : okR acc hi) (hh : hi ≤ s.f0) (x : Int) : stOr (stepR acc s) x zeroT = if s.f0 ≤ x ∧ x < s.f1 then bareT s else stOr acc x zeroT := by
  have h01 := hs.2.1
  have beh : s.f0 ≤ x → stOr acc x zeroT = zeroT := fun h => stR_behind ha (by omega)
  have emp : bareT s = zeroT → stOr acc x zeroT = if s.f0 ≤ x ∧ x < s.f1 then bareT s else stOr acc x zeroT := by
    intro e
    split
    · rw [beh (by omega), e]
    · rfl
  cases acc with
  | nil =>
    rw [stepR_nil]
    split
    · rename_i e; exact emp e
    · rfl
  | cons t r =>
    rw [stepR_cons]
    split
    · rename_i e; exact emp e
    · split
      · rename_i hj
        obtain ⟨j1, j2, j3, j4⟩ := hj
        obtain ⟨hc, h1, hr⟩ := ha
        have h02 := hc.2.1
        have hb : bareT (⟨t.f0, s.f1, t.f2, t.f3, t.f4, t.f5⟩ : S33) = bareT t := rfl
        unfold stOr
        rw [hb]
        dsimp only
        by_cases c1 : s.f0 ≤ x ∧ x < s.f1
        · rw [if_pos c1, if_pos (by omega), j2]
        · rw [if_neg c1]
          by_cases c2 : t.f0 ≤ x ∧ x < t.f1
          · rw [if_pos c2, if_pos (by omega)]
          · rw [if_neg c2, if_neg (by omega)]
      · rfl
theorem step_nf (acc : List S33) (s : S33) (ha : nfR acc) : nfR (stepR acc s) := by
  cases acc with
  | nil =>
    rw [stepR_nil]
    split
    · trivial
    · rename_i h; exact h
  | cons t r =>
    rw [stepR_cons]
    split
    · exact ha
    · rename_i he
      split
      · cases r with
        | nil => exact ha
        | cons u r' =>
          obtain ⟨a, b, c⟩ := ha
          exact ⟨a, b, c⟩
      · rename_i hj
        exact ⟨he, hj, ha⟩
theorem step_len (acc : List S33) (s : S33) : (stepR acc s).length ≤ acc.length + 1 := by
  cases acc with
  | nil => rw [stepR_nil]; split <;> simp
  | cons t r => rw [stepR_cons]; (repeat' split) <;> simp
theorem norm_fold (n : Int) (x : Int) : ∀ (l acc : List S33) (lo : Int), okL lo n l → okR acc lo → nfR acc → 0 ≤ lo → lo ≤ n →
    okR (l.foldl stepR acc) n ∧ nfR (l.foldl stepR acc) ∧ (l.foldl stepR acc).length ≤ acc.length + l.length ∧ stOr (l.foldl stepR acc) x zeroT = stOr l x (stOr acc x zeroT)
  | [], acc, lo, _, ha, hn, _, hlo => ⟨okR_more hlo ha, hn, by simp, rfl⟩
  | s :: l, acc, lo, ⟨hc, h1, h2, h3⟩, ha, hn, h0, hlo => by
    obtain ⟨a, b, c, d⟩ := norm_fold n x l (stepR acc s) s.f1 h3 (step_ok acc s lo hc ha h1) (step_nf acc s hn) (by have := hc.1; have := hc.2.1; omega) h2
    have hl := step_len acc s
    refine ⟨a, b, ?_, ?_⟩
    · rw [List.foldl_cons, List.length_cons]; omega
    · rw [List.foldl_cons, d, step_st acc s lo hc ha h1 x]
      show _ = if s.f0 ≤ x ∧ x < s.f1 then bareT s else stOr l x (stOr acc x zeroT)
      by_cases c1 : s.f0 ≤ x ∧ x < s.f1
      · rw [if_pos c1, if_pos c1, stOr_before h3 c1.2]
      · rw [if_neg c1, if_neg c1]
theorem okL_rev {n : Int} : ∀ (r l : List S33) (hi : Int), okR r hi → okL hi n l → 0 ≤ hi → hi ≤ n → okL 0 n (r.reverse ++ l)
  | [], l, hi, _, hl, h0, _ => okL_less h0 hl
  | t :: r, l, hi, ⟨hc, h1, h2⟩, hl, h0, hn => by
    rw [List.reverse_cons, List.append_assoc]
    have := hc.2.1
    exact okL_rev r (t :: l) t.f0 h2 ⟨hc, Int.le_refl _, by omega, okL_less h1 hl⟩ hc.1 (by omega)
theorem stOr_swap {x : Int} {d : Tup} : ∀ {a b : List S33}, stOr (a ++ b) x d = stOr a x (stOr b x d)
  | [], _ => rfl
  | s :: a, b => by
    show (if s.f0 ≤ x ∧ x < s.f1 then bareT s else stOr (a ++ b) x d) = if s.f0 ≤ x ∧ x < s.f1 then bareT s else stOr a x (stOr b x d)
    rw [stOr_swap]
theorem stOr_rev {x : Int} {d : Tup} : ∀ (r : List S33) (hi : Int), okR r hi → stOr r.reverse x d = stOr r x d
  | [], _, _ => rfl
  | t :: r, hi, ⟨hc, h1, h2⟩ => by
    rw [List.reverse_cons, stOr_swap, stOr_rev r _ h2]
    show stOr r x (if t.f0 ≤ x ∧ x < t.f1 then bareT t else d) = if t.f0 ≤ x ∧ x < t.f1 then bareT t else stOr r x d
    by_cases c : t.f0 ≤ x ∧ x < t.f1
    · rw [if_pos c, if_pos c, stR_behind h2 c.1]
    · rw [if_neg c, if_neg c]
theorem nf_again : ∀ (r : List S33), nfR r → r.reverse.foldl stepR [] = r
  | [], _ => rfl
  | [s], h => by
    show stepR [] s = [s]
    rw [stepR_nil, if_neg h]
  | s :: t :: r, ⟨h1, h2, h3⟩ => by
    rw [List.reverse_cons, List.foldl_append, nf_again (t :: r) h3]
    show stepR (t :: r) s = _
    rw [stepR_cons, if_neg h1, if_neg h2]
theorem rd_last (r : List S33) (t : S33) : rd_T33 ((t :: r).reverse) (((r.length : Nat)) : Int) = t := by
  unfold rd_T33
  rw [Int.toNat_natCast, List.reverse_cons]
  simp
theorem set_last (r : List S33) (t v : S33) : ((t :: r).reverse).set r.length v = (v :: r).reverse := by
  rw [List.reverse_cons, List.reverse_cons, List.set_append_right _ _ (by simp)]
  simp
theorem bare_beq (t s : S33) : ((0 : Int) == 0 && ((0 : Int) == 0 && (t.f2 == s.f2 && (t.f3 == s.f3 && (t.f4.toList == s.f4.toList && t.f5 == s.f5))))) = decide (bareT t = bareT s) := by
  unfold bareT
  rw [Bool.eq_iff_iff]
  simp
theorem bare_zero (s : S33) : ((0 : Int) == 0 && ((0 : Int) == 0 && (s.f2 == 0 && (!s.f3 && (s.f4.toList == ([] : List UInt8) && s.f5 == 0))))) = decide (bareT s = zeroT) := by
  unfold bareT zeroT
  rw [Bool.eq_iff_iff]
  simp
theorem normal_run (l : List S33) (hlen : l.length ≤ 1000) : ∀ (d k i : Nat) (acc : List S33), i + d = l.length → acc.length ≤ i → d + d + 1 ≤ k → span_Normal.l0 k acc.reverse l (l.length : Int) (i : Int) = some ((l.drop i).foldl stepR acc).reverse
  | 0, k, i, acc, h, _, hk => by
    obtain ⟨k, rfl⟩ : ∃ q, k = q + 1 := ⟨k - 1, by omega⟩
    simp only [span_Normal.l0]
    rw [if_neg (by omega), show i = l.length by omega, List.drop_length]
    rfl
  | d + 1, k, i, acc, h, ha, hk => by
    obtain ⟨k, rfl⟩ : ∃ q, k = q + 2 := ⟨k - 2, by omega⟩
    have hi : i < l.length := by omega
    rw [List.drop_eq_getElem_cons hi, ← rd_get l i hi, List.foldl_cons]
    have ih := fun (acc' : List S33) (h' : acc'.length ≤ i + 1) => normal_run l hlen d k (i + 1) acc' (by omega) h' (by omega)
    have hst := step_len acc (rd_T33 l (i : Int))
    have fin := ih (stepR acc (rd_T33 l (i : Int))) (by omega)
    have tail : ∀ (x6 : Int) (x7 : Bool), (bareT (rd_T33 l (i : Int)) ≠ zeroT → x7 = false → stepR acc (rd_T33 l (i : Int)) = rd_T33 l (i : Int) :: acc) →
        (bareT (rd_T33 l (i : Int)) ≠ zeroT → x7 = true → ∃ t r, acc = t :: r ∧ x6 = (r.length : Int) ∧ joinS t (rd_T33 l (i : Int))) →
        span_Normal.j1 (k + 1) acc.reverse x6 x7 l (l.length : Int) (i : Int) (rd_T33 l (i : Int)).f0 (rd_T33 l (i : Int)).f1 (rd_T33 l (i : Int)).f2 (rd_T33 l (i : Int)).f3 (rd_T33 l (i : Int)).f4 (rd_T33 l (i : Int)).f5 = some ((l.drop (i + 1)).foldl stepR (stepR acc (rd_T33 l (i : Int)))).reverse := by
      intro x6 x7 hF hT
      simp only [span_Normal.j1, span_bare.f, Option.bind_some]
      rw [bare_zero, inc_nat i (by omega)]
      by_cases c : bareT (rd_T33 l (i : Int)) = zeroT
      · rw [if_pos (decide_eq_true c)]
        have hs : stepR acc (rd_T33 l (i : Int)) = acc := by
          cases acc <;> (first | rw [stepR_nil, if_pos c] | rw [stepR_cons, if_pos c])
        rw [hs] at fin ⊢
        exact fin
      · rw [if_neg (by simp [c])]
        cases x7 with
        | false =>
          rw [if_neg (by simp)]
          rw [hF c rfl] at fin ⊢
          rw [if_pos (by rw [List.length_reverse]; omega)]
          rw [List.reverse_cons] at fin
          exact fin
        | true =>
          rw [if_pos rfl]
          obtain ⟨t, r, rfl, rfl, hj⟩ := hT c rfl
          rw [if_pos (by omega), if_pos (by rw [List.length_reverse, List.length_cons]; omega), rd_last, Int.toNat_natCast, set_last]
          have hs : stepR (t :: r) (rd_T33 l (i : Int)) = ⟨t.f0, (rd_T33 l (i : Int)).f1, t.f2, t.f3, t.f4, t.f5⟩ :: r := by
            rw [stepR_cons, if_neg c, if_pos hj]
          rw [hs] at fin ⊢
          exact fin
    clear fin ih
    simp only [span_Normal.l0]
    rw [if_pos (by omega), if_pos (by omega), if_pos (by omega)]
    cases acc with
    | nil =>
      rw [if_neg (show ¬ wrap64 (((([] : List S33).reverse.length : Nat) : Int) - 1) ≥ 0 by rw [List.reverse_nil, List.length_nil, w64 _ ⟨by omega, by omega⟩]; omega)]
      exact tail _ false (fun c _ => by rw [stepR_nil, if_neg c]) (fun _ h => by cases h)
    | cons t r =>
      have hlc : wrap64 (((t :: r).reverse.length : Nat) - 1 : Int) = (r.length : Int) := by
        rw [List.length_reverse, List.length_cons]; rw [List.length_cons] at ha; rw [w64 _ ⟨by omega, by omega⟩]; omega
      rw [hlc, if_pos (by omega), if_pos (by omega), if_pos (by rw [List.length_reverse, List.length_cons]; omega), rd_last]
      have nojoin : ¬ joinS t (rd_T33 l (i : Int)) → ∀ x6, span_Normal.j1 (k + 1) (t :: r).reverse x6 false l (l.length : Int) (i : Int) (rd_T33 l (i : Int)).f0 (rd_T33 l (i : Int)).f1 (rd_T33 l (i : Int)).f2 (rd_T33 l (i : Int)).f3 (rd_T33 l (i : Int)).f4 (rd_T33 l (i : Int)).f5 = some ((l.drop (i + 1)).foldl stepR (stepR (t :: r) (rd_T33 l (i : Int)))).reverse :=
        fun hj x6 => tail x6 false (fun c _ => by rw [stepR_cons, if_neg c, if_neg hj]) (fun _ h => by cases h)
      by_cases c1 : t.f1 = (rd_T33 l (i : Int)).f0
      · rw [if_pos c1]
        simp only [span_bare.f, Option.bind_some]
        rw [bare_beq]
        by_cases c2 : bareT t = bareT (rd_T33 l (i : Int))
        · rw [if_pos (decide_eq_true c2)]
          by_cases c3 : (rd_T33 l (i : Int)).f3 = true
          · rw [if_pos c3]
            exact nojoin (fun h => by have := h.2.2.1; rw [c3] at this; cases this) _
          · rw [if_neg c3]
            by_cases c4 : (rd_T33 l (i : Int)).f4.toList = []
            · rw [show ((rd_T33 l (i : Int)).f4.toList == ([] : List UInt8)) = true by rw [c4]; rfl]
              have hj : joinS t (rd_T33 l (i : Int)) := ⟨c1, c2, by simpa using c3, c4⟩
              exact tail _ true (fun _ h => by cases h) (fun _ _ => ⟨t, r, rfl, rfl, hj⟩)
            · rw [show ((rd_T33 l (i : Int)).f4.toList == ([] : List UInt8)) = false by simpa using c4]
              exact nojoin (fun h => c4 h.2.2.2) _
        · rw [if_neg (by simp [c2])]
          exact nojoin (fun h => c2 h.2.1) _
      · rw [if_neg c1]
        exact nojoin (fun h => c1 h.1) _
/-- Normal: what it answers of right spans. -/
def normL (l : List S33) : List S33 := (l.foldl stepR []).reverse
theorem normal_eq (l : List S33) (hlen : l.length ≤ 1000) (k : Nat) (hk : l.length + l.length + 1 ≤ k) : span_Normal.f k l = some (normL l) := by
  unfold span_Normal.f normL
  have := normal_run l hlen l.length k 0 [] (by omega) (by simp) hk
  rwa [List.drop_zero, List.reverse_nil] at this
theorem normL_all (l : List S33) (n : Int) (hn : 0 ≤ n) (h : okL 0 n l) : okL 0 n (normL l) ∧ (normL l).length ≤ l.length ∧ normL (normL l) = normL l ∧ ∀ x, stOr (normL l) x zeroT = stOr l x zeroT := by
  have hx := fun x => norm_fold n x l [] 0 h trivial trivial (Int.le_refl _) hn
  obtain ⟨a, b, c, _⟩ := hx 0
  refine ⟨?_, ?_, ?_, fun x => ?_⟩
  · have := okL_rev (n := n) (l.foldl stepR []) [] n a trivial hn (Int.le_refl _)
    rwa [List.append_nil] at this
  · unfold normL; rw [List.length_reverse]; simpa using c
  · show ((normL l).foldl stepR []).reverse = _
    unfold normL
    rw [nf_again _ b]
  · unfold normL
    rw [stOr_rev _ n a]
    exact (hx x).2.2.2
/-- Two styles that are one: what the law's test says. -/
theorem style_beq {p2 q2 : Int} {p3 q3 : Bool} {p4 q4 : ByteArray} {p5 q5 : Int} (h : (p2, p3, p4.toList, p5) = (q2, q3, q4.toList, q5)) : p2 = q2 ∧ p3 = q3 ∧ p4.toList = q4.toList ∧ p5 = q5 := by
  simpa using h
end Go.Proofs.Ytdkblhfcndafaaa.X
