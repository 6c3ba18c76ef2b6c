/- Plain law: SpanOthers answers yes. -/
import Derived.Test.YtdkblhfcndafaaaYp8
import Derived.Test.YtdkblhfcndafaaaXf6
namespace Go.Proofs.Ytdkblhfcndafaaa.X
open Go.RowKit Go.Proofs.YtdkblhfcndafaaaW.PrintWords Go.Proofs.YtdkblhfcndafaaaW.PrintLast Go.Proofs.YtdkblhfcndafaaaW.PrintMore
set_option linter.unusedVariables false
set_option linter.unusedSimpArgs false

set_option maxRecDepth 100000 in
theorem alive_40 : frisketlaw07_alive.f 40 = some true := by decide +kernel
theorem alive_all (k : Nat) (hk : 40 ≤ k) : frisketlaw07_alive.f k = some true := leO_some (fun k => frisketlaw07_alive.mono k) alive_40 hk
theorem and1023 (n : Int) : Go.bits .and .i64 n 1023 = n % 1024 := by
  have hm : (BitVec.ofInt 64 1023).toNat = 2 ^ 10 - 1 := by decide
  have key : (BitVec.ofInt 64 n &&& BitVec.ofInt 64 1023).toNat = (n % ((2 ^ 64 : Nat) : Int)).toNat % 2 ^ 10 := by
    rw [BitVec.toNat_and, BitVec.toNat_ofInt, hm, Nat.and_two_pow_sub_one_eq_mod]
  show IntKind.i64.wrap ((BitVec.ofInt 64 n &&& BitVec.ofInt 64 1023).toNat : Nat) = n % 1024
  rw [key, IntKind.wrap_i64]
  omega
theorem andLow63 (n : Int) : Go.bits .and .i64 n 63 = n % 64 := by
  have hm : (BitVec.ofInt 64 63).toNat = 2 ^ 6 - 1 := by decide
  have key : (BitVec.ofInt 64 n &&& BitVec.ofInt 64 63).toNat = (n % ((2 ^ 64 : Nat) : Int)).toNat % 2 ^ 6 := by
    rw [BitVec.toNat_and, BitVec.toNat_ofInt, hm, Nat.and_two_pow_sub_one_eq_mod]
  show IntKind.i64.wrap ((BitVec.ofInt 64 n &&& BitVec.ofInt 64 63).toNat : Nat) = n % 64
  rw [key, IntKind.wrap_i64]
  omega
/-- A scalar keeps its style where its span's ends move around it. -/
theorem st_moved (f1 f2 : Int → Int) (n x y : Int) (any : Bool) :
    ∀ (l : List S33) (lo : Int), 0 ≤ lo → okL lo n l →
      (∀ a b : Int, 0 ≤ a → a < b → b ≤ n → ((a ≤ x ∧ x < b) ↔ (f1 a ≤ y ∧ y < f2 b))) →
      (∀ a b : Int, 0 ≤ a → a < b → b ≤ n → wrap64 (f2 b - f1 a) = f2 b - f1 a ∧ (any = true → f2 b - f1 a ≤ b - a)) →
      (any = false → (stOr l x zeroT).2.1 = false) → stOr (movedL f1 f2 l) y zeroT = stOr l x zeroT
  | [], _, _, _, _, _, _ => rfl
  | s :: l, lo, h0, ⟨hc, h1, h2, h3⟩, hxy, hw, hst => by
    have g0 := hc.1
    have g1 := hc.2.1
    have g2 := hc.2.2.1
    have ih := st_moved f1 f2 n x y any l s.f1 (by omega) h3 hxy hw
    obtain ⟨w1, w2⟩ := hw s.f0 s.f1 g0 g1 h2
    have hq := hxy s.f0 s.f1 g0 g1 h2
    show stOr (movedOne f1 f2 s ++ movedL f1 f2 l) y zeroT = if s.f0 ≤ x ∧ x < s.f1 then bareT s else stOr l x zeroT
    have hst' : any = false → (if s.f0 ≤ x ∧ x < s.f1 then bareT s else stOr l x zeroT).2.1 = false := hst
    have one : movedOne f1 f2 s = [⟨f1 s.f0, f2 s.f1, s.f2, s.f3, s.f4, s.f5⟩] → stOr (movedOne f1 f2 s ++ movedL f1 f2 l) y zeroT = if s.f0 ≤ x ∧ x < s.f1 then bareT s else stOr l x zeroT := by
      intro e
      rw [e]
      show (if f1 s.f0 ≤ y ∧ y < f2 s.f1 then bareT s else stOr (movedL f1 f2 l) y zeroT) = _
      by_cases c : s.f0 ≤ x ∧ x < s.f1
      · rw [if_pos c, if_pos (hq.1 c)]
      · rw [if_neg c] at hst' ⊢
        rw [if_neg (fun h => c (hq.2 h)), ih hst']
    have non : movedOne f1 f2 s = [] → ¬ (s.f0 ≤ x ∧ x < s.f1) → stOr (movedOne f1 f2 s ++ movedL f1 f2 l) y zeroT = if s.f0 ≤ x ∧ x < s.f1 then bareT s else stOr l x zeroT := by
      intro e c
      rw [if_neg c] at hst' ⊢
      rw [e, List.nil_append, ih hst']
    by_cases c1 : f1 s.f0 < f2 s.f1
    · by_cases c3 : s.f3 = true
      · by_cases c4 : f2 s.f1 - f1 s.f0 ≤ 4
        · refine one ?_
          unfold movedOne
          rw [if_pos c1, if_pos c3, w1, if_pos c4]
        · refine non ?_ ?_
          · unfold movedOne
            rw [if_pos c1, if_pos c3, w1, if_neg c4]
          · intro c
            rw [if_pos c] at hst'
            cases any with
            | true => have := w2 rfl; have := (g2 c3).1; omega
            | false =>
              have : s.f3 = false := hst' rfl
              rw [c3] at this; cases this
      · refine one ?_
        unfold movedOne
        rw [if_pos c1, if_neg c3]
    · refine non ?_ ?_
      · unfold movedOne
        rw [if_neg c1]
      · intro c
        have := hq.1 c
        omega
theorem others_all (l : List S33) (n a b c : Int) (hw : ∀ i, i < l.length → wfS (rd_T33 l (i : Int))) : frisketlaw07_SpanOthers.f 1000 l n a b c = some true := by
  obtain ⟨v, hf, hv⟩ := fits_all l n hw 1000 (by omega)
  unfold frisketlaw07_SpanOthers.f
  rw [hf, Option.bind_some]
  have no : frisketlaw07_SpanOthers.j0 1000 l n true a b c = some true := by
    simp only [frisketlaw07_SpanOthers.j0]
    rw [if_pos trivial, alive_all 999 (by omega)]; rfl
  have no1 : ∀ x y z, frisketlaw07_SpanOthers.j1 999 l x y z true = some true := by
    intro x y z
    simp only [frisketlaw07_SpanOthers.j1]
    rw [if_pos trivial, alive_all 998 (by omega)]; rfl
  cases v with
  | false => rw [if_neg (by simp)]; exact no
  | true =>
    rw [if_pos rfl]
    obtain ⟨hn0, hn, hr⟩ := hv rfl
    have ho := okL_all l n hr (fits_size l n 1000 hf) hw
    have hlen := hr.1
    by_cases c0 : n = 0
    · rw [show (n == 0) = true by rw [c0]; rfl]; exact no
    rw [show (n == 0) = false by simpa using c0]
    simp only [frisketlaw07_SpanOthers.j0]
    rw [if_neg (by simp), and1023, and1023, andLow63]
    by_cases c1 : a % 1024 ≥ n
    · rw [if_pos c1]; exact no1 _ _ _
    rw [if_neg c1]
    by_cases c2 : b % 1024 > n
    · rw [decide_eq_true c2]; exact no1 _ _ _
    rw [decide_eq_false c2]
    have ri0 : 0 ≤ a % 1024 := by omega
    have rf0 : 0 ≤ b % 1024 := by omega
    have rf1 : b % 1024 < 1024 := by omega
    have rk0 : 0 ≤ c % 64 := by omega
    have rk1 : c % 64 < 64 := by omega
    generalize a % 1024 = i at *
    generalize b % 1024 = fr at *
    generalize c % 64 = k at *
    simp only [frisketlaw07_SpanOthers.j1]
    rw [if_neg (by simp), w64 (fr + k) ⟨by omega, by omega⟩, w64 (i - k) ⟨by omega, by omega⟩]
    unfold span_Delete.f span_Insert.f
    rw [if_pos (by omega), if_neg (by omega), if_neg (by omega), Option.bind_some, if_pos (by omega), if_neg (by omega), if_neg (by omega), Option.bind_some, w64 (fr + 1) ⟨by omega, by omega⟩]
    have hd := okL_delete l n fr (fr + k) (by omega) hn0 rf0 (by omega) (by omega) (by omega) ho
    have hi := okL_insert l n fr k hn hn0 rf0 (by omega) rk0 (by omega) ho
    have ld := movedL_len (backF fr (fr + k)) (backF fr (fr + k)) l
    have li := movedL_len (grownF fr k) (grownF (fr + 1) k) l
    obtain ⟨s2, s3, s4, s5, es, est⟩ := style_eq l n (by omega) (by omega) ho i
    rw [es, Option.bind_some]
    dsimp only
    -- what the moved spans say
    have D : ∀ p : Int, ((i < fr ∧ p = i) ∨ (fr + k ≤ i ∧ p = i - k)) → ∃ (p2 : Int) (p3 : Bool) (p4 : ByteArray) (p5 : Int), span_Style.f (movedL (backF fr (fr + k)) (backF fr (fr + k)) l) p = some (0, 0, p2, p3, p4, p5) ∧ (p2 = s2 ∧ p3 = s3 ∧ p4.toList = s4.toList ∧ p5 = s5) := by
      intro p hp
      obtain ⟨p2, p3, p4, p5, e1, e2⟩ := style_eq _ _ (by split <;> omega) (by omega) hd p
      refine ⟨p2, p3, p4, p5, e1, style_beq ?_⟩
      rw [e2, est]
      have eb : ∀ z, 0 ≤ z → z ≤ n → backF fr (fr + k) z = if z ≤ fr then z else if z < fr + k then fr else z - k := by
        intro z h0 h1
        rw [backF_eq _ _ _ h0 (by omega) rf0 (by omega) (by omega), show fr + k - fr = k by omega]
      refine st_moved (backF fr (fr + k)) (backF fr (fr + k)) n i p true l 0 (by omega) ho ?_ ?_ (fun h => by cases h)
      · intro u v h0 h1 h2
        rw [eb u h0 (by omega), eb v (by omega) h2]
        rcases hp with ⟨h3, rfl⟩ | ⟨h3, rfl⟩ <;> (repeat' split) <;> omega
      · intro u v h0 h1 h2
        rw [eb u h0 (by omega), eb v (by omega) h2]
        refine ⟨w64 _ ⟨by (repeat' split) <;> omega, by (repeat' split) <;> omega⟩, fun _ => by (repeat' split) <;> omega⟩
    have I : s3 = false → ∀ p : Int, ((i < fr ∧ p = i) ∨ (fr ≤ i ∧ p = i + k)) → ∃ (p2 : Int) (p3 : Bool) (p4 : ByteArray) (p5 : Int), span_Style.f (movedL (grownF fr k) (grownF (fr + 1) k) l) p = some (0, 0, p2, p3, p4, p5) ∧ (p2 = s2 ∧ p3 = s3 ∧ p4.toList = s4.toList ∧ p5 = s5) := by
      intro h3 p hp
      obtain ⟨p2, p3, p4, p5, e1, e2⟩ := style_eq _ _ (by omega) (by omega) hi p
      refine ⟨p2, p3, p4, p5, e1, style_beq ?_⟩
      rw [e2, est]
      refine st_moved (grownF fr k) (grownF (fr + 1) k) n i p false l 0 (by omega) ho ?_ ?_ (fun _ => by rw [← est]; exact h3)
      · intro u v h0 h1 h2
        rw [grownF_eq _ _ u h0 (by omega) rk0 (by omega), grownF_eq _ _ v (by omega) (by omega) rk0 (by omega)]
        rcases hp with ⟨h3, rfl⟩ | ⟨h3, rfl⟩ <;> (repeat' split) <;> omega
      · intro u v h0 h1 h2
        rw [grownF_eq _ _ u h0 (by omega) rk0 (by omega), grownF_eq _ _ v (by omega) (by omega) rk0 (by omega)]
        exact ⟨w64 _ ⟨by (repeat' split) <;> omega, by (repeat' split) <;> omega⟩, fun h => by cases h⟩
    generalize movedL (backF fr (fr + k)) (backF fr (fr + k)) l = d at *
    generalize movedL (grownF fr k) (grownF (fr + 1) k) l = m at *
    have third : ∀ (place : Int) (gone : Bool), (gone = true ∨ ((i < fr ∧ place = i) ∨ (fr + k ≤ i ∧ place = i - k))) →
        frisketlaw07_SpanOthers.j3 997 i fr k d m place gone 0 0 s2 s3 s4 s5 = some true := by
      intro place gone hg
      have ins : ∀ after, ((i < fr ∧ after = i) ∨ (fr ≤ i ∧ after = i + k)) → s3 = false → ∃ (p4 : ByteArray), span_Style.f m after = some (0, 0, s2, s3, p4, s5) ∧ p4.toList = s4.toList := by
        intro after h h3
        obtain ⟨p2, p3, p4, p5, e1, rfl, rfl, e4, rfl⟩ := I h3 after h
        exact ⟨p4, e1, e4⟩
      have del : gone = false → ∃ (p4 : ByteArray), span_Style.f d place = some (0, 0, s2, s3, p4, s5) ∧ p4.toList = s4.toList := by
        intro h
        rcases hg with hg | hg
        · rw [h] at hg; cases hg
        · obtain ⟨p2, p3, p4, p5, e1, rfl, rfl, e4, rfl⟩ := D place hg
          exact ⟨p4, e1, e4⟩
      simp only [frisketlaw07_SpanOthers.j3]
      rw [alive_all 996 (by omega), w64 (i + k) ⟨by omega, by omega⟩]
      simp only [Option.bind_some, if_true]
      have both : ∀ after, ((i < fr ∧ after = i) ∨ (fr ≤ i ∧ after = i + k)) → (if gone = true then (if s3 = true then some true else (span_Style.f m after).bind fun bt => some (bt.1 == 0 && (bt.2.1 == 0 && (bt.2.2.1 == s2 && (bt.2.2.2.1 == s3 && (bt.2.2.2.2.1.toList == s4.toList && (bt.2.2.2.2.2 == s5))))))) else (span_Style.f d place).bind fun bt => (if (bt.1 == 0 && (bt.2.1 == 0 && (bt.2.2.1 == s2 && (bt.2.2.2.1 == s3 && (bt.2.2.2.2.1.toList == s4.toList && (bt.2.2.2.2.2 == s5)))))) = true then (if s3 = true then some true else (span_Style.f m after).bind fun bt => some (bt.1 == 0 && (bt.2.1 == 0 && (bt.2.2.1 == s2 && (bt.2.2.2.1 == s3 && (bt.2.2.2.2.1.toList == s4.toList && (bt.2.2.2.2.2 == s5))))))) else some false)) = some true := by
        intro after hafter
        have inner : (if s3 = true then some true else (span_Style.f m after).bind fun bt => some (bt.1 == 0 && (bt.2.1 == 0 && (bt.2.2.1 == s2 && (bt.2.2.2.1 == s3 && (bt.2.2.2.2.1.toList == s4.toList && (bt.2.2.2.2.2 == s5))))))) = some true := by
          by_cases h3 : s3 = true
          · rw [if_pos h3]
          · rw [if_neg h3]
            obtain ⟨p4, e1, e4⟩ := ins after hafter (by simpa using h3)
            rw [e1, Option.bind_some]
            simp [e4]
        by_cases hgo : gone = true
        · rw [if_pos hgo]; exact inner
        · rw [if_neg hgo]
          obtain ⟨p4, e1, e4⟩ := del (by simpa using hgo)
          rw [e1, Option.bind_some, if_pos (by simp [e4])]
          exact inner
      by_cases c5 : i ≥ fr
      · rw [if_pos c5]
        exact both (i + k) (.inr ⟨c5, rfl⟩)
      · rw [if_neg c5]
        exact both i (.inl ⟨by omega, rfl⟩)
    by_cases c3 : i ≥ fr + k
    · rw [if_pos c3]
      simp only [frisketlaw07_SpanOthers.j2]
      rw [if_pos (by omega), w64 (fr + k) ⟨by omega, by omega⟩, decide_eq_false (by omega)]
      exact third _ _ (.inr (.inr ⟨by omega, rfl⟩))
    · rw [if_neg c3]
      simp only [frisketlaw07_SpanOthers.j2]
      by_cases c4 : i ≥ fr
      · rw [if_pos c4, w64 (fr + k) ⟨by omega, by omega⟩, decide_eq_true (by omega)]
        exact third _ _ (.inl rfl)
      · rw [if_neg c4]
        exact third _ _ (.inr (.inl ⟨by omega, rfl⟩))
end Go.Proofs.Ytdkblhfcndafaaa.X
