/- Plain law: SpanNormal answers yes. -/
import Derived.Test.YtdkblhfcndafaaaYp8
import Derived.Test.YtdkblhfcndafaaaXf4
namespace Go.Proofs.Ytdkblhfcndafaaa.X
open Go.RowKit Go.Proofs.YtdkblhfcndafaaaW.PrintWords Go.Proofs.YtdkblhfcndafaaaW.PrintLast Go.Proofs.YtdkblhfcndafaaaW.PrintMore
set_option linter.unusedVariables false
set_option linter.unusedSimpArgs false

set_option maxRecDepth 100000 in
theorem alive_40 : frisketlaw07_alive.f 40 = some true := by decide +kernel
theorem alive_all (k : Nat) (hk : 40 ≤ k) : frisketlaw07_alive.f k = some true := leO_some (fun k => frisketlaw07_alive.mono k) alive_40 hk
/-- Two lists of one look. -/
def alike (l m : List S33) : Prop := ∀ y : Int, ∃ (p2 : Int) (p3 : Bool) (p4 q4 : ByteArray) (p5 : Int), span_Style.f m y = some (0, 0, p2, p3, p4, p5) ∧ span_Style.f l y = some (0, 0, p2, p3, q4, p5) ∧ p4.toList = q4.toList
theorem normal_loop (l m : List S33) (x : Int) (hlen : l.length ≤ 1000) (ha : alike l m) : ∀ (d k i : Nat), i + d = l.length → d + 50 ≤ k → frisketlaw07_SpanNormal.l0 k l x m (i : Int) = some true
  | 0, k, i, h, hk => by
    obtain ⟨k, rfl⟩ : ∃ q, k = q + 1 := ⟨k - 1, by omega⟩
    simp only [frisketlaw07_SpanNormal.l0]
    obtain ⟨p2, p3, p4, q4, p5, e1, e2, e3⟩ := ha x
    rw [if_neg (by omega), alive_all k (by omega), Option.bind_some, if_pos rfl, e1, Option.bind_some, e2, Option.bind_some]
    simp [e3]
  | d + 1, k, i, h, hk => by
    obtain ⟨k, rfl⟩ : ∃ q, k = q + 1 := ⟨k - 1, by omega⟩
    have ih := normal_loop l m x hlen ha d k (i + 1) (by omega) (by omega)
    simp only [frisketlaw07_SpanNormal.l0]
    obtain ⟨p2, p3, p4, q4, p5, e1, e2, e3⟩ := ha ((rd_T33 l (i : Int)).f0)
    obtain ⟨r2, r3, r4, s4, r5, e4, e5, e6⟩ := ha (wrap64 ((rd_T33 l (i : Int)).f1 - 1))
    obtain ⟨t2, t3, t4, u4, t5, e7, e8, e9⟩ := ha ((rd_T33 l (i : Int)).f1)
    rw [if_pos (by omega), if_pos (by omega), e1, Option.bind_some, e2, Option.bind_some, if_neg (by simp [e3]), e4, Option.bind_some, e5, Option.bind_some, if_neg (by simp [e6]), e7, Option.bind_some, e8, Option.bind_some, if_neg (by simp [e9]), inc_nat i (by omega)]
    exact ih
theorem alike_norm (l : List S33) (n : Int) (hn0 : 0 ≤ n) (hn : n ≤ 1048576) (hlen : l.length ≤ 40) (h : okL 0 n l) : alike l (normL l) := by
  intro y
  obtain ⟨a, b, _, d⟩ := normL_all l n hn0 h
  obtain ⟨p2, p3, p4, p5, e1, e2⟩ := style_eq (normL l) n (by omega) (by omega) a y
  obtain ⟨q2, q3, q4, q5, e3, e4⟩ := style_eq l n (by omega) (by omega) h y
  rw [d y, ← e4] at e2
  obtain ⟨rfl, rfl, e5, rfl⟩ := style_beq e2
  exact ⟨p2, p3, p4, q4, p5, e1, e3, e5⟩
theorem normal_all (l : List S33) (n x : Int) (hw : ∀ i, i < l.length → wfS (rd_T33 l (i : Int))) : frisketlaw07_SpanNormal.f 1000 l n x = some true := by
  obtain ⟨v, hf, hv⟩ := fits_all l n hw 1000 (by omega)
  unfold frisketlaw07_SpanNormal.f
  rw [hf, Option.bind_some]
  cases v with
  | false => rw [if_neg (by simp), alive_all 1000 (by omega)]; rfl
  | true =>
    rw [if_pos rfl]
    obtain ⟨hn0, hn, hr⟩ := hv rfl
    have ho := okL_all l n hr (fits_size l n 1000 hf) hw
    have hlen := hr.1
    obtain ⟨a, b, c, _⟩ := normL_all l n hn0 ho
    rw [normal_eq l (by omega) 1000 (by omega), Option.bind_some, right_true (normL l) n (by omega) (by omega) a 1000 (by omega), Option.bind_some, if_pos rfl, if_neg (by omega), normal_eq (normL l) (by omega) 1000 (by omega), Option.bind_some, c, same_all (normL l) (by omega) 1000 (by omega), Option.bind_some]
    show frisketlaw07_SpanNormal.j0 (999 + 1) l x (normL l) false = some true
    simp only [frisketlaw07_SpanNormal.j0]
    rw [if_neg (by simp)]
    exact normal_loop l (normL l) x (by omega) (alike_norm l n hn0 hn hlen ho) l.length 999 0 (by omega) (by omega)
end Go.Proofs.Ytdkblhfcndafaaa.X
