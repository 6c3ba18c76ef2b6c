/- SpanNormal answers true at every input, and leaves its arguments as they read. Conditions: none beyond the row's own. -/
import Derived.Test.YtdkblhfcndafaaaYp9
import Derived.Test.YtdkblhfcndafaaaYopen
import Derived.Test.YtdkblhfcndafaaaRows
import Derived.ProofKit
import Derived.WalkKit
import Derived.OpenShut
import Derived.ShutString
import Derived.ChangeOld
import Derived.Below
import Derived.SizedLaws
namespace Go.Proofs.Ytdkblhfcndafaaa.X
open Go.RowKit Go.Proofs.YtdkblhfcndafaaaW.PrintWords
set_option linter.unusedVariables false
set_option linter.unusedSimpArgs false
open Go.ChangeShapes Go.WideShapes Go.ChangeAt
theorem own : ownKnob Try.prog.godebug = none := by kernel_rfl
theorem laidOut : laidOutB Try.prog = true := by kernel_rfl
set_option maxRecDepth 100000 in
theorem spanNormal.lifted (hwalk : ∀ (A : Option Addr) (c : Nat) (l : List S33) (a1 : Int) (a2 : Int) (W : World), Kd.C k33 W A l.length l → l.length ≤ c → (∀ i, i < l.length → wfS (rd_T33 l (i : Int))) → (-9223372036854775808 ≤ a1 ∧ a1 ≤ 9223372036854775807) → (-9223372036854775808 ≤ a2 ∧ a2 ≤ 9223372036854775807) → 
      Calls Try.prog 4 #[.slice A l.length c, .int .i64 a1, .int .i64 a2] W fun e w' => e = .returned (.bool true) ∧ Below W.heap.size W w')
    (os : Os) (started : os.Started) (H : Type) (enc : TypeId × Value → H) :
    ReturnsInHanded {} Try.checked os 4 .any (Rows.spanNormalSpec.pre6 enc Try.prog Try.f4 Rows.spanNormalRow.domain false) (Rows.spanNormalSpec.post enc Try.prog Try.f4 false true false false) := by
  refine returnsInHanded_of_change (C := Try.checked) own started (by kernel_rfl) Try.func4
    (ChangeSpec.witness6 (enc := enc) (C := Try.checked) false ⟨#[], #[.slice none 0 0, .int .i64 0, .int .i64 0], []⟩ 8 (by kernel_rfl) (by kernel_rfl) (by kernel_rfl) (by kernel_rfl)) ?_
  intro W base args ds gs before hval0 hW hcnd _
  have hval : ∀ (j : Nat) t v, Try.f4.params[j]? = some t → args[j]? = some v → Value.okWide Try.prog W .any base t v := hval0
  have hW' := hW
  obtain ⟨p, q, hA0, hV, rfl, hfz, hnd⟩ := hW
  have hA : DataW.TrodAll enc Try.prog W 0 (fun _ => true) true Try.f4.params.toList args.toList ds p := hA0
  rw [Try.params4] at hA hval
  obtain ⟨v0, vs0, d0, ds0, p0, q0, hargs, rfl, rfl, h0, r0⟩ := trodAll_cons hA
  obtain ⟨v1, vs1, d1, ds1, p1, q1, rfl, rfl, rfl, h1, r1⟩ := trodAll_cons r0
  obtain ⟨v2, vs2, d2, ds2, p2, q2, rfl, rfl, rfl, h2, r2⟩ := trodAll_cons r1
  obtain ⟨rfl, rfl, rfl⟩ := trodAll_nil r2
  obtain rfl : args = #[v0, v1, v2] := by cases args; simp_all
  obtain ⟨rfl, rfl⟩ := trodVars_none hV
  obtain ⟨a0, len0, cap0, rfl⟩ := okWide_slice Try.underlying22 (hval 0 22 v0 rfl rfl)
  have k0 := h0
  have lt0 : ∀ x ∈ p0, x.block < W.heap.size := by obtain ⟨m, hm⟩ := k0; exact DataW.trod_lt m _ _ _ hm
  obtain ⟨l, hl, hc, hC, hwf⟩ : ∃ l : List S33, l.length = len0 ∧ len0 ≤ cap0 ∧ Kd.C k33 W a0 len0 l ∧ ∀ i, i < l.length → wfS (rd_T33 l (i : Int)) := by
    obtain ⟨m, hm⟩ := k0
    exact open22 hm
  obtain ⟨a1, rfl, rfl, rfl, w1⟩ := open_int Try.underlying3 (hval 1 3 v1 rfl rfl) h1
  obtain ⟨a2, rfl, rfl, rfl, w2⟩ := open_int Try.underlying3 (hval 2 3 v2 rfl rfl) h2
  subst hl
  clear hA0 hval0
  refine (hwalk a0 cap0 l a1 a2 W hC hc hwf (wf_i64 w1) (wf_i64 w2)).mono fun e W' ⟨he, bel⟩ => ?_
  subst he
  exact ⟨_, rfl, _, _, _, [], _, [], hW', trodAll_mk1 (shut_bool Try.underlying4 _), (trodAll_cons_mk (Below.trod laidOut (by kernel_rfl) (of_decide_eq_true (by kernel_rfl)) k0 bel lt0) (trodAll_cons_mk (shut_int Try.underlying3 w1) (trodAll_cons_mk (shut_int Try.underlying3 w2) trodAll_mk0))), rfl, bel.frame _, fun h => by cases h⟩

theorem spanNormal.over (hlift : ∀ (os : Os) (started : os.Started) (H : Type) (enc : TypeId × Value → H), ReturnsInHanded {} Try.checked os 4 .any (Rows.spanNormalSpec.pre6 enc Try.prog Try.f4 Rows.spanNormalRow.domain false) (Rows.spanNormalSpec.post enc Try.prog Try.f4 false true false false)) : Rows.spanNormalRow.holds Try.pinned (OpenSpec.ofChange Rows.spanNormalSpec) :=
  OpenClaim.holds_of_wide 4 Try.f4 rfl rfl rfl rfl rfl rfl rfl ⟨rfl, rfl, rfl, rfl, rfl⟩ rfl rfl rfl rfl rfl (by kernel_rfl) Try.func4 (by kernel_rfl)
    (of_decide_eq_true (by kernel_rfl)) (by unfold Func.isWrapper; first | (rw [if_pos (by decide +kernel)]; kernel_rfl) | (rw [if_neg (by decide +kernel)]; exact ⟨rfl, rfl⟩))
    (fun os started H enc _ => hlift os started H enc)

theorem spanNormal.walk (A : Option Addr) (c : Nat) (l : List S33) (a1 a2 : Int) (W : World) (hC : Kd.C k33 W A l.length l) (hc : l.length ≤ c) (hw : ∀ i, i < l.length → wfS (rd_T33 l (i : Int))) (h1 : -9223372036854775808 ≤ a1 ∧ a1 ≤ 9223372036854775807) (h2 : -9223372036854775808 ≤ a2 ∧ a2 ≤ 9223372036854775807) :
    Calls Try.prog 4 #[.slice A l.length c, .int .i64 a1, .int .i64 a2] W fun e w' => e = .returned (.bool true) ∧ Below W.heap.size W w' :=
  frisketlaw07_SpanNormal.calls 1000 A c l a1 a2 true W hC hc (normal_all l a1 a2 hw)
end Go.Proofs.Ytdkblhfcndafaaa.X
namespace Go.Proofs.Ytdkblhfcndafaaa
theorem spanNormal_holds : Rows.SpanNormalSaid := X.spanNormal.over (X.spanNormal.lifted X.spanNormal.walk)
#print axioms spanNormal_holds
end Go.Proofs.Ytdkblhfcndafaaa
