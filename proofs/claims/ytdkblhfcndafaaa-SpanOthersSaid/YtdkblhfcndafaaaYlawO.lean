/- SpanOthers answers true at every input, and leaves its arguments as they read. Conditions: none beyond the row's own. -/
import Derived.Test.YtdkblhfcndafaaaYp10
import Derived.Test.YtdkblhfcndafaaaYopen
import Derived.Test.YtdkblhfcndafaaaRows
import Derived.ProofKit
import Derived.WalkKit
import Derived.OpenShut
import Derived.ShutString
import Derived.ChangeOld
import Derived.Below
import Derived.SizedLaws
namespace Go.Proofs.Ytdkblhfcndafaaa.X
open Go.RowKit Go.Proofs.YtdkblhfcndafaaaW.PrintWords
set_option linter.unusedVariables false
set_option linter.unusedSimpArgs false
open Go.ChangeShapes Go.WideShapes Go.ChangeAt
theorem own : ownKnob Try.prog.godebug = none := by kernel_rfl
theorem laidOut : laidOutB Try.prog = true := by kernel_rfl
set_option maxRecDepth 100000 in
theorem spanOthers.lifted (hwalk : ∀ (A : Option Addr) (c : Nat) (l : List S33) (a1 : Int) (x2_0 x2_1 x2_2 : Int) (W : World), Kd.C k33 W A l.length l → l.length ≤ c → (∀ i, i < l.length → wfS (rd_T33 l (i : Int))) → (-9223372036854775808 ≤ a1 ∧ a1 ≤ 9223372036854775807) → 
      Calls Try.prog 6 #[.slice A l.length c, .int .i64 a1, .agg #[.int .i64 x2_0, .int .i64 x2_1, .int .i64 x2_2]] W fun e w' => e = .returned (.bool true) ∧ Below W.heap.size W w')
    (os : Os) (started : os.Started) (H : Type) (enc : TypeId × Value → H) :
    ReturnsInHanded {} Try.checked os 6 .any (Rows.spanOthersSpec.pre6 enc Try.prog Try.f6 Rows.spanOthersRow.domain false) (Rows.spanOthersSpec.post enc Try.prog Try.f6 false true false false) := by
  refine returnsInHanded_of_change (C := Try.checked) own started (by kernel_rfl) Try.func6
    (ChangeSpec.witness6 (enc := enc) (C := Try.checked) false ⟨#[], #[.slice none 0 0, .int .i64 0, .agg #[.int .i64 0, .int .i64 0, .int .i64 0]], []⟩ 8 (by kernel_rfl) (by kernel_rfl) (by kernel_rfl) (by kernel_rfl)) ?_
  intro W base args ds gs before hval0 hW hcnd _
  have hval : ∀ (j : Nat) t v, Try.f6.params[j]? = some t → args[j]? = some v → Value.okWide Try.prog W .any base t v := hval0
  have hW' := hW
  obtain ⟨p, q, hA0, hV, rfl, hfz, hnd⟩ := hW
  have hA : DataW.TrodAll enc Try.prog W 0 (fun _ => true) true Try.f6.params.toList args.toList ds p := hA0
  rw [Try.params6] at hA hval
  obtain ⟨v0, vs0, d0, ds0, p0, q0, hargs, rfl, rfl, h0, r0⟩ := trodAll_cons hA
  obtain ⟨v1, vs1, d1, ds1, p1, q1, rfl, rfl, rfl, h1, r1⟩ := trodAll_cons r0
  obtain ⟨v2, vs2, d2, ds2, p2, q2, rfl, rfl, rfl, h2, r2⟩ := trodAll_cons r1
  obtain ⟨rfl, rfl, rfl⟩ := trodAll_nil r2
  obtain rfl : args = #[v0, v1, v2] := by cases args; simp_all
  obtain ⟨rfl, rfl⟩ := trodVars_none hV
  obtain ⟨a0, len0, cap0, rfl⟩ := okWide_slice Try.underlying22 (hval 0 22 v0 rfl rfl)
  have k0 := h0
  have lt0 : ∀ x ∈ p0, x.block < W.heap.size := by obtain ⟨m, hm⟩ := k0; exact DataW.trod_lt m _ _ _ hm
  obtain ⟨l, hl, hc, hC, hwf⟩ : ∃ l : List S33, l.length = len0 ∧ len0 ≤ cap0 ∧ Kd.C k33 W a0 len0 l ∧ ∀ i, i < l.length → wfS (rd_T33 l (i : Int)) := by
    obtain ⟨m, hm⟩ := k0
    exact open22 hm
  obtain ⟨a1, rfl, rfl, rfl, w1⟩ := open_int Try.underlying3 (hval 1 3 v1 rfl rfl) h1
  obtain ⟨c2, rfl, _⟩ := okWide_array Try.underlying23 (hval 2 23 v2 rfl rfl)
  have k2 := h2
  have lt2 : ∀ x ∈ p2, x.block < W.heap.size := by obtain ⟨m, hm⟩ := k2; exact DataW.trod_lt m _ _ _ hm
  obtain ⟨x2_0, x2_1, x2_2, hx2⟩ : ∃ x2_0 x2_1 x2_2 : Int, c2.toList = [.int .i64 x2_0, .int .i64 x2_1, .int .i64 x2_2] := by
    obtain ⟨m, hm⟩ := k2
    exact open23 hm
  obtain rfl : c2 = #[.int .i64 x2_0, .int .i64 x2_1, .int .i64 x2_2] := by cases c2; simp_all
  subst hl
  clear hA0 hval0
  refine (hwalk a0 cap0 l a1 x2_0 x2_1 x2_2 W hC hc hwf (wf_i64 w1)).mono fun e W' ⟨he, bel⟩ => ?_
  subst he
  exact ⟨_, rfl, _, _, _, [], _, [], hW', trodAll_mk1 (shut_bool Try.underlying4 _), (trodAll_cons_mk (Below.trod laidOut (by kernel_rfl) (of_decide_eq_true (by kernel_rfl)) k0 bel lt0) (trodAll_cons_mk (shut_int Try.underlying3 w1) (trodAll_cons_mk (Below.trod laidOut (by kernel_rfl) (of_decide_eq_true (by kernel_rfl)) k2 bel lt2) trodAll_mk0))), rfl, bel.frame _, fun h => by cases h⟩

theorem spanOthers.over (hlift : ∀ (os : Os) (started : os.Started) (H : Type) (enc : TypeId × Value → H), ReturnsInHanded {} Try.checked os 6 .any (Rows.spanOthersSpec.pre6 enc Try.prog Try.f6 Rows.spanOthersRow.domain false) (Rows.spanOthersSpec.post enc Try.prog Try.f6 false true false false)) : Rows.spanOthersRow.holds Try.pinned (OpenSpec.ofChange Rows.spanOthersSpec) :=
  OpenClaim.holds_of_wide 6 Try.f6 rfl rfl rfl rfl rfl rfl rfl ⟨rfl, rfl, rfl, rfl, rfl⟩ rfl rfl rfl rfl rfl (by kernel_rfl) Try.func6 (by kernel_rfl)
    (of_decide_eq_true (by kernel_rfl)) (by unfold Func.isWrapper; first | (rw [if_pos (by decide +kernel)]; kernel_rfl) | (rw [if_neg (by decide +kernel)]; exact ⟨rfl, rfl⟩))
    (fun os started H enc _ => hlift os started H enc)

theorem spanOthers.walk (A : Option Addr) (c : Nat) (l : List S33) (a1 x0 x1 x2 : Int) (W : World) (hC : Kd.C k33 W A l.length l) (hc : l.length ≤ c) (hw : ∀ i, i < l.length → wfS (rd_T33 l (i : Int))) (_ : -9223372036854775808 ≤ a1 ∧ a1 ≤ 9223372036854775807) :
    Calls Try.prog 6 #[.slice A l.length c, .int .i64 a1, .agg #[.int .i64 x0, .int .i64 x1, .int .i64 x2]] W fun e w' => e = .returned (.bool true) ∧ Below W.heap.size W w' :=
  frisketlaw07_SpanOthers.calls 1000 A c l a1 x0 x1 x2 true W hC hc (others_all l a1 x0 x1 x2 hw)
end Go.Proofs.Ytdkblhfcndafaaa.X
namespace Go.Proofs.Ytdkblhfcndafaaa
theorem spanOthers_holds : Rows.SpanOthersSaid := X.spanOthers.over (X.spanOthers.lifted X.spanOthers.walk)
#print axioms spanOthers_holds
end Go.Proofs.Ytdkblhfcndafaaa
