/- ScaleLists answers true at every input, and leaves its argument as it reads. Conditions: none beyond the row's own. -/
import Derived.Test.YtipejilcocafmaaYps7
import Derived.Test.YtipejilcocafmaaRows
import Derived.Deep.Slices
import Derived.ChangeArms
import Derived.ProofKit
import Derived.WalkKit
import Derived.OpenShut
import Derived.ShutString
import Derived.ChangeOld
import Derived.Below
import Derived.SizedLaws
namespace Go.Proofs.Ytipejilcocafmaa.X
open Go.RowKit Go.Proofs.YtipejilcocafmaaW.PrintWords
set_option linter.unusedVariables false
set_option linter.unusedSimpArgs false
open Go.ChangeShapes Go.WideShapes Go.ChangeAt
open Go.Deep (open_slice choose_lt)
theorem own : ownKnob Try.prog.godebug = none := by kernel_rfl
theorem laidOut : laidOutB Try.prog = true := by kernel_rfl
theorem wf_u64 {n : Int} (h : (Lit.int .u64 n).wf = true) : 0 ≤ n ∧ n < 18446744073709551616 := by
  have a : IntKind.u64.min = 0 := by decide
  have b : IntKind.u64.max = 18446744073709551615 := by decide
  simp [Lit.wf] at h
  omega
theorem openU {H : Type} {enc : TypeId × Value → H} {w : World} {base : Nat} {held : Bool} {fuel : Nat} {A : Option Addr} {len cap : Nat} {x : DataW H × List MemPlace} (h : DataW.trod enc Try.prog w base (fun _ => true) held fuel 22 [.slice A len cap] = some x) :
    ∃ l : List Int, l.length = len ∧ len ≤ cap ∧ Kd.C (Kd.int .u64) w A len l ∧ okU l = true := by
  rcases open_slice Try.underlying22 h with ⟨h0, _⟩ | ⟨a, len', cap', m, n, D, Pl, h0, hb, hl, hm, hmm, _, hx⟩
  · cases h0
    exact ⟨[], rfl, Nat.le_refl _, ⟨rfl, by omega, fun h => absurd h (by omega)⟩, rfl⟩
  · cases h0
    have c1 : Try.prog.cellsOf 31 = 1 := by kernel_rfl
    rw [if_pos rfl] at hmm
    subst hmm
    have each : ∀ i, i < len → ∃ s : Int, (0 ≤ s ∧ s < 18446744073709551616) ∧ ∀ j u, [Value.int .u64 s][j]? = some u → w.cell? (a.add (i * 1 + j)) = some u := by
      intro i hi
      obtain ⟨cs', h1, h2⟩ := hx i (by omega)
      rw [c1] at h1
      obtain ⟨_, hlen, hcell⟩ := World.cells?_some h1
      match cs', hlen with
      | [v], _ =>
        obtain ⟨f, e0, _, w0⟩ := DataW.trod_int Try.underlying31 h2
        cases e0
        refine ⟨f, wf_u64 w0, fun j u hu => ?_⟩
        have hj : j < 1 := by
          obtain ⟨hj, _⟩ := List.getElem?_eq_some_iff.1 hu
          simpa using hj
        have := hcell j hj
        rw [add_add, hu] at this
        exact this
    obtain ⟨q, hq⟩ := choose_lt each
    refine ⟨(List.range len).map q, by simp, hl, ⟨by simp, by have : maxLen = maxLen := rfl; unfold maxLen at hm; omega, fun _ => ⟨a, rfl, fun j p hp => ?_⟩⟩, ?_⟩
    · have hj : j < len := by
        obtain ⟨hj, _⟩ := List.getElem?_eq_some_iff.1 hp
        simpa using hj
      have hpq : p = q j := by
        rw [List.getElem?_map, List.getElem?_range hj] at hp
        exact (Option.some.inj hp).symm
      subst hpq
      exact ⟨[.int .u64 (q j)], rfl, rfl, fun i u hu => (hq j hj).2 i u hu⟩
    · unfold okU
      rw [List.all_eq_true]
      intro y hy
      obtain ⟨i, hi, rfl⟩ := List.mem_map.1 hy
      have := (hq i (List.mem_range.1 hi)).1
      simp
      exact this
set_option maxRecDepth 100000 in
theorem scaleLists.lifted (os : Os) (started : os.Started) (H : Type) (enc : TypeId × Value → H) :
    ReturnsInHanded {} Try.checked os 3 .any (Rows.scaleListsSpec.pre6 enc Try.prog Try.f3 Rows.scaleListsRow.domain false) (Rows.scaleListsSpec.post enc Try.prog Try.f3 false true false false) := by
  refine returnsInHanded_of_change (C := Try.checked) own started (by kernel_rfl) Try.func3
    (ChangeSpec.witness6 (enc := enc) (C := Try.checked) false ⟨#[], #[.slice none 0 0], []⟩ 8 (by kernel_rfl) (by kernel_rfl) (by kernel_rfl) (by kernel_rfl)) ?_
  intro W base args ds gs before hval0 hW hcnd _
  have hval : ∀ (j : Nat) t v, Try.f3.params[j]? = some t → args[j]? = some v → Value.okWide Try.prog W .any base t v := hval0
  have hW' := hW
  obtain ⟨p, q, hA0, hV, rfl, hfz, hnd⟩ := hW
  have hA : DataW.TrodAll enc Try.prog W 0 (fun _ => true) true Try.f3.params.toList args.toList ds p := hA0
  rw [Try.params3] at hA hval
  obtain ⟨v0, vs0, d0, ds0, p0, q0, hargs, rfl, rfl, h0, r0⟩ := trodAll_cons hA
  obtain ⟨rfl, rfl, rfl⟩ := trodAll_nil r0
  obtain rfl : args = #[v0] := by cases args; simp_all
  obtain ⟨rfl, rfl⟩ := trodVars_none hV
  obtain ⟨a0, len0, cap0, rfl⟩ := okWide_slice Try.underlying22 (hval 0 22 v0 rfl rfl)
  have k0 := h0
  have lt0 : ∀ x ∈ p0, x.block < W.heap.size := by obtain ⟨m, hm⟩ := k0; exact DataW.trod_lt m _ _ _ hm
  obtain ⟨l, hl, hc, hC, hok⟩ : ∃ l : List Int, l.length = len0 ∧ len0 ≤ cap0 ∧ Kd.C (Kd.int .u64) W a0 len0 l ∧ okU l = true := by
    obtain ⟨m, hm⟩ := k0
    exact openU hm
  subst hl
  clear hA0 hval0
  refine (frisketlaw04_ScaleLists.calls 10000 a0 cap0 l true W hC hc (lists_all l hok)).mono fun e W' ⟨he, bel⟩ => ?_
  subst he
  exact ⟨_, rfl, _, _, _, [], _, [], hW', trodAll_mk1 (shut_bool Try.underlying4 _), (trodAll_cons_mk (Below.trod laidOut (by kernel_rfl) (of_decide_eq_true (by kernel_rfl)) k0 bel lt0) trodAll_mk0), rfl, bel.frame _, fun h => by cases h⟩
theorem scaleLists.over (hlift : ∀ (os : Os) (started : os.Started) (H : Type) (enc : TypeId × Value → H), ReturnsInHanded {} Try.checked os 3 .any (Rows.scaleListsSpec.pre6 enc Try.prog Try.f3 Rows.scaleListsRow.domain false) (Rows.scaleListsSpec.post enc Try.prog Try.f3 false true false false)) : Rows.scaleListsRow.holds Try.pinned (OpenSpec.ofChange Rows.scaleListsSpec) :=
  OpenClaim.holds_of_wide 3 Try.f3 rfl rfl rfl rfl rfl rfl rfl ⟨rfl, rfl, rfl, rfl, rfl⟩ rfl rfl rfl rfl rfl (by kernel_rfl) Try.func3 (by kernel_rfl)
    (of_decide_eq_true (by kernel_rfl)) (by unfold Func.isWrapper; first | (rw [if_pos (by decide +kernel)]; kernel_rfl) | (rw [if_neg (by decide +kernel)]; exact ⟨rfl, rfl⟩))
    (fun os started H enc _ => hlift os started H enc)

end Go.Proofs.Ytipejilcocafmaa.X
namespace Go.Proofs.Ytipejilcocafmaa
theorem scaleLists_holds : Rows.ScaleListsSaid := X.scaleLists.over X.scaleLists.lifted
#print axioms scaleLists_holds
end Go.Proofs.Ytipejilcocafmaa
