/- Opening the arguments: a slice of spans, an array of whole numbers. -/
import Derived.Test.YtdkblhfcndafaaaYp3
import Derived.Deep.Slices
import Derived.OpenShut
import Derived.ChangeArms
namespace Go.Proofs.Ytdkblhfcndafaaa.X
open Go.RowKit Go.Proofs.YtdkblhfcndafaaaW.PrintWords
set_option linter.unusedVariables false
set_option linter.unusedSimpArgs false
open Go.Deep (open_slice choose_lt)
section
variable {H : Type} {enc : TypeId × Value → H} {w : World} {base : Nat} {spare : Nat → Bool} {held : Bool}
theorem wf_i64 {n : Int} (h : (Lit.int .i64 n).wf = true) : -9223372036854775808 ≤ n ∧ n ≤ 9223372036854775807 := by
  have a : IntKind.i64.min = -9223372036854775808 := by decide
  have b : IntKind.i64.max = 9223372036854775807 := by decide
  simp [Lit.wf] at h
  omega
theorem wf_u64 {n : Int} (h : (Lit.int .u64 n).wf = true) : 0 ≤ n ∧ n < 18446744073709551616 := by
  have a : IntKind.u64.min = 0 := by decide
  have b : IntKind.u64.max = 18446744073709551615 := by decide
  simp [Lit.wf] at h
  omega
theorem open33 {n : Nat} {cs : List Value} {x : DataW H × List MemPlace} (h : DataW.trod enc Try.prog w base spare held n 33 cs = some x) : ∃ s : S33, cs = [.int .i64 s.f0, .int .i64 s.f1, .int .i64 s.f2, .bool s.f3, .string s.f4, .int .u64 s.f5] ∧ wfS s := by
  obtain ⟨xs, k, hk, hxy, hcl, hxl, hf⟩ := DataW.trod_struct Try.underlying33 h
  have hc6 : cs.length = 6 := hcl.trans (by kernel_rfl)
  match cs, hc6, xs, hxl with
  | [v0, v1, v2, v3, v4, v5], _, [y0, y1, y2, y3, y4, y5], _ =>
    have g0 := hf 0 _ rfl
    have g1 := hf 1 _ rfl
    have g2 := hf 2 _ rfl
    have g3 := hf 3 _ rfl
    have g4 := hf 4 _ rfl
    have g5 := hf 5 _ rfl
    have c3 : Try.prog.cellsOf 3 = 1 := by kernel_rfl
    have c30 : Try.prog.cellsOf 30 = 1 := by kernel_rfl
    have c4 : Try.prog.cellsOf 4 = 1 := by kernel_rfl
    have c9 : Try.prog.cellsOf 9 = 1 := by kernel_rfl
    have c31 : Try.prog.cellsOf 31 = 1 := by kernel_rfl
    simp [c3, c30, c4, c9, c31] at g0 g1 g2 g3 g4 g5
    obtain ⟨f0, e0, _, w0⟩ := DataW.trod_int Try.underlying3 g0
    obtain ⟨f1, e1, _, w1⟩ := DataW.trod_int Try.underlying3 g1
    obtain ⟨f2, e2, _, w2⟩ := DataW.trod_int Try.underlying30 g2
    obtain ⟨f3, e3, _⟩ := DataW.trod_bool Try.underlying4 g3
    obtain ⟨f4, e4, _⟩ := DataW.trod_string Try.underlying9 g4
    obtain ⟨f5, e5, _, w5⟩ := DataW.trod_int Try.underlying31 g5
    cases e0; cases e1; cases e2; cases e3; cases e4; cases e5
    exact ⟨⟨f0, f1, f2, f3, f4, f5⟩, rfl, wf_i64 w0, wf_i64 w1, wf_i64 w2, wf_u64 w5⟩
theorem open22 {fuel : Nat} {A : Option Addr} {len cap : Nat} {x : DataW H × List MemPlace} (h : DataW.trod enc Try.prog w base (fun _ => true) held fuel 22 [.slice A len cap] = some x) :
    ∃ l : List S33, l.length = len ∧ len ≤ cap ∧ Kd.C k33 w A len l ∧ ∀ i, i < l.length → wfS (rd_T33 l (i : Int)) := by
  rcases open_slice Try.underlying22 h with ⟨h0, _⟩ | ⟨a, len', cap', m, n, D, Pl, h0, hb, hl, hm, hmm, _, hx⟩
  · cases h0
    exact ⟨[], rfl, Nat.le_refl _, ⟨rfl, by omega, fun h => absurd h (by omega)⟩, fun i h => absurd h (by simp)⟩
  · cases h0
    have c6 : Try.prog.cellsOf 33 = 6 := by kernel_rfl
    rw [if_pos rfl] at hmm
    subst hmm
    have each : ∀ i, i < len → ∃ s : S33, wfS s ∧ ∀ j u, [Value.int .i64 s.f0, .int .i64 s.f1, .int .i64 s.f2, .bool s.f3, .string s.f4, .int .u64 s.f5][j]? = some u → w.cell? (a.add (i * 6 + j)) = some u := by
      intro i hi
      obtain ⟨cs', h1, h2⟩ := hx i (by omega)
      rw [c6] at h1
      obtain ⟨_, hlen, hcell⟩ := World.cells?_some h1
      obtain ⟨s, rfl, hs⟩ := open33 h2
      refine ⟨s, hs, fun j u hu => ?_⟩
      have hj : j < 6 := by
        obtain ⟨hj, _⟩ := List.getElem?_eq_some_iff.1 hu
        simpa using hj
      have := hcell j hj
      rw [add_add, hu] at this
      exact this
    have : Inhabited S33 := ⟨z33⟩
    obtain ⟨q, hq⟩ := choose_lt each
    have hr : ∀ i, i < len → rd_T33 ((List.range len).map q) (i : Int) = q i := by
      intro i hi
      unfold rd_T33
      simp [hi]
    refine ⟨(List.range len).map q, by simp, hl, ⟨by simp, by have : maxLen = maxLen := rfl; unfold maxLen at hm; omega, fun _ => ⟨a, rfl, fun j p hp => ?_⟩⟩, fun i hi => ?_⟩
    · have hj : j < len := by
        obtain ⟨hj, _⟩ := List.getElem?_eq_some_iff.1 hp
        simpa using hj
      have hpq : p = q j := by
        rw [List.getElem?_map, List.getElem?_range hj] at hp
        exact (Option.some.inj hp).symm
      subst hpq
      exact ⟨_, rfl, k33_mk w (q j), fun i u hu => (hq j hj).2 i u hu⟩
    · have hi' : i < len := by simpa using hi
      rw [hr i hi']
      exact (hq i hi').1
theorem okWide_array {n : Nat} {e : TypeId} {P : Program} {r : Reach} {t : TypeId} {v : Value} (ht : P.underlying t = some (.array n e)) (h : Value.okWide P w r base t v) : ∃ cs, v = .agg cs ∧ cs.size = P.cellsOf t := by
  simp only [Value.okWide, ht] at h
  obtain ⟨cs, h1, h2, _⟩ := h
  exact ⟨cs, h1, h2⟩
theorem open23 {fuel : Nat} {cs : List Value} {x : DataW H × List MemPlace} (h : DataW.trod enc Try.prog w base spare held fuel 23 cs = some x) : ∃ x0 x1 x2 : Int, cs = [.int .i64 x0, .int .i64 x1, .int .i64 x2] := by
  obtain ⟨xs, k, _, _, hcl, hxl, hf⟩ := DataW.trod_array Try.underlying23 h
  have hc3 : cs.length = 3 := hcl.trans (by kernel_rfl)
  match cs, hc3, xs, hxl with
  | [v0, v1, v2], _, [y0, y1, y2], _ =>
    have g0 := hf 0 (by decide)
    have g1 := hf 1 (by decide)
    have g2 := hf 2 (by decide)
    have c3 : Try.prog.cellsOf 3 = 1 := by kernel_rfl
    simp [c3] at g0 g1 g2
    obtain ⟨f0, e0, _⟩ := DataW.trod_int Try.underlying3 g0
    obtain ⟨f1, e1, _⟩ := DataW.trod_int Try.underlying3 g1
    obtain ⟨f2, e2, _⟩ := DataW.trod_int Try.underlying3 g2
    cases e0; cases e1; cases e2
    exact ⟨f0, f1, f2, rfl⟩
end
end Go.Proofs.Ytdkblhfcndafaaa.X
