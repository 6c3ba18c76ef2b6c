/- slices.Clone of spans: a new list of the same spans. -/
import Derived.Test.YtdkblhfcndafaaaYkit
import Derived.WalkSpells
namespace Go.Proofs.Ytdkblhfcndafaaa.X
open Go.RowKit Go.Proofs.YtdkblhfcndafaaaW.PrintWords Go.Proofs.YtdkblhfcndafaaaW.PrintLast Go.Proofs.YtdkblhfcndafaaaW.PrintMore
set_option linter.unusedVariables false
set_option linter.unusedSimpArgs false
def clone_Span.f (l0 : List S33) : Option (List S33) := if l0.length < 1000000000 then some l0 else none
set_option maxHeartbeats 4000000 in
set_option maxRecDepth 100000 in
theorem clone_Span.calls (A0 : Option Addr) (c0 : Nat) (l0 : List S33) (r : List S33) (w : World) (hr0 : Kd.C k33 w A0 l0.length l0) (hc0 : l0.length ≤ c0) (h : clone_Span.f l0 = some r) :
    Calls Try.prog 18 #[.slice A0 l0.length c0] w fun e w' => ∃ v0_ : Value, e = .returned (v0_) ∧ Kd.R k33 33 w' w.heap.size (fun _ => True) v0_ r ∧ Below w.heap.size w w' := by
  unfold clone_Span.f at h
  split at h
  · rename_i hl
    obtain rfl := Option.some.inj h
    clear h
    cases A0 with
    | none =>
      have hz : l0.length = 0 := by
        rcases Nat.eq_zero_or_pos l0.length with h | h
        · exact h
        · obtain ⟨ad, e, _⟩ := at_T33 hr0 0 (by omega) (by omega)
          cases e
      obtain rfl : l0 = [] := List.eq_nil_of_length_eq_zero hz
      clear hr0 hz hl
      have hn := fun (n c n' c' : Nat) (w : World) => Lib.run_eql_slice_nil (P := Try.prog) w 22 33 none n c n' c' Try.underlying22
      go_enter Try.func18, Try.ntmps18
      go_wp2
      go_ret
      exact ⟨_, rfl, Kd.R_nil _ _ _ _ _, Below.refl _ _⟩
    | some ad =>
      have HR0 := Aside0.mk hr0
      have HL := Aside0.mk hl
      clear hr0 hl
      have hn := fun (n c n' c' : Nat) (w : World) => Lib.run_eql_slice_nil (P := Try.prog) w 22 33 (some ad) n c n' c' Try.underlying22
      go_enter Try.func18, Try.ntmps18
      go_wp2_with (first | ((with_reducible refine gate_dst (N := 5) rfl ?_); refine Kd.R_lit k33 _ 33 ?hg (N := 5) ?hd (xs := ([] : List S33)) (inner := []) (ok := fun _ => True) (okp := fun _ => True) ?hr ?hp (fun _ hk => hk) trivial (Below.refl _ _) (Nat.le_refl _) (by simp) ?_; (case hd => rfl); (case hg => rfl); (case hr => first | (go_simp; done) | (go_simp; rfl)); (case hp => exact (Reps.none _ _)); intro v5 w5 ho hb hg_ hnew_; clear hg_ hnew_; have HO := Aside0.mk ho; have HB := Aside0.mk hb; clear ho hb) | ((with_reducible refine gate_builtin (b := .append) (xs := #[.tmp 5, .tmp 6]) rfl ?_); at_builtin; refine Kd.R_append_rows k33 (w0 := w) w.heap.size rfl (.tmp 5) (.tmp 6) 22 33 (.agg #[(.int .i64 0), (.int .i64 0), (.int .i64 0), (.bool false), (.string ⟨#[]⟩), (.int .u64 0)]) 56 rfl Try.underlying22 info33 rfl (by decide) (by omega) v5 [] l0 _ _ _ (fun _ => True) (fun _ => False) rfl rfl HO.out (Kd.C_below HR0.out HB.out) (fun _ _ h => h) (fun _ h => h.elim) (fun _ _ => trivial) HB.out HB.out.size (by have := HL.out; simp only [List.length_nil]; omega) ?_; intro v6 w6 ho hb hg hat; clear HO HB hg hat; have HO := Aside0.mk ho; have HB := Aside0.mk hb; clear ho hb))
      go_ret
      exact ⟨_, rfl, HO.out, HB.out⟩
  · cases h

end Go.Proofs.Ytdkblhfcndafaaa.X
