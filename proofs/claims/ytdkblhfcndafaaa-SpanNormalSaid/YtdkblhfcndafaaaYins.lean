/- span.Insert and span.Delete: the spans behind scalars that come, and go: span.moved over the closures. -/
import Derived.Test.YtdkblhfcndafaaaYmoved
import Derived.Test.YtdkblhfcndafaaaYclone
namespace Go.Proofs.Ytdkblhfcndafaaa.X
open Go.RowKit Go.Proofs.YtdkblhfcndafaaaW.PrintWords Go.Proofs.YtdkblhfcndafaaaW.PrintLast Go.Proofs.YtdkblhfcndafaaaW.PrintMore
set_option linter.unusedVariables false
set_option linter.unusedSimpArgs false

def span_Insert.f (l0 : List S33) (a1 a2 : Int) : Option (List S33) :=
  if l0.length ≤ 1000000 then (if a1 < 0 then some l0 else if a2 < 0 then some l0 else some (movedL (grownF a1 a2) (grownF (wrap64 (a1 + 1)) a2) l0)) else none
def span_Delete.f (l0 : List S33) (a1 a2 : Int) : Option (List S33) :=
  if l0.length ≤ 1000000 then (if a1 < 0 then some l0 else if a1 > a2 then some l0 else some (movedL (backF a1 a2) (backF a1 a2) l0)) else none

theorem grown_make (least : Int) (p : Option Addr) (w : World) :
    Calls Try.prog 19 #[.int .i64 least, .pointer p] w fun e w' => e = .returned (.func (.func 20) #[] #[.pointer (some ⟨w.heap.size, 0, none⟩), .pointer p]) ∧ w' = w.alloc (.cells #[.int .i64 least] 3) := by
  have hmf : ∀ (fn : Fn) (first cap : Array Value) (w : World), (Instr.makeFunc fn first cap).run Try.prog w = .ok (.func fn first cap) w := fun _ _ _ _ => rfl
  go_enter Try.func19, Try.ntmps19
  go_wp2
  go_ret
  exact ⟨rfl, rfl⟩

theorem back_world {α : Type} {d : Kd α} {e : Nat} {w w3 w' : World} {v : Value} {xs : List α} (hB : Below w.heap.size w w3) (hR : d.R e w' w3.heap.size (fun _ => True) v xs) (hb : Below w3.heap.size w3 w') :
    d.R e w' w.heap.size (fun _ => True) v xs ∧ Below w.heap.size w w' := ⟨Kd.R_lower hR hB.size, below_step hB hb⟩

set_option maxHeartbeats 4000000 in
set_option maxRecDepth 100000 in
theorem span_Insert.calls (A0 : Option Addr) (c0 : Nat) (l0 : List S33) (a1 a2 : Int) (r : List S33) (w : World) (hr0 : Kd.C k33 w A0 l0.length l0) (hc0 : l0.length ≤ c0) (h : span_Insert.f l0 a1 a2 = some r) :
    Calls Try.prog 10 #[.slice A0 l0.length c0, .int .i64 a1, .int .i64 a2] w fun e w' => ∃ v0_ : Value, e = .returned (v0_) ∧ Kd.R k33 33 w' w.heap.size (fun _ => True) v0_ r ∧ Below w.heap.size w w' := by
  unfold span_Insert.f at h
  split at h
  case isFalse => cases h
  rename_i hl
  have hcl : clone_Span.f l0 = some l0 := by unfold clone_Span.f; rw [if_pos (by omega)]
  have HL := Aside0.mk hl
  have HC := Aside0.mk hcl
  have HR0 := Aside0.mk hr0
  clear hl hcl hr0
  have hmf : ∀ (fn : Fn) (first cap : Array Value) (w : World), (Instr.makeFunc fn first cap).run Try.prog w = .ok (.func fn first cap) w := fun _ _ _ _ => rfl
  by_cases h1 : a1 < 0
  · rw [if_pos h1] at h
    obtain rfl := Option.some.inj h
    clear h
    have HB := Aside0.mk (below_alloc (Below.refl w.heap.size w) (.cells #[.int .i64 a2] 3))
    go_enter Try.func10, Try.ntmps10
    go_wp2_with (go_at_call 18; refine (clone_Span.calls _ _ l0 l0 _ (Kd.C_below HR0.out HB.out) hc0 HC.out).mono ?_; rintro e w' ⟨v0, rfl, hR, hb⟩; have HR := Aside0.mk (back_world HB.out hR hb); clear hR hb)
    go_ret
    exact ⟨_, rfl, HR.out.1, HR.out.2⟩
  · rw [if_neg h1] at h
    by_cases h2 : a2 < 0
    · rw [if_pos h2] at h
      obtain rfl := Option.some.inj h
      clear h
      have HB := Aside0.mk (below_alloc (Below.refl w.heap.size w) (.cells #[.int .i64 a2] 3))
      go_enter Try.func10, Try.ntmps10
      go_wp2_with (go_at_call 18; refine (clone_Span.calls _ _ l0 l0 _ (Kd.C_below HR0.out HB.out) hc0 HC.out).mono ?_; rintro e w' ⟨v0, rfl, hR, hb⟩; have HR := Aside0.mk (back_world HB.out hR hb); clear hR hb)
      go_ret
      exact ⟨_, rfl, HR.out.1, HR.out.2⟩
    · rw [if_neg h2] at h
      obtain rfl := Option.some.inj h
      clear h
      have HB := Aside0.mk (below_alloc (below_alloc (below_alloc (Below.refl w.heap.size w) (.cells #[.int .i64 a2] 3)) (.cells #[.int .i64 a1] 3)) (.cells #[.int .i64 (wrap64 (a1 + 1))] 3))
      have HF1 := Aside0.mk (grown_fn (((w.alloc (.cells #[.int .i64 a2] 3)).alloc (.cells #[.int .i64 a1] 3)).alloc (.cells #[.int .i64 (wrap64 (a1 + 1))] 3)) (w.heap.size + 1) w.heap.size a1 a2 (by simp [go_sem]) (by simp [go_sem]))
      have HF2 := Aside0.mk (grown_fn (((w.alloc (.cells #[.int .i64 a2] 3)).alloc (.cells #[.int .i64 a1] 3)).alloc (.cells #[.int .i64 (wrap64 (a1 + 1))] 3)) (w.heap.size + 1 + 1) w.heap.size (wrap64 (a1 + 1)) a2 (by simp [go_sem]) (by simp [go_sem]))
      go_enter Try.func10, Try.ntmps10
      go_wp2_with (first | (go_at_call 19; refine (grown_make _ _ _).mono ?_; rintro e w' ⟨rfl, rfl⟩) | (go_at_call 21; refine (moved_calls _ _ _ _ _ _ _ _ l0 _ (Kd.C_below HR0.out HB.out) hc0 HL.out (Go.Proofs.enters_of Try.func20 (by kernel_rfl) rfl) (Go.Proofs.enters_of Try.func20 (by kernel_rfl) rfl) HF1.out HF2.out).mono ?_; rintro e w' ⟨v0, rfl, hR, hb⟩; have HR := Aside0.mk (back_world HB.out hR hb); clear hR hb))
      go_ret
      exact ⟨_, rfl, HR.out.1, HR.out.2⟩

set_option maxHeartbeats 4000000 in
set_option maxRecDepth 100000 in
theorem span_Delete.calls (A0 : Option Addr) (c0 : Nat) (l0 : List S33) (a1 a2 : Int) (r : List S33) (w : World) (hr0 : Kd.C k33 w A0 l0.length l0) (hc0 : l0.length ≤ c0) (h : span_Delete.f l0 a1 a2 = some r) :
    Calls Try.prog 12 #[.slice A0 l0.length c0, .int .i64 a1, .int .i64 a2] w fun e w' => ∃ v0_ : Value, e = .returned (v0_) ∧ Kd.R k33 33 w' w.heap.size (fun _ => True) v0_ r ∧ Below w.heap.size w w' := by
  unfold span_Delete.f at h
  split at h
  case isFalse => cases h
  rename_i hl
  have hcl : clone_Span.f l0 = some l0 := by unfold clone_Span.f; rw [if_pos (by omega)]
  have HL := Aside0.mk hl
  have HC := Aside0.mk hcl
  have HR0 := Aside0.mk hr0
  clear hl hcl hr0
  have hmf : ∀ (fn : Fn) (first cap : Array Value) (w : World), (Instr.makeFunc fn first cap).run Try.prog w = .ok (.func fn first cap) w := fun _ _ _ _ => rfl
  have HB := Aside0.mk (below_alloc (below_alloc (Below.refl w.heap.size w) (.cells #[.int .i64 a1] 3)) (.cells #[.int .i64 a2] 3))
  have HF := Aside0.mk (back_fn ((w.alloc (.cells #[.int .i64 a1] 3)).alloc (.cells #[.int .i64 a2] 3)) w.heap.size (w.heap.size + 1) a1 a2 (by simp [go_sem]) (by simp [go_sem]))
  by_cases h1 : a1 < 0
  · rw [if_pos h1] at h
    obtain rfl := Option.some.inj h
    clear h
    go_enter Try.func12, Try.ntmps12
    go_wp2_with (go_at_call 18; refine (clone_Span.calls _ _ l0 l0 _ (Kd.C_below HR0.out HB.out) hc0 HC.out).mono ?_; rintro e w' ⟨v0, rfl, hR, hb⟩; have HR := Aside0.mk (back_world HB.out hR hb); clear hR hb)
    go_ret
    exact ⟨_, rfl, HR.out.1, HR.out.2⟩
  · rw [if_neg h1] at h
    by_cases h2 : a1 > a2
    · rw [if_pos h2] at h
      obtain rfl := Option.some.inj h
      clear h
      go_enter Try.func12, Try.ntmps12
      go_wp2_with (go_at_call 18; refine (clone_Span.calls _ _ l0 l0 _ (Kd.C_below HR0.out HB.out) hc0 HC.out).mono ?_; rintro e w' ⟨v0, rfl, hR, hb⟩; have HR := Aside0.mk (back_world HB.out hR hb); clear hR hb)
      go_ret
      exact ⟨_, rfl, HR.out.1, HR.out.2⟩
    · rw [if_neg h2] at h
      obtain rfl := Option.some.inj h
      clear h
      go_enter Try.func12, Try.ntmps12
      go_wp2_with (go_at_call 21; refine (moved_calls _ _ _ _ _ _ _ _ l0 _ (Kd.C_below HR0.out HB.out) hc0 HL.out (Go.Proofs.enters_of Try.func22 (by kernel_rfl) rfl) (Go.Proofs.enters_of Try.func22 (by kernel_rfl) rfl) HF.out HF.out).mono ?_; rintro e w' ⟨v0, rfl, hR, hb⟩; have HR := Aside0.mk (back_world HB.out hR hb); clear hR hb)
      go_ret
      exact ⟨_, rfl, HR.out.1, HR.out.2⟩
end Go.Proofs.Ytdkblhfcndafaaa.X
