/- utf.Decode and span.ruby: the scalars of a text's bytes; whether a text may stand beside others. -/
import Derived.Test.YtdkblhfcndafaaaYscan
import Derived.Test.YtdkblhfcndafaaaYp2
namespace Go.Proofs.Ytdkblhfcndafaaa.X
open Go.RowKit Go.Proofs.YtdkblhfcndafaaaW.PrintWords
set_option linter.unusedVariables false
set_option linter.unusedSimpArgs false

/-- What Decode answers. -/
def DecPost (D : Option (List Int)) (w : World) (e : Ending) (w' : World) : Prop :=
  (∀ xs, D = some xs → ∃ v, e = .returned (.tuple #[v, .int .i64 0]) ∧ Kd.R (Kd.int .i64) 3 w' w.heap.size (fun _ => True) v xs ∧ Below w.heap.size w w') ∧
  (D = none → e = .returned (.tuple #[.slice none 0 0, .int .i64 11]) ∧ Below w.heap.size w w')
theorem decode_calls (A : Option Addr) (c0 : Nat) (l : List Int) (w : World) (hr0 : Kd.C (Kd.int .u8) w A l.length l) (hc0 : l.length ≤ c0) (hlen : l.length ≤ 1000000000) (hb : ∀ i, 0 ≤ rd l i ∧ rd l i ≤ 255) :
    Calls Try.prog 36 #[.slice A l.length c0] w (DecPost (dec l.length l) w) := by
  have hS := Aside0.mk (scan_calls A c0 l w hr0 hc0 hlen hb)
  clear hr0 hlen hb
  obtain ⟨D, hD⟩ : ∃ D, D = dec l.length l := ⟨_, rfl⟩
  rw [← hD] at hS ⊢
  clear hD
  cases D with
  | none =>
    go_enter Try.func36, Try.ntmps36
    go_wp2_with (go_at_call 43; refine hS.out.mono ?_; rintro e w' h; obtain ⟨a, rfl, hb⟩ := h.2 rfl; replace hb := Aside0.mk hb; clear h)
    exact ⟨rfl, _, (by simp [results, Try.results36, go_sem]), fun xs h => (by cases h), fun _ => ⟨rfl, hb.out⟩⟩
  | some ys =>
    go_enter Try.func36, Try.ntmps36
    go_wp2_with (go_at_call 43; refine hS.out.mono ?_; rintro e w' h; obtain ⟨v, rfl, hR, hb⟩ := h.1 _ rfl; obtain ⟨A1, c1, rfl⟩ := Kd.R_slice hR; replace hb := Aside0.mk hb; replace hR := Aside0.mk hR; clear h)
    exact ⟨rfl, .tuple #[.slice A1 ys.length c1, .int .i64 0], (by simp [results, Try.results36, go_sem]), fun xs h => (by cases h; exact ⟨_, rfl, hR.out, hb.out⟩), fun h => (by cases h)⟩

theorem rd_bytes (s : ByteArray) (i : Int) : 0 ≤ rd (bytesOf s) i ∧ rd (bytesOf s) i ≤ 255 := by
  unfold rd bytesOf
  rw [List.getD_eq_getElem?_getD, List.getElem?_map]
  cases h : s.data.toList[i.toNat]? with
  | none => simp
  | some b =>
    have := b.toNat_lt
    simp only [Option.map_some, Option.getD_some]
    omega
theorem bytesOk_bytes (s : ByteArray) : bytesOk (bytesOf s) = true := by
  unfold bytesOk bytesOf
  simp only [List.all_map, List.all_eq_true, Function.comp, Bool.and_eq_true, decide_eq_true_eq]
  intro b hb
  have := b.toNat_lt
  omega
theorem bytes_C (W : World) (e : TypeId) (s : ByteArray) (hs : s.size ≤ 9223372036854775807) : Kd.C (Kd.int .u8) (Lib.bytesWorld W e s) (some ⟨W.heap.size, 0, none⟩) s.size (bytesOf s) :=
  Kd.C_of_reads (enc := Value.int .u8) (d := (0 : Int)) (h1 := fun _ => rfl) (bytes_reads W e s hs)
/-- May a text stand beside others? -/
def rubyF (s : ByteArray) : Bool := match dec s.size (bytesOf s) with
  | some xs => decide (xs.length ≤ 20)
  | none => false
def span_ruby.f (s : ByteArray) : Option Bool := if s.size ≤ 1000000000 then some (rubyF s) else none
theorem span_ruby.calls (s : ByteArray) (r : Bool) (w : World) (h : span_ruby.f s = some r) :
    Calls Try.prog 28 #[.string s] w fun e w' => e = .returned (.bool r) ∧ Below w.heap.size w w' := by
  unfold span_ruby.f at h
  by_cases hs : s.size ≤ 1000000000
  · rw [if_pos hs] at h
    obtain rfl := Option.some.inj h
    clear h
    have kb := fun W => print_bytes (P := Try.prog) 9 55 5 Try.underlying9 Try.underlying55 Try.underlying5 s W
    have hd := Aside0.mk (decode_calls (some ⟨w.heap.size, 0, none⟩) (grownCap w s.size 0 5) (bytesOf s) (Lib.bytesWorld w 5 s) (by rw [bytesOf_length]; exact bytes_C w 5 s (by omega)) (by rw [bytesOf_length]; exact grownCap_ge _ _ _ _) (by rw [bytesOf_length]; exact hs) (rd_bytes s))
    have hB := Aside0.mk (bytes_below (Below.refl w.heap.size w) (Nat.le_refl _) 5 s)
    rw [bytesOf_length] at hd
    unfold rubyF
    obtain ⟨D, hD⟩ : ∃ D, D = dec s.size (bytesOf s) := ⟨_, rfl⟩
    rw [← hD] at hd ⊢
    clear hD
    cases D with
    | none =>
      go_enter Try.func28, Try.ntmps28
      go_wp2_with (go_at_call 36; refine hd.out.mono ?_; rintro e w' h; obtain ⟨rfl, hb⟩ := h.2 rfl; replace hb := Aside0.mk (below_step hB.out hb); clear h)
      exact ⟨rfl, .bool false, (by simp [results, Try.results28, go_sem]), rfl, hb.out⟩
    | some ys =>
      go_enter Try.func28, Try.ntmps28
      go_wp2_with (go_at_call 36; refine hd.out.mono ?_; rintro e w' h; obtain ⟨v, rfl, hR, hb⟩ := h.1 _ rfl; obtain ⟨A1, c1, rfl⟩ := Kd.R_slice hR; replace hb := Aside0.mk (below_step hB.out hb); clear h hR)
      exact ⟨rfl, .bool (decide ((ys.length : Int) ≤ 20)), (by simp [results, Try.results28, go_sem]), (by rw [show decide ((ys.length : Int) ≤ 20) = decide (ys.length ≤ 20) from decide_eq_decide.mpr (by omega)]), hb.out⟩
  · rw [if_neg hs] at h; cases h
end Go.Proofs.Ytdkblhfcndafaaa.X
