-- Printed by xprint.py (mine, in wip/tools) through the kit's print. Not trusted: Lean checks it.
import Derived.Test.YtipejilcocafmaaX0
import Derived.Test.YtipejilcocafmaaXf26
import Derived.Test.YtipejilcocafmaaXf31
namespace Go.Proofs.Ytipejilcocafmaa.X
open Go.RowKit Go.Proofs.YtipejilcocafmaaW.PrintWords Go.Proofs.YtipejilcocafmaaW.PrintLast Go.Proofs.YtipejilcocafmaaW.PrintMore
attribute [local go_sem] max2_int min2_int max_two min_two
set_option linter.unusedVariables false
set_option linter.unusedSimpArgs false

/-! ### frisketref04_Order: function 17 -/
def frisketref04_Order.f (k : Nat) (a0 : Int) (a1 : Int) : Option (Int) := (frisketref04_Sort.f k a0).bind fun t128 => ((frisketref04_Sort.f k a1).bind fun t129 => (if t128 = t129 then (if t128 = 0 then (some 0) else ((frisketref04_sign.f (Int.tmod a0 9223372036854775808) (Int.tmod a1 9223372036854775808)).bind fun t131 => (if t128 = 2 then (some (wrap64 (-t131))) else (some t131)))) else ((frisketref04_sign.f (IntKind.u64.wrap (t128)) (IntKind.u64.wrap (t129))).bind fun t130 => (some t130))))
theorem frisketref04_Order.mono : ∀ a0 a1 k, LeO (frisketref04_Order.f k a0 a1) (frisketref04_Order.f (k + 1) a0 a1) := by
 intro a0 a1 k
 unfold frisketref04_Order.f
 repeat' first
   | (with_reducible exact frisketref04_Sort.mono _ _)
   | (with_reducible exact LeO.refl _)
   | (with_reducible exact LeO.none _)
   | (with_reducible refine LeO.ite ?_ ?_)
   | (with_reducible refine LeO.bind ?_ (fun _ => ?_))
   | exact frisketref04_Sort.mono _ _
   | exact LeO.none _
   | refine LeO.ite ?_ ?_
   | refine LeO.bind ?_ (fun _ => ?_)
set_option maxHeartbeats 8000000 in
set_option maxRecDepth 100000 in
theorem frisketref04_Order.calls (k : Nat) (a0 : Int) (a1 : Int) (r : Int) (w : World) (h : frisketref04_Order.f k a0 a1 = some r) :
  Calls Try.prog 17 #[.int .u64 a0, .int .u64 a1] w fun e w' => e = .returned (.int .i64 r) ∧ Drawn0 w w' := by
 have H : ((frisketref04_Sort.f k a0).bind fun t128 => ((frisketref04_Sort.f k a1).bind fun t129 => (if t128 = t129 then (if t128 = 0 then (some 0) else ((frisketref04_sign.f (Int.tmod a0 9223372036854775808) (Int.tmod a1 9223372036854775808)).bind fun t131 => (if t128 = 2 then (some (wrap64 (-t131))) else (some t131)))) else ((frisketref04_sign.f (IntKind.u64.wrap (t128)) (IntKind.u64.wrap (t129))).bind fun t130 => (some t130))))) = some r := h
 clear h
 replace H := Option.bind_eq_some_iff.mp H
 obtain ⟨t128, A30, H⟩ := H
 replace H : ((frisketref04_Sort.f k a1).bind fun t129 => (if t128 = t129 then (if t128 = 0 then (some 0) else ((frisketref04_sign.f (Int.tmod a0 9223372036854775808) (Int.tmod a1 9223372036854775808)).bind fun t131 => (if t128 = 2 then (some (wrap64 (-t131))) else (some t131)))) else ((frisketref04_sign.f (IntKind.u64.wrap (t128)) (IntKind.u64.wrap (t129))).bind fun t130 => (some t130)))) = some r := H
 have A3 := Aside0.mk A30
 clear A30
 replace H := Option.bind_eq_some_iff.mp H
 obtain ⟨t129, A40, H⟩ := H
 replace H : (if t128 = t129 then (if t128 = 0 then (some 0) else ((frisketref04_sign.f (Int.tmod a0 9223372036854775808) (Int.tmod a1 9223372036854775808)).bind fun t131 => (if t128 = 2 then (some (wrap64 (-t131))) else (some t131)))) else ((frisketref04_sign.f (IntKind.u64.wrap (t128)) (IntKind.u64.wrap (t129))).bind fun t130 => (some t130))) = some r := H
 have A4 := Aside0.mk A40
 clear A40
 by_cases c5 : t128 = t129
 ·rw [if_pos c5] at H
  have c5b0 : (t128 == t129) = true := beq_iff_eq.mpr c5
  have c5b1 : (t128 != t129) = false := bne_eq_false_iff_eq.mpr c5
  clear c5
  by_cases c6 : t128 = 0
  ·rw [if_pos c6] at H
   have c6b0 : (t128 == 0) = true := beq_iff_eq.mpr c6
   have c6b1 : (t128 != 0) = false := bne_eq_false_iff_eq.mpr c6
   clear c6
   obtain rfl := Option.some.inj H
   go_enter Try.func17, Try.ntmps17
   go_wp2_with (first | ((with_reducible refine gate_callee (f := 26) rfl ?_); refine goesL_ (some 9) rfl rfl Try.func26 (by kernel_rfl) rfl #[.int .u64 a0] rfl (by (try simp only [List.map_toArray, List.map_cons, List.map_nil]); first | done | rfl | (simp only [List.length_drop, List.length_take]; rfl)) ?_; (with_reducible refine (frisketref04_Sort.calls k a0 t128 _ A3.out).mono ?_); rintro e w' ⟨rfl, ⟨nd, rfl⟩⟩; refine ⟨_, rfl, ?_⟩) | ((with_reducible refine gate_callee (f := 26) rfl ?_); refine goesL_ (some 11) rfl rfl Try.func26 (by kernel_rfl) rfl #[.int .u64 a1] rfl (by (try simp only [List.map_toArray, List.map_cons, List.map_nil]); first | done | rfl | (simp only [List.length_drop, List.length_take]; rfl)) ?_; (with_reducible refine (frisketref04_Sort.calls k a1 t129 _ A4.out).mono ?_); rintro e w' ⟨rfl, ⟨nd, rfl⟩⟩; refine ⟨_, rfl, ?_⟩))
   go_ret
   exact ⟨by first | rfl | (simp; done) | (simp [*]; done), by repeat (first | exact Drawn0.refl _ | apply Drawn0.step)⟩
  ·rw [if_neg c6] at H
   have c6b0 : (t128 == 0) = false := beq_eq_false_iff_ne.mpr c6
   have c6b1 : (t128 != 0) = true := bne_iff_ne.mpr c6
   replace H := Option.bind_eq_some_iff.mp H
   obtain ⟨t131, A70, H⟩ := H
   replace H : (if t128 = 2 then (some (wrap64 (-t131))) else (some t131)) = some r := H
   have A7 := Aside0.mk A70
   clear A70
   by_cases c8 : t128 = 2
   ·rw [if_pos c8] at H
    have c8b0 : (t128 == 2) = true := beq_iff_eq.mpr c8
    have c8b1 : (t128 != 2) = false := bne_eq_false_iff_eq.mpr c8
    clear c8
    obtain rfl := Option.some.inj H
    go_enter Try.func17, Try.ntmps17
    go_wp2_with (first | ((with_reducible refine gate_callee (f := 26) rfl ?_); refine goesL_ (some 9) rfl rfl Try.func26 (by kernel_rfl) rfl #[.int .u64 a0] rfl (by (try simp only [List.map_toArray, List.map_cons, List.map_nil]); first | done | rfl | (simp only [List.length_drop, List.length_take]; rfl)) ?_; (with_reducible refine (frisketref04_Sort.calls k a0 t128 _ A3.out).mono ?_); rintro e w' ⟨rfl, ⟨nd, rfl⟩⟩; refine ⟨_, rfl, ?_⟩) | ((with_reducible refine gate_callee (f := 26) rfl ?_); refine goesL_ (some 11) rfl rfl Try.func26 (by kernel_rfl) rfl #[.int .u64 a1] rfl (by (try simp only [List.map_toArray, List.map_cons, List.map_nil]); first | done | rfl | (simp only [List.length_drop, List.length_take]; rfl)) ?_; (with_reducible refine (frisketref04_Sort.calls k a1 t129 _ A4.out).mono ?_); rintro e w' ⟨rfl, ⟨nd, rfl⟩⟩; refine ⟨_, rfl, ?_⟩) | ((with_reducible refine gate_callee (f := 31) rfl ?_); refine goesL_ (some 26) rfl rfl Try.func31 (by kernel_rfl) rfl #[.int .u64 (Int.tmod a0 9223372036854775808), .int .u64 (Int.tmod a1 9223372036854775808)] rfl (by (try simp only [List.map_toArray, List.map_cons, List.map_nil]); first | done | rfl | (simp only [List.length_drop, List.length_take]; rfl)) ?_; (with_reducible refine (frisketref04_sign.calls (Int.tmod a0 9223372036854775808) (Int.tmod a1 9223372036854775808) t131 _ A7.out).mono ?_); rintro e w' ⟨rfl, ⟨nd, rfl⟩⟩; refine ⟨_, rfl, ?_⟩))
    go_ret
    exact ⟨by first | rfl | (simp; done) | (simp [*]; done), by repeat (first | exact Drawn0.refl _ | apply Drawn0.step)⟩
   ·rw [if_neg c8] at H
    have c8b0 : (t128 == 2) = false := beq_eq_false_iff_ne.mpr c8
    have c8b1 : (t128 != 2) = true := bne_iff_ne.mpr c8
    obtain rfl := Option.some.inj H
    go_enter Try.func17, Try.ntmps17
    go_wp2_with (first | ((with_reducible refine gate_callee (f := 26) rfl ?_); refine goesL_ (some 9) rfl rfl Try.func26 (by kernel_rfl) rfl #[.int .u64 a0] rfl (by (try simp only [List.map_toArray, List.map_cons, List.map_nil]); first | done | rfl | (simp only [List.length_drop, List.length_take]; rfl)) ?_; (with_reducible refine (frisketref04_Sort.calls k a0 t128 _ A3.out).mono ?_); rintro e w' ⟨rfl, ⟨nd, rfl⟩⟩; refine ⟨_, rfl, ?_⟩) | ((with_reducible refine gate_callee (f := 26) rfl ?_); refine goesL_ (some 11) rfl rfl Try.func26 (by kernel_rfl) rfl #[.int .u64 a1] rfl (by (try simp only [List.map_toArray, List.map_cons, List.map_nil]); first | done | rfl | (simp only [List.length_drop, List.length_take]; rfl)) ?_; (with_reducible refine (frisketref04_Sort.calls k a1 t129 _ A4.out).mono ?_); rintro e w' ⟨rfl, ⟨nd, rfl⟩⟩; refine ⟨_, rfl, ?_⟩) | ((with_reducible refine gate_callee (f := 31) rfl ?_); refine goesL_ (some 26) rfl rfl Try.func31 (by kernel_rfl) rfl #[.int .u64 (Int.tmod a0 9223372036854775808), .int .u64 (Int.tmod a1 9223372036854775808)] rfl (by (try simp only [List.map_toArray, List.map_cons, List.map_nil]); first | done | rfl | (simp only [List.length_drop, List.length_take]; rfl)) ?_; (with_reducible refine (frisketref04_sign.calls (Int.tmod a0 9223372036854775808) (Int.tmod a1 9223372036854775808) t131 _ A7.out).mono ?_); rintro e w' ⟨rfl, ⟨nd, rfl⟩⟩; refine ⟨_, rfl, ?_⟩))
    go_ret
    exact ⟨by first | rfl | (simp; done) | (simp [*]; done), by repeat (first | exact Drawn0.refl _ | apply Drawn0.step)⟩
 ·rw [if_neg c5] at H
  have c5b0 : (t128 == t129) = false := beq_eq_false_iff_ne.mpr c5
  have c5b1 : (t128 != t129) = true := bne_iff_ne.mpr c5
  replace H := Option.bind_eq_some_iff.mp H
  obtain ⟨t130, A90, H⟩ := H
  replace H : (some t130) = some r := H
  have A9 := Aside0.mk A90
  clear A90
  obtain rfl := Option.some.inj H
  go_enter Try.func17, Try.ntmps17
  go_wp2_with (first | ((with_reducible refine gate_callee (f := 26) rfl ?_); refine goesL_ (some 9) rfl rfl Try.func26 (by kernel_rfl) rfl #[.int .u64 a0] rfl (by (try simp only [List.map_toArray, List.map_cons, List.map_nil]); first | done | rfl | (simp only [List.length_drop, List.length_take]; rfl)) ?_; (with_reducible refine (frisketref04_Sort.calls k a0 t128 _ A3.out).mono ?_); rintro e w' ⟨rfl, ⟨nd, rfl⟩⟩; refine ⟨_, rfl, ?_⟩) | ((with_reducible refine gate_callee (f := 26) rfl ?_); refine goesL_ (some 11) rfl rfl Try.func26 (by kernel_rfl) rfl #[.int .u64 a1] rfl (by (try simp only [List.map_toArray, List.map_cons, List.map_nil]); first | done | rfl | (simp only [List.length_drop, List.length_take]; rfl)) ?_; (with_reducible refine (frisketref04_Sort.calls k a1 t129 _ A4.out).mono ?_); rintro e w' ⟨rfl, ⟨nd, rfl⟩⟩; refine ⟨_, rfl, ?_⟩) | ((with_reducible refine gate_callee (f := 31) rfl ?_); refine goesL_ (some 19) rfl rfl Try.func31 (by kernel_rfl) rfl #[.int .u64 (IntKind.u64.wrap (t128)), .int .u64 (IntKind.u64.wrap (t129))] rfl (by (try simp only [List.map_toArray, List.map_cons, List.map_nil]); first | done | rfl | (simp only [List.length_drop, List.length_take]; rfl)) ?_; (with_reducible refine (frisketref04_sign.calls (IntKind.u64.wrap (t128)) (IntKind.u64.wrap (t129)) t130 _ A9.out).mono ?_); rintro e w' ⟨rfl, ⟨nd, rfl⟩⟩; refine ⟨_, rfl, ?_⟩))
  go_ret
  exact ⟨by first | rfl | (simp; done) | (simp [*]; done), by repeat (first | exact Drawn0.refl _ | apply Drawn0.step)⟩

end Go.Proofs.Ytipejilcocafmaa.X
