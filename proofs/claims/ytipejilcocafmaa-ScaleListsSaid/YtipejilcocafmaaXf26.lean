-- Printed by xprint.py (mine, in wip/tools) through the kit's print. Not trusted: Lean checks it.
import Derived.Test.YtipejilcocafmaaX0
import Derived.Test.YtipejilcocafmaaXf27
namespace Go.Proofs.Ytipejilcocafmaa.X
open Go.RowKit Go.Proofs.YtipejilcocafmaaW.PrintWords Go.Proofs.YtipejilcocafmaaW.PrintLast Go.Proofs.YtipejilcocafmaaW.PrintMore
attribute [local go_sem] max2_int min2_int max_two min_two
set_option linter.unusedVariables false
set_option linter.unusedSimpArgs false

/-! ### frisketref04_Sort: function 26 -/
mutual
def frisketref04_Sort.j0 : Nat → Int → Int → Int → Bool → Option (Int)
 | 0, _, _, _, _ => none
 | k + 1, x3, x4, x5, x17 => if x17 = true then (some 0) else (if x4 = 2047 then (frisketref04_Sort.j1 k x3 x4 x5 (x3 == 1)) else (frisketref04_Sort.j1 k x3 x4 x5 false))
def frisketref04_Sort.j1 : Nat → Int → Int → Int → Bool → Option (Int)
 | 0, _, _, _, _ => none
 | k + 1, x3, x4, x5, x23 => if x23 = true then (some 1) else (if x4 = 2047 then (some 6) else (if x4 = 0 then (if x5 = 0 then (some (wrap64 (4 - (wrap64 (x3))))) else (some (wrap64 (5 - (wrap64 (3 * (wrap64 (x3)))))))) else (some (wrap64 (5 - (wrap64 (3 * (wrap64 (x3)))))))))
end
def frisketref04_Sort.f (k : Nat) (a0 : Int) : Option (Int) := (frisketref04_parts.f a0).bind fun bt116 => (if bt116.2.1 = 2047 then (frisketref04_Sort.j0 k bt116.1 bt116.2.1 bt116.2.2 (decide (bt116.2.2 > 0))) else (frisketref04_Sort.j0 k bt116.1 bt116.2.1 bt116.2.2 false))
theorem frisketref04_Sort.mono_l : ∀ k, (∀ y0 y1 y2 y3, LeO (frisketref04_Sort.j0 k y0 y1 y2 y3) (frisketref04_Sort.j0 (k + 1) y0 y1 y2 y3)) ∧ (∀ y0 y1 y2 y3, LeO (frisketref04_Sort.j1 k y0 y1 y2 y3) (frisketref04_Sort.j1 (k + 1) y0 y1 y2 y3))
 | 0 => ⟨fun _ _ _ _ r h => by simp [frisketref04_Sort.j0] at h, fun _ _ _ _ r h => by simp [frisketref04_Sort.j1] at h⟩
 | k + 1 => by
  obtain ⟨ih0, ih1⟩ := frisketref04_Sort.mono_l k
  refine ⟨?_, ?_⟩
  ·intro y0 y1 y2 y3
   unfold frisketref04_Sort.j0
   repeat' first
   | (with_reducible exact ih0 _ _ _ _)
   | (with_reducible exact ih1 _ _ _ _)
   | (with_reducible exact LeO.refl _)
   | (with_reducible exact LeO.none _)
   | (with_reducible refine LeO.ite ?_ ?_)
   | (with_reducible refine LeO.bind ?_ (fun _ => ?_))
   | exact ih0 _ _ _ _
   | exact ih1 _ _ _ _
   | exact LeO.none _
   | refine LeO.ite ?_ ?_
   | refine LeO.bind ?_ (fun _ => ?_)
  ·intro y0 y1 y2 y3
   unfold frisketref04_Sort.j1
   repeat' first
   | (with_reducible exact ih0 _ _ _ _)
   | (with_reducible exact ih1 _ _ _ _)
   | (with_reducible exact LeO.refl _)
   | (with_reducible exact LeO.none _)
   | (with_reducible refine LeO.ite ?_ ?_)
   | (with_reducible refine LeO.bind ?_ (fun _ => ?_))
   | exact ih0 _ _ _ _
   | exact ih1 _ _ _ _
   | exact LeO.none _
   | refine LeO.ite ?_ ?_
   | refine LeO.bind ?_ (fun _ => ?_)
theorem frisketref04_Sort.mono : ∀ a0 k, LeO (frisketref04_Sort.f k a0) (frisketref04_Sort.f (k + 1) a0) := by
 intro a0 k
 obtain ⟨ih0, ih1⟩ := frisketref04_Sort.mono_l k
 unfold frisketref04_Sort.f
 repeat' first
   | (with_reducible exact ih0 _ _ _ _)
   | (with_reducible exact ih1 _ _ _ _)
   | (with_reducible exact LeO.refl _)
   | (with_reducible exact LeO.none _)
   | (with_reducible refine LeO.ite ?_ ?_)
   | (with_reducible refine LeO.bind ?_ (fun _ => ?_))
   | exact ih0 _ _ _ _
   | exact ih1 _ _ _ _
   | exact LeO.none _
   | refine LeO.ite ?_ ?_
   | refine LeO.bind ?_ (fun _ => ?_)
set_option maxHeartbeats 8000000 in
set_option maxRecDepth 100000 in
theorem frisketref04_Sort.calls (k : Nat) (a0 : Int) (r : Int) (w : World) (h : frisketref04_Sort.f k a0 = some r) :
  Calls Try.prog 26 #[.int .u64 a0] w fun e w' => e = .returned (.int .i64 r) ∧ Drawn0 w w' := by
 have H : ((frisketref04_parts.f a0).bind fun bt116 => (if bt116.2.1 = 2047 then (frisketref04_Sort.j0 k bt116.1 bt116.2.1 bt116.2.2 (decide (bt116.2.2 > 0))) else (frisketref04_Sort.j0 k bt116.1 bt116.2.1 bt116.2.2 false))) = some r := h
 clear h
 replace H := Option.bind_eq_some_iff.mp H
 obtain ⟨⟨t116, t117, t118⟩, A20, H⟩ := H
 replace H : (if t117 = 2047 then (frisketref04_Sort.j0 k t116 t117 t118 (decide (t118 > 0))) else (frisketref04_Sort.j0 k t116 t117 t118 false)) = some r := H
 have A2 := Aside0.mk A20
 clear A20
 have HC3 := Aside0.mk H
 clear H
 go_enter Try.func26, Try.ntmps26
 go_upto_region 2 with (first | ((with_reducible refine gate_callee (f := 27) rfl ?_); refine goesL_ (some 8) rfl rfl Try.func27 (by kernel_rfl) rfl #[.int .u64 a0] rfl (by (try simp only [List.map_toArray, List.map_cons, List.map_nil]); first | done | rfl | (simp only [List.length_drop, List.length_take]; rfl)) ?_; (with_reducible refine (frisketref04_parts.calls a0 t116 t117 t118 _ A2.out).mono ?_); rintro e w' ⟨rfl, ⟨nd, rfl⟩⟩; refine ⟨_, rfl, ?_⟩))
 (try simp only [Act.put, List.setIfInBounds_toArray, List.set_cons_zero, List.set_cons_succ])
 go_cut [17] (fun v17 wc => ∃ (kq : Nat) (x17_2 : Bool), v17 = .bool x17_2 ∧ Aside0 (frisketref04_Sort.j0 kq t116 t117 t118 x17_2 = some r) ∧ Aside0 (kq ≤ k) ∧ Drawn0 w wc)
 case first =>
  have H := HC3.out
  clear HC3
  by_cases c4 : t117 = 2047
  ·rw [if_pos c4] at H
   have c4b0 : (t117 == 2047) = true := beq_iff_eq.mpr c4
   have c4b1 : (t117 != 2047) = false := bne_eq_false_iff_eq.mpr c4
   clear c4
   (first | rw [c4b0] | (simp only [i64_w, i32_w]; rw [c4b0]) | skip)
   have H' := Aside0.mk H
   clear H
   go_wp2
   go_meet
   case rel => exact ⟨_, (decide (t118 > 0)), (by first | rfl | (simp; done) | (simp [*]; done)), H', ⟨by first | omega | exact Nat.le_refl _⟩, by repeat (first | exact Drawn0.refl _ | apply Drawn0.step)⟩
  ·rw [if_neg c4] at H
   have c4b0 : (t117 == 2047) = false := beq_eq_false_iff_ne.mpr c4
   have c4b1 : (t117 != 2047) = true := bne_iff_ne.mpr c4
   (first | rw [c4b0] | (simp only [i64_w, i32_w]; rw [c4b0]) | skip)
   have H' := Aside0.mk H
   clear H
   go_wp2
   go_meet
   case rel => exact ⟨_, (false), (by first | rfl | (simp; done) | (simp [*]; done)), H', ⟨by first | omega | exact Nat.le_refl _⟩, by repeat (first | exact Drawn0.refl _ | apply Drawn0.step)⟩
 case rest =>
  clear HC3
  try clear c2
  try clear p2
  try clear c4
  try clear c4b0
  try clear c4b1
  obtain ⟨kq, x17_2, rfl, HA, HJ2, ⟨mc2, rfl⟩⟩ := hcut
  cases kq with
  | zero => exact absurd HA.out (by simp [frisketref04_Sort.j0])
  | succ kj2 =>
   have H := HA.out
   clear HA
   simp only [frisketref04_Sort.j0] at H
   by_cases c5 : x17_2 = true
   ·subst c5
    have H1 : (some 0) = some r := by rw [if_pos rfl] at H; exact H
    clear H
    have H := H1
    clear H1
    obtain rfl := Option.some.inj H
    go_wp2
    go_ret
    exact ⟨by first | rfl | (simp; done) | (simp [*]; done), by repeat (first | exact Drawn0.refl _ | apply Drawn0.step)⟩
   ·replace c5 := Bool.eq_false_iff.mpr c5
    subst c5
    have H1 : (if t117 = 2047 then (frisketref04_Sort.j1 kj2 t116 t117 t118 (t116 == 1)) else (frisketref04_Sort.j1 kj2 t116 t117 t118 false)) = some r := by rw [if_neg (show ¬ (false = true) by decide)] at H; exact H
    clear H
    have H := H1
    clear H1
    have HC6 := Aside0.mk H
    clear H
    go_upto_region 4 with (fail)
    go_cut [23] (fun v23 wc => ∃ (kq : Nat) (x23_5 : Bool), v23 = .bool x23_5 ∧ Aside0 (frisketref04_Sort.j1 kq t116 t117 t118 x23_5 = some r) ∧ Aside0 (kq ≤ kj2) ∧ Drawn0 w wc)
    case first =>
     have H := HC6.out
     clear HC6
     by_cases c7 : t117 = 2047
     ·rw [if_pos c7] at H
      have c7b0 : (t117 == 2047) = true := beq_iff_eq.mpr c7
      have c7b1 : (t117 != 2047) = false := bne_eq_false_iff_eq.mpr c7
      clear c7
      (first | rw [c7b0] | (simp only [i64_w, i32_w]; rw [c7b0]) | skip)
      have H' := Aside0.mk H
      clear H
      go_wp2
      go_meet
      case rel => exact ⟨_, ((t116 == 1)), (by first | rfl | (simp; done) | (simp [*]; done)), H', ⟨by have := HJ2.out; first | omega | exact Nat.le_refl _⟩, by repeat (first | exact Drawn0.refl _ | apply Drawn0.step)⟩
     ·rw [if_neg c7] at H
      have c7b0 : (t117 == 2047) = false := beq_eq_false_iff_ne.mpr c7
      have c7b1 : (t117 != 2047) = true := bne_iff_ne.mpr c7
      (first | rw [c7b0] | (simp only [i64_w, i32_w]; rw [c7b0]) | skip)
      have H' := Aside0.mk H
      clear H
      go_wp2
      go_meet
      case rel => exact ⟨_, (false), (by first | rfl | (simp; done) | (simp [*]; done)), H', ⟨by have := HJ2.out; first | omega | exact Nat.le_refl _⟩, by repeat (first | exact Drawn0.refl _ | apply Drawn0.step)⟩
    case rest =>
     clear HC6
     try clear c2
     try clear p2
     try clear c4
     try clear c4b0
     try clear c4b1
     try clear c5
     try clear c7
     try clear c7b0
     try clear c7b1
     try clear p2
     obtain ⟨kq, x23_5, rfl, HA, HJ5, ⟨mc5, rfl⟩⟩ := hcut
     cases kq with
     | zero => exact absurd HA.out (by simp [frisketref04_Sort.j1])
     | succ kj5 =>
      have H := HA.out
      clear HA
      simp only [frisketref04_Sort.j1] at H
      by_cases c8 : x23_5 = true
      ·subst c8
       have H1 : (some 1) = some r := by rw [if_pos rfl] at H; exact H
       clear H
       have H := H1
       clear H1
       obtain rfl := Option.some.inj H
       go_wp2
       go_ret
       exact ⟨by first | rfl | (simp; done) | (simp [*]; done), by repeat (first | exact Drawn0.refl _ | apply Drawn0.step)⟩
      ·replace c8 := Bool.eq_false_iff.mpr c8
       subst c8
       have H1 : (if t117 = 2047 then (some 6) else (if t117 = 0 then (if t118 = 0 then (some (wrap64 (4 - (wrap64 (t116))))) else (some (wrap64 (5 - (wrap64 (3 * (wrap64 (t116)))))))) else (some (wrap64 (5 - (wrap64 (3 * (wrap64 (t116))))))))) = some r := by rw [if_neg (show ¬ (false = true) by decide)] at H; exact H
       clear H
       have H := H1
       clear H1
       by_cases c9 : t117 = 2047
       ·rw [if_pos c9] at H
        have c9b0 : (t117 == 2047) = true := beq_iff_eq.mpr c9
        have c9b1 : (t117 != 2047) = false := bne_eq_false_iff_eq.mpr c9
        clear c9
        obtain rfl := Option.some.inj H
        go_wp2
        go_ret
        exact ⟨by first | rfl | (simp; done) | (simp [*]; done), by repeat (first | exact Drawn0.refl _ | apply Drawn0.step)⟩
       ·rw [if_neg c9] at H
        have c9b0 : (t117 == 2047) = false := beq_eq_false_iff_ne.mpr c9
        have c9b1 : (t117 != 2047) = true := bne_iff_ne.mpr c9
        by_cases c10 : t117 = 0
        ·rw [if_pos c10] at H
         have c10b0 : (t117 == 0) = true := beq_iff_eq.mpr c10
         have c10b1 : (t117 != 0) = false := bne_eq_false_iff_eq.mpr c10
         clear c10
         by_cases c11 : t118 = 0
         ·rw [if_pos c11] at H
          have c11b0 : (t118 == 0) = true := beq_iff_eq.mpr c11
          have c11b1 : (t118 != 0) = false := bne_eq_false_iff_eq.mpr c11
          clear c11
          obtain rfl := Option.some.inj H
          go_wp2
          go_ret
          exact ⟨by first | rfl | (simp; done) | (simp [*]; done), by repeat (first | exact Drawn0.refl _ | apply Drawn0.step)⟩
         ·rw [if_neg c11] at H
          have c11b0 : (t118 == 0) = false := beq_eq_false_iff_ne.mpr c11
          have c11b1 : (t118 != 0) = true := bne_iff_ne.mpr c11
          obtain rfl := Option.some.inj H
          go_wp2
          go_ret
          exact ⟨by first | rfl | (simp; done) | (simp [*]; done), by repeat (first | exact Drawn0.refl _ | apply Drawn0.step)⟩
        ·rw [if_neg c10] at H
         have c10b0 : (t117 == 0) = false := beq_eq_false_iff_ne.mpr c10
         have c10b1 : (t117 != 0) = true := bne_iff_ne.mpr c10
         obtain rfl := Option.some.inj H
         go_wp2
         go_ret
         exact ⟨by first | rfl | (simp; done) | (simp [*]; done), by repeat (first | exact Drawn0.refl _ | apply Drawn0.step)⟩

end Go.Proofs.Ytipejilcocafmaa.X
