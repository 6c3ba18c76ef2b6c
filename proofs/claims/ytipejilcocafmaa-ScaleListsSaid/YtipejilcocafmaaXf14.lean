-- Printed by xprint.py (mine, in wip/tools) through the kit's print. Not trusted: Lean checks it.
import Derived.Test.YtipejilcocafmaaX0
import Derived.Test.YtipejilcocafmaaXf26
import Derived.Test.YtipejilcocafmaaXf27
namespace Go.Proofs.Ytipejilcocafmaa.X
open Go.RowKit Go.Proofs.YtipejilcocafmaaW.PrintWords Go.Proofs.YtipejilcocafmaaW.PrintLast Go.Proofs.YtipejilcocafmaaW.PrintMore
attribute [local go_sem] max2_int min2_int max_two min_two
set_option linter.unusedVariables false
set_option linter.unusedSimpArgs false

/-! ### frisketref04_Cells: function 14 -/
mutual
def frisketref04_Cells.j0 : Nat → Int → Int → Bool → Option (Int × Int)
 | 0, _, _, _ => none
 | k + 1, x0, x4, x19 => if x19 = true then (some (0, 0)) else (if x4 = 5 then ((frisketref04_parts.f x0).bind fun bt120 => (if bt120.2.1 < 1023 then (frisketref04_Cells.j1 k bt120.2.1 bt120.2.2 true) else (if bt120.2.1 = 1023 then (frisketref04_Cells.j1 k bt120.2.1 bt120.2.2 (bt120.2.2 == 0)) else (frisketref04_Cells.j1 k bt120.2.1 bt120.2.2 false)))) else (some (0, 41)))
def frisketref04_Cells.j1 : Nat → Int → Int → Bool → Option (Int × Int)
 | 0, _, _, _ => none
 | k + 1, x6, x7, x37 => if x37 = true then (some (1, 0)) else (if x6 > 1029 then (some (0, 41)) else (frisketref04_Cells.l0 k (IntKind.u64.wrap (x7 + 4503599627370496)) 1 x6))
def frisketref04_Cells.l0 : Nat → Int → Int → Int → Option (Int × Int)
 | 0, _, _, _ => none
 | k + 1, x8, x9, x10 => if x10 < 1075 then (frisketref04_Cells.l0 k x8 (IntKind.u64.wrap (2 * x9)) (wrap64 (x10 + 1))) else (if x9 = 0 then (none) else (if (IntKind.u64.wrap (Int.tdiv (IntKind.u64.wrap ((IntKind.u64.wrap (x8 + x9)) - 1)) x9)) > 64 then (some (0, 41)) else (some (wrap64 (IntKind.u64.wrap (Int.tdiv (IntKind.u64.wrap ((IntKind.u64.wrap (x8 + x9)) - 1)) x9)), 0))))
end
def frisketref04_Cells.f (k : Nat) (a0 : Int) : Option (Int × Int) := (frisketref04_Sort.f k a0).bind fun t119 => (if t119 = 3 then (frisketref04_Cells.j0 k a0 t119 true) else (frisketref04_Cells.j0 k a0 t119 (t119 == 4)))
theorem frisketref04_Cells.mono_l : ∀ k, (∀ y0 y1 y2, LeO (frisketref04_Cells.j0 k y0 y1 y2) (frisketref04_Cells.j0 (k + 1) y0 y1 y2)) ∧ (∀ y0 y1 y2, LeO (frisketref04_Cells.j1 k y0 y1 y2) (frisketref04_Cells.j1 (k + 1) y0 y1 y2)) ∧ (∀ y0 y1 y2, LeO (frisketref04_Cells.l0 k y0 y1 y2) (frisketref04_Cells.l0 (k + 1) y0 y1 y2))
 | 0 => ⟨fun _ _ _ r h => by simp [frisketref04_Cells.j0] at h, fun _ _ _ r h => by simp [frisketref04_Cells.j1] at h, fun _ _ _ r h => by simp [frisketref04_Cells.l0] at h⟩
 | k + 1 => by
  obtain ⟨ih0, ih1, ih2⟩ := frisketref04_Cells.mono_l k
  refine ⟨?_, ?_, ?_⟩
  ·intro y0 y1 y2
   unfold frisketref04_Cells.j0
   repeat' first
   | (with_reducible exact ih0 _ _ _)
   | (with_reducible exact ih1 _ _ _)
   | (with_reducible exact ih2 _ _ _)
   | (with_reducible exact frisketref04_Sort.mono _ _)
   | (with_reducible exact LeO.refl _)
   | (with_reducible exact LeO.none _)
   | (with_reducible refine LeO.ite ?_ ?_)
   | (with_reducible refine LeO.bind ?_ (fun _ => ?_))
   | exact ih0 _ _ _
   | exact ih1 _ _ _
   | exact ih2 _ _ _
   | exact frisketref04_Sort.mono _ _
   | exact LeO.none _
   | refine LeO.ite ?_ ?_
   | refine LeO.bind ?_ (fun _ => ?_)
  ·intro y0 y1 y2
   unfold frisketref04_Cells.j1
   repeat' first
   | (with_reducible exact ih0 _ _ _)
   | (with_reducible exact ih1 _ _ _)
   | (with_reducible exact ih2 _ _ _)
   | (with_reducible exact frisketref04_Sort.mono _ _)
   | (with_reducible exact LeO.refl _)
   | (with_reducible exact LeO.none _)
   | (with_reducible refine LeO.ite ?_ ?_)
   | (with_reducible refine LeO.bind ?_ (fun _ => ?_))
   | exact ih0 _ _ _
   | exact ih1 _ _ _
   | exact ih2 _ _ _
   | exact frisketref04_Sort.mono _ _
   | exact LeO.none _
   | refine LeO.ite ?_ ?_
   | refine LeO.bind ?_ (fun _ => ?_)
  ·intro y0 y1 y2
   unfold frisketref04_Cells.l0
   repeat' first
   | (with_reducible exact ih0 _ _ _)
   | (with_reducible exact ih1 _ _ _)
   | (with_reducible exact ih2 _ _ _)
   | (with_reducible exact frisketref04_Sort.mono _ _)
   | (with_reducible exact LeO.refl _)
   | (with_reducible exact LeO.none _)
   | (with_reducible refine LeO.ite ?_ ?_)
   | (with_reducible refine LeO.bind ?_ (fun _ => ?_))
   | exact ih0 _ _ _
   | exact ih1 _ _ _
   | exact ih2 _ _ _
   | exact frisketref04_Sort.mono _ _
   | exact LeO.none _
   | refine LeO.ite ?_ ?_
   | refine LeO.bind ?_ (fun _ => ?_)
theorem frisketref04_Cells.mono : ∀ a0 k, LeO (frisketref04_Cells.f k a0) (frisketref04_Cells.f (k + 1) a0) := by
 intro a0 k
 obtain ⟨ih0, ih1, ih2⟩ := frisketref04_Cells.mono_l k
 unfold frisketref04_Cells.f
 repeat' first
   | (with_reducible exact ih0 _ _ _)
   | (with_reducible exact ih1 _ _ _)
   | (with_reducible exact ih2 _ _ _)
   | (with_reducible exact frisketref04_Sort.mono _ _)
   | (with_reducible exact LeO.refl _)
   | (with_reducible exact LeO.none _)
   | (with_reducible refine LeO.ite ?_ ?_)
   | (with_reducible refine LeO.bind ?_ (fun _ => ?_))
   | exact ih0 _ _ _
   | exact ih1 _ _ _
   | exact ih2 _ _ _
   | exact frisketref04_Sort.mono _ _
   | exact LeO.none _
   | refine LeO.ite ?_ ?_
   | refine LeO.bind ?_ (fun _ => ?_)
set_option maxHeartbeats 8000000 in
set_option maxRecDepth 100000 in
theorem frisketref04_Cells.calls (k : Nat) (a0 : Int) (r1 : Int) (r2 : Int) (w : World) (h : frisketref04_Cells.f k a0 = some (r1, r2)) :
  Calls Try.prog 14 #[.int .u64 a0] w fun e w' => e = .returned (.tuple #[.int .i64 r1, .int .i64 r2]) ∧ Drawn0 w w' := by
 have H : ((frisketref04_Sort.f k a0).bind fun t119 => (if t119 = 3 then (frisketref04_Cells.j0 k a0 t119 true) else (frisketref04_Cells.j0 k a0 t119 (t119 == 4)))) = some (r1, r2) := h
 clear h
 replace H := Option.bind_eq_some_iff.mp H
 obtain ⟨t119, A20, H⟩ := H
 replace H : (if t119 = 3 then (frisketref04_Cells.j0 k a0 t119 true) else (frisketref04_Cells.j0 k a0 t119 (t119 == 4))) = some (r1, r2) := H
 have A2 := Aside0.mk A20
 clear A20
 have HC3 := Aside0.mk H
 clear H
 go_enter Try.func14, Try.ntmps14
 go_upto_region 2 with (first | ((with_reducible refine gate_callee (f := 26) rfl ?_); refine goesL_ (some 13) rfl rfl Try.func26 (by kernel_rfl) rfl #[.int .u64 a0] rfl (by (try simp only [List.map_toArray, List.map_cons, List.map_nil]); first | done | rfl | (simp only [List.length_drop, List.length_take]; rfl)) ?_; (with_reducible refine (frisketref04_Sort.calls k a0 t119 _ A2.out).mono ?_); rintro e w' ⟨rfl, ⟨nd, rfl⟩⟩; refine ⟨_, rfl, ?_⟩))
 (try simp only [Act.put, List.setIfInBounds_toArray, List.set_cons_zero, List.set_cons_succ])
 go_cut [19] (fun v19 wc => ∃ (kq : Nat) (x19_2 : Bool), v19 = .bool x19_2 ∧ Aside0 (frisketref04_Cells.j0 kq a0 t119 x19_2 = some (r1, r2)) ∧ Aside0 (kq ≤ k) ∧ Drawn0 w wc)
 case first =>
  have H := HC3.out
  clear HC3
  by_cases c4 : t119 = 3
  ·rw [if_pos c4] at H
   have c4b0 : (t119 == 3) = true := beq_iff_eq.mpr c4
   have c4b1 : (t119 != 3) = false := bne_eq_false_iff_eq.mpr c4
   clear c4
   (first | rw [c4b0] | (simp only [i64_w, i32_w]; rw [c4b0]) | skip)
   have H' := Aside0.mk H
   clear H
   go_wp2
   go_meet
   case rel => exact ⟨_, (true), (by first | rfl | (simp; done) | (simp [*]; done)), H', ⟨by first | omega | exact Nat.le_refl _⟩, by repeat (first | exact Drawn0.refl _ | apply Drawn0.step)⟩
  ·rw [if_neg c4] at H
   have c4b0 : (t119 == 3) = false := beq_eq_false_iff_ne.mpr c4
   have c4b1 : (t119 != 3) = true := bne_iff_ne.mpr c4
   (first | rw [c4b0] | (simp only [i64_w, i32_w]; rw [c4b0]) | skip)
   have H' := Aside0.mk H
   clear H
   go_wp2
   go_meet
   case rel => exact ⟨_, ((t119 == 4)), (by first | rfl | (simp; done) | (simp [*]; done)), H', ⟨by first | omega | exact Nat.le_refl _⟩, by repeat (first | exact Drawn0.refl _ | apply Drawn0.step)⟩
 case rest =>
  clear HC3
  try clear c1
  try clear c2
  try clear p2
  try clear c4
  try clear c4b0
  try clear c4b1
  obtain ⟨kq, x19_2, rfl, HA, HJ2, ⟨mc2, rfl⟩⟩ := hcut
  cases kq with
  | zero => exact absurd HA.out (by simp [frisketref04_Cells.j0])
  | succ kj2 =>
   have H := HA.out
   clear HA
   simp only [frisketref04_Cells.j0] at H
   by_cases c5 : x19_2 = true
   ·subst c5
    have H1 : (some (0, 0)) = some (r1, r2) := by rw [if_pos rfl] at H; exact H
    clear H
    have H := H1
    clear H1
    simp only [Option.some.injEq, Prod.mk.injEq] at H
    obtain ⟨rfl, rfl⟩ := H
    go_wp2
    go_ret2
    exact ⟨by first | rfl | (simp; done) | (simp [*]; done), by repeat (first | exact Drawn0.refl _ | apply Drawn0.step)⟩
   ·replace c5 := Bool.eq_false_iff.mpr c5
    subst c5
    have H1 : (if t119 = 5 then ((frisketref04_parts.f a0).bind fun bt120 => (if bt120.2.1 < 1023 then (frisketref04_Cells.j1 kj2 bt120.2.1 bt120.2.2 true) else (if bt120.2.1 = 1023 then (frisketref04_Cells.j1 kj2 bt120.2.1 bt120.2.2 (bt120.2.2 == 0)) else (frisketref04_Cells.j1 kj2 bt120.2.1 bt120.2.2 false)))) else (some (0, 41))) = some (r1, r2) := by rw [if_neg (show ¬ (false = true) by decide)] at H; exact H
    clear H
    have H := H1
    clear H1
    by_cases c6 : t119 = 5
    ·rw [if_pos c6] at H
     have c6b0 : (t119 == 5) = true := beq_iff_eq.mpr c6
     have c6b1 : (t119 != 5) = false := bne_eq_false_iff_eq.mpr c6
     clear c6
     replace H := Option.bind_eq_some_iff.mp H
     obtain ⟨⟨t120, t121, t122⟩, A70, H⟩ := H
     replace H : (if t121 < 1023 then (frisketref04_Cells.j1 kj2 t121 t122 true) else (if t121 = 1023 then (frisketref04_Cells.j1 kj2 t121 t122 (t122 == 0)) else (frisketref04_Cells.j1 kj2 t121 t122 false))) = some (r1, r2) := H
     have A7 := Aside0.mk A70
     clear A70
     have HC8 := Aside0.mk H
     clear H
     go_upto_region 7 with (first | ((with_reducible refine gate_callee (f := 27) rfl ?_); refine goesL_ (some 24) rfl rfl Try.func27 (by kernel_rfl) rfl #[.int .u64 a0] rfl (by (try simp only [List.map_toArray, List.map_cons, List.map_nil]); first | done | rfl | (simp only [List.length_drop, List.length_take]; rfl)) ?_; (with_reducible refine (frisketref04_parts.calls a0 t120 t121 t122 _ A7.out).mono ?_); rintro e w' ⟨rfl, ⟨nd, rfl⟩⟩; refine ⟨_, rfl, ?_⟩))
     (try simp only [Act.put, List.setIfInBounds_toArray, List.set_cons_zero, List.set_cons_succ])
     go_cut [37] (fun v37 wc => ∃ (kq : Nat) (x37_7 : Bool), v37 = .bool x37_7 ∧ Aside0 (frisketref04_Cells.j1 kq t121 t122 x37_7 = some (r1, r2)) ∧ Aside0 (kq ≤ kj2) ∧ Drawn0 w wc)
     case first =>
      have H := HC8.out
      clear HC8
      by_cases c9 : t121 < 1023
      ·rw [if_pos c9] at H
       have c9b0 : decide (t121 < 1023) = true := decide_eq_true c9
       clear c9
       (first | rw [c9b0] | (simp only [i64_w, i32_w]; rw [c9b0]) | skip)
       have H' := Aside0.mk H
       clear H
       go_wp2
       go_meet
       case rel => exact ⟨_, (true), (by first | rfl | (simp; done) | (simp [*]; done)), H', ⟨by have := HJ2.out; first | omega | exact Nat.le_refl _⟩, by repeat (first | exact Drawn0.refl _ | apply Drawn0.step)⟩
      ·rw [if_neg c9] at H
       have c9b0 : decide (t121 < 1023) = false := decide_eq_false c9
       clear c9
       (first | rw [c9b0] | (simp only [i64_w, i32_w]; rw [c9b0]) | skip)
       by_cases c10 : t121 = 1023
       ·rw [if_pos c10] at H
        have c10b0 : (t121 == 1023) = true := beq_iff_eq.mpr c10
        have c10b1 : (t121 != 1023) = false := bne_eq_false_iff_eq.mpr c10
        clear c10
        have H' := Aside0.mk H
        clear H
        go_wp2
        go_meet
        case rel => exact ⟨_, ((t122 == 0)), (by first | rfl | (simp; done) | (simp [*]; done)), H', ⟨by have := HJ2.out; first | omega | exact Nat.le_refl _⟩, by repeat (first | exact Drawn0.refl _ | apply Drawn0.step)⟩
       ·rw [if_neg c10] at H
        have c10b0 : (t121 == 1023) = false := beq_eq_false_iff_ne.mpr c10
        have c10b1 : (t121 != 1023) = true := bne_iff_ne.mpr c10
        have H' := Aside0.mk H
        clear H
        go_wp2
        go_meet
        case rel => exact ⟨_, (false), (by first | rfl | (simp; done) | (simp [*]; done)), H', ⟨by have := HJ2.out; first | omega | exact Nat.le_refl _⟩, by repeat (first | exact Drawn0.refl _ | apply Drawn0.step)⟩
     case rest =>
      clear HC8
      try clear c1
      try clear c2
      try clear p2
      try clear c4
      try clear c4b0
      try clear c4b1
      try clear c5
      try clear c6
      try clear c6b0
      try clear c6b1
      try clear c9
      try clear c9b0
      try clear c10
      try clear c10b0
      try clear c10b1
      try clear p2
      obtain ⟨kq, x37_7, rfl, HA, HJ7, ⟨mc7, rfl⟩⟩ := hcut
      cases kq with
      | zero => exact absurd HA.out (by simp [frisketref04_Cells.j1])
      | succ kj7 =>
       have H := HA.out
       clear HA
       simp only [frisketref04_Cells.j1] at H
       by_cases c11 : x37_7 = true
       ·subst c11
        have H1 : (some (1, 0)) = some (r1, r2) := by rw [if_pos rfl] at H; exact H
        clear H
        have H := H1
        clear H1
        simp only [Option.some.injEq, Prod.mk.injEq] at H
        obtain ⟨rfl, rfl⟩ := H
        go_wp2
        go_ret2
        exact ⟨by first | rfl | (simp; done) | (simp [*]; done), by repeat (first | exact Drawn0.refl _ | apply Drawn0.step)⟩
       ·replace c11 := Bool.eq_false_iff.mpr c11
        subst c11
        have H1 : (if t121 > 1029 then (some (0, 41)) else (frisketref04_Cells.l0 kj7 (IntKind.u64.wrap (t122 + 4503599627370496)) 1 t121)) = some (r1, r2) := by rw [if_neg (show ¬ (false = true) by decide)] at H; exact H
        clear H
        have H := H1
        clear H1
        by_cases c12 : t121 > 1029
        ·rw [if_pos c12] at H
         have c12b0 : decide (1029 < t121) = true := decide_eq_true c12
         clear c12
         simp only [Option.some.injEq, Prod.mk.injEq] at H
         obtain ⟨rfl, rfl⟩ := H
         go_wp2
         go_ret2
         exact ⟨by first | rfl | (simp; done) | (simp [*]; done), by repeat (first | exact Drawn0.refl _ | apply Drawn0.step)⟩
        ·rw [if_neg c12] at H
         have c12b0 : decide (1029 < t121) = false := decide_eq_false c12
         clear c12
         have H' := Aside0.mk H
         clear H
         go_wp2
         go_loopg [9, 10] kj7 (fun kq v9 v10 w' => ∃ (x9_3 : Int) (x10_3 : Int), v9 = .int .u64 x9_3 ∧ v10 = .int .i64 x10_3 ∧ Aside0 (frisketref04_Cells.l0 kq (IntKind.u64.wrap (t122 + 4503599627370496)) x9_3 x10_3 = some (r1, r2)) ∧ Aside0 (kq ≤ kj7) ∧ Drawn0 w w')
         case atStart => exact ⟨(1), (t121), (by first | rfl | (simp; done) | (simp [*]; done)), (by first | rfl | (simp; done) | (simp [*]; done)), H', ⟨Nat.le_refl _⟩, by repeat (first | exact Drawn0.refl _ | apply Drawn0.step)⟩
         case round =>
          clear H'
          try clear c1
          try clear c2
          try clear p2
          try clear c4
          try clear c4b0
          try clear c4b1
          try clear c5
          try clear c6
          try clear c6b0
          try clear c6b1
          try clear c7
          try clear c9
          try clear c9b0
          try clear c10
          try clear c10b0
          try clear c10b1
          try clear c11
          try clear c12
          try clear c12b0
          try clear p2
          obtain ⟨x9_3, x10_3, rfl, rfl, HA, HK3, ⟨m3, rfl⟩⟩ := hrel
          cases gk with
          | zero => exact absurd HA.out (by simp [frisketref04_Cells.l0])
          | succ k3 =>
           have H := HA.out
           clear HA
           simp only [frisketref04_Cells.l0] at H
           by_cases c13 : x10_3 < 1075
           ·rw [if_pos c13] at H
            have c13b0 : decide (x10_3 < 1075) = true := decide_eq_true c13
            clear c13
            have H' := Aside0.mk H
            clear H
            go_wp2
            go_roundg k3
            case measure => have := HJ2.out; have := HJ7.out; have := HK3.out; omega
            case rel => exact ⟨(IntKind.u64.wrap (2 * x9_3)), (wrap64 (x10_3 + 1)), (by first | rfl | (simp; done) | (simp [*]; done)), (by first | rfl | (simp; done) | (simp [*]; done)), H', ⟨by have := HJ2.out; have := HJ7.out; have := HK3.out; omega⟩, by repeat (first | exact Drawn0.refl _ | apply Drawn0.step)⟩
           ·rw [if_neg c13] at H
            have c13b0 : decide (x10_3 < 1075) = false := decide_eq_false c13
            clear c13
            by_cases c14 : x9_3 = 0
            ·rw [if_pos c14] at H
             exact absurd H (by simp)
            ·rw [if_neg c14] at H
             have c14b0 : (x9_3 == 0) = false := beq_eq_false_iff_ne.mpr c14
             have c14b1 : (x9_3 != 0) = true := bne_iff_ne.mpr c14
             by_cases c15 : (IntKind.u64.wrap (Int.tdiv (IntKind.u64.wrap ((IntKind.u64.wrap ((IntKind.u64.wrap (t122 + 4503599627370496)) + x9_3)) - 1)) x9_3)) > 64
             ·rw [if_pos c15] at H
              have c15b0 : decide (64 < (IntKind.u64.wrap (Int.tdiv (IntKind.u64.wrap ((IntKind.u64.wrap ((IntKind.u64.wrap (t122 + 4503599627370496)) + x9_3)) - 1)) x9_3))) = true := decide_eq_true c15
              clear c15
              simp only [Option.some.injEq, Prod.mk.injEq] at H
              obtain ⟨rfl, rfl⟩ := H
              go_wp2
              go_ret2
              exact ⟨by first | rfl | (simp; done) | (simp [*]; done), by repeat (first | exact Drawn0.refl _ | apply Drawn0.step)⟩
             ·rw [if_neg c15] at H
              have c15b0 : decide (64 < (IntKind.u64.wrap (Int.tdiv (IntKind.u64.wrap ((IntKind.u64.wrap ((IntKind.u64.wrap (t122 + 4503599627370496)) + x9_3)) - 1)) x9_3))) = false := decide_eq_false c15
              clear c15
              simp only [Option.some.injEq, Prod.mk.injEq] at H
              obtain ⟨rfl, rfl⟩ := H
              go_wp2
              go_ret2
              exact ⟨by first | rfl | (simp; done) | (simp [*]; done), by repeat (first | exact Drawn0.refl _ | apply Drawn0.step)⟩
    ·rw [if_neg c6] at H
     have c6b0 : (t119 == 5) = false := beq_eq_false_iff_ne.mpr c6
     have c6b1 : (t119 != 5) = true := bne_iff_ne.mpr c6
     simp only [Option.some.injEq, Prod.mk.injEq] at H
     obtain ⟨rfl, rfl⟩ := H
     go_wp2
     go_ret2
     exact ⟨by first | rfl | (simp; done) | (simp [*]; done), by repeat (first | exact Drawn0.refl _ | apply Drawn0.step)⟩

end Go.Proofs.Ytipejilcocafmaa.X
