-- Printed by xprint.py (mine, in wip/tools) through the kit's print. Not trusted: Lean checks it.
import Derived.Test.YtdkblhfcndafaaaX0
namespace Go.Proofs.Ytdkblhfcndafaaa.X
open Go.RowKit Go.Proofs.YtdkblhfcndafaaaW.PrintWords Go.Proofs.YtdkblhfcndafaaaW.PrintLast Go.Proofs.YtdkblhfcndafaaaW.PrintMore
attribute [local go_sem] max2_int min2_int max_two min_two
set_option linter.unusedVariables false
set_option linter.unusedSimpArgs false

/-! ### frisketref07_Delete: function 13 -/
mutual
def frisketref07_Delete.j0 : Nat → List (S33) → Int → Int → Bool → Option ((List (S33)))
 | 0, _, _, _, _ => none
 | k + 1, x0, x1, x2, x16 => if x16 = true then ((some (([] : List (S33)) : List (S33))).bind fun y199 => (if y199.length + x0.length < 2513169434916 then (some (y199 ++ x0)) else (none))) else (frisketref07_Delete.l0 k x0 x1 x2 ([] : List (S33)) 0)
def frisketref07_Delete.l0 : Nat → List (S33) → Int → Int → List (S33) → Int → Option ((List (S33)))
 | 0, _, _, _, _, _ => none
 | k + 1, x0, x1, x2, x7, x8 => if x8 < (x0.length : Int) then (if 0 ≤ x8 then (if (wrap64 (((rd_T33 x0 x8).f0) - (mx (wrap64 ((mn ((rd_T33 x0 x8).f0) x2) - x1)) 0))) < (wrap64 (((rd_T33 x0 x8).f1) - (mx (wrap64 ((mn ((rd_T33 x0 x8).f1) x2) - x1)) 0))) then (if x7.length < 2513169434916 then (frisketref07_Delete.l0 k x0 x1 x2 (x7 ++ [(⟨wrap64 (((rd_T33 x0 x8).f0) - (mx (wrap64 ((mn ((rd_T33 x0 x8).f0) x2) - x1)) 0)), wrap64 (((rd_T33 x0 x8).f1) - (mx (wrap64 ((mn ((rd_T33 x0 x8).f1) x2) - x1)) 0)), (rd_T33 x0 x8).f2, (rd_T33 x0 x8).f3, (rd_T33 x0 x8).f4, (rd_T33 x0 x8).f5⟩ : S33)]) (wrap64 (x8 + 1))) else (none)) else (frisketref07_Delete.l0 k x0 x1 x2 x7 (wrap64 (x8 + 1)))) else (none)) else (some x7)
end
def frisketref07_Delete.f (k : Nat) (l0 : List (S33)) (a1 : Int) (a2 : Int) : Option ((List (S33))) := if a1 < 0 then (frisketref07_Delete.j0 k l0 a1 a2 true) else (frisketref07_Delete.j0 k l0 a1 a2 (decide (a1 > a2)))
theorem frisketref07_Delete.mono_l : ∀ k, (∀ y0 y1 y2 y3, LeO (frisketref07_Delete.j0 k y0 y1 y2 y3) (frisketref07_Delete.j0 (k + 1) y0 y1 y2 y3)) ∧ (∀ y0 y1 y2 y3 y4, LeO (frisketref07_Delete.l0 k y0 y1 y2 y3 y4) (frisketref07_Delete.l0 (k + 1) y0 y1 y2 y3 y4))
 | 0 => ⟨fun _ _ _ _ r h => by simp [frisketref07_Delete.j0] at h, fun _ _ _ _ _ r h => by simp [frisketref07_Delete.l0] at h⟩
 | k + 1 => by
  obtain ⟨ih0, ih1⟩ := frisketref07_Delete.mono_l k
  refine ⟨?_, ?_⟩
  ·intro y0 y1 y2 y3
   unfold frisketref07_Delete.j0
   repeat' first
   | (with_reducible exact ih0 _ _ _ _)
   | (with_reducible exact ih1 _ _ _ _ _)
   | (with_reducible exact LeO.refl _)
   | (with_reducible exact LeO.none _)
   | (with_reducible refine LeO.ite ?_ ?_)
   | (with_reducible refine LeO.bind ?_ (fun _ => ?_))
   | exact ih0 _ _ _ _
   | exact ih1 _ _ _ _ _
   | exact LeO.none _
   | refine LeO.ite ?_ ?_
   | refine LeO.bind ?_ (fun _ => ?_)
  ·intro y0 y1 y2 y3 y4
   unfold frisketref07_Delete.l0
   repeat' first
   | (with_reducible exact ih0 _ _ _ _)
   | (with_reducible exact ih1 _ _ _ _ _)
   | (with_reducible exact LeO.refl _)
   | (with_reducible exact LeO.none _)
   | (with_reducible refine LeO.ite ?_ ?_)
   | (with_reducible refine LeO.bind ?_ (fun _ => ?_))
   | exact ih0 _ _ _ _
   | exact ih1 _ _ _ _ _
   | exact LeO.none _
   | refine LeO.ite ?_ ?_
   | refine LeO.bind ?_ (fun _ => ?_)
theorem frisketref07_Delete.mono : ∀ a0 a1 a2 k, LeO (frisketref07_Delete.f k a0 a1 a2) (frisketref07_Delete.f (k + 1) a0 a1 a2) := by
 intro a0 a1 a2 k
 obtain ⟨ih0, ih1⟩ := frisketref07_Delete.mono_l k
 unfold frisketref07_Delete.f
 repeat' first
   | (with_reducible exact ih0 _ _ _ _)
   | (with_reducible exact ih1 _ _ _ _ _)
   | (with_reducible exact LeO.refl _)
   | (with_reducible exact LeO.none _)
   | (with_reducible refine LeO.ite ?_ ?_)
   | (with_reducible refine LeO.bind ?_ (fun _ => ?_))
   | exact ih0 _ _ _ _
   | exact ih1 _ _ _ _ _
   | exact LeO.none _
   | refine LeO.ite ?_ ?_
   | refine LeO.bind ?_ (fun _ => ?_)
set_option maxHeartbeats 8000000 in
set_option maxRecDepth 100000 in
theorem frisketref07_Delete.calls (k : Nat) (A0 : Option Addr) (c0 : Nat) (l0 : List (S33)) (a1 : Int) (a2 : Int) (r : List (S33)) (w : World) (hr0 : Kd.C k33 w A0 l0.length l0) (hc0 : l0.length ≤ c0) (h : frisketref07_Delete.f k l0 a1 a2 = some r) :
  Calls Try.prog 13 #[.slice A0 l0.length c0, .int .i64 a1, .int .i64 a2] w fun e w' => ∃ v0_ : Value, e = .returned (v0_) ∧ Kd.R k33 33 w' w.heap.size (fun _ => True) v0_ r ∧ Below w.heap.size w w' := by
 have hu33 := Try.underlying33
 have HR0 := Aside0.mk hr0
 have HC0 := Aside0.mk hc0
 clear hr0 hc0
 have HB := Aside0.mk (Below.refl w.heap.size w)
 have H : (if a1 < 0 then (frisketref07_Delete.j0 k l0 a1 a2 true) else (frisketref07_Delete.j0 k l0 a1 a2 (decide (a1 > a2)))) = some r := h
 clear h
 have HC4 := Aside0.mk H
 clear H
 go_enter Try.func13, Try.ntmps13
 go_upto_region 1 with (fail)
 go_cut [16] (fun v16 wc => ∃ (kq : Nat) (x16_3 : Bool), v16 = .bool x16_3 ∧ Aside0 (frisketref07_Delete.j0 kq l0 a1 a2 x16_3 = some r) ∧ Aside0 (kq ≤ k) ∧ Aside0 (Below w.heap.size w wc))
 case first =>
  have H := HC4.out
  clear HC4
  by_cases c5 : a1 < 0
  ·rw [if_pos c5] at H
   have c5b0 : decide (a1 < 0) = true := decide_eq_true c5
   clear c5
   (first | rw [c5b0] | (simp only [i64_w, i32_w]; rw [c5b0]) | skip)
   have H' := Aside0.mk H
   clear H
   go_wp2
   go_meet
   case rel => exact ⟨_, (true), (by first | rfl | (simp; done) | (simp [*]; done)), H', ⟨by first | omega | exact Nat.le_refl _⟩, ⟨by repeat (first | (with_reducible first | exact HB.out | apply below_alloc | apply pw_below_drewN | apply below_drew1) | exact HB.out)⟩⟩
  ·rw [if_neg c5] at H
   have c5b0 : decide (a1 < 0) = false := decide_eq_false c5
   clear c5
   (first | rw [c5b0] | (simp only [i64_w, i32_w]; rw [c5b0]) | skip)
   have H' := Aside0.mk H
   clear H
   go_wp2
   go_meet
   case rel => exact ⟨_, (decide (a1 > a2)), (by first | rfl | (simp; done) | (simp [*]; done)), H', ⟨by first | omega | exact Nat.le_refl _⟩, ⟨by repeat (first | (with_reducible first | exact HB.out | apply below_alloc | apply pw_below_drewN | apply below_drew1) | exact HB.out)⟩⟩
 case rest =>
  clear HC4
  try clear c1
  try clear p2
  try clear c5
  try clear c5b0
  obtain ⟨kq, x16_3, rfl, HA, HJ3, HB⟩ := hcut
  cases kq with
  | zero => exact absurd HA.out (by simp [frisketref07_Delete.j0])
  | succ kj3 =>
   have H := HA.out
   clear HA
   simp only [frisketref07_Delete.j0] at H
   by_cases c6 : x16_3 = true
   ·subst c6
    have H1 : ((some (([] : List (S33)) : List (S33))).bind fun y199 => (if y199.length + l0.length < 2513169434916 then (some (y199 ++ l0)) else (none))) = some r := by rw [if_pos rfl] at H; exact H
    clear H
    have H := H1
    clear H1
    obtain ⟨y199, hy199⟩ : ∃ y_ : List (S33), y_ = (([] : List (S33))) := ⟨_, rfl⟩
    replace H : (if y199.length + l0.length < 2513169434916 then (some (y199 ++ l0)) else (none)) = some r := by first | (rw [hy199]; with_reducible exact H) | (have H2_ := (Option.bind_some _ _).symm.trans H; rw [hy199]; with_reducible exact H2_) | (have H2_ := (Option.bind_some _ _).symm.trans H; with_reducible exact H2_) | with_reducible exact H | (rw [hy199]; exact H) | exact H
    have Ny199 := Aside0.mk hy199
    clear hy199
    by_cases c7 : y199.length + l0.length < 2513169434916
    ·rw [if_pos c7] at H
     have LMc7 := Aside0.mk c7
     clear c7
     obtain ⟨y202, hy202⟩ : ∃ y_ : List (S33), y_ = (y199 ++ l0) := ⟨_, rfl⟩
     replace H : (some y202) = some r := by first | (rw [hy202]; with_reducible exact H) | (have H2_ := (Option.bind_some _ _).symm.trans H; rw [hy202]; with_reducible exact H2_) | (have H2_ := (Option.bind_some _ _).symm.trans H; with_reducible exact H2_) | with_reducible exact H | (rw [hy202]; exact H) | exact H
     have Ny202 := Aside0.mk hy202
     clear hy202
     obtain rfl := Option.some.inj H
     go_wp2_with (first | ((with_reducible refine gate_dst (N := 17) rfl ?_); refine Kd.R_lit k33 _ 33 ?hg (N := 17) ?hd (xs := ([] : List (S33))) (inner := []) (ok := fun _ => True) (okp := fun _ => True) ?hr ?hp (fun _ hk => hk) trivial (Below.refl _ _) (Nat.le_refl _) (by simp) ?_; (case hd => rfl); (case hg => rfl); (case hr => first | (go_simp; done) | (go_simp; rfl)); (case hp => exact (Reps.none _ _)); intro v200 w8 ho9 hb hg_ hnew_; clear hg_ hnew_; (first | rw [← Ny199.out] at ho9 | (simp only [Int.reduceToNat] at ho9; rw [← Ny199.out] at ho9)); have n0_ := Aside0.mk (Kd.R_lower ho9 (below_size (by repeat (first | (with_reducible first | exact HB.out | apply below_alloc | apply pw_below_drewN | apply below_drew1) | exact HB.out)))); have n1_ := Aside0.mk (below_step (by repeat (first | (with_reducible first | exact HB.out | apply below_alloc | apply pw_below_drewN | apply below_drew1) | exact HB.out)) hb); clear HB; have HO201 := n0_; have HB := n1_; clear n0_ n1_; clear hb ho9) | ((with_reducible refine gate_builtin (b := .append) (xs := #[.tmp 17, .tmp 18]) rfl ?_); at_builtin; refine Kd.R_append_rows k33 (w0 := w) w.heap.size rfl (.tmp 17) (.tmp 18) 22 33 (.agg #[(.int .i64 0), (.int .i64 0), (.int .i64 0), (.bool false), (.string ⟨#[]⟩), (.int .u64 0)]) 56 rfl Try.underlying22 info33 rfl (by decide) (by omega) v200 y199 l0 _ _ _ (fun _ => True) (fun _ => False) rfl rfl ?aO ?aR (fun _ _ h => h) (fun _ h => h.elim) ?aF ?aB ?aS ?aL ?_; (case aR => repeat (first | exact (Kd.C_below HR0.out HB.out) | (with_reducible refine Kd.C_alloc ?_ _) | (with_reducible refine Kd.C_drewN ?_ _) | (with_reducible refine Kd.C_drew ?_))); (case aB => exact (by repeat (first | (with_reducible first | exact HB.out | apply below_alloc | apply pw_below_drewN | apply below_drew1) | exact HB.out))); (case aF => exact (fun _ _ => trivial)); (case aO => exact (by (with_reducible repeat (first | apply Kd.R_alloc | apply Kd.R_drewN | apply Kd.R_drew)); exact HO201.out)); (case aS => exact (below_size (by repeat (first | (with_reducible first | exact HB.out | apply below_alloc | apply pw_below_drewN | apply below_drew1) | exact HB.out)))); (case aL => have := LMc7.out; omega); intro v203 w10 ho hb hg hat; rw [← Ny202.out] at ho; have n0_ := Aside0.mk (hb); have n1_ := Aside0.mk (ho); clear HB; clear HO201; have HB := n0_; have HO204 := n1_; clear n0_ n1_; clear ho hb hg hat))
     go_ret
     exact ⟨_, by first | rfl | (simp [errW_none, errW_some] <;> rfl) | (simp [*, errW_none, errW_some] <;> rfl), by (with_reducible repeat (first | apply Kd.R_alloc | apply Kd.R_drewN | apply Kd.R_drew)); exact HO204.out, by repeat (first | (with_reducible first | exact HB.out | apply below_alloc | apply pw_below_drewN | apply below_drew1) | exact HB.out)⟩
    ·rw [if_neg c7] at H
     exact absurd H (by simp)
   ·replace c6 := Bool.eq_false_iff.mpr c6
    subst c6
    have H1 : (frisketref07_Delete.l0 kj3 l0 a1 a2 ([] : List (S33)) 0) = some r := by rw [if_neg (show ¬ (false = true) by decide)] at H; exact H
    clear H
    have H := H1
    clear H1
    have H' := Aside0.mk H
    clear H
    go_wp2
    go_loopg [7, 8] kj3 (fun kq v7 v8 w' => ∃ (x7_2 : List (S33)) (x8_2 : Int), v8 = .int .i64 x8_2 ∧ Aside0 (frisketref07_Delete.l0 kq l0 a1 a2 x7_2 x8_2 = some r) ∧ Aside0 (kq ≤ kj3) ∧ Aside0 (Kd.R k33 33 w' w.heap.size (fun _ => True) v7 x7_2) ∧ Aside0 (Below w.heap.size w w'))
    case atStart => exact ⟨(([] : List (S33))), (0), (by first | rfl | (simp; done) | (simp [*]; done)), H', ⟨Nat.le_refl _⟩, ⟨by first | exact Kd.R_nil _ _ _ _ _ | exact Kd.N_nil _ _ _ _ _ | exact Kd.V_nil _ _ _ _ _ | exact Kd.Q_nil _ _ _ _ _ | exact Kd.S_nil _ _ _ _ _⟩, ⟨by repeat (first | (with_reducible first | exact HB.out | apply below_alloc | apply pw_below_drewN | apply below_drew1) | exact HB.out)⟩⟩
    case round =>
     clear H'
     try clear c1
     try clear p2
     try clear c5
     try clear c5b0
     try clear c6
     try clear c7
     try clear p2
     obtain ⟨x7_2, x8_2, rfl, HA, HK2, HO_7, HB⟩ := hrel
     cases gk with
     | zero => exact absurd HA.out (by simp [frisketref07_Delete.l0])
     | succ k2 =>
      have H := HA.out
      clear HA
      simp only [frisketref07_Delete.l0] at H
      by_cases c11 : x8_2 < (l0.length : Int)
      ·rw [if_pos c11] at H
       have c11b0 : decide (x8_2 < (l0.length : Int)) = true := decide_eq_true c11
       clear c11
       by_cases c12 : 0 ≤ x8_2
       ·rw [if_pos c12] at H
        have c12b0 : decide (0 ≤ x8_2) = true := decide_eq_true c12
        clear c12
        obtain ⟨ji13, hji13⟩ : ∃ j_ : Int, (mn ((rd_T33 l0 x8_2).f0) a2) = j_ := ⟨_, rfl⟩
        replace H : (if (wrap64 (((rd_T33 l0 x8_2).f0) - (mx (wrap64 ((ji13) - a1)) 0))) < (wrap64 (((rd_T33 l0 x8_2).f1) - (mx (wrap64 ((mn ((rd_T33 l0 x8_2).f1) a2) - a1)) 0))) then (if x7_2.length < 2513169434916 then (frisketref07_Delete.l0 k2 l0 a1 a2 (x7_2 ++ [(⟨wrap64 (((rd_T33 l0 x8_2).f0) - (mx (wrap64 ((ji13) - a1)) 0)), wrap64 (((rd_T33 l0 x8_2).f1) - (mx (wrap64 ((mn ((rd_T33 l0 x8_2).f1) a2) - a1)) 0)), (rd_T33 l0 x8_2).f2, (rd_T33 l0 x8_2).f3, (rd_T33 l0 x8_2).f4, (rd_T33 l0 x8_2).f5⟩ : S33)]) (wrap64 (x8_2 + 1))) else (none)) else (frisketref07_Delete.l0 k2 l0 a1 a2 x7_2 (wrap64 (x8_2 + 1)))) = some r := by first | (rw [hji13] at H; exact H) | (simp only [hji13] at H ⊢; exact H)
        have hji13_ : (if a2 < ((rd_T33 l0 x8_2).f0) then a2 else ((rd_T33 l0 x8_2).f0)) = ji13 := hji13
        obtain ⟨ji14, hji14⟩ : ∃ j_ : Int, (mx (wrap64 ((ji13) - a1)) 0) = j_ := ⟨_, rfl⟩
        replace H : (if (wrap64 (((rd_T33 l0 x8_2).f0) - (ji14))) < (wrap64 (((rd_T33 l0 x8_2).f1) - (mx (wrap64 ((mn ((rd_T33 l0 x8_2).f1) a2) - a1)) 0))) then (if x7_2.length < 2513169434916 then (frisketref07_Delete.l0 k2 l0 a1 a2 (x7_2 ++ [(⟨wrap64 (((rd_T33 l0 x8_2).f0) - (ji14)), wrap64 (((rd_T33 l0 x8_2).f1) - (mx (wrap64 ((mn ((rd_T33 l0 x8_2).f1) a2) - a1)) 0)), (rd_T33 l0 x8_2).f2, (rd_T33 l0 x8_2).f3, (rd_T33 l0 x8_2).f4, (rd_T33 l0 x8_2).f5⟩ : S33)]) (wrap64 (x8_2 + 1))) else (none)) else (frisketref07_Delete.l0 k2 l0 a1 a2 x7_2 (wrap64 (x8_2 + 1)))) = some r := by first | (rw [hji14] at H; exact H) | (simp only [hji14] at H ⊢; exact H)
        have hji14_ : (if (wrap64 ((ji13) - a1)) < 0 then 0 else (wrap64 ((ji13) - a1))) = ji14 := hji14
        obtain ⟨ji15, hji15⟩ : ∃ j_ : Int, (mn ((rd_T33 l0 x8_2).f1) a2) = j_ := ⟨_, rfl⟩
        replace H : (if (wrap64 (((rd_T33 l0 x8_2).f0) - (ji14))) < (wrap64 (((rd_T33 l0 x8_2).f1) - (mx (wrap64 ((ji15) - a1)) 0))) then (if x7_2.length < 2513169434916 then (frisketref07_Delete.l0 k2 l0 a1 a2 (x7_2 ++ [(⟨wrap64 (((rd_T33 l0 x8_2).f0) - (ji14)), wrap64 (((rd_T33 l0 x8_2).f1) - (mx (wrap64 ((ji15) - a1)) 0)), (rd_T33 l0 x8_2).f2, (rd_T33 l0 x8_2).f3, (rd_T33 l0 x8_2).f4, (rd_T33 l0 x8_2).f5⟩ : S33)]) (wrap64 (x8_2 + 1))) else (none)) else (frisketref07_Delete.l0 k2 l0 a1 a2 x7_2 (wrap64 (x8_2 + 1)))) = some r := by first | (rw [hji15] at H; exact H) | (simp only [hji15] at H ⊢; exact H)
        have hji15_ : (if a2 < ((rd_T33 l0 x8_2).f1) then a2 else ((rd_T33 l0 x8_2).f1)) = ji15 := hji15
        obtain ⟨ji16, hji16⟩ : ∃ j_ : Int, (mx (wrap64 ((ji15) - a1)) 0) = j_ := ⟨_, rfl⟩
        replace H : (if (wrap64 (((rd_T33 l0 x8_2).f0) - (ji14))) < (wrap64 (((rd_T33 l0 x8_2).f1) - (ji16))) then (if x7_2.length < 2513169434916 then (frisketref07_Delete.l0 k2 l0 a1 a2 (x7_2 ++ [(⟨wrap64 (((rd_T33 l0 x8_2).f0) - (ji14)), wrap64 (((rd_T33 l0 x8_2).f1) - (ji16)), (rd_T33 l0 x8_2).f2, (rd_T33 l0 x8_2).f3, (rd_T33 l0 x8_2).f4, (rd_T33 l0 x8_2).f5⟩ : S33)]) (wrap64 (x8_2 + 1))) else (none)) else (frisketref07_Delete.l0 k2 l0 a1 a2 x7_2 (wrap64 (x8_2 + 1)))) = some r := by first | (rw [hji16] at H; exact H) | (simp only [hji16] at H ⊢; exact H)
        have hji16_ : (if (wrap64 ((ji15) - a1)) < 0 then 0 else (wrap64 ((ji15) - a1))) = ji16 := hji16
        obtain ⟨jw14, hjw14⟩ : ∃ j_ : Int, wrap64 (((rd_T33 l0 x8_2).f0) - (ji14)) = j_ := ⟨_, rfl⟩
        obtain ⟨jw16, hjw16⟩ : ∃ j_ : Int, wrap64 (((rd_T33 l0 x8_2).f1) - (ji16)) = j_ := ⟨_, rfl⟩
        rw [hjw14, hjw16] at H
        by_cases c17 : (jw14) < (jw16)
        ·rw [if_pos c17] at H
         have c17b0 : decide ((jw14) < (jw16)) = true := decide_eq_true c17
         clear c17
         by_cases c18 : x7_2.length < 2513169434916
         ·rw [if_pos c18] at H
          have LMc18 := Aside0.mk c18
          clear c18
          obtain ⟨y207, hy207⟩ : ∃ y_ : List (S33), y_ = (x7_2 ++ [(⟨jw14, jw16, (rd_T33 l0 x8_2).f2, (rd_T33 l0 x8_2).f3, (rd_T33 l0 x8_2).f4, (rd_T33 l0 x8_2).f5⟩ : S33)]) := ⟨_, rfl⟩
          replace H : (frisketref07_Delete.l0 k2 l0 a1 a2 y207 (wrap64 (x8_2 + 1))) = some r := by first | (rw [hy207]; with_reducible exact H) | (have H2_ := (Option.bind_some _ _).symm.trans H; rw [hy207]; with_reducible exact H2_) | (have H2_ := (Option.bind_some _ _).symm.trans H; with_reducible exact H2_) | with_reducible exact H | (rw [hy207]; exact H) | exact H
          have Ny207 := Aside0.mk hy207
          clear hy207
          have H' := Aside0.mk H
          clear H
          have p205 : 0 ≤ (x8_2 : Int) := of_decide_eq_true (by first | (with_reducible assumption) | assumption)
          have q205 : x8_2 < (l0.length : Int) := of_decide_eq_true (by first | (with_reducible assumption) | assumption)
          obtain ⟨ad205, e205, hx205_0, hx205_1, hx205_2, hx205_3, hx205_4, hx205_5⟩ := at_T33 HR0.out x8_2 p205 q205
          cases e205
          replace hx205_0 := (HB.out.cell (World.block_lt_of_cell? w _ hx205_0)).trans hx205_0
          replace hx205_1 := (HB.out.cell (World.block_lt_of_cell? w _ hx205_1)).trans hx205_1
          replace hx205_2 := (HB.out.cell (World.block_lt_of_cell? w _ hx205_2)).trans hx205_2
          replace hx205_3 := (HB.out.cell (World.block_lt_of_cell? w _ hx205_3)).trans hx205_3
          replace hx205_4 := (HB.out.cell (World.block_lt_of_cell? w _ hx205_4)).trans hx205_4
          replace hx205_5 := (HB.out.cell (World.block_lt_of_cell? w _ hx205_5)).trans hx205_5
          replace p205 := eq_true p205
          replace q205 := eq_true q205
          go_upto_region 10 with (first | ((with_reducible refine gate_dst (N := 9) rfl ?_); refine box_event ?hg (N := 9) ?hd (cs := #[.int .i64 0, .int .i64 0, .int .i64 0, .bool false, .string (⟨#[]⟩ : ByteArray), .int .u64 0]) (t := 33) ?hr ?_; (case hd => rfl); (case hg => rfl); (case hr => first | (go_simp; done) | (go_simp; rfl)); intro gb206 hg w19 hbox hb; have n0_ := Aside0.mk (Kd.R_below (Kd.R_elderB (by (with_reducible repeat (first | apply Kd.R_alloc | apply Kd.R_drewN | apply Kd.R_drew)); exact HO_7.out) gb206 (Nat.le_of_eq hg.symm)) hb); have n1_ := Aside0.mk (below_step (by repeat (first | (with_reducible first | exact HB.out | apply below_alloc | apply pw_below_drewN | apply below_drew1) | exact HB.out)) hb); have n2_ := Aside0.mk (hbox); have n3_ := Aside0.mk ((by rw [hg]; exact (below_size (by repeat (first | (with_reducible first | exact HB.out | apply below_alloc | apply pw_below_drewN | apply below_drew1) | exact HB.out))) : w.heap.size ≤ gb206)); have n4_ := Aside0.mk ((by rw [hg]; exact (below_size (by repeat (first | (with_reducible first | exact HB.out | apply below_alloc | apply pw_below_drewN | apply below_drew1) | exact HB.out))) : w.heap.size ≤ gb206)); clear HO_7; clear HB; have HO_7 := n0_; have HB := n1_; have BK206 := n2_; have GW206 := n3_; have GE206 := n4_; clear n0_ n1_ n2_ n3_ n4_; clear hb hbox hg; have hcz20_0 : w19.cell? ⟨gb206, 0, none⟩ = some (.int .i64 0) := (blk_cell BK206.out 0).trans rfl; have hcz20_1 : w19.cell? ⟨gb206, 1, none⟩ = some (.int .i64 0) := (blk_cell BK206.out 1).trans rfl; have hcz20_2 : w19.cell? ⟨gb206, 2, none⟩ = some (.int .i64 0) := (blk_cell BK206.out 2).trans rfl; have hcz20_3 : w19.cell? ⟨gb206, 3, none⟩ = some (.bool false) := (blk_cell BK206.out 3).trans rfl; have hcz20_4 : w19.cell? ⟨gb206, 4, none⟩ = some (.string (⟨#[]⟩ : ByteArray)) := (blk_cell BK206.out 4).trans rfl; have hcz20_5 : w19.cell? ⟨gb206, 5, none⟩ = some (.int .u64 0) := (blk_cell BK206.out 5).trans rfl; have hfz20_0 := blk_frozen BK206.out 0; have hfz20_1 := blk_frozen BK206.out 1; have hfz20_2 := blk_frozen BK206.out 2; have hfz20_3 := blk_frozen BK206.out 3; have hfz20_4 := blk_frozen BK206.out 4; have hfz20_5 := blk_frozen BK206.out 5))
          have BKn := Aside0.mk (show ((((((((w19.setCell ⟨gb206, 0, none⟩ (.int .i64 ((rd_T33 l0 x8_2).f0))).setCell ⟨gb206, 1, none⟩ (.int .i64 ((rd_T33 l0 x8_2).f1))).setCell ⟨gb206, 2, none⟩ (.int .i64 ((rd_T33 l0 x8_2).f2))).setCell ⟨gb206, 3, none⟩ (.bool ((rd_T33 l0 x8_2).f3))).setCell ⟨gb206, 4, none⟩ (.string ((rd_T33 l0 x8_2).f4))).setCell ⟨gb206, 5, none⟩ (.int .u64 ((rd_T33 l0 x8_2).f5))).setCell ⟨gb206, 0, none⟩ (.int .i64 jw14)).setCell ⟨gb206, 1, none⟩ (.int .i64 jw16)).heap[gb206]? = some (.cells #[.int .i64 jw14, .int .i64 jw16, .int .i64 ((rd_T33 l0 x8_2).f2), .bool ((rd_T33 l0 x8_2).f3), .string ((rd_T33 l0 x8_2).f4), .int .u64 ((rd_T33 l0 x8_2).f5)] 33 (0, 0)) from (blk_put (cs := #[.int .i64 jw14, .int .i64 ((rd_T33 l0 x8_2).f1), .int .i64 ((rd_T33 l0 x8_2).f2), .bool ((rd_T33 l0 x8_2).f3), .string ((rd_T33 l0 x8_2).f4), .int .u64 ((rd_T33 l0 x8_2).f5)]) (blk_put (cs := #[.int .i64 ((rd_T33 l0 x8_2).f0), .int .i64 ((rd_T33 l0 x8_2).f1), .int .i64 ((rd_T33 l0 x8_2).f2), .bool ((rd_T33 l0 x8_2).f3), .string ((rd_T33 l0 x8_2).f4), .int .u64 ((rd_T33 l0 x8_2).f5)]) (blk_put (cs := #[.int .i64 ((rd_T33 l0 x8_2).f0), .int .i64 ((rd_T33 l0 x8_2).f1), .int .i64 ((rd_T33 l0 x8_2).f2), .bool ((rd_T33 l0 x8_2).f3), .string ((rd_T33 l0 x8_2).f4), .int .u64 0]) (blk_put (cs := #[.int .i64 ((rd_T33 l0 x8_2).f0), .int .i64 ((rd_T33 l0 x8_2).f1), .int .i64 ((rd_T33 l0 x8_2).f2), .bool ((rd_T33 l0 x8_2).f3), .string (⟨#[]⟩ : ByteArray), .int .u64 0]) (blk_put (cs := #[.int .i64 ((rd_T33 l0 x8_2).f0), .int .i64 ((rd_T33 l0 x8_2).f1), .int .i64 ((rd_T33 l0 x8_2).f2), .bool false, .string (⟨#[]⟩ : ByteArray), .int .u64 0]) (blk_put (cs := #[.int .i64 ((rd_T33 l0 x8_2).f0), .int .i64 ((rd_T33 l0 x8_2).f1), .int .i64 0, .bool false, .string (⟨#[]⟩ : ByteArray), .int .u64 0]) (blk_put (cs := #[.int .i64 ((rd_T33 l0 x8_2).f0), .int .i64 0, .int .i64 0, .bool false, .string (⟨#[]⟩ : ByteArray), .int .u64 0]) (blk_put (cs := #[.int .i64 0, .int .i64 0, .int .i64 0, .bool false, .string (⟨#[]⟩ : ByteArray), .int .u64 0]) BK206.out 0 (.int .i64 ((rd_T33 l0 x8_2).f0)) rfl) 1 (.int .i64 ((rd_T33 l0 x8_2).f1)) rfl) 2 (.int .i64 ((rd_T33 l0 x8_2).f2)) rfl) 3 (.bool ((rd_T33 l0 x8_2).f3)) rfl) 4 (.string ((rd_T33 l0 x8_2).f4)) rfl) 5 (.int .u64 ((rd_T33 l0 x8_2).f5)) rfl) 0 (.int .i64 jw14) rfl) 1 (.int .i64 jw16) rfl))
          have HOn := Aside0.mk (show Kd.R k33 33 ((((((((w19.setCell ⟨gb206, 0, none⟩ (.int .i64 ((rd_T33 l0 x8_2).f0))).setCell ⟨gb206, 1, none⟩ (.int .i64 ((rd_T33 l0 x8_2).f1))).setCell ⟨gb206, 2, none⟩ (.int .i64 ((rd_T33 l0 x8_2).f2))).setCell ⟨gb206, 3, none⟩ (.bool ((rd_T33 l0 x8_2).f3))).setCell ⟨gb206, 4, none⟩ (.string ((rd_T33 l0 x8_2).f4))).setCell ⟨gb206, 5, none⟩ (.int .u64 ((rd_T33 l0 x8_2).f5))).setCell ⟨gb206, 0, none⟩ (.int .i64 jw14)).setCell ⟨gb206, 1, none⟩ (.int .i64 jw16)) w.heap.size (fun k_ => True ∧ k_ ≠ gb206) u7 x7_2 from (Kd.R_far (p := ⟨gb206, 1, none⟩) (Kd.R_far (p := ⟨gb206, 0, none⟩) (Kd.R_far (p := ⟨gb206, 5, none⟩) (Kd.R_far (p := ⟨gb206, 4, none⟩) (Kd.R_far (p := ⟨gb206, 3, none⟩) (Kd.R_far (p := ⟨gb206, 2, none⟩) (Kd.R_far (p := ⟨gb206, 1, none⟩) (Kd.R_far (p := ⟨gb206, 0, none⟩) (Kd.R_mono HO_7.out (fun k_ hk => (⟨hk.1, hk.2⟩ : True ∧ k_ ≠ gb206))) (fun _ hk => hk.2) (.int .i64 ((rd_T33 l0 x8_2).f0))) (fun _ hk => hk.2) (.int .i64 ((rd_T33 l0 x8_2).f1))) (fun _ hk => hk.2) (.int .i64 ((rd_T33 l0 x8_2).f2))) (fun _ hk => hk.2) (.bool ((rd_T33 l0 x8_2).f3))) (fun _ hk => hk.2) (.string ((rd_T33 l0 x8_2).f4))) (fun _ hk => hk.2) (.int .u64 ((rd_T33 l0 x8_2).f5))) (fun _ hk => hk.2) (.int .i64 jw14)) (fun _ hk => hk.2) (.int .i64 jw16)))
          have HBn := Aside0.mk (show Below w.heap.size w ((((((((w19.setCell ⟨gb206, 0, none⟩ (.int .i64 ((rd_T33 l0 x8_2).f0))).setCell ⟨gb206, 1, none⟩ (.int .i64 ((rd_T33 l0 x8_2).f1))).setCell ⟨gb206, 2, none⟩ (.int .i64 ((rd_T33 l0 x8_2).f2))).setCell ⟨gb206, 3, none⟩ (.bool ((rd_T33 l0 x8_2).f3))).setCell ⟨gb206, 4, none⟩ (.string ((rd_T33 l0 x8_2).f4))).setCell ⟨gb206, 5, none⟩ (.int .u64 ((rd_T33 l0 x8_2).f5))).setCell ⟨gb206, 0, none⟩ (.int .i64 jw14)).setCell ⟨gb206, 1, none⟩ (.int .i64 jw16)) from (below_set (j := 1) (v := (.int .i64 jw16)) (below_set (j := 0) (v := (.int .i64 jw14)) (below_set (j := 5) (v := (.int .u64 ((rd_T33 l0 x8_2).f5))) (below_set (j := 4) (v := (.string ((rd_T33 l0 x8_2).f4))) (below_set (j := 3) (v := (.bool ((rd_T33 l0 x8_2).f3))) (below_set (j := 2) (v := (.int .i64 ((rd_T33 l0 x8_2).f2))) (below_set (j := 1) (v := (.int .i64 ((rd_T33 l0 x8_2).f1))) (below_set (j := 0) (v := (.int .i64 ((rd_T33 l0 x8_2).f0))) HB.out GE206.out) GE206.out) GE206.out) GE206.out) GE206.out) GE206.out) GE206.out) GE206.out))
          generalize ((((((((w19.setCell ⟨gb206, 0, none⟩ (.int .i64 ((rd_T33 l0 x8_2).f0))).setCell ⟨gb206, 1, none⟩ (.int .i64 ((rd_T33 l0 x8_2).f1))).setCell ⟨gb206, 2, none⟩ (.int .i64 ((rd_T33 l0 x8_2).f2))).setCell ⟨gb206, 3, none⟩ (.bool ((rd_T33 l0 x8_2).f3))).setCell ⟨gb206, 4, none⟩ (.string ((rd_T33 l0 x8_2).f4))).setCell ⟨gb206, 5, none⟩ (.int .u64 ((rd_T33 l0 x8_2).f5))).setCell ⟨gb206, 0, none⟩ (.int .i64 jw14)).setCell ⟨gb206, 1, none⟩ (.int .i64 jw16)) = wN at BKn HOn HBn ⊢
          clear BK206 HO_7 HB
          have BK206 := BKn
          have HO_7 := HOn
          have HB := HBn
          clear BKn HOn HBn
          have z0 : wN.cell? ⟨gb206, 0, none⟩ = some (.int .i64 jw14) := (blk_cell BK206.out 0).trans rfl
          have z1 : wN.cell? ⟨gb206, 1, none⟩ = some (.int .i64 jw16) := (blk_cell BK206.out 1).trans rfl
          have z2 : wN.cell? ⟨gb206, 2, none⟩ = some (.int .i64 ((rd_T33 l0 x8_2).f2)) := (blk_cell BK206.out 2).trans rfl
          have z3 : wN.cell? ⟨gb206, 3, none⟩ = some (.bool ((rd_T33 l0 x8_2).f3)) := (blk_cell BK206.out 3).trans rfl
          have z4 : wN.cell? ⟨gb206, 4, none⟩ = some (.string ((rd_T33 l0 x8_2).f4)) := (blk_cell BK206.out 4).trans rfl
          have z5 : wN.cell? ⟨gb206, 5, none⟩ = some (.int .u64 ((rd_T33 l0 x8_2).f5)) := (blk_cell BK206.out 5).trans rfl
          go_wp2_with (((with_reducible refine gate_builtin (b := .append) (xs := #[.tmp 57, .tmp 59]) rfl ?_); at_builtin; refine Kd.R_append k33 (w0 := w) w.heap.size rfl (.tmp 57) (.tmp 59) 22 33 (.agg #[(.int .i64 0), (.int .i64 0), (.int .i64 0), (.bool false), (.string ⟨#[]⟩), (.int .u64 0)]) 56 rfl Try.underlying22 info33 rfl (by decide) (by omega) u7 x7_2 (⟨jw14, jw16, (rd_T33 l0 x8_2).f2, (rd_T33 l0 x8_2).f3, (rd_T33 l0 x8_2).f4, (rd_T33 l0 x8_2).f5⟩ : S33) [.int .i64 (jw14), .int .i64 (jw16), .int .i64 ((rd_T33 l0 x8_2).f2), .bool ((rd_T33 l0 x8_2).f3), .string ((rd_T33 l0 x8_2).f4), .int .u64 ((rd_T33 l0 x8_2).f5)] (fun k_ => k_ ≠ gb206) (fun _ => False) rfl (by first | (go_simp; done) | (go_simp; rfl)) ?aP (fun _ hk => hk.elim) ?aF ?aO ?aB ?aS ?aL ?_; (case aP => exact k33_mkM _ _ _ (⟨jw14, jw16, (rd_T33 l0 x8_2).f2, (rd_T33 l0 x8_2).f3, (rd_T33 l0 x8_2).f4, (rd_T33 l0 x8_2).f5⟩ : S33)); (case aB => exact (by repeat (first | (with_reducible first | exact HB.out | apply below_alloc | apply pw_below_drewN | apply below_drew1 | refine below_set ?_ GE206.out) | exact HB.out))); (case aF => exact (fun k_ hk => Kd.freshB (g := gb206) (o := .cells #[.int .i64 jw14, .int .i64 jw16, .int .i64 ((rd_T33 l0 x8_2).f2), .bool ((rd_T33 l0 x8_2).f3), .string ((rd_T33 l0 x8_2).f4), .int .u64 ((rd_T33 l0 x8_2).f5)] 33 (0, 0)) (by (with_reducible repeat (first | refine blk_drewN ?_ _ | refine blk_drew ?_ | refine blk_alloc ?_ _)); exact BK206.out) k_ hk)); (case aO => exact (by (with_reducible repeat (first | apply Kd.R_alloc | apply Kd.R_drewN | apply Kd.R_drew)); exact Kd.R_mono HO_7.out (fun _ hk => hk.2))); (case aS => exact (below_size (by repeat (first | (with_reducible first | exact HB.out | apply below_alloc | apply pw_below_drewN | apply below_drew1 | refine below_set ?_ GE206.out) | exact HB.out)))); (case aL => have := LMc18.out; omega); intro v208 w21 ho hb hg hat; rw [← Ny207.out] at ho; have n0_ : True := trivial; have n1_ := Aside0.mk (hb); have n2_ := Aside0.mk (ho); clear BK206; clear HB; clear HO_7; have BK206 := n0_; have HB := n1_; have HO209 := n2_; clear n0_ n1_ n2_; clear ho hb hg hat))
          go_roundg k2
          case measure => have := HJ3.out; have := HK2.out; omega
          case rel => exact ⟨(y207), (wrap64 (x8_2 + 1)), (by first | rfl | (simp; done) | (simp [*]; done)), H', ⟨by have := HJ3.out; have := HK2.out; omega⟩, ⟨by (with_reducible repeat (first | apply Kd.R_alloc | apply Kd.R_drewN | apply Kd.R_drew)); exact Kd.R_mono HO209.out (fun _ hk => trivial)⟩, ⟨by repeat (first | (with_reducible first | exact HB.out | apply below_alloc | apply pw_below_drewN | apply below_drew1 | refine below_set ?_ GE206.out) | exact HB.out)⟩⟩
         ·rw [if_neg c18] at H
          exact absurd H (by simp)
        ·rw [if_neg c17] at H
         have c17b0 : decide ((jw14) < (jw16)) = false := decide_eq_false c17
         clear c17
         have H' := Aside0.mk H
         clear H
         have p205 : 0 ≤ (x8_2 : Int) := of_decide_eq_true (by first | (with_reducible assumption) | assumption)
         have q205 : x8_2 < (l0.length : Int) := of_decide_eq_true (by first | (with_reducible assumption) | assumption)
         obtain ⟨ad205, e205, hx205_0, hx205_1, hx205_2, hx205_3, hx205_4, hx205_5⟩ := at_T33 HR0.out x8_2 p205 q205
         cases e205
         replace hx205_0 := (HB.out.cell (World.block_lt_of_cell? w _ hx205_0)).trans hx205_0
         replace hx205_1 := (HB.out.cell (World.block_lt_of_cell? w _ hx205_1)).trans hx205_1
         replace hx205_2 := (HB.out.cell (World.block_lt_of_cell? w _ hx205_2)).trans hx205_2
         replace hx205_3 := (HB.out.cell (World.block_lt_of_cell? w _ hx205_3)).trans hx205_3
         replace hx205_4 := (HB.out.cell (World.block_lt_of_cell? w _ hx205_4)).trans hx205_4
         replace hx205_5 := (HB.out.cell (World.block_lt_of_cell? w _ hx205_5)).trans hx205_5
         replace p205 := eq_true p205
         replace q205 := eq_true q205
         go_upto_region 10 with (first | ((with_reducible refine gate_dst (N := 9) rfl ?_); refine box_event ?hg (N := 9) ?hd (cs := #[.int .i64 0, .int .i64 0, .int .i64 0, .bool false, .string (⟨#[]⟩ : ByteArray), .int .u64 0]) (t := 33) ?hr ?_; (case hd => rfl); (case hg => rfl); (case hr => first | (go_simp; done) | (go_simp; rfl)); intro gb206 hg w22 hbox hb; have n0_ := Aside0.mk (Kd.R_below (Kd.R_elderB (by (with_reducible repeat (first | apply Kd.R_alloc | apply Kd.R_drewN | apply Kd.R_drew)); exact HO_7.out) gb206 (Nat.le_of_eq hg.symm)) hb); have n1_ := Aside0.mk (below_step (by repeat (first | (with_reducible first | exact HB.out | apply below_alloc | apply pw_below_drewN | apply below_drew1) | exact HB.out)) hb); have n2_ := Aside0.mk (hbox); have n3_ := Aside0.mk ((by rw [hg]; exact (below_size (by repeat (first | (with_reducible first | exact HB.out | apply below_alloc | apply pw_below_drewN | apply below_drew1) | exact HB.out))) : w.heap.size ≤ gb206)); have n4_ := Aside0.mk ((by rw [hg]; exact (below_size (by repeat (first | (with_reducible first | exact HB.out | apply below_alloc | apply pw_below_drewN | apply below_drew1) | exact HB.out))) : w.heap.size ≤ gb206)); clear HO_7; clear HB; have HO_7 := n0_; have HB := n1_; have BK206 := n2_; have GW206 := n3_; have GE206 := n4_; clear n0_ n1_ n2_ n3_ n4_; clear hb hbox hg; have hcz23_0 : w22.cell? ⟨gb206, 0, none⟩ = some (.int .i64 0) := (blk_cell BK206.out 0).trans rfl; have hcz23_1 : w22.cell? ⟨gb206, 1, none⟩ = some (.int .i64 0) := (blk_cell BK206.out 1).trans rfl; have hcz23_2 : w22.cell? ⟨gb206, 2, none⟩ = some (.int .i64 0) := (blk_cell BK206.out 2).trans rfl; have hcz23_3 : w22.cell? ⟨gb206, 3, none⟩ = some (.bool false) := (blk_cell BK206.out 3).trans rfl; have hcz23_4 : w22.cell? ⟨gb206, 4, none⟩ = some (.string (⟨#[]⟩ : ByteArray)) := (blk_cell BK206.out 4).trans rfl; have hcz23_5 : w22.cell? ⟨gb206, 5, none⟩ = some (.int .u64 0) := (blk_cell BK206.out 5).trans rfl; have hfz23_0 := blk_frozen BK206.out 0; have hfz23_1 := blk_frozen BK206.out 1; have hfz23_2 := blk_frozen BK206.out 2; have hfz23_3 := blk_frozen BK206.out 3; have hfz23_4 := blk_frozen BK206.out 4; have hfz23_5 := blk_frozen BK206.out 5))
         have BKn := Aside0.mk (show ((((((((w22.setCell ⟨gb206, 0, none⟩ (.int .i64 ((rd_T33 l0 x8_2).f0))).setCell ⟨gb206, 1, none⟩ (.int .i64 ((rd_T33 l0 x8_2).f1))).setCell ⟨gb206, 2, none⟩ (.int .i64 ((rd_T33 l0 x8_2).f2))).setCell ⟨gb206, 3, none⟩ (.bool ((rd_T33 l0 x8_2).f3))).setCell ⟨gb206, 4, none⟩ (.string ((rd_T33 l0 x8_2).f4))).setCell ⟨gb206, 5, none⟩ (.int .u64 ((rd_T33 l0 x8_2).f5))).setCell ⟨gb206, 0, none⟩ (.int .i64 jw14)).setCell ⟨gb206, 1, none⟩ (.int .i64 jw16)).heap[gb206]? = some (.cells #[.int .i64 jw14, .int .i64 jw16, .int .i64 ((rd_T33 l0 x8_2).f2), .bool ((rd_T33 l0 x8_2).f3), .string ((rd_T33 l0 x8_2).f4), .int .u64 ((rd_T33 l0 x8_2).f5)] 33 (0, 0)) from (blk_put (cs := #[.int .i64 jw14, .int .i64 ((rd_T33 l0 x8_2).f1), .int .i64 ((rd_T33 l0 x8_2).f2), .bool ((rd_T33 l0 x8_2).f3), .string ((rd_T33 l0 x8_2).f4), .int .u64 ((rd_T33 l0 x8_2).f5)]) (blk_put (cs := #[.int .i64 ((rd_T33 l0 x8_2).f0), .int .i64 ((rd_T33 l0 x8_2).f1), .int .i64 ((rd_T33 l0 x8_2).f2), .bool ((rd_T33 l0 x8_2).f3), .string ((rd_T33 l0 x8_2).f4), .int .u64 ((rd_T33 l0 x8_2).f5)]) (blk_put (cs := #[.int .i64 ((rd_T33 l0 x8_2).f0), .int .i64 ((rd_T33 l0 x8_2).f1), .int .i64 ((rd_T33 l0 x8_2).f2), .bool ((rd_T33 l0 x8_2).f3), .string ((rd_T33 l0 x8_2).f4), .int .u64 0]) (blk_put (cs := #[.int .i64 ((rd_T33 l0 x8_2).f0), .int .i64 ((rd_T33 l0 x8_2).f1), .int .i64 ((rd_T33 l0 x8_2).f2), .bool ((rd_T33 l0 x8_2).f3), .string (⟨#[]⟩ : ByteArray), .int .u64 0]) (blk_put (cs := #[.int .i64 ((rd_T33 l0 x8_2).f0), .int .i64 ((rd_T33 l0 x8_2).f1), .int .i64 ((rd_T33 l0 x8_2).f2), .bool false, .string (⟨#[]⟩ : ByteArray), .int .u64 0]) (blk_put (cs := #[.int .i64 ((rd_T33 l0 x8_2).f0), .int .i64 ((rd_T33 l0 x8_2).f1), .int .i64 0, .bool false, .string (⟨#[]⟩ : ByteArray), .int .u64 0]) (blk_put (cs := #[.int .i64 ((rd_T33 l0 x8_2).f0), .int .i64 0, .int .i64 0, .bool false, .string (⟨#[]⟩ : ByteArray), .int .u64 0]) (blk_put (cs := #[.int .i64 0, .int .i64 0, .int .i64 0, .bool false, .string (⟨#[]⟩ : ByteArray), .int .u64 0]) BK206.out 0 (.int .i64 ((rd_T33 l0 x8_2).f0)) rfl) 1 (.int .i64 ((rd_T33 l0 x8_2).f1)) rfl) 2 (.int .i64 ((rd_T33 l0 x8_2).f2)) rfl) 3 (.bool ((rd_T33 l0 x8_2).f3)) rfl) 4 (.string ((rd_T33 l0 x8_2).f4)) rfl) 5 (.int .u64 ((rd_T33 l0 x8_2).f5)) rfl) 0 (.int .i64 jw14) rfl) 1 (.int .i64 jw16) rfl))
         have HOn := Aside0.mk (show Kd.R k33 33 ((((((((w22.setCell ⟨gb206, 0, none⟩ (.int .i64 ((rd_T33 l0 x8_2).f0))).setCell ⟨gb206, 1, none⟩ (.int .i64 ((rd_T33 l0 x8_2).f1))).setCell ⟨gb206, 2, none⟩ (.int .i64 ((rd_T33 l0 x8_2).f2))).setCell ⟨gb206, 3, none⟩ (.bool ((rd_T33 l0 x8_2).f3))).setCell ⟨gb206, 4, none⟩ (.string ((rd_T33 l0 x8_2).f4))).setCell ⟨gb206, 5, none⟩ (.int .u64 ((rd_T33 l0 x8_2).f5))).setCell ⟨gb206, 0, none⟩ (.int .i64 jw14)).setCell ⟨gb206, 1, none⟩ (.int .i64 jw16)) w.heap.size (fun k_ => True ∧ k_ ≠ gb206) u7 x7_2 from (Kd.R_far (p := ⟨gb206, 1, none⟩) (Kd.R_far (p := ⟨gb206, 0, none⟩) (Kd.R_far (p := ⟨gb206, 5, none⟩) (Kd.R_far (p := ⟨gb206, 4, none⟩) (Kd.R_far (p := ⟨gb206, 3, none⟩) (Kd.R_far (p := ⟨gb206, 2, none⟩) (Kd.R_far (p := ⟨gb206, 1, none⟩) (Kd.R_far (p := ⟨gb206, 0, none⟩) (Kd.R_mono HO_7.out (fun k_ hk => (⟨hk.1, hk.2⟩ : True ∧ k_ ≠ gb206))) (fun _ hk => hk.2) (.int .i64 ((rd_T33 l0 x8_2).f0))) (fun _ hk => hk.2) (.int .i64 ((rd_T33 l0 x8_2).f1))) (fun _ hk => hk.2) (.int .i64 ((rd_T33 l0 x8_2).f2))) (fun _ hk => hk.2) (.bool ((rd_T33 l0 x8_2).f3))) (fun _ hk => hk.2) (.string ((rd_T33 l0 x8_2).f4))) (fun _ hk => hk.2) (.int .u64 ((rd_T33 l0 x8_2).f5))) (fun _ hk => hk.2) (.int .i64 jw14)) (fun _ hk => hk.2) (.int .i64 jw16)))
         have HBn := Aside0.mk (show Below w.heap.size w ((((((((w22.setCell ⟨gb206, 0, none⟩ (.int .i64 ((rd_T33 l0 x8_2).f0))).setCell ⟨gb206, 1, none⟩ (.int .i64 ((rd_T33 l0 x8_2).f1))).setCell ⟨gb206, 2, none⟩ (.int .i64 ((rd_T33 l0 x8_2).f2))).setCell ⟨gb206, 3, none⟩ (.bool ((rd_T33 l0 x8_2).f3))).setCell ⟨gb206, 4, none⟩ (.string ((rd_T33 l0 x8_2).f4))).setCell ⟨gb206, 5, none⟩ (.int .u64 ((rd_T33 l0 x8_2).f5))).setCell ⟨gb206, 0, none⟩ (.int .i64 jw14)).setCell ⟨gb206, 1, none⟩ (.int .i64 jw16)) from (below_set (j := 1) (v := (.int .i64 jw16)) (below_set (j := 0) (v := (.int .i64 jw14)) (below_set (j := 5) (v := (.int .u64 ((rd_T33 l0 x8_2).f5))) (below_set (j := 4) (v := (.string ((rd_T33 l0 x8_2).f4))) (below_set (j := 3) (v := (.bool ((rd_T33 l0 x8_2).f3))) (below_set (j := 2) (v := (.int .i64 ((rd_T33 l0 x8_2).f2))) (below_set (j := 1) (v := (.int .i64 ((rd_T33 l0 x8_2).f1))) (below_set (j := 0) (v := (.int .i64 ((rd_T33 l0 x8_2).f0))) HB.out GE206.out) GE206.out) GE206.out) GE206.out) GE206.out) GE206.out) GE206.out) GE206.out))
         generalize ((((((((w22.setCell ⟨gb206, 0, none⟩ (.int .i64 ((rd_T33 l0 x8_2).f0))).setCell ⟨gb206, 1, none⟩ (.int .i64 ((rd_T33 l0 x8_2).f1))).setCell ⟨gb206, 2, none⟩ (.int .i64 ((rd_T33 l0 x8_2).f2))).setCell ⟨gb206, 3, none⟩ (.bool ((rd_T33 l0 x8_2).f3))).setCell ⟨gb206, 4, none⟩ (.string ((rd_T33 l0 x8_2).f4))).setCell ⟨gb206, 5, none⟩ (.int .u64 ((rd_T33 l0 x8_2).f5))).setCell ⟨gb206, 0, none⟩ (.int .i64 jw14)).setCell ⟨gb206, 1, none⟩ (.int .i64 jw16)) = wN at BKn HOn HBn ⊢
         clear BK206 HO_7 HB
         have BK206 := BKn
         have HO_7 := HOn
         have HB := HBn
         clear BKn HOn HBn
         have z0 : wN.cell? ⟨gb206, 0, none⟩ = some (.int .i64 jw14) := (blk_cell BK206.out 0).trans rfl
         have z1 : wN.cell? ⟨gb206, 1, none⟩ = some (.int .i64 jw16) := (blk_cell BK206.out 1).trans rfl
         have z2 : wN.cell? ⟨gb206, 2, none⟩ = some (.int .i64 ((rd_T33 l0 x8_2).f2)) := (blk_cell BK206.out 2).trans rfl
         have z3 : wN.cell? ⟨gb206, 3, none⟩ = some (.bool ((rd_T33 l0 x8_2).f3)) := (blk_cell BK206.out 3).trans rfl
         have z4 : wN.cell? ⟨gb206, 4, none⟩ = some (.string ((rd_T33 l0 x8_2).f4)) := (blk_cell BK206.out 4).trans rfl
         have z5 : wN.cell? ⟨gb206, 5, none⟩ = some (.int .u64 ((rd_T33 l0 x8_2).f5)) := (blk_cell BK206.out 5).trans rfl
         go_wp2
         go_roundg k2
         case measure => have := HJ3.out; have := HK2.out; omega
         case rel => exact ⟨(x7_2), (wrap64 (x8_2 + 1)), (by first | rfl | (simp; done) | (simp [*]; done)), H', ⟨by have := HJ3.out; have := HK2.out; omega⟩, ⟨by (with_reducible repeat (first | apply Kd.R_alloc | apply Kd.R_drewN | apply Kd.R_drew)); exact Kd.R_mono HO_7.out (fun _ hk => trivial)⟩, ⟨by repeat (first | (with_reducible first | exact HB.out | apply below_alloc | apply pw_below_drewN | apply below_drew1 | refine below_set ?_ GE206.out) | exact HB.out)⟩⟩
       ·rw [if_neg c12] at H
        exact absurd H (by simp)
      ·rw [if_neg c11] at H
       have c11b0 : decide (x8_2 < (l0.length : Int)) = false := decide_eq_false c11
       clear c11
       obtain rfl := Option.some.inj H
       go_wp2
       go_ret
       exact ⟨_, by first | rfl | (simp [errW_none, errW_some] <;> rfl) | (simp [*, errW_none, errW_some] <;> rfl), by (with_reducible repeat (first | apply Kd.R_alloc | apply Kd.R_drewN | apply Kd.R_drew)); exact HO_7.out, by repeat (first | (with_reducible first | exact HB.out | apply below_alloc | apply pw_below_drewN | apply below_drew1) | exact HB.out)⟩

end Go.Proofs.Ytdkblhfcndafaaa.X
