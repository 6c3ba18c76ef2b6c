-- Printed by xprint.py (mine, in wip/tools) through the kit's print. Not trusted: Lean checks it.
import Derived.Test.YtdkblhfcndafaaaX0
namespace Go.Proofs.Ytdkblhfcndafaaa.X
open Go.RowKit Go.Proofs.YtdkblhfcndafaaaW.PrintWords Go.Proofs.YtdkblhfcndafaaaW.PrintLast Go.Proofs.YtdkblhfcndafaaaW.PrintMore
attribute [local go_sem] max2_int min2_int max_two min_two
set_option linter.unusedVariables false
set_option linter.unusedSimpArgs false

/-! ### frisketref07_Insert: function 11 -/
mutual
def frisketref07_Insert.j0 : Nat → List (S33) → Int → Int → Bool → Option ((List (S33)))
 | 0, _, _, _, _ => none
 | k + 1, x0, x1, x2, x15 => if x15 = true then ((some (([] : List (S33)) : List (S33))).bind fun y179 => (if y179.length + x0.length < 2513169434916 then (some (y179 ++ x0)) else (none))) else (frisketref07_Insert.l0 k x0 x1 x2 ([] : List (S33)) 0)
def frisketref07_Insert.l0 : Nat → List (S33) → Int → Int → List (S33) → Int → Option ((List (S33)))
 | 0, _, _, _, _, _ => none
 | k + 1, x0, x1, x2, x7, x8 => if x8 < (x0.length : Int) then (if 0 ≤ x8 then (if ((rd_T33 x0 x8).f0) ≥ x1 then (frisketref07_Insert.j2 k x0 x1 x2 x7 x8 (wrap64 (((rd_T33 x0 x8).f0) + x2)) ((rd_T33 x0 x8).f1) ((rd_T33 x0 x8).f2) ((rd_T33 x0 x8).f3) ((rd_T33 x0 x8).f4) ((rd_T33 x0 x8).f5)) else (frisketref07_Insert.j2 k x0 x1 x2 x7 x8 ((rd_T33 x0 x8).f0) ((rd_T33 x0 x8).f1) ((rd_T33 x0 x8).f2) ((rd_T33 x0 x8).f3) ((rd_T33 x0 x8).f4) ((rd_T33 x0 x8).f5))) else (none)) else (some x7)
def frisketref07_Insert.j2 : Nat → List (S33) → Int → Int → List (S33) → Int → Int → Int → Int → Bool → ByteArray → Int → Option ((List (S33)))
 | 0, _, _, _, _, _, _, _, _, _, _, _ => none
 | k + 1, x0, x1, x2, x7, x8, x187000, x187001, x187002, x187003, x187004, x187005 => if x187001 > x1 then (if x187003 = true then (if (wrap64 ((wrap64 (x187001 + x2)) - x187000)) ≤ 4 then (if x7.length < 2513169434916 then (frisketref07_Insert.l0 k x0 x1 x2 (x7 ++ [(⟨x187000, wrap64 (x187001 + x2), x187002, x187003, x187004, x187005⟩ : S33)]) (wrap64 (x8 + 1))) else (none)) else (frisketref07_Insert.l0 k x0 x1 x2 x7 (wrap64 (x8 + 1)))) else (if x7.length < 2513169434916 then (frisketref07_Insert.l0 k x0 x1 x2 (x7 ++ [(⟨x187000, wrap64 (x187001 + x2), x187002, x187003, x187004, x187005⟩ : S33)]) (wrap64 (x8 + 1))) else (none))) else (if x187003 = true then (if (wrap64 (x187001 - x187000)) ≤ 4 then (if x7.length < 2513169434916 then (frisketref07_Insert.l0 k x0 x1 x2 (x7 ++ [(⟨x187000, x187001, x187002, x187003, x187004, x187005⟩ : S33)]) (wrap64 (x8 + 1))) else (none)) else (frisketref07_Insert.l0 k x0 x1 x2 x7 (wrap64 (x8 + 1)))) else (if x7.length < 2513169434916 then (frisketref07_Insert.l0 k x0 x1 x2 (x7 ++ [(⟨x187000, x187001, x187002, x187003, x187004, x187005⟩ : S33)]) (wrap64 (x8 + 1))) else (none)))
end
def frisketref07_Insert.f (k : Nat) (l0 : List (S33)) (a1 : Int) (a2 : Int) : Option ((List (S33))) := if a1 < 0 then (frisketref07_Insert.j0 k l0 a1 a2 true) else (frisketref07_Insert.j0 k l0 a1 a2 (decide (a2 < 0)))
theorem frisketref07_Insert.mono_l : ∀ k, (∀ y0 y1 y2 y3, LeO (frisketref07_Insert.j0 k y0 y1 y2 y3) (frisketref07_Insert.j0 (k + 1) y0 y1 y2 y3)) ∧ (∀ y0 y1 y2 y3 y4, LeO (frisketref07_Insert.l0 k y0 y1 y2 y3 y4) (frisketref07_Insert.l0 (k + 1) y0 y1 y2 y3 y4)) ∧ (∀ y0 y1 y2 y3 y4 y5 y6 y7 y8 y9 y10, LeO (frisketref07_Insert.j2 k y0 y1 y2 y3 y4 y5 y6 y7 y8 y9 y10) (frisketref07_Insert.j2 (k + 1) y0 y1 y2 y3 y4 y5 y6 y7 y8 y9 y10))
 | 0 => ⟨fun _ _ _ _ r h => by simp [frisketref07_Insert.j0] at h, fun _ _ _ _ _ r h => by simp [frisketref07_Insert.l0] at h, fun _ _ _ _ _ _ _ _ _ _ _ r h => by simp [frisketref07_Insert.j2] at h⟩
 | k + 1 => by
  obtain ⟨ih0, ih1, ih2⟩ := frisketref07_Insert.mono_l k
  refine ⟨?_, ?_, ?_⟩
  ·intro y0 y1 y2 y3
   unfold frisketref07_Insert.j0
   repeat' first
   | (with_reducible exact ih0 _ _ _ _)
   | (with_reducible exact ih1 _ _ _ _ _)
   | (with_reducible exact ih2 _ _ _ _ _ _ _ _ _ _ _)
   | (with_reducible exact LeO.refl _)
   | (with_reducible exact LeO.none _)
   | (with_reducible refine LeO.ite ?_ ?_)
   | (with_reducible refine LeO.bind ?_ (fun _ => ?_))
   | exact ih0 _ _ _ _
   | exact ih1 _ _ _ _ _
   | exact ih2 _ _ _ _ _ _ _ _ _ _ _
   | exact LeO.none _
   | refine LeO.ite ?_ ?_
   | refine LeO.bind ?_ (fun _ => ?_)
  ·intro y0 y1 y2 y3 y4
   unfold frisketref07_Insert.l0
   repeat' first
   | (with_reducible exact ih0 _ _ _ _)
   | (with_reducible exact ih1 _ _ _ _ _)
   | (with_reducible exact ih2 _ _ _ _ _ _ _ _ _ _ _)
   | (with_reducible exact LeO.refl _)
   | (with_reducible exact LeO.none _)
   | (with_reducible refine LeO.ite ?_ ?_)
   | (with_reducible refine LeO.bind ?_ (fun _ => ?_))
   | exact ih0 _ _ _ _
   | exact ih1 _ _ _ _ _
   | exact ih2 _ _ _ _ _ _ _ _ _ _ _
   | exact LeO.none _
   | refine LeO.ite ?_ ?_
   | refine LeO.bind ?_ (fun _ => ?_)
  ·intro y0 y1 y2 y3 y4 y5 y6 y7 y8 y9 y10
   unfold frisketref07_Insert.j2
   repeat' first
   | (with_reducible exact ih0 _ _ _ _)
   | (with_reducible exact ih1 _ _ _ _ _)
   | (with_reducible exact ih2 _ _ _ _ _ _ _ _ _ _ _)
   | (with_reducible exact LeO.refl _)
   | (with_reducible exact LeO.none _)
   | (with_reducible refine LeO.ite ?_ ?_)
   | (with_reducible refine LeO.bind ?_ (fun _ => ?_))
   | exact ih0 _ _ _ _
   | exact ih1 _ _ _ _ _
   | exact ih2 _ _ _ _ _ _ _ _ _ _ _
   | exact LeO.none _
   | refine LeO.ite ?_ ?_
   | refine LeO.bind ?_ (fun _ => ?_)
theorem frisketref07_Insert.mono : ∀ a0 a1 a2 k, LeO (frisketref07_Insert.f k a0 a1 a2) (frisketref07_Insert.f (k + 1) a0 a1 a2) := by
 intro a0 a1 a2 k
 obtain ⟨ih0, ih1, ih2⟩ := frisketref07_Insert.mono_l k
 unfold frisketref07_Insert.f
 repeat' first
   | (with_reducible exact ih0 _ _ _ _)
   | (with_reducible exact ih1 _ _ _ _ _)
   | (with_reducible exact ih2 _ _ _ _ _ _ _ _ _ _ _)
   | (with_reducible exact LeO.refl _)
   | (with_reducible exact LeO.none _)
   | (with_reducible refine LeO.ite ?_ ?_)
   | (with_reducible refine LeO.bind ?_ (fun _ => ?_))
   | exact ih0 _ _ _ _
   | exact ih1 _ _ _ _ _
   | exact ih2 _ _ _ _ _ _ _ _ _ _ _
   | exact LeO.none _
   | refine LeO.ite ?_ ?_
   | refine LeO.bind ?_ (fun _ => ?_)
set_option maxHeartbeats 8000000 in
set_option maxRecDepth 100000 in
theorem frisketref07_Insert.calls (k : Nat) (A0 : Option Addr) (c0 : Nat) (l0 : List (S33)) (a1 : Int) (a2 : Int) (r : List (S33)) (w : World) (hr0 : Kd.C k33 w A0 l0.length l0) (hc0 : l0.length ≤ c0) (h : frisketref07_Insert.f k l0 a1 a2 = some r) :
  Calls Try.prog 11 #[.slice A0 l0.length c0, .int .i64 a1, .int .i64 a2] w fun e w' => ∃ v0_ : Value, e = .returned (v0_) ∧ Kd.R k33 33 w' w.heap.size (fun _ => True) v0_ r ∧ Below w.heap.size w w' := by
 have hu33 := Try.underlying33
 have HR0 := Aside0.mk hr0
 have HC0 := Aside0.mk hc0
 clear hr0 hc0
 have HB := Aside0.mk (Below.refl w.heap.size w)
 have H : (if a1 < 0 then (frisketref07_Insert.j0 k l0 a1 a2 true) else (frisketref07_Insert.j0 k l0 a1 a2 (decide (a2 < 0)))) = some r := h
 clear h
 have HC4 := Aside0.mk H
 clear H
 go_enter Try.func11, Try.ntmps11
 go_upto_region 1 with (fail)
 go_cut [15] (fun v15 wc => ∃ (kq : Nat) (x15_3 : Bool), v15 = .bool x15_3 ∧ Aside0 (frisketref07_Insert.j0 kq l0 a1 a2 x15_3 = some r) ∧ Aside0 (kq ≤ k) ∧ Aside0 (Below w.heap.size w wc))
 case first =>
  have H := HC4.out
  clear HC4
  by_cases c5 : a1 < 0
  ·rw [if_pos c5] at H
   have c5b0 : decide (a1 < 0) = true := decide_eq_true c5
   clear c5
   (first | rw [c5b0] | (simp only [i64_w, i32_w]; rw [c5b0]) | skip)
   have H' := Aside0.mk H
   clear H
   go_wp2
   go_meet
   case rel => exact ⟨_, (true), (by first | rfl | (simp; done) | (simp [*]; done)), H', ⟨by first | omega | exact Nat.le_refl _⟩, ⟨by repeat (first | (with_reducible first | exact HB.out | apply below_alloc | apply pw_below_drewN | apply below_drew1) | exact HB.out)⟩⟩
  ·rw [if_neg c5] at H
   have c5b0 : decide (a1 < 0) = false := decide_eq_false c5
   clear c5
   (first | rw [c5b0] | (simp only [i64_w, i32_w]; rw [c5b0]) | skip)
   have H' := Aside0.mk H
   clear H
   go_wp2
   go_meet
   case rel => exact ⟨_, (decide (a2 < 0)), (by first | rfl | (simp; done) | (simp [*]; done)), H', ⟨by first | omega | exact Nat.le_refl _⟩, ⟨by repeat (first | (with_reducible first | exact HB.out | apply below_alloc | apply pw_below_drewN | apply below_drew1) | exact HB.out)⟩⟩
 case rest =>
  clear HC4
  try clear c1
  try clear p2
  try clear c5
  try clear c5b0
  obtain ⟨kq, x15_3, rfl, HA, HJ3, HB⟩ := hcut
  cases kq with
  | zero => exact absurd HA.out (by simp [frisketref07_Insert.j0])
  | succ kj3 =>
   have H := HA.out
   clear HA
   simp only [frisketref07_Insert.j0] at H
   by_cases c6 : x15_3 = true
   ·subst c6
    have H1 : ((some (([] : List (S33)) : List (S33))).bind fun y179 => (if y179.length + l0.length < 2513169434916 then (some (y179 ++ l0)) else (none))) = some r := by rw [if_pos rfl] at H; exact H
    clear H
    have H := H1
    clear H1
    obtain ⟨y179, hy179⟩ : ∃ y_ : List (S33), y_ = (([] : List (S33))) := ⟨_, rfl⟩
    replace H : (if y179.length + l0.length < 2513169434916 then (some (y179 ++ l0)) else (none)) = some r := by first | (rw [hy179]; with_reducible exact H) | (have H2_ := (Option.bind_some _ _).symm.trans H; rw [hy179]; with_reducible exact H2_) | (have H2_ := (Option.bind_some _ _).symm.trans H; with_reducible exact H2_) | with_reducible exact H | (rw [hy179]; exact H) | exact H
    have Ny179 := Aside0.mk hy179
    clear hy179
    by_cases c7 : y179.length + l0.length < 2513169434916
    ·rw [if_pos c7] at H
     have LMc7 := Aside0.mk c7
     clear c7
     obtain ⟨y182, hy182⟩ : ∃ y_ : List (S33), y_ = (y179 ++ l0) := ⟨_, rfl⟩
     replace H : (some y182) = some r := by first | (rw [hy182]; with_reducible exact H) | (have H2_ := (Option.bind_some _ _).symm.trans H; rw [hy182]; with_reducible exact H2_) | (have H2_ := (Option.bind_some _ _).symm.trans H; with_reducible exact H2_) | with_reducible exact H | (rw [hy182]; exact H) | exact H
     have Ny182 := Aside0.mk hy182
     clear hy182
     obtain rfl := Option.some.inj H
     go_wp2_with (first | ((with_reducible refine gate_dst (N := 16) rfl ?_); refine Kd.R_lit k33 _ 33 ?hg (N := 16) ?hd (xs := ([] : List (S33))) (inner := []) (ok := fun _ => True) (okp := fun _ => True) ?hr ?hp (fun _ hk => hk) trivial (Below.refl _ _) (Nat.le_refl _) (by simp) ?_; (case hd => rfl); (case hg => rfl); (case hr => first | (go_simp; done) | (go_simp; rfl)); (case hp => exact (Reps.none _ _)); intro v180 w8 ho9 hb hg_ hnew_; clear hg_ hnew_; (first | rw [← Ny179.out] at ho9 | (simp only [Int.reduceToNat] at ho9; rw [← Ny179.out] at ho9)); have n0_ := Aside0.mk (Kd.R_lower ho9 (below_size (by repeat (first | (with_reducible first | exact HB.out | apply below_alloc | apply pw_below_drewN | apply below_drew1) | exact HB.out)))); have n1_ := Aside0.mk (below_step (by repeat (first | (with_reducible first | exact HB.out | apply below_alloc | apply pw_below_drewN | apply below_drew1) | exact HB.out)) hb); clear HB; have HO181 := n0_; have HB := n1_; clear n0_ n1_; clear hb ho9) | ((with_reducible refine gate_builtin (b := .append) (xs := #[.tmp 16, .tmp 17]) rfl ?_); at_builtin; refine Kd.R_append_rows k33 (w0 := w) w.heap.size rfl (.tmp 16) (.tmp 17) 22 33 (.agg #[(.int .i64 0), (.int .i64 0), (.int .i64 0), (.bool false), (.string ⟨#[]⟩), (.int .u64 0)]) 56 rfl Try.underlying22 info33 rfl (by decide) (by omega) v180 y179 l0 _ _ _ (fun _ => True) (fun _ => False) rfl rfl ?aO ?aR (fun _ _ h => h) (fun _ h => h.elim) ?aF ?aB ?aS ?aL ?_; (case aR => repeat (first | exact (Kd.C_below HR0.out HB.out) | (with_reducible refine Kd.C_alloc ?_ _) | (with_reducible refine Kd.C_drewN ?_ _) | (with_reducible refine Kd.C_drew ?_))); (case aB => exact (by repeat (first | (with_reducible first | exact HB.out | apply below_alloc | apply pw_below_drewN | apply below_drew1) | exact HB.out))); (case aF => exact (fun _ _ => trivial)); (case aO => exact (by (with_reducible repeat (first | apply Kd.R_alloc | apply Kd.R_drewN | apply Kd.R_drew)); exact HO181.out)); (case aS => exact (below_size (by repeat (first | (with_reducible first | exact HB.out | apply below_alloc | apply pw_below_drewN | apply below_drew1) | exact HB.out)))); (case aL => have := LMc7.out; omega); intro v183 w10 ho hb hg hat; rw [← Ny182.out] at ho; have n0_ := Aside0.mk (hb); have n1_ := Aside0.mk (ho); clear HB; clear HO181; have HB := n0_; have HO184 := n1_; clear n0_ n1_; clear ho hb hg hat))
     go_ret
     exact ⟨_, by first | rfl | (simp [errW_none, errW_some] <;> rfl) | (simp [*, errW_none, errW_some] <;> rfl), by (with_reducible repeat (first | apply Kd.R_alloc | apply Kd.R_drewN | apply Kd.R_drew)); exact HO184.out, by repeat (first | (with_reducible first | exact HB.out | apply below_alloc | apply pw_below_drewN | apply below_drew1) | exact HB.out)⟩
    ·rw [if_neg c7] at H
     exact absurd H (by simp)
   ·replace c6 := Bool.eq_false_iff.mpr c6
    subst c6
    have H1 : (frisketref07_Insert.l0 kj3 l0 a1 a2 ([] : List (S33)) 0) = some r := by rw [if_neg (show ¬ (false = true) by decide)] at H; exact H
    clear H
    have H := H1
    clear H1
    have H' := Aside0.mk H
    clear H
    go_wp2
    go_loopg [7, 8] kj3 (fun kq v7 v8 w' => ∃ (x7_2 : List (S33)) (x8_2 : Int), v8 = .int .i64 x8_2 ∧ Aside0 (frisketref07_Insert.l0 kq l0 a1 a2 x7_2 x8_2 = some r) ∧ Aside0 (kq ≤ kj3) ∧ Aside0 (Kd.R k33 33 w' w.heap.size (fun _ => True) v7 x7_2) ∧ Aside0 (Below w.heap.size w w'))
    case atStart => exact ⟨(([] : List (S33))), (0), (by first | rfl | (simp; done) | (simp [*]; done)), H', ⟨Nat.le_refl _⟩, ⟨by first | exact Kd.R_nil _ _ _ _ _ | exact Kd.N_nil _ _ _ _ _ | exact Kd.V_nil _ _ _ _ _ | exact Kd.Q_nil _ _ _ _ _ | exact Kd.S_nil _ _ _ _ _⟩, ⟨by repeat (first | (with_reducible first | exact HB.out | apply below_alloc | apply pw_below_drewN | apply below_drew1) | exact HB.out)⟩⟩
    case round =>
     clear H'
     try clear c1
     try clear p2
     try clear c5
     try clear c5b0
     try clear c6
     try clear c7
     try clear p2
     obtain ⟨x7_2, x8_2, rfl, HA, HK2, HO_7, HB⟩ := hrel
     cases gk with
     | zero => exact absurd HA.out (by simp [frisketref07_Insert.l0])
     | succ k2 =>
      have H := HA.out
      clear HA
      simp only [frisketref07_Insert.l0] at H
      by_cases c11 : x8_2 < (l0.length : Int)
      ·rw [if_pos c11] at H
       have c11b0 : decide (x8_2 < (l0.length : Int)) = true := decide_eq_true c11
       clear c11
       by_cases c12 : 0 ≤ x8_2
       ·rw [if_pos c12] at H
        have c12b0 : decide (0 ≤ x8_2) = true := decide_eq_true c12
        clear c12
        have HC13 := Aside0.mk H
        clear H
        have p185 : 0 ≤ (x8_2 : Int) := of_decide_eq_true (by first | (with_reducible assumption) | assumption)
        have q185 : x8_2 < (l0.length : Int) := of_decide_eq_true (by first | (with_reducible assumption) | assumption)
        obtain ⟨ad185, e185, hx185_0, hx185_1, hx185_2, hx185_3, hx185_4, hx185_5⟩ := at_T33 HR0.out x8_2 p185 q185
        cases e185
        replace hx185_0 := (HB.out.cell (World.block_lt_of_cell? w _ hx185_0)).trans hx185_0
        replace hx185_1 := (HB.out.cell (World.block_lt_of_cell? w _ hx185_1)).trans hx185_1
        replace hx185_2 := (HB.out.cell (World.block_lt_of_cell? w _ hx185_2)).trans hx185_2
        replace hx185_3 := (HB.out.cell (World.block_lt_of_cell? w _ hx185_3)).trans hx185_3
        replace hx185_4 := (HB.out.cell (World.block_lt_of_cell? w _ hx185_4)).trans hx185_4
        replace hx185_5 := (HB.out.cell (World.block_lt_of_cell? w _ hx185_5)).trans hx185_5
        replace p185 := eq_true p185
        replace q185 := eq_true q185
        go_upto_if 32 with (first | ((with_reducible refine gate_dst (N := 9) rfl ?_); refine box_event ?hg (N := 9) ?hd (cs := #[.int .i64 0, .int .i64 0, .int .i64 0, .bool false, .string (⟨#[]⟩ : ByteArray), .int .u64 0]) (t := 33) ?hr ?_; (case hd => rfl); (case hg => rfl); (case hr => first | (go_simp; done) | (go_simp; rfl)); intro gb186 hg w14 hbox hb; have n0_ := Aside0.mk (Kd.R_below (Kd.R_elderB (by (with_reducible repeat (first | apply Kd.R_alloc | apply Kd.R_drewN | apply Kd.R_drew)); exact HO_7.out) gb186 (Nat.le_of_eq hg.symm)) hb); have n1_ := Aside0.mk (below_step (by repeat (first | (with_reducible first | exact HB.out | apply below_alloc | apply pw_below_drewN | apply below_drew1) | exact HB.out)) hb); have n2_ := Aside0.mk (hbox); have n3_ := Aside0.mk ((by rw [hg]; exact (below_size (by repeat (first | (with_reducible first | exact HB.out | apply below_alloc | apply pw_below_drewN | apply below_drew1) | exact HB.out))) : w.heap.size ≤ gb186)); have n4_ := Aside0.mk ((by rw [hg]; exact (below_size (by repeat (first | (with_reducible first | exact HB.out | apply below_alloc | apply pw_below_drewN | apply below_drew1) | exact HB.out))) : w.heap.size ≤ gb186)); clear HO_7; clear HB; have HO_7 := n0_; have HB := n1_; have BK186 := n2_; have GW186 := n3_; have GE186 := n4_; clear n0_ n1_ n2_ n3_ n4_; clear hb hbox hg; have hcz15_0 : w14.cell? ⟨gb186, 0, none⟩ = some (.int .i64 0) := (blk_cell BK186.out 0).trans rfl; have hcz15_1 : w14.cell? ⟨gb186, 1, none⟩ = some (.int .i64 0) := (blk_cell BK186.out 1).trans rfl; have hcz15_2 : w14.cell? ⟨gb186, 2, none⟩ = some (.int .i64 0) := (blk_cell BK186.out 2).trans rfl; have hcz15_3 : w14.cell? ⟨gb186, 3, none⟩ = some (.bool false) := (blk_cell BK186.out 3).trans rfl; have hcz15_4 : w14.cell? ⟨gb186, 4, none⟩ = some (.string (⟨#[]⟩ : ByteArray)) := (blk_cell BK186.out 4).trans rfl; have hcz15_5 : w14.cell? ⟨gb186, 5, none⟩ = some (.int .u64 0) := (blk_cell BK186.out 5).trans rfl; have hfz15_0 := blk_frozen BK186.out 0; have hfz15_1 := blk_frozen BK186.out 1; have hfz15_2 := blk_frozen BK186.out 2; have hfz15_3 := blk_frozen BK186.out 3; have hfz15_4 := blk_frozen BK186.out 4; have hfz15_5 := blk_frozen BK186.out 5))
        (try simp only [Act.put, List.setIfInBounds_toArray, List.set_cons_zero, List.set_cons_succ])
        go_cut [] (fun wc => ∃ (kq : Nat) (x187000_12 : Int), Aside0 (frisketref07_Insert.j2 kq l0 a1 a2 x7_2 x8_2 x187000_12 ((rd_T33 l0 x8_2).f1) ((rd_T33 l0 x8_2).f2) ((rd_T33 l0 x8_2).f3) ((rd_T33 l0 x8_2).f4) ((rd_T33 l0 x8_2).f5) = some r) ∧ Aside0 (kq ≤ k2) ∧ Aside0 (Kd.R k33 33 wc w.heap.size (fun k_ => k_ ≠ gb186) u7 x7_2) ∧ Aside0 (wc.heap[gb186]? = some (.cells #[.int .i64 x187000_12, .int .i64 ((rd_T33 l0 x8_2).f1), .int .i64 ((rd_T33 l0 x8_2).f2), .bool ((rd_T33 l0 x8_2).f3), .string ((rd_T33 l0 x8_2).f4), .int .u64 ((rd_T33 l0 x8_2).f5)] 33 (0, 0))) ∧ Aside0 (Below w.heap.size w wc))
        case first =>
         have H := HC13.out
         clear HC13
         by_cases c16 : ((rd_T33 l0 x8_2).f0) ≥ a1
         ·rw [if_pos c16] at H
          have c16b0 : decide (a1 ≤ ((rd_T33 l0 x8_2).f0)) = true := decide_eq_true c16
          clear c16
          (first | rw [c16b0] | (simp only [i64_w, i32_w]; rw [c16b0]) | skip)
          have H' := Aside0.mk H
          clear H
          have hcz17_0 : w14.cell? ⟨gb186, 0, none⟩ = some (.int .i64 0) := (blk_cell BK186.out 0).trans rfl
          have hcz17_1 : w14.cell? ⟨gb186, 1, none⟩ = some (.int .i64 0) := (blk_cell BK186.out 1).trans rfl
          have hcz17_2 : w14.cell? ⟨gb186, 2, none⟩ = some (.int .i64 0) := (blk_cell BK186.out 2).trans rfl
          have hcz17_3 : w14.cell? ⟨gb186, 3, none⟩ = some (.bool false) := (blk_cell BK186.out 3).trans rfl
          have hcz17_4 : w14.cell? ⟨gb186, 4, none⟩ = some (.string (⟨#[]⟩ : ByteArray)) := (blk_cell BK186.out 4).trans rfl
          have hcz17_5 : w14.cell? ⟨gb186, 5, none⟩ = some (.int .u64 0) := (blk_cell BK186.out 5).trans rfl
          have hfz17_0 := blk_frozen BK186.out 0
          have hfz17_1 := blk_frozen BK186.out 1
          have hfz17_2 := blk_frozen BK186.out 2
          have hfz17_3 := blk_frozen BK186.out 3
          have hfz17_4 := blk_frozen BK186.out 4
          have hfz17_5 := blk_frozen BK186.out 5
          go_wp2
          go_meet
          case rel => exact ⟨_, (wrap64 (((rd_T33 l0 x8_2).f0) + a2)), H', ⟨by have := HJ3.out; have := HK2.out; first | omega | exact Nat.le_refl _⟩, ⟨by (with_reducible repeat (first | apply Kd.R_alloc | apply Kd.R_drewN | apply Kd.R_drew)); exact Kd.R_mono (Kd.R_far (p := ⟨gb186, 0, none⟩) (Kd.R_far (p := ⟨gb186, 5, none⟩) (Kd.R_far (p := ⟨gb186, 4, none⟩) (Kd.R_far (p := ⟨gb186, 3, none⟩) (Kd.R_far (p := ⟨gb186, 2, none⟩) (Kd.R_far (p := ⟨gb186, 1, none⟩) (Kd.R_far (p := ⟨gb186, 0, none⟩) (Kd.R_mono HO_7.out (fun k_ hk => (⟨hk, hk.2⟩ : _ ∧ k_ ≠ gb186))) (fun _ hk => hk.2) (.int .i64 ((rd_T33 l0 x8_2).f0))) (fun _ hk => hk.2) (.int .i64 ((rd_T33 l0 x8_2).f1))) (fun _ hk => hk.2) (.int .i64 ((rd_T33 l0 x8_2).f2))) (fun _ hk => hk.2) (.bool ((rd_T33 l0 x8_2).f3))) (fun _ hk => hk.2) (.string ((rd_T33 l0 x8_2).f4))) (fun _ hk => hk.2) (.int .u64 ((rd_T33 l0 x8_2).f5))) (fun _ hk => hk.2) (.int .i64 (wrap64 (((rd_T33 l0 x8_2).f0) + a2)))) (fun _ hk => hk.1.2)⟩, ⟨by (with_reducible repeat (first | refine blk_drewN ?_ _ | refine blk_drew ?_ | refine blk_alloc ?_ _)); refine blk_put (cs := #[.int .i64 ((rd_T33 l0 x8_2).f0), .int .i64 ((rd_T33 l0 x8_2).f1), .int .i64 ((rd_T33 l0 x8_2).f2), .bool ((rd_T33 l0 x8_2).f3), .string ((rd_T33 l0 x8_2).f4), .int .u64 ((rd_T33 l0 x8_2).f5)]) ?_ 0 _ rfl; (with_reducible repeat (first | refine blk_drewN ?_ _ | refine blk_drew ?_ | refine blk_alloc ?_ _)); refine blk_put (cs := #[.int .i64 ((rd_T33 l0 x8_2).f0), .int .i64 ((rd_T33 l0 x8_2).f1), .int .i64 ((rd_T33 l0 x8_2).f2), .bool ((rd_T33 l0 x8_2).f3), .string ((rd_T33 l0 x8_2).f4), .int .u64 0]) ?_ 5 _ rfl; (with_reducible repeat (first | refine blk_drewN ?_ _ | refine blk_drew ?_ | refine blk_alloc ?_ _)); refine blk_put (cs := #[.int .i64 ((rd_T33 l0 x8_2).f0), .int .i64 ((rd_T33 l0 x8_2).f1), .int .i64 ((rd_T33 l0 x8_2).f2), .bool ((rd_T33 l0 x8_2).f3), .string (⟨#[]⟩ : ByteArray), .int .u64 0]) ?_ 4 _ rfl; (with_reducible repeat (first | refine blk_drewN ?_ _ | refine blk_drew ?_ | refine blk_alloc ?_ _)); refine blk_put (cs := #[.int .i64 ((rd_T33 l0 x8_2).f0), .int .i64 ((rd_T33 l0 x8_2).f1), .int .i64 ((rd_T33 l0 x8_2).f2), .bool false, .string (⟨#[]⟩ : ByteArray), .int .u64 0]) ?_ 3 _ rfl; (with_reducible repeat (first | refine blk_drewN ?_ _ | refine blk_drew ?_ | refine blk_alloc ?_ _)); refine blk_put (cs := #[.int .i64 ((rd_T33 l0 x8_2).f0), .int .i64 ((rd_T33 l0 x8_2).f1), .int .i64 0, .bool false, .string (⟨#[]⟩ : ByteArray), .int .u64 0]) ?_ 2 _ rfl; (with_reducible repeat (first | refine blk_drewN ?_ _ | refine blk_drew ?_ | refine blk_alloc ?_ _)); refine blk_put (cs := #[.int .i64 ((rd_T33 l0 x8_2).f0), .int .i64 0, .int .i64 0, .bool false, .string (⟨#[]⟩ : ByteArray), .int .u64 0]) ?_ 1 _ rfl; (with_reducible repeat (first | refine blk_drewN ?_ _ | refine blk_drew ?_ | refine blk_alloc ?_ _)); refine blk_put (cs := #[.int .i64 0, .int .i64 0, .int .i64 0, .bool false, .string (⟨#[]⟩ : ByteArray), .int .u64 0]) ?_ 0 _ rfl; (with_reducible repeat (first | refine blk_drewN ?_ _ | refine blk_drew ?_ | refine blk_alloc ?_ _)); exact BK186.out⟩, ⟨by repeat (first | (with_reducible first | exact HB.out | apply below_alloc | apply pw_below_drewN | apply below_drew1 | refine below_set ?_ GE186.out) | exact HB.out)⟩⟩
         ·rw [if_neg c16] at H
          have c16b0 : decide (a1 ≤ ((rd_T33 l0 x8_2).f0)) = false := decide_eq_false c16
          clear c16
          (first | rw [c16b0] | (simp only [i64_w, i32_w]; rw [c16b0]) | skip)
          have H' := Aside0.mk H
          clear H
          go_wp2
          go_meet
          case rel => exact ⟨_, ((rd_T33 l0 x8_2).f0), H', ⟨by have := HJ3.out; have := HK2.out; first | omega | exact Nat.le_refl _⟩, ⟨by (with_reducible repeat (first | apply Kd.R_alloc | apply Kd.R_drewN | apply Kd.R_drew)); exact Kd.R_mono (Kd.R_far (p := ⟨gb186, 5, none⟩) (Kd.R_far (p := ⟨gb186, 4, none⟩) (Kd.R_far (p := ⟨gb186, 3, none⟩) (Kd.R_far (p := ⟨gb186, 2, none⟩) (Kd.R_far (p := ⟨gb186, 1, none⟩) (Kd.R_far (p := ⟨gb186, 0, none⟩) (Kd.R_mono HO_7.out (fun k_ hk => (⟨hk, hk.2⟩ : _ ∧ k_ ≠ gb186))) (fun _ hk => hk.2) (.int .i64 ((rd_T33 l0 x8_2).f0))) (fun _ hk => hk.2) (.int .i64 ((rd_T33 l0 x8_2).f1))) (fun _ hk => hk.2) (.int .i64 ((rd_T33 l0 x8_2).f2))) (fun _ hk => hk.2) (.bool ((rd_T33 l0 x8_2).f3))) (fun _ hk => hk.2) (.string ((rd_T33 l0 x8_2).f4))) (fun _ hk => hk.2) (.int .u64 ((rd_T33 l0 x8_2).f5))) (fun _ hk => hk.1.2)⟩, ⟨by (with_reducible repeat (first | refine blk_drewN ?_ _ | refine blk_drew ?_ | refine blk_alloc ?_ _)); refine blk_put (cs := #[.int .i64 ((rd_T33 l0 x8_2).f0), .int .i64 ((rd_T33 l0 x8_2).f1), .int .i64 ((rd_T33 l0 x8_2).f2), .bool ((rd_T33 l0 x8_2).f3), .string ((rd_T33 l0 x8_2).f4), .int .u64 0]) ?_ 5 _ rfl; (with_reducible repeat (first | refine blk_drewN ?_ _ | refine blk_drew ?_ | refine blk_alloc ?_ _)); refine blk_put (cs := #[.int .i64 ((rd_T33 l0 x8_2).f0), .int .i64 ((rd_T33 l0 x8_2).f1), .int .i64 ((rd_T33 l0 x8_2).f2), .bool ((rd_T33 l0 x8_2).f3), .string (⟨#[]⟩ : ByteArray), .int .u64 0]) ?_ 4 _ rfl; (with_reducible repeat (first | refine blk_drewN ?_ _ | refine blk_drew ?_ | refine blk_alloc ?_ _)); refine blk_put (cs := #[.int .i64 ((rd_T33 l0 x8_2).f0), .int .i64 ((rd_T33 l0 x8_2).f1), .int .i64 ((rd_T33 l0 x8_2).f2), .bool false, .string (⟨#[]⟩ : ByteArray), .int .u64 0]) ?_ 3 _ rfl; (with_reducible repeat (first | refine blk_drewN ?_ _ | refine blk_drew ?_ | refine blk_alloc ?_ _)); refine blk_put (cs := #[.int .i64 ((rd_T33 l0 x8_2).f0), .int .i64 ((rd_T33 l0 x8_2).f1), .int .i64 0, .bool false, .string (⟨#[]⟩ : ByteArray), .int .u64 0]) ?_ 2 _ rfl; (with_reducible repeat (first | refine blk_drewN ?_ _ | refine blk_drew ?_ | refine blk_alloc ?_ _)); refine blk_put (cs := #[.int .i64 ((rd_T33 l0 x8_2).f0), .int .i64 0, .int .i64 0, .bool false, .string (⟨#[]⟩ : ByteArray), .int .u64 0]) ?_ 1 _ rfl; (with_reducible repeat (first | refine blk_drewN ?_ _ | refine blk_drew ?_ | refine blk_alloc ?_ _)); refine blk_put (cs := #[.int .i64 0, .int .i64 0, .int .i64 0, .bool false, .string (⟨#[]⟩ : ByteArray), .int .u64 0]) ?_ 0 _ rfl; (with_reducible repeat (first | refine blk_drewN ?_ _ | refine blk_drew ?_ | refine blk_alloc ?_ _)); exact BK186.out⟩, ⟨by repeat (first | (with_reducible first | exact HB.out | apply below_alloc | apply pw_below_drewN | apply below_drew1 | refine below_set ?_ GE186.out) | exact HB.out)⟩⟩
        case rest =>
         clear HC13
         try clear c1
         try clear p1
         try clear q1
         try clear hx1
         try clear p2
         try clear c5
         try clear c5b0
         try clear c6
         try clear p6
         try clear c7
         try clear c11
         try clear c11b0
         try clear c12
         try clear c12b0
         try clear c16
         try clear c16b0
         try clear hcz15_0
         try clear hcz15_1
         try clear hcz15_2
         try clear hcz15_3
         try clear hcz15_4
         try clear hcz15_5
         try clear hcz17_0
         try clear hcz17_1
         try clear hcz17_2
         try clear hcz17_3
         try clear hcz17_4
         try clear hcz17_5
         try clear hfz15_0
         try clear hfz15_1
         try clear hfz15_2
         try clear hfz15_3
         try clear hfz15_4
         try clear hfz15_5
         try clear hfz17_0
         try clear hfz17_1
         try clear hfz17_2
         try clear hfz17_3
         try clear hfz17_4
         try clear hfz17_5
         try clear hx185_0
         try clear hx185_1
         try clear hx185_2
         try clear hx185_3
         try clear hx185_4
         try clear hx185_5
         try clear p185
         try clear p2
         try clear q185
         obtain ⟨kq, x187000_12, HA, HJ12, HO_7, BK186, HB⟩ := hcut
         cases kq with
         | zero => exact absurd HA.out (by simp [frisketref07_Insert.j2])
         | succ kj12 =>
          have H := HA.out
          clear HA
          simp only [frisketref07_Insert.j2] at H
          by_cases c18 : ((rd_T33 l0 x8_2).f1) > a1
          ·rw [if_pos c18] at H
           have c18b0 : decide (a1 < ((rd_T33 l0 x8_2).f1)) = true := decide_eq_true c18
           clear c18
           by_cases c19 : ((rd_T33 l0 x8_2).f3) = true
           ·rw [if_pos c19] at H
            have c19b0 : ((rd_T33 l0 x8_2).f3) = true := c19
            clear c19
            by_cases c20 : (wrap64 ((wrap64 (((rd_T33 l0 x8_2).f1) + a2)) - x187000_12)) ≤ 4
            ·rw [if_pos c20] at H
             have c20b0 : decide ((wrap64 ((wrap64 (((rd_T33 l0 x8_2).f1) + a2)) - x187000_12)) ≤ 4) = true := decide_eq_true c20
             clear c20
             by_cases c21 : x7_2.length < 2513169434916
             ·rw [if_pos c21] at H
              have LMc21 := Aside0.mk c21
              clear c21
              obtain ⟨y187, hy187⟩ : ∃ y_ : List (S33), y_ = (x7_2 ++ [(⟨x187000_12, wrap64 (((rd_T33 l0 x8_2).f1) + a2), ((rd_T33 l0 x8_2).f2), ((rd_T33 l0 x8_2).f3), ((rd_T33 l0 x8_2).f4), ((rd_T33 l0 x8_2).f5)⟩ : S33)]) := ⟨_, rfl⟩
              replace H : (frisketref07_Insert.l0 kj12 l0 a1 a2 y187 (wrap64 (x8_2 + 1))) = some r := by first | (rw [hy187]; with_reducible exact H) | (have H2_ := (Option.bind_some _ _).symm.trans H; rw [hy187]; with_reducible exact H2_) | (have H2_ := (Option.bind_some _ _).symm.trans H; with_reducible exact H2_) | with_reducible exact H | (rw [hy187]; exact H) | exact H
              have Ny187 := Aside0.mk hy187
              clear hy187
              have H' := Aside0.mk H
              clear H
              have hcz22_0 : wc.cell? ⟨gb186, 0, none⟩ = some (.int .i64 x187000_12) := (blk_cell BK186.out 0).trans rfl
              have hcz22_1 : wc.cell? ⟨gb186, 1, none⟩ = some (.int .i64 ((rd_T33 l0 x8_2).f1)) := (blk_cell BK186.out 1).trans rfl
              have hcz22_2 : wc.cell? ⟨gb186, 2, none⟩ = some (.int .i64 ((rd_T33 l0 x8_2).f2)) := (blk_cell BK186.out 2).trans rfl
              have hcz22_3 : wc.cell? ⟨gb186, 3, none⟩ = some (.bool ((rd_T33 l0 x8_2).f3)) := (blk_cell BK186.out 3).trans rfl
              have hcz22_4 : wc.cell? ⟨gb186, 4, none⟩ = some (.string ((rd_T33 l0 x8_2).f4)) := (blk_cell BK186.out 4).trans rfl
              have hcz22_5 : wc.cell? ⟨gb186, 5, none⟩ = some (.int .u64 ((rd_T33 l0 x8_2).f5)) := (blk_cell BK186.out 5).trans rfl
              have hfz22_0 := blk_frozen BK186.out 0
              have hfz22_1 := blk_frozen BK186.out 1
              have hfz22_2 := blk_frozen BK186.out 2
              have hfz22_3 := blk_frozen BK186.out 3
              have hfz22_4 := blk_frozen BK186.out 4
              have hfz22_5 := blk_frozen BK186.out 5
              go_wp2_with (first | ((with_reducible refine gate_builtin (b := .append) (xs := #[.tmp 58, .tmp 60]) rfl ?_); at_builtin; (try rw [show (#[.int .i64 x187000_12, .int .i64 (wrap64 (((rd_T33 l0 x8_2).f1) + a2)), .int .i64 ((rd_T33 l0 x8_2).f2), .bool true, .string ((rd_T33 l0 x8_2).f4), .int .u64 ((rd_T33 l0 x8_2).f5)] : Array Value) = #[.int .i64 x187000_12, .int .i64 (wrap64 (((rd_T33 l0 x8_2).f1) + a2)), .int .i64 ((rd_T33 l0 x8_2).f2), .bool ((rd_T33 l0 x8_2).f3), .string ((rd_T33 l0 x8_2).f4), .int .u64 ((rd_T33 l0 x8_2).f5)] from by rw [show ((rd_T33 l0 x8_2).f3) = true by assumption]]); refine Kd.R_append k33 (w0 := w) w.heap.size rfl (.tmp 58) (.tmp 60) 22 33 (.agg #[(.int .i64 0), (.int .i64 0), (.int .i64 0), (.bool false), (.string ⟨#[]⟩), (.int .u64 0)]) 56 rfl Try.underlying22 info33 rfl (by decide) (by omega) u7 x7_2 (⟨x187000_12, wrap64 (((rd_T33 l0 x8_2).f1) + a2), ((rd_T33 l0 x8_2).f2), ((rd_T33 l0 x8_2).f3), ((rd_T33 l0 x8_2).f4), ((rd_T33 l0 x8_2).f5)⟩ : S33) [.int .i64 x187000_12, .int .i64 (wrap64 (((rd_T33 l0 x8_2).f1) + a2)), .int .i64 ((rd_T33 l0 x8_2).f2), .bool ((rd_T33 l0 x8_2).f3), .string ((rd_T33 l0 x8_2).f4), .int .u64 ((rd_T33 l0 x8_2).f5)] (fun k_ => k_ ≠ gb186) (fun _ => False) rfl (by first | (go_simp; done) | (go_simp; rfl)) ?aP (fun _ hk => hk.elim) ?aF ?aO ?aB ?aS ?aL ?_; (case aP => exact k33_mkM _ _ _ (⟨x187000_12, wrap64 (((rd_T33 l0 x8_2).f1) + a2), ((rd_T33 l0 x8_2).f2), ((rd_T33 l0 x8_2).f3), ((rd_T33 l0 x8_2).f4), ((rd_T33 l0 x8_2).f5)⟩ : S33)); (case aB => exact (by repeat (first | (with_reducible first | exact HB.out | apply below_alloc | apply pw_below_drewN | apply below_drew1 | refine below_set ?_ GE186.out) | exact HB.out))); (case aF => exact (fun k_ hk => Kd.freshB (g := gb186) (o := .cells #[.int .i64 x187000_12, .int .i64 (wrap64 (((rd_T33 l0 x8_2).f1) + a2)), .int .i64 ((rd_T33 l0 x8_2).f2), .bool ((rd_T33 l0 x8_2).f3), .string ((rd_T33 l0 x8_2).f4), .int .u64 ((rd_T33 l0 x8_2).f5)] 33 (0, 0)) (by (with_reducible repeat (first | refine blk_drewN ?_ _ | refine blk_drew ?_ | refine blk_alloc ?_ _)); refine blk_put (cs := #[.int .i64 x187000_12, .int .i64 ((rd_T33 l0 x8_2).f1), .int .i64 ((rd_T33 l0 x8_2).f2), .bool ((rd_T33 l0 x8_2).f3), .string ((rd_T33 l0 x8_2).f4), .int .u64 ((rd_T33 l0 x8_2).f5)]) ?_ 1 _ rfl; (with_reducible repeat (first | refine blk_drewN ?_ _ | refine blk_drew ?_ | refine blk_alloc ?_ _)); exact BK186.out) k_ hk)); (case aO => exact (by (with_reducible repeat (first | apply Kd.R_alloc | apply Kd.R_drewN | apply Kd.R_drew)); exact Kd.R_mono (Kd.R_far (p := ⟨gb186, 1, none⟩) (Kd.R_mono HO_7.out (fun k_ hk => (⟨hk, hk⟩ : _ ∧ k_ ≠ gb186))) (fun _ hk => hk.2) (.int .i64 (wrap64 (((rd_T33 l0 x8_2).f1) + a2)))) (fun _ hk => hk.1))); (case aS => exact (below_size (by repeat (first | (with_reducible first | exact HB.out | apply below_alloc | apply pw_below_drewN | apply below_drew1 | refine below_set ?_ GE186.out) | exact HB.out)))); (case aL => have := LMc21.out; omega); intro v188 w23 ho hb hg hat; rw [← Ny187.out] at ho; have n0_ := Aside0.mk (blk_grown (g := gb186) (o := .cells #[.int .i64 x187000_12, .int .i64 (wrap64 (((rd_T33 l0 x8_2).f1) + a2)), .int .i64 ((rd_T33 l0 x8_2).f2), .bool ((rd_T33 l0 x8_2).f3), .string ((rd_T33 l0 x8_2).f4), .int .u64 ((rd_T33 l0 x8_2).f5)] 33 (0, 0)) (by (with_reducible repeat (first | refine blk_drewN ?_ _ | refine blk_drew ?_ | refine blk_alloc ?_ _)); refine blk_put (cs := #[.int .i64 x187000_12, .int .i64 ((rd_T33 l0 x8_2).f1), .int .i64 ((rd_T33 l0 x8_2).f2), .bool ((rd_T33 l0 x8_2).f3), .string ((rd_T33 l0 x8_2).f4), .int .u64 ((rd_T33 l0 x8_2).f5)]) ?_ 1 _ rfl; (with_reducible repeat (first | refine blk_drewN ?_ _ | refine blk_drew ?_ | refine blk_alloc ?_ _)); exact BK186.out) hg (Kd.R_away HO_7.out (fun _ hk => hk))); have n1_ := Aside0.mk (hb); have n2_ := Aside0.mk (ho); clear BK186; clear HB; clear HO_7; have BK186 := n0_; have HB := n1_; have HO189 := n2_; clear n0_ n1_ n2_; clear ho hb hg hat))
              go_roundg kj12
              case measure => have := HJ3.out; have := HK2.out; have := HJ12.out; omega
              case rel => exact ⟨(y187), (wrap64 (x8_2 + 1)), (by first | rfl | (simp; done) | (simp [*]; done)), H', ⟨by have := HJ3.out; have := HK2.out; have := HJ12.out; omega⟩, ⟨by (with_reducible repeat (first | apply Kd.R_alloc | apply Kd.R_drewN | apply Kd.R_drew)); exact Kd.R_mono HO189.out (fun _ hk => trivial)⟩, ⟨by repeat (first | (with_reducible first | exact HB.out | apply below_alloc | apply pw_below_drewN | apply below_drew1 | refine below_set ?_ GE186.out) | exact HB.out)⟩⟩
             ·rw [if_neg c21] at H
              exact absurd H (by simp)
            ·rw [if_neg c20] at H
             have c20b0 : decide ((wrap64 ((wrap64 (((rd_T33 l0 x8_2).f1) + a2)) - x187000_12)) ≤ 4) = false := decide_eq_false c20
             clear c20
             have H' := Aside0.mk H
             clear H
             have hcz24_0 : wc.cell? ⟨gb186, 0, none⟩ = some (.int .i64 x187000_12) := (blk_cell BK186.out 0).trans rfl
             have hcz24_1 : wc.cell? ⟨gb186, 1, none⟩ = some (.int .i64 ((rd_T33 l0 x8_2).f1)) := (blk_cell BK186.out 1).trans rfl
             have hcz24_2 : wc.cell? ⟨gb186, 2, none⟩ = some (.int .i64 ((rd_T33 l0 x8_2).f2)) := (blk_cell BK186.out 2).trans rfl
             have hcz24_3 : wc.cell? ⟨gb186, 3, none⟩ = some (.bool ((rd_T33 l0 x8_2).f3)) := (blk_cell BK186.out 3).trans rfl
             have hcz24_4 : wc.cell? ⟨gb186, 4, none⟩ = some (.string ((rd_T33 l0 x8_2).f4)) := (blk_cell BK186.out 4).trans rfl
             have hcz24_5 : wc.cell? ⟨gb186, 5, none⟩ = some (.int .u64 ((rd_T33 l0 x8_2).f5)) := (blk_cell BK186.out 5).trans rfl
             have hfz24_0 := blk_frozen BK186.out 0
             have hfz24_1 := blk_frozen BK186.out 1
             have hfz24_2 := blk_frozen BK186.out 2
             have hfz24_3 := blk_frozen BK186.out 3
             have hfz24_4 := blk_frozen BK186.out 4
             have hfz24_5 := blk_frozen BK186.out 5
             go_wp2
             go_roundg kj12
             case measure => have := HJ3.out; have := HK2.out; have := HJ12.out; omega
             case rel => exact ⟨(x7_2), (wrap64 (x8_2 + 1)), (by first | rfl | (simp; done) | (simp [*]; done)), H', ⟨by have := HJ3.out; have := HK2.out; have := HJ12.out; omega⟩, ⟨by (with_reducible repeat (first | apply Kd.R_alloc | apply Kd.R_drewN | apply Kd.R_drew)); exact Kd.R_mono (Kd.R_far (p := ⟨gb186, 1, none⟩) (Kd.R_mono HO_7.out (fun k_ hk => (⟨hk, hk⟩ : _ ∧ k_ ≠ gb186))) (fun _ hk => hk.2) (.int .i64 (wrap64 (((rd_T33 l0 x8_2).f1) + a2)))) (fun _ hk => trivial)⟩, ⟨by repeat (first | (with_reducible first | exact HB.out | apply below_alloc | apply pw_below_drewN | apply below_drew1 | refine below_set ?_ GE186.out) | exact HB.out)⟩⟩
           ·rw [if_neg c19] at H
            have c19b0 : ((rd_T33 l0 x8_2).f3) = false := by simpa using c19
            clear c19
            by_cases c25 : x7_2.length < 2513169434916
            ·rw [if_pos c25] at H
             have LMc25 := Aside0.mk c25
             clear c25
             obtain ⟨y190, hy190⟩ : ∃ y_ : List (S33), y_ = (x7_2 ++ [(⟨x187000_12, wrap64 (((rd_T33 l0 x8_2).f1) + a2), ((rd_T33 l0 x8_2).f2), ((rd_T33 l0 x8_2).f3), ((rd_T33 l0 x8_2).f4), ((rd_T33 l0 x8_2).f5)⟩ : S33)]) := ⟨_, rfl⟩
             replace H : (frisketref07_Insert.l0 kj12 l0 a1 a2 y190 (wrap64 (x8_2 + 1))) = some r := by first | (rw [hy190]; with_reducible exact H) | (have H2_ := (Option.bind_some _ _).symm.trans H; rw [hy190]; with_reducible exact H2_) | (have H2_ := (Option.bind_some _ _).symm.trans H; with_reducible exact H2_) | with_reducible exact H | (rw [hy190]; exact H) | exact H
             have Ny190 := Aside0.mk hy190
             clear hy190
             have H' := Aside0.mk H
             clear H
             have hcz26_0 : wc.cell? ⟨gb186, 0, none⟩ = some (.int .i64 x187000_12) := (blk_cell BK186.out 0).trans rfl
             have hcz26_1 : wc.cell? ⟨gb186, 1, none⟩ = some (.int .i64 ((rd_T33 l0 x8_2).f1)) := (blk_cell BK186.out 1).trans rfl
             have hcz26_2 : wc.cell? ⟨gb186, 2, none⟩ = some (.int .i64 ((rd_T33 l0 x8_2).f2)) := (blk_cell BK186.out 2).trans rfl
             have hcz26_3 : wc.cell? ⟨gb186, 3, none⟩ = some (.bool ((rd_T33 l0 x8_2).f3)) := (blk_cell BK186.out 3).trans rfl
             have hcz26_4 : wc.cell? ⟨gb186, 4, none⟩ = some (.string ((rd_T33 l0 x8_2).f4)) := (blk_cell BK186.out 4).trans rfl
             have hcz26_5 : wc.cell? ⟨gb186, 5, none⟩ = some (.int .u64 ((rd_T33 l0 x8_2).f5)) := (blk_cell BK186.out 5).trans rfl
             have hfz26_0 := blk_frozen BK186.out 0
             have hfz26_1 := blk_frozen BK186.out 1
             have hfz26_2 := blk_frozen BK186.out 2
             have hfz26_3 := blk_frozen BK186.out 3
             have hfz26_4 := blk_frozen BK186.out 4
             have hfz26_5 := blk_frozen BK186.out 5
             go_wp2_with (first | ((with_reducible refine gate_builtin (b := .append) (xs := #[.tmp 58, .tmp 60]) rfl ?_); at_builtin; (try rw [show (#[.int .i64 x187000_12, .int .i64 (wrap64 (((rd_T33 l0 x8_2).f1) + a2)), .int .i64 ((rd_T33 l0 x8_2).f2), .bool false, .string ((rd_T33 l0 x8_2).f4), .int .u64 ((rd_T33 l0 x8_2).f5)] : Array Value) = #[.int .i64 x187000_12, .int .i64 (wrap64 (((rd_T33 l0 x8_2).f1) + a2)), .int .i64 ((rd_T33 l0 x8_2).f2), .bool ((rd_T33 l0 x8_2).f3), .string ((rd_T33 l0 x8_2).f4), .int .u64 ((rd_T33 l0 x8_2).f5)] from by rw [show ((rd_T33 l0 x8_2).f3) = false by assumption]]); refine Kd.R_append k33 (w0 := w) w.heap.size rfl (.tmp 58) (.tmp 60) 22 33 (.agg #[(.int .i64 0), (.int .i64 0), (.int .i64 0), (.bool false), (.string ⟨#[]⟩), (.int .u64 0)]) 56 rfl Try.underlying22 info33 rfl (by decide) (by omega) u7 x7_2 (⟨x187000_12, wrap64 (((rd_T33 l0 x8_2).f1) + a2), ((rd_T33 l0 x8_2).f2), ((rd_T33 l0 x8_2).f3), ((rd_T33 l0 x8_2).f4), ((rd_T33 l0 x8_2).f5)⟩ : S33) [.int .i64 x187000_12, .int .i64 (wrap64 (((rd_T33 l0 x8_2).f1) + a2)), .int .i64 ((rd_T33 l0 x8_2).f2), .bool ((rd_T33 l0 x8_2).f3), .string ((rd_T33 l0 x8_2).f4), .int .u64 ((rd_T33 l0 x8_2).f5)] (fun k_ => k_ ≠ gb186) (fun _ => False) rfl (by first | (go_simp; done) | (go_simp; rfl)) ?aP (fun _ hk => hk.elim) ?aF ?aO ?aB ?aS ?aL ?_; (case aP => exact k33_mkM _ _ _ (⟨x187000_12, wrap64 (((rd_T33 l0 x8_2).f1) + a2), ((rd_T33 l0 x8_2).f2), ((rd_T33 l0 x8_2).f3), ((rd_T33 l0 x8_2).f4), ((rd_T33 l0 x8_2).f5)⟩ : S33)); (case aB => exact (by repeat (first | (with_reducible first | exact HB.out | apply below_alloc | apply pw_below_drewN | apply below_drew1 | refine below_set ?_ GE186.out) | exact HB.out))); (case aF => exact (fun k_ hk => Kd.freshB (g := gb186) (o := .cells #[.int .i64 x187000_12, .int .i64 (wrap64 (((rd_T33 l0 x8_2).f1) + a2)), .int .i64 ((rd_T33 l0 x8_2).f2), .bool ((rd_T33 l0 x8_2).f3), .string ((rd_T33 l0 x8_2).f4), .int .u64 ((rd_T33 l0 x8_2).f5)] 33 (0, 0)) (by (with_reducible repeat (first | refine blk_drewN ?_ _ | refine blk_drew ?_ | refine blk_alloc ?_ _)); refine blk_put (cs := #[.int .i64 x187000_12, .int .i64 ((rd_T33 l0 x8_2).f1), .int .i64 ((rd_T33 l0 x8_2).f2), .bool ((rd_T33 l0 x8_2).f3), .string ((rd_T33 l0 x8_2).f4), .int .u64 ((rd_T33 l0 x8_2).f5)]) ?_ 1 _ rfl; (with_reducible repeat (first | refine blk_drewN ?_ _ | refine blk_drew ?_ | refine blk_alloc ?_ _)); exact BK186.out) k_ hk)); (case aO => exact (by (with_reducible repeat (first | apply Kd.R_alloc | apply Kd.R_drewN | apply Kd.R_drew)); exact Kd.R_mono (Kd.R_far (p := ⟨gb186, 1, none⟩) (Kd.R_mono HO_7.out (fun k_ hk => (⟨hk, hk⟩ : _ ∧ k_ ≠ gb186))) (fun _ hk => hk.2) (.int .i64 (wrap64 (((rd_T33 l0 x8_2).f1) + a2)))) (fun _ hk => hk.1))); (case aS => exact (below_size (by repeat (first | (with_reducible first | exact HB.out | apply below_alloc | apply pw_below_drewN | apply below_drew1 | refine below_set ?_ GE186.out) | exact HB.out)))); (case aL => have := LMc25.out; omega); intro v191 w27 ho hb hg hat; rw [← Ny190.out] at ho; have n0_ := Aside0.mk (blk_grown (g := gb186) (o := .cells #[.int .i64 x187000_12, .int .i64 (wrap64 (((rd_T33 l0 x8_2).f1) + a2)), .int .i64 ((rd_T33 l0 x8_2).f2), .bool ((rd_T33 l0 x8_2).f3), .string ((rd_T33 l0 x8_2).f4), .int .u64 ((rd_T33 l0 x8_2).f5)] 33 (0, 0)) (by (with_reducible repeat (first | refine blk_drewN ?_ _ | refine blk_drew ?_ | refine blk_alloc ?_ _)); refine blk_put (cs := #[.int .i64 x187000_12, .int .i64 ((rd_T33 l0 x8_2).f1), .int .i64 ((rd_T33 l0 x8_2).f2), .bool ((rd_T33 l0 x8_2).f3), .string ((rd_T33 l0 x8_2).f4), .int .u64 ((rd_T33 l0 x8_2).f5)]) ?_ 1 _ rfl; (with_reducible repeat (first | refine blk_drewN ?_ _ | refine blk_drew ?_ | refine blk_alloc ?_ _)); exact BK186.out) hg (Kd.R_away HO_7.out (fun _ hk => hk))); have n1_ := Aside0.mk (hb); have n2_ := Aside0.mk (ho); clear BK186; clear HB; clear HO_7; have BK186 := n0_; have HB := n1_; have HO192 := n2_; clear n0_ n1_ n2_; clear ho hb hg hat))
             go_roundg kj12
             case measure => have := HJ3.out; have := HK2.out; have := HJ12.out; omega
             case rel => exact ⟨(y190), (wrap64 (x8_2 + 1)), (by first | rfl | (simp; done) | (simp [*]; done)), H', ⟨by have := HJ3.out; have := HK2.out; have := HJ12.out; omega⟩, ⟨by (with_reducible repeat (first | apply Kd.R_alloc | apply Kd.R_drewN | apply Kd.R_drew)); exact Kd.R_mono HO192.out (fun _ hk => trivial)⟩, ⟨by repeat (first | (with_reducible first | exact HB.out | apply below_alloc | apply pw_below_drewN | apply below_drew1 | refine below_set ?_ GE186.out) | exact HB.out)⟩⟩
            ·rw [if_neg c25] at H
             exact absurd H (by simp)
          ·rw [if_neg c18] at H
           have c18b0 : decide (a1 < ((rd_T33 l0 x8_2).f1)) = false := decide_eq_false c18
           clear c18
           by_cases c28 : ((rd_T33 l0 x8_2).f3) = true
           ·rw [if_pos c28] at H
            have c28b0 : ((rd_T33 l0 x8_2).f3) = true := c28
            clear c28
            by_cases c29 : (wrap64 (((rd_T33 l0 x8_2).f1) - x187000_12)) ≤ 4
            ·rw [if_pos c29] at H
             have c29b0 : decide ((wrap64 (((rd_T33 l0 x8_2).f1) - x187000_12)) ≤ 4) = true := decide_eq_true c29
             clear c29
             by_cases c30 : x7_2.length < 2513169434916
             ·rw [if_pos c30] at H
              have LMc30 := Aside0.mk c30
              clear c30
              obtain ⟨y193, hy193⟩ : ∃ y_ : List (S33), y_ = (x7_2 ++ [(⟨x187000_12, ((rd_T33 l0 x8_2).f1), ((rd_T33 l0 x8_2).f2), ((rd_T33 l0 x8_2).f3), ((rd_T33 l0 x8_2).f4), ((rd_T33 l0 x8_2).f5)⟩ : S33)]) := ⟨_, rfl⟩
              replace H : (frisketref07_Insert.l0 kj12 l0 a1 a2 y193 (wrap64 (x8_2 + 1))) = some r := by first | (rw [hy193]; with_reducible exact H) | (have H2_ := (Option.bind_some _ _).symm.trans H; rw [hy193]; with_reducible exact H2_) | (have H2_ := (Option.bind_some _ _).symm.trans H; with_reducible exact H2_) | with_reducible exact H | (rw [hy193]; exact H) | exact H
              have Ny193 := Aside0.mk hy193
              clear hy193
              have H' := Aside0.mk H
              clear H
              have hcz31_0 : wc.cell? ⟨gb186, 0, none⟩ = some (.int .i64 x187000_12) := (blk_cell BK186.out 0).trans rfl
              have hcz31_1 : wc.cell? ⟨gb186, 1, none⟩ = some (.int .i64 ((rd_T33 l0 x8_2).f1)) := (blk_cell BK186.out 1).trans rfl
              have hcz31_2 : wc.cell? ⟨gb186, 2, none⟩ = some (.int .i64 ((rd_T33 l0 x8_2).f2)) := (blk_cell BK186.out 2).trans rfl
              have hcz31_3 : wc.cell? ⟨gb186, 3, none⟩ = some (.bool ((rd_T33 l0 x8_2).f3)) := (blk_cell BK186.out 3).trans rfl
              have hcz31_4 : wc.cell? ⟨gb186, 4, none⟩ = some (.string ((rd_T33 l0 x8_2).f4)) := (blk_cell BK186.out 4).trans rfl
              have hcz31_5 : wc.cell? ⟨gb186, 5, none⟩ = some (.int .u64 ((rd_T33 l0 x8_2).f5)) := (blk_cell BK186.out 5).trans rfl
              have hfz31_0 := blk_frozen BK186.out 0
              have hfz31_1 := blk_frozen BK186.out 1
              have hfz31_2 := blk_frozen BK186.out 2
              have hfz31_3 := blk_frozen BK186.out 3
              have hfz31_4 := blk_frozen BK186.out 4
              have hfz31_5 := blk_frozen BK186.out 5
              go_wp2_with (first | ((with_reducible refine gate_builtin (b := .append) (xs := #[.tmp 58, .tmp 60]) rfl ?_); at_builtin; (try rw [show (#[.int .i64 x187000_12, .int .i64 ((rd_T33 l0 x8_2).f1), .int .i64 ((rd_T33 l0 x8_2).f2), .bool true, .string ((rd_T33 l0 x8_2).f4), .int .u64 ((rd_T33 l0 x8_2).f5)] : Array Value) = #[.int .i64 x187000_12, .int .i64 ((rd_T33 l0 x8_2).f1), .int .i64 ((rd_T33 l0 x8_2).f2), .bool ((rd_T33 l0 x8_2).f3), .string ((rd_T33 l0 x8_2).f4), .int .u64 ((rd_T33 l0 x8_2).f5)] from by rw [show ((rd_T33 l0 x8_2).f3) = true by assumption]]); refine Kd.R_append k33 (w0 := w) w.heap.size rfl (.tmp 58) (.tmp 60) 22 33 (.agg #[(.int .i64 0), (.int .i64 0), (.int .i64 0), (.bool false), (.string ⟨#[]⟩), (.int .u64 0)]) 56 rfl Try.underlying22 info33 rfl (by decide) (by omega) u7 x7_2 (⟨x187000_12, ((rd_T33 l0 x8_2).f1), ((rd_T33 l0 x8_2).f2), ((rd_T33 l0 x8_2).f3), ((rd_T33 l0 x8_2).f4), ((rd_T33 l0 x8_2).f5)⟩ : S33) [.int .i64 x187000_12, .int .i64 ((rd_T33 l0 x8_2).f1), .int .i64 ((rd_T33 l0 x8_2).f2), .bool ((rd_T33 l0 x8_2).f3), .string ((rd_T33 l0 x8_2).f4), .int .u64 ((rd_T33 l0 x8_2).f5)] (fun k_ => k_ ≠ gb186) (fun _ => False) rfl rfl ?aP (fun _ hk => hk.elim) ?aF ?aO ?aB ?aS ?aL ?_; (case aP => exact k33_mkM _ _ _ (⟨x187000_12, ((rd_T33 l0 x8_2).f1), ((rd_T33 l0 x8_2).f2), ((rd_T33 l0 x8_2).f3), ((rd_T33 l0 x8_2).f4), ((rd_T33 l0 x8_2).f5)⟩ : S33)); (case aB => exact (by repeat (first | (with_reducible first | exact HB.out | apply below_alloc | apply pw_below_drewN | apply below_drew1 | refine below_set ?_ GE186.out) | exact HB.out))); (case aF => exact (fun k_ hk => Kd.freshB (g := gb186) (o := .cells #[.int .i64 x187000_12, .int .i64 ((rd_T33 l0 x8_2).f1), .int .i64 ((rd_T33 l0 x8_2).f2), .bool ((rd_T33 l0 x8_2).f3), .string ((rd_T33 l0 x8_2).f4), .int .u64 ((rd_T33 l0 x8_2).f5)] 33 (0, 0)) (by (with_reducible repeat (first | refine blk_drewN ?_ _ | refine blk_drew ?_ | refine blk_alloc ?_ _)); exact BK186.out) k_ hk)); (case aO => exact (by (with_reducible repeat (first | apply Kd.R_alloc | apply Kd.R_drewN | apply Kd.R_drew)); exact HO_7.out)); (case aS => exact (below_size (by repeat (first | (with_reducible first | exact HB.out | apply below_alloc | apply pw_below_drewN | apply below_drew1 | refine below_set ?_ GE186.out) | exact HB.out)))); (case aL => have := LMc30.out; omega); intro v194 w32 ho hb hg hat; rw [← Ny193.out] at ho; have n0_ := Aside0.mk (blk_grown (g := gb186) (o := .cells #[.int .i64 x187000_12, .int .i64 ((rd_T33 l0 x8_2).f1), .int .i64 ((rd_T33 l0 x8_2).f2), .bool ((rd_T33 l0 x8_2).f3), .string ((rd_T33 l0 x8_2).f4), .int .u64 ((rd_T33 l0 x8_2).f5)] 33 (0, 0)) (by (with_reducible repeat (first | refine blk_drewN ?_ _ | refine blk_drew ?_ | refine blk_alloc ?_ _)); exact BK186.out) hg (Kd.R_away HO_7.out (fun _ hk => hk))); have n1_ := Aside0.mk (hb); have n2_ := Aside0.mk (ho); clear BK186; clear HB; clear HO_7; have BK186 := n0_; have HB := n1_; have HO195 := n2_; clear n0_ n1_ n2_; clear ho hb hg hat))
              go_roundg kj12
              case measure => have := HJ3.out; have := HK2.out; have := HJ12.out; omega
              case rel => exact ⟨(y193), (wrap64 (x8_2 + 1)), (by first | rfl | (simp; done) | (simp [*]; done)), H', ⟨by have := HJ3.out; have := HK2.out; have := HJ12.out; omega⟩, ⟨by (with_reducible repeat (first | apply Kd.R_alloc | apply Kd.R_drewN | apply Kd.R_drew)); exact Kd.R_mono HO195.out (fun _ hk => trivial)⟩, ⟨by repeat (first | (with_reducible first | exact HB.out | apply below_alloc | apply pw_below_drewN | apply below_drew1 | refine below_set ?_ GE186.out) | exact HB.out)⟩⟩
             ·rw [if_neg c30] at H
              exact absurd H (by simp)
            ·rw [if_neg c29] at H
             have c29b0 : decide ((wrap64 (((rd_T33 l0 x8_2).f1) - x187000_12)) ≤ 4) = false := decide_eq_false c29
             clear c29
             have H' := Aside0.mk H
             clear H
             have hcz33_0 : wc.cell? ⟨gb186, 0, none⟩ = some (.int .i64 x187000_12) := (blk_cell BK186.out 0).trans rfl
             have hcz33_1 : wc.cell? ⟨gb186, 1, none⟩ = some (.int .i64 ((rd_T33 l0 x8_2).f1)) := (blk_cell BK186.out 1).trans rfl
             have hcz33_2 : wc.cell? ⟨gb186, 2, none⟩ = some (.int .i64 ((rd_T33 l0 x8_2).f2)) := (blk_cell BK186.out 2).trans rfl
             have hcz33_3 : wc.cell? ⟨gb186, 3, none⟩ = some (.bool ((rd_T33 l0 x8_2).f3)) := (blk_cell BK186.out 3).trans rfl
             have hcz33_4 : wc.cell? ⟨gb186, 4, none⟩ = some (.string ((rd_T33 l0 x8_2).f4)) := (blk_cell BK186.out 4).trans rfl
             have hcz33_5 : wc.cell? ⟨gb186, 5, none⟩ = some (.int .u64 ((rd_T33 l0 x8_2).f5)) := (blk_cell BK186.out 5).trans rfl
             have hfz33_0 := blk_frozen BK186.out 0
             have hfz33_1 := blk_frozen BK186.out 1
             have hfz33_2 := blk_frozen BK186.out 2
             have hfz33_3 := blk_frozen BK186.out 3
             have hfz33_4 := blk_frozen BK186.out 4
             have hfz33_5 := blk_frozen BK186.out 5
             go_wp2
             go_roundg kj12
             case measure => have := HJ3.out; have := HK2.out; have := HJ12.out; omega
             case rel => exact ⟨(x7_2), (wrap64 (x8_2 + 1)), (by first | rfl | (simp; done) | (simp [*]; done)), H', ⟨by have := HJ3.out; have := HK2.out; have := HJ12.out; omega⟩, ⟨by (with_reducible repeat (first | apply Kd.R_alloc | apply Kd.R_drewN | apply Kd.R_drew)); exact Kd.R_mono HO_7.out (fun _ hk => trivial)⟩, ⟨by repeat (first | (with_reducible first | exact HB.out | apply below_alloc | apply pw_below_drewN | apply below_drew1 | refine below_set ?_ GE186.out) | exact HB.out)⟩⟩
           ·rw [if_neg c28] at H
            have c28b0 : ((rd_T33 l0 x8_2).f3) = false := by simpa using c28
            clear c28
            by_cases c34 : x7_2.length < 2513169434916
            ·rw [if_pos c34] at H
             have LMc34 := Aside0.mk c34
             clear c34
             obtain ⟨y196, hy196⟩ : ∃ y_ : List (S33), y_ = (x7_2 ++ [(⟨x187000_12, ((rd_T33 l0 x8_2).f1), ((rd_T33 l0 x8_2).f2), ((rd_T33 l0 x8_2).f3), ((rd_T33 l0 x8_2).f4), ((rd_T33 l0 x8_2).f5)⟩ : S33)]) := ⟨_, rfl⟩
             replace H : (frisketref07_Insert.l0 kj12 l0 a1 a2 y196 (wrap64 (x8_2 + 1))) = some r := by first | (rw [hy196]; with_reducible exact H) | (have H2_ := (Option.bind_some _ _).symm.trans H; rw [hy196]; with_reducible exact H2_) | (have H2_ := (Option.bind_some _ _).symm.trans H; with_reducible exact H2_) | with_reducible exact H | (rw [hy196]; exact H) | exact H
             have Ny196 := Aside0.mk hy196
             clear hy196
             have H' := Aside0.mk H
             clear H
             have hcz35_0 : wc.cell? ⟨gb186, 0, none⟩ = some (.int .i64 x187000_12) := (blk_cell BK186.out 0).trans rfl
             have hcz35_1 : wc.cell? ⟨gb186, 1, none⟩ = some (.int .i64 ((rd_T33 l0 x8_2).f1)) := (blk_cell BK186.out 1).trans rfl
             have hcz35_2 : wc.cell? ⟨gb186, 2, none⟩ = some (.int .i64 ((rd_T33 l0 x8_2).f2)) := (blk_cell BK186.out 2).trans rfl
             have hcz35_3 : wc.cell? ⟨gb186, 3, none⟩ = some (.bool ((rd_T33 l0 x8_2).f3)) := (blk_cell BK186.out 3).trans rfl
             have hcz35_4 : wc.cell? ⟨gb186, 4, none⟩ = some (.string ((rd_T33 l0 x8_2).f4)) := (blk_cell BK186.out 4).trans rfl
             have hcz35_5 : wc.cell? ⟨gb186, 5, none⟩ = some (.int .u64 ((rd_T33 l0 x8_2).f5)) := (blk_cell BK186.out 5).trans rfl
             have hfz35_0 := blk_frozen BK186.out 0
             have hfz35_1 := blk_frozen BK186.out 1
             have hfz35_2 := blk_frozen BK186.out 2
             have hfz35_3 := blk_frozen BK186.out 3
             have hfz35_4 := blk_frozen BK186.out 4
             have hfz35_5 := blk_frozen BK186.out 5
             go_wp2_with (first | ((with_reducible refine gate_builtin (b := .append) (xs := #[.tmp 58, .tmp 60]) rfl ?_); at_builtin; (try rw [show (#[.int .i64 x187000_12, .int .i64 ((rd_T33 l0 x8_2).f1), .int .i64 ((rd_T33 l0 x8_2).f2), .bool false, .string ((rd_T33 l0 x8_2).f4), .int .u64 ((rd_T33 l0 x8_2).f5)] : Array Value) = #[.int .i64 x187000_12, .int .i64 ((rd_T33 l0 x8_2).f1), .int .i64 ((rd_T33 l0 x8_2).f2), .bool ((rd_T33 l0 x8_2).f3), .string ((rd_T33 l0 x8_2).f4), .int .u64 ((rd_T33 l0 x8_2).f5)] from by rw [show ((rd_T33 l0 x8_2).f3) = false by assumption]]); refine Kd.R_append k33 (w0 := w) w.heap.size rfl (.tmp 58) (.tmp 60) 22 33 (.agg #[(.int .i64 0), (.int .i64 0), (.int .i64 0), (.bool false), (.string ⟨#[]⟩), (.int .u64 0)]) 56 rfl Try.underlying22 info33 rfl (by decide) (by omega) u7 x7_2 (⟨x187000_12, ((rd_T33 l0 x8_2).f1), ((rd_T33 l0 x8_2).f2), ((rd_T33 l0 x8_2).f3), ((rd_T33 l0 x8_2).f4), ((rd_T33 l0 x8_2).f5)⟩ : S33) [.int .i64 x187000_12, .int .i64 ((rd_T33 l0 x8_2).f1), .int .i64 ((rd_T33 l0 x8_2).f2), .bool ((rd_T33 l0 x8_2).f3), .string ((rd_T33 l0 x8_2).f4), .int .u64 ((rd_T33 l0 x8_2).f5)] (fun k_ => k_ ≠ gb186) (fun _ => False) rfl rfl ?aP (fun _ hk => hk.elim) ?aF ?aO ?aB ?aS ?aL ?_; (case aP => exact k33_mkM _ _ _ (⟨x187000_12, ((rd_T33 l0 x8_2).f1), ((rd_T33 l0 x8_2).f2), ((rd_T33 l0 x8_2).f3), ((rd_T33 l0 x8_2).f4), ((rd_T33 l0 x8_2).f5)⟩ : S33)); (case aB => exact (by repeat (first | (with_reducible first | exact HB.out | apply below_alloc | apply pw_below_drewN | apply below_drew1 | refine below_set ?_ GE186.out) | exact HB.out))); (case aF => exact (fun k_ hk => Kd.freshB (g := gb186) (o := .cells #[.int .i64 x187000_12, .int .i64 ((rd_T33 l0 x8_2).f1), .int .i64 ((rd_T33 l0 x8_2).f2), .bool ((rd_T33 l0 x8_2).f3), .string ((rd_T33 l0 x8_2).f4), .int .u64 ((rd_T33 l0 x8_2).f5)] 33 (0, 0)) (by (with_reducible repeat (first | refine blk_drewN ?_ _ | refine blk_drew ?_ | refine blk_alloc ?_ _)); exact BK186.out) k_ hk)); (case aO => exact (by (with_reducible repeat (first | apply Kd.R_alloc | apply Kd.R_drewN | apply Kd.R_drew)); exact HO_7.out)); (case aS => exact (below_size (by repeat (first | (with_reducible first | exact HB.out | apply below_alloc | apply pw_below_drewN | apply below_drew1 | refine below_set ?_ GE186.out) | exact HB.out)))); (case aL => have := LMc34.out; omega); intro v197 w36 ho hb hg hat; rw [← Ny196.out] at ho; have n0_ := Aside0.mk (blk_grown (g := gb186) (o := .cells #[.int .i64 x187000_12, .int .i64 ((rd_T33 l0 x8_2).f1), .int .i64 ((rd_T33 l0 x8_2).f2), .bool ((rd_T33 l0 x8_2).f3), .string ((rd_T33 l0 x8_2).f4), .int .u64 ((rd_T33 l0 x8_2).f5)] 33 (0, 0)) (by (with_reducible repeat (first | refine blk_drewN ?_ _ | refine blk_drew ?_ | refine blk_alloc ?_ _)); exact BK186.out) hg (Kd.R_away HO_7.out (fun _ hk => hk))); have n1_ := Aside0.mk (hb); have n2_ := Aside0.mk (ho); clear BK186; clear HB; clear HO_7; have BK186 := n0_; have HB := n1_; have HO198 := n2_; clear n0_ n1_ n2_; clear ho hb hg hat))
             go_roundg kj12
             case measure => have := HJ3.out; have := HK2.out; have := HJ12.out; omega
             case rel => exact ⟨(y196), (wrap64 (x8_2 + 1)), (by first | rfl | (simp; done) | (simp [*]; done)), H', ⟨by have := HJ3.out; have := HK2.out; have := HJ12.out; omega⟩, ⟨by (with_reducible repeat (first | apply Kd.R_alloc | apply Kd.R_drewN | apply Kd.R_drew)); exact Kd.R_mono HO198.out (fun _ hk => trivial)⟩, ⟨by repeat (first | (with_reducible first | exact HB.out | apply below_alloc | apply pw_below_drewN | apply below_drew1 | refine below_set ?_ GE186.out) | exact HB.out)⟩⟩
            ·rw [if_neg c34] at H
             exact absurd H (by simp)
       ·rw [if_neg c12] at H
        exact absurd H (by simp)
      ·rw [if_neg c11] at H
       have c11b0 : decide (x8_2 < (l0.length : Int)) = false := decide_eq_false c11
       clear c11
       obtain rfl := Option.some.inj H
       go_wp2
       go_ret
       exact ⟨_, by first | rfl | (simp [errW_none, errW_some] <;> rfl) | (simp [*, errW_none, errW_some] <;> rfl), by (with_reducible repeat (first | apply Kd.R_alloc | apply Kd.R_drewN | apply Kd.R_drew)); exact HO_7.out, by repeat (first | (with_reducible first | exact HB.out | apply below_alloc | apply pw_below_drewN | apply below_drew1) | exact HB.out)⟩

end Go.Proofs.Ytdkblhfcndafaaa.X
