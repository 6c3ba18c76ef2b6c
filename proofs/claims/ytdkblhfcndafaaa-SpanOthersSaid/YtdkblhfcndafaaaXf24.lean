-- Printed by xprint.py (mine, in wip/tools) through the kit's print. Not trusted: Lean checks it.
import Derived.Test.YtdkblhfcndafaaaX0
import Derived.Test.YtdkblhfcndafaaaYcells
import Derived.Test.YtdkblhfcndafaaaYdec
namespace Go.Proofs.Ytdkblhfcndafaaa.X
open Go.RowKit Go.Proofs.YtdkblhfcndafaaaW.PrintWords Go.Proofs.YtdkblhfcndafaaaW.PrintLast Go.Proofs.YtdkblhfcndafaaaW.PrintMore
attribute [local go_sem] max2_int min2_int max_two min_two
set_option linter.unusedVariables false
set_option linter.unusedSimpArgs false

/-! ### span_one: function 24 -/
mutual
def span_one.j0 : Nat → Int → Int → Bool → Int → Int → Int → Bool → ByteArray → Int → Option (Bool)
 | 0, _, _, _, _, _, _, _, _, _ => none
 | k + 1, x3, x4, x11, x137000, x137001, x137002, x137003, x137004, x137005 => if x11 = true then (some false) else (if x137005 = 0 then (span_one.j1 k false x137000 x137001 x137002 x137003 x137004 x137005) else (if x4 = 0 then (span_one.j1 k (x3 == 0) x137000 x137001 x137002 x137003 x137004 x137005) else (span_one.j1 k true x137000 x137001 x137002 x137003 x137004 x137005)))
def span_one.j1 : Nat → Bool → Int → Int → Int → Bool → ByteArray → Int → Option (Bool)
 | 0, _, _, _, _, _, _, _ => none
 | k + 1, x32, x137000, x137001, x137002, x137003, x137004, x137005 => if x32 = true then (some false) else (if x137003 = true then (if (wrap64 (x137001 - x137000)) ≤ 4 then (some (x137004.toList == ([] : List UInt8))) else (some false)) else ((span_ruby.f x137004).bind fun t139 => (some t139)))
end
def span_one.f (k : Nat) (a0_0 : Int) (a0_1 : Int) (a0_2 : Int) (a0_3 : Bool) (a0_4 : ByteArray) (a0_5 : Int) : Option (Bool) := (scale_Cells.f a0_5).bind fun bt137 => (if a0_2 < 0 then (span_one.j0 k bt137.1 bt137.2 true a0_0 a0_1 a0_2 a0_3 a0_4 a0_5) else (if a0_2 > 2 then (span_one.j0 k bt137.1 bt137.2 true a0_0 a0_1 a0_2 a0_3 a0_4 a0_5) else (if a0_0 < 0 then (span_one.j0 k bt137.1 bt137.2 true a0_0 a0_1 a0_2 a0_3 a0_4 a0_5) else (span_one.j0 k bt137.1 bt137.2 (decide (a0_0 ≥ a0_1)) a0_0 a0_1 a0_2 a0_3 a0_4 a0_5))))
theorem span_one.mono_l : ∀ k, (∀ y0 y1 y2 y3 y4 y5 y6 y7 y8, LeO (span_one.j0 k y0 y1 y2 y3 y4 y5 y6 y7 y8) (span_one.j0 (k + 1) y0 y1 y2 y3 y4 y5 y6 y7 y8)) ∧ (∀ y0 y1 y2 y3 y4 y5 y6, LeO (span_one.j1 k y0 y1 y2 y3 y4 y5 y6) (span_one.j1 (k + 1) y0 y1 y2 y3 y4 y5 y6))
 | 0 => ⟨fun _ _ _ _ _ _ _ _ _ r h => by simp [span_one.j0] at h, fun _ _ _ _ _ _ _ r h => by simp [span_one.j1] at h⟩
 | k + 1 => by
  obtain ⟨ih0, ih1⟩ := span_one.mono_l k
  refine ⟨?_, ?_⟩
  ·intro y0 y1 y2 y3 y4 y5 y6 y7 y8
   unfold span_one.j0
   repeat' first
   | (with_reducible exact ih0 _ _ _ _ _ _ _ _ _)
   | (with_reducible exact ih1 _ _ _ _ _ _ _)
   | (with_reducible exact LeO.refl _)
   | (with_reducible exact LeO.none _)
   | (with_reducible refine LeO.ite ?_ ?_)
   | (with_reducible refine LeO.bind ?_ (fun _ => ?_))
   | exact ih0 _ _ _ _ _ _ _ _ _
   | exact ih1 _ _ _ _ _ _ _
   | exact LeO.none _
   | refine LeO.ite ?_ ?_
   | refine LeO.bind ?_ (fun _ => ?_)
  ·intro y0 y1 y2 y3 y4 y5 y6
   unfold span_one.j1
   repeat' first
   | (with_reducible exact ih0 _ _ _ _ _ _ _ _ _)
   | (with_reducible exact ih1 _ _ _ _ _ _ _)
   | (with_reducible exact LeO.refl _)
   | (with_reducible exact LeO.none _)
   | (with_reducible refine LeO.ite ?_ ?_)
   | (with_reducible refine LeO.bind ?_ (fun _ => ?_))
   | exact ih0 _ _ _ _ _ _ _ _ _
   | exact ih1 _ _ _ _ _ _ _
   | exact LeO.none _
   | refine LeO.ite ?_ ?_
   | refine LeO.bind ?_ (fun _ => ?_)
theorem span_one.mono : ∀ a0 a1 a2 a3 a4 a5 k, LeO (span_one.f k a0 a1 a2 a3 a4 a5) (span_one.f (k + 1) a0 a1 a2 a3 a4 a5) := by
 intro a0 a1 a2 a3 a4 a5 k
 obtain ⟨ih0, ih1⟩ := span_one.mono_l k
 unfold span_one.f
 repeat' first
   | (with_reducible exact ih0 _ _ _ _ _ _ _ _ _)
   | (with_reducible exact ih1 _ _ _ _ _ _ _)
   | (with_reducible exact LeO.refl _)
   | (with_reducible exact LeO.none _)
   | (with_reducible refine LeO.ite ?_ ?_)
   | (with_reducible refine LeO.bind ?_ (fun _ => ?_))
   | exact ih0 _ _ _ _ _ _ _ _ _
   | exact ih1 _ _ _ _ _ _ _
   | exact LeO.none _
   | refine LeO.ite ?_ ?_
   | refine LeO.bind ?_ (fun _ => ?_)
set_option maxHeartbeats 8000000 in
set_option maxRecDepth 100000 in
theorem span_one.calls (k : Nat) (a0_0 : Int) (a0_1 : Int) (a0_2 : Int) (a0_3 : Bool) (a0_4 : ByteArray) (a0_5 : Int) (r : Bool) (w : World) (h : span_one.f k a0_0 a0_1 a0_2 a0_3 a0_4 a0_5 = some r) :
  Calls Try.prog 24 #[.agg #[.int .i64 a0_0, .int .i64 a0_1, .int .i64 a0_2, .bool a0_3, .string a0_4, .int .u64 a0_5]] w fun e w' => e = .returned (.bool r) ∧ Below w.heap.size w w' := by
 have hu33 := Try.underlying33
 have HB := Aside0.mk (Below.refl w.heap.size w)
 have H : ((scale_Cells.f a0_5).bind fun bt137 => (if a0_2 < 0 then (span_one.j0 k bt137.1 bt137.2 true a0_0 a0_1 a0_2 a0_3 a0_4 a0_5) else (if a0_2 > 2 then (span_one.j0 k bt137.1 bt137.2 true a0_0 a0_1 a0_2 a0_3 a0_4 a0_5) else (if a0_0 < 0 then (span_one.j0 k bt137.1 bt137.2 true a0_0 a0_1 a0_2 a0_3 a0_4 a0_5) else (span_one.j0 k bt137.1 bt137.2 (decide (a0_0 ≥ a0_1)) a0_0 a0_1 a0_2 a0_3 a0_4 a0_5))))) = some r := h
 clear h
 replace H := Option.bind_eq_some_iff.mp H
 obtain ⟨⟨t137, t138⟩, A20, H⟩ := H
 replace H : (if a0_2 < 0 then (span_one.j0 k t137 t138 true a0_0 a0_1 a0_2 a0_3 a0_4 a0_5) else (if a0_2 > 2 then (span_one.j0 k t137 t138 true a0_0 a0_1 a0_2 a0_3 a0_4 a0_5) else (if a0_0 < 0 then (span_one.j0 k t137 t138 true a0_0 a0_1 a0_2 a0_3 a0_4 a0_5) else (span_one.j0 k t137 t138 (decide (a0_0 ≥ a0_1)) a0_0 a0_1 a0_2 a0_3 a0_4 a0_5)))) = some r := H
 have A2 := Aside0.mk A20
 clear A20
 have HC3 := Aside0.mk H
 clear H
 go_enter Try.func24, Try.ntmps24
 go_upto_region 2 with (first | ((with_reducible refine gate_dst (N := 1) rfl ?_); refine box_event ?hg (N := 1) ?hd (cs := #[.int .i64 a0_0, .int .i64 a0_1, .int .i64 a0_2, .bool a0_3, .string a0_4, .int .u64 a0_5]) (t := 33) ?hr ?_; (case hd => rfl); (case hg => rfl); (case hr => first | (go_simp; done) | (go_simp; rfl)); intro gb136 hg w4 hbox hb; have n0_ := Aside0.mk (below_step (by repeat (first | (with_reducible first | exact HB.out | apply below_alloc | apply pw_below_drewN | apply below_drew1) | exact HB.out)) hb); have n1_ := Aside0.mk (hbox); have n2_ := Aside0.mk ((by rw [hg]; exact (below_size (by repeat (first | (with_reducible first | exact HB.out | apply below_alloc | apply pw_below_drewN | apply below_drew1) | exact HB.out))) : w.heap.size ≤ gb136)); have n3_ := Aside0.mk ((by rw [hg]; exact (below_size (by repeat (first | (with_reducible first | exact HB.out | apply below_alloc | apply pw_below_drewN | apply below_drew1) | exact HB.out))) : w.heap.size ≤ gb136)); clear HB; have HB := n0_; have BK136 := n1_; have GW136 := n2_; have GE136 := n3_; clear n0_ n1_ n2_ n3_; clear hb hbox hg; have hcz5_0 : w4.cell? ⟨gb136, 0, none⟩ = some (.int .i64 a0_0) := (blk_cell BK136.out 0).trans rfl; have hcz5_1 : w4.cell? ⟨gb136, 1, none⟩ = some (.int .i64 a0_1) := (blk_cell BK136.out 1).trans rfl; have hcz5_2 : w4.cell? ⟨gb136, 2, none⟩ = some (.int .i64 a0_2) := (blk_cell BK136.out 2).trans rfl; have hcz5_3 : w4.cell? ⟨gb136, 3, none⟩ = some (.bool a0_3) := (blk_cell BK136.out 3).trans rfl; have hcz5_4 : w4.cell? ⟨gb136, 4, none⟩ = some (.string a0_4) := (blk_cell BK136.out 4).trans rfl; have hcz5_5 : w4.cell? ⟨gb136, 5, none⟩ = some (.int .u64 a0_5) := (blk_cell BK136.out 5).trans rfl; have hfz5_0 := blk_frozen BK136.out 0; have hfz5_1 := blk_frozen BK136.out 1; have hfz5_2 := blk_frozen BK136.out 2; have hfz5_3 := blk_frozen BK136.out 3; have hfz5_4 := blk_frozen BK136.out 4; have hfz5_5 := blk_frozen BK136.out 5) | ((with_reducible refine gate_callee (f := 27) rfl ?_); refine goesL_ (some 8) rfl rfl Try.func27 (by kernel_rfl) rfl #[.int .u64 a0_5] rfl (by (try simp only [List.map_toArray, List.map_cons, List.map_nil]); first | done | rfl | (simp only [List.length_drop, List.length_take]; rfl)) ?_; (with_reducible refine (scale_Cells.calls a0_5 t137 t138 _ A2.out).mono ?_); rintro e w' ⟨rfl, ⟨nd, rfl⟩⟩; refine ⟨_, rfl, ?_⟩))
 (try simp only [Act.put, List.setIfInBounds_toArray, List.set_cons_zero, List.set_cons_succ])
 go_cut [11] (fun v11 wc => ∃ (kq : Nat) (x11_2 : Bool), v11 = .bool x11_2 ∧ Aside0 (span_one.j0 kq t137 t138 x11_2 a0_0 a0_1 a0_2 a0_3 a0_4 a0_5 = some r) ∧ Aside0 (kq ≤ k) ∧ Aside0 (wc.heap[gb136]? = some (.cells #[.int .i64 a0_0, .int .i64 a0_1, .int .i64 a0_2, .bool a0_3, .string a0_4, .int .u64 a0_5] 33 (0, 0))) ∧ Aside0 (Below w.heap.size w wc))
 case first =>
  have H := HC3.out
  clear HC3
  by_cases c6 : a0_2 < 0
  ·rw [if_pos c6] at H
   have c6b0 : decide (a0_2 < 0) = true := decide_eq_true c6
   clear c6
   (first | rw [c6b0] | (simp only [i64_w, i32_w]; rw [c6b0]) | skip)
   have H' := Aside0.mk H
   clear H
   have hcz7_0 : w4.cell? ⟨gb136, 0, none⟩ = some (.int .i64 a0_0) := (blk_cell BK136.out 0).trans rfl
   have hcz7_1 : w4.cell? ⟨gb136, 1, none⟩ = some (.int .i64 a0_1) := (blk_cell BK136.out 1).trans rfl
   have hcz7_2 : w4.cell? ⟨gb136, 2, none⟩ = some (.int .i64 a0_2) := (blk_cell BK136.out 2).trans rfl
   have hcz7_3 : w4.cell? ⟨gb136, 3, none⟩ = some (.bool a0_3) := (blk_cell BK136.out 3).trans rfl
   have hcz7_4 : w4.cell? ⟨gb136, 4, none⟩ = some (.string a0_4) := (blk_cell BK136.out 4).trans rfl
   have hcz7_5 : w4.cell? ⟨gb136, 5, none⟩ = some (.int .u64 a0_5) := (blk_cell BK136.out 5).trans rfl
   have hfz7_0 := blk_frozen BK136.out 0
   have hfz7_1 := blk_frozen BK136.out 1
   have hfz7_2 := blk_frozen BK136.out 2
   have hfz7_3 := blk_frozen BK136.out 3
   have hfz7_4 := blk_frozen BK136.out 4
   have hfz7_5 := blk_frozen BK136.out 5
   go_wp2
   go_meet
   case rel => exact ⟨_, (true), (by first | rfl | (simp; done) | (simp [*]; done)), H', ⟨by first | omega | exact Nat.le_refl _⟩, ⟨by (with_reducible repeat (first | refine blk_drewN ?_ _ | refine blk_drew ?_ | refine blk_alloc ?_ _)); exact BK136.out⟩, ⟨by repeat (first | (with_reducible first | exact HB.out | apply below_alloc | apply pw_below_drewN | apply below_drew1 | refine below_set ?_ GE136.out) | exact HB.out)⟩⟩
  ·rw [if_neg c6] at H
   have c6b0 : decide (a0_2 < 0) = false := decide_eq_false c6
   clear c6
   (first | rw [c6b0] | (simp only [i64_w, i32_w]; rw [c6b0]) | skip)
   by_cases c8 : a0_2 > 2
   ·rw [if_pos c8] at H
    have c8b0 : decide (2 < a0_2) = true := decide_eq_true c8
    clear c8
    have H' := Aside0.mk H
    clear H
    have hcz9_0 : w4.cell? ⟨gb136, 0, none⟩ = some (.int .i64 a0_0) := (blk_cell BK136.out 0).trans rfl
    have hcz9_1 : w4.cell? ⟨gb136, 1, none⟩ = some (.int .i64 a0_1) := (blk_cell BK136.out 1).trans rfl
    have hcz9_2 : w4.cell? ⟨gb136, 2, none⟩ = some (.int .i64 a0_2) := (blk_cell BK136.out 2).trans rfl
    have hcz9_3 : w4.cell? ⟨gb136, 3, none⟩ = some (.bool a0_3) := (blk_cell BK136.out 3).trans rfl
    have hcz9_4 : w4.cell? ⟨gb136, 4, none⟩ = some (.string a0_4) := (blk_cell BK136.out 4).trans rfl
    have hcz9_5 : w4.cell? ⟨gb136, 5, none⟩ = some (.int .u64 a0_5) := (blk_cell BK136.out 5).trans rfl
    have hfz9_0 := blk_frozen BK136.out 0
    have hfz9_1 := blk_frozen BK136.out 1
    have hfz9_2 := blk_frozen BK136.out 2
    have hfz9_3 := blk_frozen BK136.out 3
    have hfz9_4 := blk_frozen BK136.out 4
    have hfz9_5 := blk_frozen BK136.out 5
    go_wp2
    go_meet
    case rel => exact ⟨_, (true), (by first | rfl | (simp; done) | (simp [*]; done)), H', ⟨by first | omega | exact Nat.le_refl _⟩, ⟨by (with_reducible repeat (first | refine blk_drewN ?_ _ | refine blk_drew ?_ | refine blk_alloc ?_ _)); exact BK136.out⟩, ⟨by repeat (first | (with_reducible first | exact HB.out | apply below_alloc | apply pw_below_drewN | apply below_drew1 | refine below_set ?_ GE136.out) | exact HB.out)⟩⟩
   ·rw [if_neg c8] at H
    have c8b0 : decide (2 < a0_2) = false := decide_eq_false c8
    clear c8
    by_cases c10 : a0_0 < 0
    ·rw [if_pos c10] at H
     have c10b0 : decide (a0_0 < 0) = true := decide_eq_true c10
     clear c10
     have H' := Aside0.mk H
     clear H
     have hcz11_0 : w4.cell? ⟨gb136, 0, none⟩ = some (.int .i64 a0_0) := (blk_cell BK136.out 0).trans rfl
     have hcz11_1 : w4.cell? ⟨gb136, 1, none⟩ = some (.int .i64 a0_1) := (blk_cell BK136.out 1).trans rfl
     have hcz11_2 : w4.cell? ⟨gb136, 2, none⟩ = some (.int .i64 a0_2) := (blk_cell BK136.out 2).trans rfl
     have hcz11_3 : w4.cell? ⟨gb136, 3, none⟩ = some (.bool a0_3) := (blk_cell BK136.out 3).trans rfl
     have hcz11_4 : w4.cell? ⟨gb136, 4, none⟩ = some (.string a0_4) := (blk_cell BK136.out 4).trans rfl
     have hcz11_5 : w4.cell? ⟨gb136, 5, none⟩ = some (.int .u64 a0_5) := (blk_cell BK136.out 5).trans rfl
     have hfz11_0 := blk_frozen BK136.out 0
     have hfz11_1 := blk_frozen BK136.out 1
     have hfz11_2 := blk_frozen BK136.out 2
     have hfz11_3 := blk_frozen BK136.out 3
     have hfz11_4 := blk_frozen BK136.out 4
     have hfz11_5 := blk_frozen BK136.out 5
     go_wp2
     go_meet
     case rel => exact ⟨_, (true), (by first | rfl | (simp; done) | (simp [*]; done)), H', ⟨by first | omega | exact Nat.le_refl _⟩, ⟨by (with_reducible repeat (first | refine blk_drewN ?_ _ | refine blk_drew ?_ | refine blk_alloc ?_ _)); exact BK136.out⟩, ⟨by repeat (first | (with_reducible first | exact HB.out | apply below_alloc | apply pw_below_drewN | apply below_drew1 | refine below_set ?_ GE136.out) | exact HB.out)⟩⟩
    ·rw [if_neg c10] at H
     have c10b0 : decide (a0_0 < 0) = false := decide_eq_false c10
     clear c10
     have H' := Aside0.mk H
     clear H
     have hcz12_0 : w4.cell? ⟨gb136, 0, none⟩ = some (.int .i64 a0_0) := (blk_cell BK136.out 0).trans rfl
     have hcz12_1 : w4.cell? ⟨gb136, 1, none⟩ = some (.int .i64 a0_1) := (blk_cell BK136.out 1).trans rfl
     have hcz12_2 : w4.cell? ⟨gb136, 2, none⟩ = some (.int .i64 a0_2) := (blk_cell BK136.out 2).trans rfl
     have hcz12_3 : w4.cell? ⟨gb136, 3, none⟩ = some (.bool a0_3) := (blk_cell BK136.out 3).trans rfl
     have hcz12_4 : w4.cell? ⟨gb136, 4, none⟩ = some (.string a0_4) := (blk_cell BK136.out 4).trans rfl
     have hcz12_5 : w4.cell? ⟨gb136, 5, none⟩ = some (.int .u64 a0_5) := (blk_cell BK136.out 5).trans rfl
     have hfz12_0 := blk_frozen BK136.out 0
     have hfz12_1 := blk_frozen BK136.out 1
     have hfz12_2 := blk_frozen BK136.out 2
     have hfz12_3 := blk_frozen BK136.out 3
     have hfz12_4 := blk_frozen BK136.out 4
     have hfz12_5 := blk_frozen BK136.out 5
     go_wp2
     go_meet
     case rel => exact ⟨_, (decide (a0_0 ≥ a0_1)), (by first | rfl | (simp; done) | (simp [*]; done)), H', ⟨by first | omega | exact Nat.le_refl _⟩, ⟨by (with_reducible repeat (first | refine blk_drewN ?_ _ | refine blk_drew ?_ | refine blk_alloc ?_ _)); exact BK136.out⟩, ⟨by repeat (first | (with_reducible first | exact HB.out | apply below_alloc | apply pw_below_drewN | apply below_drew1 | refine below_set ?_ GE136.out) | exact HB.out)⟩⟩
 case rest =>
  clear HC3
  try clear c1
  try clear c2
  try clear p2
  try clear c6
  try clear c6b0
  try clear c8
  try clear c8b0
  try clear c10
  try clear c10b0
  try clear hcz11_0
  try clear hcz11_1
  try clear hcz11_2
  try clear hcz11_3
  try clear hcz11_4
  try clear hcz11_5
  try clear hcz12_0
  try clear hcz12_1
  try clear hcz12_2
  try clear hcz12_3
  try clear hcz12_4
  try clear hcz12_5
  try clear hcz5_0
  try clear hcz5_1
  try clear hcz5_2
  try clear hcz5_3
  try clear hcz5_4
  try clear hcz5_5
  try clear hcz7_0
  try clear hcz7_1
  try clear hcz7_2
  try clear hcz7_3
  try clear hcz7_4
  try clear hcz7_5
  try clear hcz9_0
  try clear hcz9_1
  try clear hcz9_2
  try clear hcz9_3
  try clear hcz9_4
  try clear hcz9_5
  try clear hfz11_0
  try clear hfz11_1
  try clear hfz11_2
  try clear hfz11_3
  try clear hfz11_4
  try clear hfz11_5
  try clear hfz12_0
  try clear hfz12_1
  try clear hfz12_2
  try clear hfz12_3
  try clear hfz12_4
  try clear hfz12_5
  try clear hfz5_0
  try clear hfz5_1
  try clear hfz5_2
  try clear hfz5_3
  try clear hfz5_4
  try clear hfz5_5
  try clear hfz7_0
  try clear hfz7_1
  try clear hfz7_2
  try clear hfz7_3
  try clear hfz7_4
  try clear hfz7_5
  try clear hfz9_0
  try clear hfz9_1
  try clear hfz9_2
  try clear hfz9_3
  try clear hfz9_4
  try clear hfz9_5
  obtain ⟨kq, x11_2, rfl, HA, HJ2, BK136, HB⟩ := hcut
  cases kq with
  | zero => exact absurd HA.out (by simp [span_one.j0])
  | succ kj2 =>
   have H := HA.out
   clear HA
   simp only [span_one.j0] at H
   by_cases c13 : x11_2 = true
   ·subst c13
    have H1 : (some false) = some r := by rw [if_pos rfl] at H; exact H
    clear H
    have H := H1
    clear H1
    obtain rfl := Option.some.inj H
    go_wp2
    go_ret
    exact ⟨by first | rfl | (simp [errW_none, errW_some] <;> rfl) | (simp [*, errW_none, errW_some] <;> rfl), by repeat (first | (with_reducible first | exact HB.out | apply below_alloc | apply pw_below_drewN | apply below_drew1 | refine below_set ?_ GE136.out) | exact HB.out)⟩
   ·replace c13 := Bool.eq_false_iff.mpr c13
    subst c13
    have H1 : (if a0_5 = 0 then (span_one.j1 kj2 false a0_0 a0_1 a0_2 a0_3 a0_4 a0_5) else (if t138 = 0 then (span_one.j1 kj2 (t137 == 0) a0_0 a0_1 a0_2 a0_3 a0_4 a0_5) else (span_one.j1 kj2 true a0_0 a0_1 a0_2 a0_3 a0_4 a0_5))) = some r := by rw [if_neg (show ¬ (false = true) by decide)] at H; exact H
    clear H
    have H := H1
    clear H1
    have HC14 := Aside0.mk H
    clear H
    go_upto_region 4 with (fail)
    go_cut [32] (fun v32 wc => ∃ (kq : Nat) (x32_13 : Bool), v32 = .bool x32_13 ∧ Aside0 (span_one.j1 kq x32_13 a0_0 a0_1 a0_2 a0_3 a0_4 a0_5 = some r) ∧ Aside0 (kq ≤ kj2) ∧ Aside0 (wc.heap[gb136]? = some (.cells #[.int .i64 a0_0, .int .i64 a0_1, .int .i64 a0_2, .bool a0_3, .string a0_4, .int .u64 a0_5] 33 (0, 0))) ∧ Aside0 (Below w.heap.size w wc))
    case first =>
     have H := HC14.out
     clear HC14
     by_cases c15 : a0_5 = 0
     ·rw [if_pos c15] at H
      have c15b0 : (a0_5 == 0) = true := beq_iff_eq.mpr c15
      have c15b1 : (a0_5 != 0) = false := bne_eq_false_iff_eq.mpr c15
      clear c15
      (first | rw [c15b0] | (simp only [i64_w, i32_w]; rw [c15b0]) | skip)
      have H' := Aside0.mk H
      clear H
      have hcz16_0 : wc.cell? ⟨gb136, 0, none⟩ = some (.int .i64 a0_0) := (blk_cell BK136.out 0).trans rfl
      have hcz16_1 : wc.cell? ⟨gb136, 1, none⟩ = some (.int .i64 a0_1) := (blk_cell BK136.out 1).trans rfl
      have hcz16_2 : wc.cell? ⟨gb136, 2, none⟩ = some (.int .i64 a0_2) := (blk_cell BK136.out 2).trans rfl
      have hcz16_3 : wc.cell? ⟨gb136, 3, none⟩ = some (.bool a0_3) := (blk_cell BK136.out 3).trans rfl
      have hcz16_4 : wc.cell? ⟨gb136, 4, none⟩ = some (.string a0_4) := (blk_cell BK136.out 4).trans rfl
      have hcz16_5 : wc.cell? ⟨gb136, 5, none⟩ = some (.int .u64 a0_5) := (blk_cell BK136.out 5).trans rfl
      have hfz16_0 := blk_frozen BK136.out 0
      have hfz16_1 := blk_frozen BK136.out 1
      have hfz16_2 := blk_frozen BK136.out 2
      have hfz16_3 := blk_frozen BK136.out 3
      have hfz16_4 := blk_frozen BK136.out 4
      have hfz16_5 := blk_frozen BK136.out 5
      go_wp2
      go_meet
      case rel => exact ⟨_, (false), (by first | rfl | (simp; done) | (simp [*]; done)), H', ⟨by have := HJ2.out; first | omega | exact Nat.le_refl _⟩, ⟨by (with_reducible repeat (first | refine blk_drewN ?_ _ | refine blk_drew ?_ | refine blk_alloc ?_ _)); exact BK136.out⟩, ⟨by repeat (first | (with_reducible first | exact HB.out | apply below_alloc | apply pw_below_drewN | apply below_drew1 | refine below_set ?_ GE136.out) | exact HB.out)⟩⟩
     ·rw [if_neg c15] at H
      have c15b0 : (a0_5 == 0) = false := beq_eq_false_iff_ne.mpr c15
      have c15b1 : (a0_5 != 0) = true := bne_iff_ne.mpr c15
      (first | rw [c15b0] | (simp only [i64_w, i32_w]; rw [c15b0]) | skip)
      by_cases c17 : t138 = 0
      ·rw [if_pos c17] at H
       have c17b0 : (t138 == 0) = true := beq_iff_eq.mpr c17
       have c17b1 : (t138 != 0) = false := bne_eq_false_iff_eq.mpr c17
       clear c17
       have H' := Aside0.mk H
       clear H
       have hcz18_0 : wc.cell? ⟨gb136, 0, none⟩ = some (.int .i64 a0_0) := (blk_cell BK136.out 0).trans rfl
       have hcz18_1 : wc.cell? ⟨gb136, 1, none⟩ = some (.int .i64 a0_1) := (blk_cell BK136.out 1).trans rfl
       have hcz18_2 : wc.cell? ⟨gb136, 2, none⟩ = some (.int .i64 a0_2) := (blk_cell BK136.out 2).trans rfl
       have hcz18_3 : wc.cell? ⟨gb136, 3, none⟩ = some (.bool a0_3) := (blk_cell BK136.out 3).trans rfl
       have hcz18_4 : wc.cell? ⟨gb136, 4, none⟩ = some (.string a0_4) := (blk_cell BK136.out 4).trans rfl
       have hcz18_5 : wc.cell? ⟨gb136, 5, none⟩ = some (.int .u64 a0_5) := (blk_cell BK136.out 5).trans rfl
       have hfz18_0 := blk_frozen BK136.out 0
       have hfz18_1 := blk_frozen BK136.out 1
       have hfz18_2 := blk_frozen BK136.out 2
       have hfz18_3 := blk_frozen BK136.out 3
       have hfz18_4 := blk_frozen BK136.out 4
       have hfz18_5 := blk_frozen BK136.out 5
       go_wp2
       go_meet
       case rel => exact ⟨_, ((t137 == 0)), (by first | rfl | (simp; done) | (simp [*]; done)), H', ⟨by have := HJ2.out; first | omega | exact Nat.le_refl _⟩, ⟨by (with_reducible repeat (first | refine blk_drewN ?_ _ | refine blk_drew ?_ | refine blk_alloc ?_ _)); exact BK136.out⟩, ⟨by repeat (first | (with_reducible first | exact HB.out | apply below_alloc | apply pw_below_drewN | apply below_drew1 | refine below_set ?_ GE136.out) | exact HB.out)⟩⟩
      ·rw [if_neg c17] at H
       have c17b0 : (t138 == 0) = false := beq_eq_false_iff_ne.mpr c17
       have c17b1 : (t138 != 0) = true := bne_iff_ne.mpr c17
       have H' := Aside0.mk H
       clear H
       have hcz19_0 : wc.cell? ⟨gb136, 0, none⟩ = some (.int .i64 a0_0) := (blk_cell BK136.out 0).trans rfl
       have hcz19_1 : wc.cell? ⟨gb136, 1, none⟩ = some (.int .i64 a0_1) := (blk_cell BK136.out 1).trans rfl
       have hcz19_2 : wc.cell? ⟨gb136, 2, none⟩ = some (.int .i64 a0_2) := (blk_cell BK136.out 2).trans rfl
       have hcz19_3 : wc.cell? ⟨gb136, 3, none⟩ = some (.bool a0_3) := (blk_cell BK136.out 3).trans rfl
       have hcz19_4 : wc.cell? ⟨gb136, 4, none⟩ = some (.string a0_4) := (blk_cell BK136.out 4).trans rfl
       have hcz19_5 : wc.cell? ⟨gb136, 5, none⟩ = some (.int .u64 a0_5) := (blk_cell BK136.out 5).trans rfl
       have hfz19_0 := blk_frozen BK136.out 0
       have hfz19_1 := blk_frozen BK136.out 1
       have hfz19_2 := blk_frozen BK136.out 2
       have hfz19_3 := blk_frozen BK136.out 3
       have hfz19_4 := blk_frozen BK136.out 4
       have hfz19_5 := blk_frozen BK136.out 5
       go_wp2
       go_meet
       case rel => exact ⟨_, (true), (by first | rfl | (simp; done) | (simp [*]; done)), H', ⟨by have := HJ2.out; first | omega | exact Nat.le_refl _⟩, ⟨by (with_reducible repeat (first | refine blk_drewN ?_ _ | refine blk_drew ?_ | refine blk_alloc ?_ _)); exact BK136.out⟩, ⟨by repeat (first | (with_reducible first | exact HB.out | apply below_alloc | apply pw_below_drewN | apply below_drew1 | refine below_set ?_ GE136.out) | exact HB.out)⟩⟩
    case rest =>
     clear HC14
     try clear c1
     try clear c2
     try clear p2
     try clear c6
     try clear c6b0
     try clear c8
     try clear c8b0
     try clear c10
     try clear c10b0
     try clear c13
     try clear c15
     try clear c15b0
     try clear c15b1
     try clear c17
     try clear c17b0
     try clear c17b1
     try clear hcz11_0
     try clear hcz11_1
     try clear hcz11_2
     try clear hcz11_3
     try clear hcz11_4
     try clear hcz11_5
     try clear hcz12_0
     try clear hcz12_1
     try clear hcz12_2
     try clear hcz12_3
     try clear hcz12_4
     try clear hcz12_5
     try clear hcz16_0
     try clear hcz16_1
     try clear hcz16_2
     try clear hcz16_3
     try clear hcz16_4
     try clear hcz16_5
     try clear hcz18_0
     try clear hcz18_1
     try clear hcz18_2
     try clear hcz18_3
     try clear hcz18_4
     try clear hcz18_5
     try clear hcz19_0
     try clear hcz19_1
     try clear hcz19_2
     try clear hcz19_3
     try clear hcz19_4
     try clear hcz19_5
     try clear hcz5_0
     try clear hcz5_1
     try clear hcz5_2
     try clear hcz5_3
     try clear hcz5_4
     try clear hcz5_5
     try clear hcz7_0
     try clear hcz7_1
     try clear hcz7_2
     try clear hcz7_3
     try clear hcz7_4
     try clear hcz7_5
     try clear hcz9_0
     try clear hcz9_1
     try clear hcz9_2
     try clear hcz9_3
     try clear hcz9_4
     try clear hcz9_5
     try clear hfz11_0
     try clear hfz11_1
     try clear hfz11_2
     try clear hfz11_3
     try clear hfz11_4
     try clear hfz11_5
     try clear hfz12_0
     try clear hfz12_1
     try clear hfz12_2
     try clear hfz12_3
     try clear hfz12_4
     try clear hfz12_5
     try clear hfz16_0
     try clear hfz16_1
     try clear hfz16_2
     try clear hfz16_3
     try clear hfz16_4
     try clear hfz16_5
     try clear hfz18_0
     try clear hfz18_1
     try clear hfz18_2
     try clear hfz18_3
     try clear hfz18_4
     try clear hfz18_5
     try clear hfz19_0
     try clear hfz19_1
     try clear hfz19_2
     try clear hfz19_3
     try clear hfz19_4
     try clear hfz19_5
     try clear hfz5_0
     try clear hfz5_1
     try clear hfz5_2
     try clear hfz5_3
     try clear hfz5_4
     try clear hfz5_5
     try clear hfz7_0
     try clear hfz7_1
     try clear hfz7_2
     try clear hfz7_3
     try clear hfz7_4
     try clear hfz7_5
     try clear hfz9_0
     try clear hfz9_1
     try clear hfz9_2
     try clear hfz9_3
     try clear hfz9_4
     try clear hfz9_5
     try clear p2
     obtain ⟨kq, x32_13, rfl, HA, HJ13, BK136, HB⟩ := hcut
     cases kq with
     | zero => exact absurd HA.out (by simp [span_one.j1])
     | succ kj13 =>
      have H := HA.out
      clear HA
      simp only [span_one.j1] at H
      by_cases c20 : x32_13 = true
      ·subst c20
       have H1 : (some false) = some r := by rw [if_pos rfl] at H; exact H
       clear H
       have H := H1
       clear H1
       obtain rfl := Option.some.inj H
       go_wp2
       go_ret
       exact ⟨by first | rfl | (simp [errW_none, errW_some] <;> rfl) | (simp [*, errW_none, errW_some] <;> rfl), by repeat (first | (with_reducible first | exact HB.out | apply below_alloc | apply pw_below_drewN | apply below_drew1 | refine below_set ?_ GE136.out) | exact HB.out)⟩
      ·replace c20 := Bool.eq_false_iff.mpr c20
       subst c20
       have H1 : (if a0_3 = true then (if (wrap64 (a0_1 - a0_0)) ≤ 4 then (some (a0_4.toList == ([] : List UInt8))) else (some false)) else ((span_ruby.f a0_4).bind fun t139 => (some t139))) = some r := by rw [if_neg (show ¬ (false = true) by decide)] at H; exact H
       clear H
       have H := H1
       clear H1
       by_cases c21 : a0_3 = true
       ·subst c21
        have H1 : (if (wrap64 (a0_1 - a0_0)) ≤ 4 then (some (a0_4.toList == ([] : List UInt8))) else (some false)) = some r := by rw [if_pos rfl] at H; exact H
        clear H
        have H := H1
        clear H1
        by_cases c22 : (wrap64 (a0_1 - a0_0)) ≤ 4
        ·rw [if_pos c22] at H
         have c22b0 : decide ((wrap64 (a0_1 - a0_0)) ≤ 4) = true := decide_eq_true c22
         clear c22
         obtain rfl := Option.some.inj H
         have hcz23_0 : wc.cell? ⟨gb136, 0, none⟩ = some (.int .i64 a0_0) := (blk_cell BK136.out 0).trans rfl
         have hcz23_1 : wc.cell? ⟨gb136, 1, none⟩ = some (.int .i64 a0_1) := (blk_cell BK136.out 1).trans rfl
         have hcz23_2 : wc.cell? ⟨gb136, 2, none⟩ = some (.int .i64 a0_2) := (blk_cell BK136.out 2).trans rfl
         have hcz23_3 : wc.cell? ⟨gb136, 3, none⟩ = some (.bool true) := (blk_cell BK136.out 3).trans rfl
         have hcz23_4 : wc.cell? ⟨gb136, 4, none⟩ = some (.string a0_4) := (blk_cell BK136.out 4).trans rfl
         have hcz23_5 : wc.cell? ⟨gb136, 5, none⟩ = some (.int .u64 a0_5) := (blk_cell BK136.out 5).trans rfl
         have hfz23_0 := blk_frozen BK136.out 0
         have hfz23_1 := blk_frozen BK136.out 1
         have hfz23_2 := blk_frozen BK136.out 2
         have hfz23_3 := blk_frozen BK136.out 3
         have hfz23_4 := blk_frozen BK136.out 4
         have hfz23_5 := blk_frozen BK136.out 5
         go_wp2
         go_ret
         exact ⟨by first | rfl | (simp [errW_none, errW_some] <;> rfl) | (simp [*, errW_none, errW_some] <;> rfl), by repeat (first | (with_reducible first | exact HB.out | apply below_alloc | apply pw_below_drewN | apply below_drew1 | refine below_set ?_ GE136.out) | exact HB.out)⟩
        ·rw [if_neg c22] at H
         have c22b0 : decide ((wrap64 (a0_1 - a0_0)) ≤ 4) = false := decide_eq_false c22
         clear c22
         obtain rfl := Option.some.inj H
         have hcz24_0 : wc.cell? ⟨gb136, 0, none⟩ = some (.int .i64 a0_0) := (blk_cell BK136.out 0).trans rfl
         have hcz24_1 : wc.cell? ⟨gb136, 1, none⟩ = some (.int .i64 a0_1) := (blk_cell BK136.out 1).trans rfl
         have hcz24_2 : wc.cell? ⟨gb136, 2, none⟩ = some (.int .i64 a0_2) := (blk_cell BK136.out 2).trans rfl
         have hcz24_3 : wc.cell? ⟨gb136, 3, none⟩ = some (.bool true) := (blk_cell BK136.out 3).trans rfl
         have hcz24_4 : wc.cell? ⟨gb136, 4, none⟩ = some (.string a0_4) := (blk_cell BK136.out 4).trans rfl
         have hcz24_5 : wc.cell? ⟨gb136, 5, none⟩ = some (.int .u64 a0_5) := (blk_cell BK136.out 5).trans rfl
         have hfz24_0 := blk_frozen BK136.out 0
         have hfz24_1 := blk_frozen BK136.out 1
         have hfz24_2 := blk_frozen BK136.out 2
         have hfz24_3 := blk_frozen BK136.out 3
         have hfz24_4 := blk_frozen BK136.out 4
         have hfz24_5 := blk_frozen BK136.out 5
         go_wp2
         go_ret
         exact ⟨by first | rfl | (simp [errW_none, errW_some] <;> rfl) | (simp [*, errW_none, errW_some] <;> rfl), by repeat (first | (with_reducible first | exact HB.out | apply below_alloc | apply pw_below_drewN | apply below_drew1 | refine below_set ?_ GE136.out) | exact HB.out)⟩
       ·replace c21 := Bool.eq_false_iff.mpr c21
        subst c21
        have H1 : ((span_ruby.f a0_4).bind fun t139 => (some t139)) = some r := by rw [if_neg (show ¬ (false = true) by decide)] at H; exact H
        clear H
        have H := H1
        clear H1
        replace H := Option.bind_eq_some_iff.mp H
        obtain ⟨t139, A250, H⟩ := H
        replace H : (some t139) = some r := H
        have A25 := Aside0.mk A250
        clear A250
        obtain rfl := Option.some.inj H
        have hcz26_0 : wc.cell? ⟨gb136, 0, none⟩ = some (.int .i64 a0_0) := (blk_cell BK136.out 0).trans rfl
        have hcz26_1 : wc.cell? ⟨gb136, 1, none⟩ = some (.int .i64 a0_1) := (blk_cell BK136.out 1).trans rfl
        have hcz26_2 : wc.cell? ⟨gb136, 2, none⟩ = some (.int .i64 a0_2) := (blk_cell BK136.out 2).trans rfl
        have hcz26_3 : wc.cell? ⟨gb136, 3, none⟩ = some (.bool false) := (blk_cell BK136.out 3).trans rfl
        have hcz26_4 : wc.cell? ⟨gb136, 4, none⟩ = some (.string a0_4) := (blk_cell BK136.out 4).trans rfl
        have hcz26_5 : wc.cell? ⟨gb136, 5, none⟩ = some (.int .u64 a0_5) := (blk_cell BK136.out 5).trans rfl
        have hfz26_0 := blk_frozen BK136.out 0
        have hfz26_1 := blk_frozen BK136.out 1
        have hfz26_2 := blk_frozen BK136.out 2
        have hfz26_3 := blk_frozen BK136.out 3
        have hfz26_4 := blk_frozen BK136.out 4
        have hfz26_5 := blk_frozen BK136.out 5
        go_wp2_with (first | ((with_reducible refine gate_callee (f := 28) rfl ?_); refine goesL_ (some 60) rfl rfl Try.func28 (by kernel_rfl) rfl #[.string a0_4] rfl (by (try simp only [List.map_toArray, List.map_cons, List.map_nil]); first | done | rfl | (simp only [List.length_drop, List.length_take]; rfl)) ?_; (with_reducible refine (span_ruby.calls a0_4 t139 _ A25.out).mono ?_); rintro e w27 ⟨rfl, hb⟩; refine ⟨_, rfl, ?_⟩; have n0_ := Aside0.mk (blk_below (g := gb136) (o := .cells #[.int .i64 a0_0, .int .i64 a0_1, .int .i64 a0_2, .bool false, .string a0_4, .int .u64 a0_5] 33 (0, 0)) (by (with_reducible repeat (first | refine blk_drewN ?_ _ | refine blk_drew ?_ | refine blk_alloc ?_ _)); exact BK136.out) hb); have n1_ := Aside0.mk (below_step (by repeat (first | (with_reducible first | exact HB.out | apply below_alloc | apply pw_below_drewN | apply below_drew1 | refine below_set ?_ GE136.out) | exact HB.out)) hb); clear BK136; clear HB; have BK136 := n0_; have HB := n1_; clear n0_ n1_; (try clear hb); (try clear hb2); (try clear hk); (try clear hi)))
        go_ret
        exact ⟨by first | rfl | (simp [errW_none, errW_some] <;> rfl) | (simp [*, errW_none, errW_some] <;> rfl), by repeat (first | (with_reducible first | exact HB.out | apply below_alloc | apply pw_below_drewN | apply below_drew1 | refine below_set ?_ GE136.out) | exact HB.out)⟩

end Go.Proofs.Ytdkblhfcndafaaa.X
