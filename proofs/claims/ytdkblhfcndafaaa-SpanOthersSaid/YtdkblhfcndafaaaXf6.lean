-- Printed by xprint.py (mine, in wip/tools) through the kit's print. Not trusted: Lean checks it.
import Derived.Test.YtdkblhfcndafaaaX0
import Derived.Test.YtdkblhfcndafaaaXe33
import Derived.Test.YtdkblhfcndafaaaXf16
import Derived.Test.YtdkblhfcndafaaaXf7
import Derived.Test.YtdkblhfcndafaaaXf8
import Derived.Test.YtdkblhfcndafaaaYins
namespace Go.Proofs.Ytdkblhfcndafaaa.X
open Go.RowKit Go.Proofs.YtdkblhfcndafaaaW.PrintWords Go.Proofs.YtdkblhfcndafaaaW.PrintLast Go.Proofs.YtdkblhfcndafaaaW.PrintMore
attribute [local go_sem] max2_int min2_int max_two min_two
set_option linter.unusedVariables false
set_option linter.unusedSimpArgs false

attribute [local go_sem high] eqA33
/-! ### frisketlaw07_SpanOthers: function 6 -/
mutual
def frisketlaw07_SpanOthers.j0 : Nat → List (S33) → Int → Bool → Int → Int → Int → Option (Bool)
 | 0, _, _, _, _, _, _ => none
 | k + 1, x0, x1, x25, x331000, x331001, x331002 => if x25 = true then ((frisketlaw07_alive.f k).bind fun t332 => (some t332)) else (if (Go.bits .and .i64 x331000 1023) ≥ x1 then (frisketlaw07_SpanOthers.j1 k x0 (Go.bits .and .i64 x331000 1023) (Go.bits .and .i64 x331001 1023) (Go.bits .and .i64 x331002 63) true) else (frisketlaw07_SpanOthers.j1 k x0 (Go.bits .and .i64 x331000 1023) (Go.bits .and .i64 x331001 1023) (Go.bits .and .i64 x331002 63) (decide ((Go.bits .and .i64 x331001 1023) > x1))))
def frisketlaw07_SpanOthers.j1 : Nat → List (S33) → Int → Int → Int → Bool → Option (Bool)
 | 0, _, _, _, _, _ => none
 | k + 1, x0, x8, x9, x10, x43 => if x43 = true then ((frisketlaw07_alive.f k).bind fun t333 => (some t333)) else ((span_Delete.f x0 x9 (wrap64 (x9 + x10))).bind fun t334 => ((span_Insert.f x0 x9 x10).bind fun t337 => ((span_Style.f x0 x8).bind fun bt340 => (if x8 ≥ (wrap64 (x9 + x10)) then (frisketlaw07_SpanOthers.j2 k x8 x9 x10 t334 t337 (wrap64 (x8 - x10)) bt340.1 bt340.2.1 bt340.2.2.1 bt340.2.2.2.1 bt340.2.2.2.2.1 bt340.2.2.2.2.2) else (frisketlaw07_SpanOthers.j2 k x8 x9 x10 t334 t337 x8 bt340.1 bt340.2.1 bt340.2.2.1 bt340.2.2.2.1 bt340.2.2.2.2.1 bt340.2.2.2.2.2)))))
def frisketlaw07_SpanOthers.j2 : Nat → Int → Int → Int → List (S33) → List (S33) → Int → Int → Int → Int → Bool → ByteArray → Int → Option (Bool)
 | 0, _, _, _, _, _, _, _, _, _, _, _, _ => none
 | k + 1, x8, x9, x10, x11, x12, x14, x347000, x347001, x347002, x347003, x347004, x347005 => if x8 ≥ x9 then (frisketlaw07_SpanOthers.j3 k x8 x9 x10 x11 x12 x14 (decide (x8 < (wrap64 (x9 + x10)))) x347000 x347001 x347002 x347003 x347004 x347005) else (frisketlaw07_SpanOthers.j3 k x8 x9 x10 x11 x12 x14 false x347000 x347001 x347002 x347003 x347004 x347005)
def frisketlaw07_SpanOthers.j3 : Nat → Int → Int → Int → List (S33) → List (S33) → Int → Bool → Int → Int → Int → Bool → ByteArray → Int → Option (Bool)
 | 0, _, _, _, _, _, _, _, _, _, _, _, _, _ => none
 | k + 1, x8, x9, x10, x11, x12, x14, x15, x347000, x347001, x347002, x347003, x347004, x347005 => if x8 ≥ x9 then ((frisketlaw07_alive.f k).bind fun t347 => (if t347 = true then (if x15 = true then (if x347003 = true then (some true) else ((span_Style.f x12 (wrap64 (x8 + x10))).bind fun bt348 => (some (bt348.1 == x347000 && (bt348.2.1 == x347001 && (bt348.2.2.1 == x347002 && (bt348.2.2.2.1 == x347003 && (bt348.2.2.2.2.1.toList == x347004.toList && (bt348.2.2.2.2.2 == x347005))))))))) else ((span_Style.f x11 x14).bind fun bt354 => (if (bt354.1 == x347000 && (bt354.2.1 == x347001 && (bt354.2.2.1 == x347002 && (bt354.2.2.2.1 == x347003 && (bt354.2.2.2.2.1.toList == x347004.toList && (bt354.2.2.2.2.2 == x347005)))))) = true then (if x347003 = true then (some true) else ((span_Style.f x12 (wrap64 (x8 + x10))).bind fun bt360 => (some (bt360.1 == x347000 && (bt360.2.1 == x347001 && (bt360.2.2.1 == x347002 && (bt360.2.2.2.1 == x347003 && (bt360.2.2.2.2.1.toList == x347004.toList && (bt360.2.2.2.2.2 == x347005))))))))) else (some false)))) else (some false))) else ((frisketlaw07_alive.f k).bind fun t366 => (if t366 = true then (if x15 = true then (if x347003 = true then (some true) else ((span_Style.f x12 x8).bind fun bt367 => (some (bt367.1 == x347000 && (bt367.2.1 == x347001 && (bt367.2.2.1 == x347002 && (bt367.2.2.2.1 == x347003 && (bt367.2.2.2.2.1.toList == x347004.toList && (bt367.2.2.2.2.2 == x347005))))))))) else ((span_Style.f x11 x14).bind fun bt373 => (if (bt373.1 == x347000 && (bt373.2.1 == x347001 && (bt373.2.2.1 == x347002 && (bt373.2.2.2.1 == x347003 && (bt373.2.2.2.2.1.toList == x347004.toList && (bt373.2.2.2.2.2 == x347005)))))) = true then (if x347003 = true then (some true) else ((span_Style.f x12 x8).bind fun bt379 => (some (bt379.1 == x347000 && (bt379.2.1 == x347001 && (bt379.2.2.1 == x347002 && (bt379.2.2.2.1 == x347003 && (bt379.2.2.2.2.1.toList == x347004.toList && (bt379.2.2.2.2.2 == x347005))))))))) else (some false)))) else (some false)))
end
def frisketlaw07_SpanOthers.f (k : Nat) (l0 : List (S33)) (a1 : Int) (a2_0 : Int) (a2_1 : Int) (a2_2 : Int) : Option (Bool) := (frisketlaw07_Fits.f k l0 a1).bind fun t331 => (if t331 = true then (frisketlaw07_SpanOthers.j0 k l0 a1 (a1 == 0) a2_0 a2_1 a2_2) else (frisketlaw07_SpanOthers.j0 k l0 a1 true a2_0 a2_1 a2_2))
abbrev Y' : Bool := true
abbrev N' : Bool := false
theorem frisketlaw07_SpanOthers.mono_l : ∀ k, (∀ y0 y1 y2 y3 y4 y5, LeO (frisketlaw07_SpanOthers.j0 k y0 y1 y2 y3 y4 y5) (frisketlaw07_SpanOthers.j0 (k + 1) y0 y1 y2 y3 y4 y5)) ∧ (∀ y0 y1 y2 y3 y4, LeO (frisketlaw07_SpanOthers.j1 k y0 y1 y2 y3 y4) (frisketlaw07_SpanOthers.j1 (k + 1) y0 y1 y2 y3 y4)) ∧ (∀ y0 y1 y2 y3 y4 y5 y6 y7 y8 y9 y10 y11, LeO (frisketlaw07_SpanOthers.j2 k y0 y1 y2 y3 y4 y5 y6 y7 y8 y9 y10 y11) (frisketlaw07_SpanOthers.j2 (k + 1) y0 y1 y2 y3 y4 y5 y6 y7 y8 y9 y10 y11)) ∧ (∀ y0 y1 y2 y3 y4 y5 y6 y7 y8 y9 y10 y11 y12, LeO (frisketlaw07_SpanOthers.j3 k y0 y1 y2 y3 y4 y5 y6 y7 y8 y9 y10 y11 y12) (frisketlaw07_SpanOthers.j3 (k + 1) y0 y1 y2 y3 y4 y5 y6 y7 y8 y9 y10 y11 y12))
 | 0 => ⟨fun _ _ _ _ _ _ r h => by simp [frisketlaw07_SpanOthers.j0] at h, fun _ _ _ _ _ r h => by simp [frisketlaw07_SpanOthers.j1] at h, fun _ _ _ _ _ _ _ _ _ _ _ _ r h => by simp [frisketlaw07_SpanOthers.j2] at h, fun _ _ _ _ _ _ _ _ _ _ _ _ _ r h => by simp [frisketlaw07_SpanOthers.j3] at h⟩
 | k + 1 => by
  obtain ⟨ih0, ih1, ih2, ih3⟩ := frisketlaw07_SpanOthers.mono_l k
  refine ⟨?_, ?_, ?_, ?_⟩
  ·intro y0 y1 y2 y3 y4 y5
   unfold frisketlaw07_SpanOthers.j0
   repeat' first
   | (with_reducible exact ih0 _ _ _ _ _ _)
   | (with_reducible exact ih1 _ _ _ _ _)
   | (with_reducible exact ih2 _ _ _ _ _ _ _ _ _ _ _ _)
   | (with_reducible exact ih3 _ _ _ _ _ _ _ _ _ _ _ _ _)
   | (with_reducible exact frisketlaw07_Fits.mono _ _ _)
   | (with_reducible exact frisketlaw07_alive.mono _)
   | (with_reducible exact LeO.refl _)
   | (with_reducible exact LeO.none _)
   | (with_reducible refine LeO.ite ?_ ?_)
   | (with_reducible refine LeO.bind ?_ (fun _ => ?_))
   | exact ih0 _ _ _ _ _ _
   | exact ih1 _ _ _ _ _
   | exact ih2 _ _ _ _ _ _ _ _ _ _ _ _
   | exact ih3 _ _ _ _ _ _ _ _ _ _ _ _ _
   | exact frisketlaw07_Fits.mono _ _ _
   | exact frisketlaw07_alive.mono _
   | exact LeO.none _
   | refine LeO.ite ?_ ?_
   | refine LeO.bind ?_ (fun _ => ?_)
  ·intro y0 y1 y2 y3 y4
   unfold frisketlaw07_SpanOthers.j1
   repeat' first
   | (with_reducible exact ih0 _ _ _ _ _ _)
   | (with_reducible exact ih1 _ _ _ _ _)
   | (with_reducible exact ih2 _ _ _ _ _ _ _ _ _ _ _ _)
   | (with_reducible exact ih3 _ _ _ _ _ _ _ _ _ _ _ _ _)
   | (with_reducible exact frisketlaw07_Fits.mono _ _ _)
   | (with_reducible exact frisketlaw07_alive.mono _)
   | (with_reducible exact LeO.refl _)
   | (with_reducible exact LeO.none _)
   | (with_reducible refine LeO.ite ?_ ?_)
   | (with_reducible refine LeO.bind ?_ (fun _ => ?_))
   | exact ih0 _ _ _ _ _ _
   | exact ih1 _ _ _ _ _
   | exact ih2 _ _ _ _ _ _ _ _ _ _ _ _
   | exact ih3 _ _ _ _ _ _ _ _ _ _ _ _ _
   | exact frisketlaw07_Fits.mono _ _ _
   | exact frisketlaw07_alive.mono _
   | exact LeO.none _
   | refine LeO.ite ?_ ?_
   | refine LeO.bind ?_ (fun _ => ?_)
  ·intro y0 y1 y2 y3 y4 y5 y6 y7 y8 y9 y10 y11
   unfold frisketlaw07_SpanOthers.j2
   repeat' first
   | (with_reducible exact ih0 _ _ _ _ _ _)
   | (with_reducible exact ih1 _ _ _ _ _)
   | (with_reducible exact ih2 _ _ _ _ _ _ _ _ _ _ _ _)
   | (with_reducible exact ih3 _ _ _ _ _ _ _ _ _ _ _ _ _)
   | (with_reducible exact frisketlaw07_Fits.mono _ _ _)
   | (with_reducible exact frisketlaw07_alive.mono _)
   | (with_reducible exact LeO.refl _)
   | (with_reducible exact LeO.none _)
   | (with_reducible refine LeO.ite ?_ ?_)
   | (with_reducible refine LeO.bind ?_ (fun _ => ?_))
   | exact ih0 _ _ _ _ _ _
   | exact ih1 _ _ _ _ _
   | exact ih2 _ _ _ _ _ _ _ _ _ _ _ _
   | exact ih3 _ _ _ _ _ _ _ _ _ _ _ _ _
   | exact frisketlaw07_Fits.mono _ _ _
   | exact frisketlaw07_alive.mono _
   | exact LeO.none _
   | refine LeO.ite ?_ ?_
   | refine LeO.bind ?_ (fun _ => ?_)
  ·intro y0 y1 y2 y3 y4 y5 y6 y7 y8 y9 y10 y11 y12
   unfold frisketlaw07_SpanOthers.j3
   repeat' first
   | (with_reducible exact ih0 _ _ _ _ _ _)
   | (with_reducible exact ih1 _ _ _ _ _)
   | (with_reducible exact ih2 _ _ _ _ _ _ _ _ _ _ _ _)
   | (with_reducible exact ih3 _ _ _ _ _ _ _ _ _ _ _ _ _)
   | (with_reducible exact frisketlaw07_Fits.mono _ _ _)
   | (with_reducible exact frisketlaw07_alive.mono _)
   | (with_reducible exact LeO.refl _)
   | (with_reducible exact LeO.none _)
   | (with_reducible refine LeO.ite ?_ ?_)
   | (with_reducible refine LeO.bind ?_ (fun _ => ?_))
   | exact ih0 _ _ _ _ _ _
   | exact ih1 _ _ _ _ _
   | exact ih2 _ _ _ _ _ _ _ _ _ _ _ _
   | exact ih3 _ _ _ _ _ _ _ _ _ _ _ _ _
   | exact frisketlaw07_Fits.mono _ _ _
   | exact frisketlaw07_alive.mono _
   | exact LeO.none _
   | refine LeO.ite ?_ ?_
   | refine LeO.bind ?_ (fun _ => ?_)
theorem frisketlaw07_SpanOthers.mono : ∀ a0 a1 a2 a3 a4 k, LeO (frisketlaw07_SpanOthers.f k a0 a1 a2 a3 a4) (frisketlaw07_SpanOthers.f (k + 1) a0 a1 a2 a3 a4) := by
 intro a0 a1 a2 a3 a4 k
 obtain ⟨ih0, ih1, ih2, ih3⟩ := frisketlaw07_SpanOthers.mono_l k
 unfold frisketlaw07_SpanOthers.f
 repeat' first
   | (with_reducible exact ih0 _ _ _ _ _ _)
   | (with_reducible exact ih1 _ _ _ _ _)
   | (with_reducible exact ih2 _ _ _ _ _ _ _ _ _ _ _ _)
   | (with_reducible exact ih3 _ _ _ _ _ _ _ _ _ _ _ _ _)
   | (with_reducible exact frisketlaw07_Fits.mono _ _ _)
   | (with_reducible exact frisketlaw07_alive.mono _)
   | (with_reducible exact LeO.refl _)
   | (with_reducible exact LeO.none _)
   | (with_reducible refine LeO.ite ?_ ?_)
   | (with_reducible refine LeO.bind ?_ (fun _ => ?_))
   | exact ih0 _ _ _ _ _ _
   | exact ih1 _ _ _ _ _
   | exact ih2 _ _ _ _ _ _ _ _ _ _ _ _
   | exact ih3 _ _ _ _ _ _ _ _ _ _ _ _ _
   | exact frisketlaw07_Fits.mono _ _ _
   | exact frisketlaw07_alive.mono _
   | exact LeO.none _
   | refine LeO.ite ?_ ?_
   | refine LeO.bind ?_ (fun _ => ?_)
def frisketlaw07_SpanOthers.T19 : Bool × List (List Nat × List Nat) := (true, [([], []), ([0, 0], [0]), ([1], [1]), ([2, 1, 1], [1, 2]), ([3], [3]), ([3], [3]), ([4, 5, 3, 3], [3, 4, 5]), ([3], [3]), ([6, 7, 3], [3, 6, 7]), ([3, 8, 1], [1, 3, 8]), ([1, 9], [1, 9]), ([10, 6], [10]), ([11], [11]), ([12, 11], [11, 12]), ([13, 11, 11], [11, 13]), ([14], [14]), ([14], [14]), ([15, 16, 14, 14], [14, 15, 16]), ([14], [14]), ([17, 18, 14], [14, 17, 18]), ([14, 19, 11], [11, 14, 19]), ([11, 20], [11, 20]), ([21, 17, 0, 1, 2, 3, 4, 5, 6, 7, 8, 9, 10, 11, 12, 13, 14, 15, 16, 17, 18, 19, 20, 21], [21])])
def frisketlaw07_SpanOthers.B19 : List Nat := [0, 1, 3, 7, 15, 15, 63, 15, 255, 511, 1023, 2047, 4095, 8191, 16383, 32767, 32767, 131071, 32767, 524287, 1048575, 2097151, 4194303]
theorem frisketlaw07_SpanOthers.tab19 : rtab .any (opsOf Try.f6 19) = frisketlaw07_SpanOthers.T19 := by kernel_rfl
theorem frisketlaw07_SpanOthers.bits19 : waitsOk frisketlaw07_SpanOthers.T19.2 frisketlaw07_SpanOthers.B19 = true := by kernel_rfl
set_option maxHeartbeats 8000000 in
set_option maxRecDepth 100000 in
theorem frisketlaw07_SpanOthers.calls (k : Nat) (A0 : Option Addr) (c0 : Nat) (l0 : List (S33)) (a1 : Int) (a2_0 : Int) (a2_1 : Int) (a2_2 : Int) (r : Bool) (w : World) (hr0 : Kd.C k33 w A0 l0.length l0) (hc0 : l0.length ≤ c0) (h : frisketlaw07_SpanOthers.f k l0 a1 a2_0 a2_1 a2_2 = some r) :
  Calls Try.prog 6 #[.slice A0 l0.length c0, .int .i64 a1, .agg #[.int .i64 a2_0, .int .i64 a2_1, .int .i64 a2_2]] w fun e w' => e = .returned (.bool r) ∧ Below w.heap.size w w' := by
 have hu23 := Try.underlying23
 have hu33 := Try.underlying33
 have HR0 := Aside0.mk hr0
 have HC0 := Aside0.mk hc0
 clear hr0 hc0
 have HB := Aside0.mk (Below.refl w.heap.size w)
 have H : ((frisketlaw07_Fits.f k l0 a1).bind fun t331 => (if t331 = true then (frisketlaw07_SpanOthers.j0 k l0 a1 (a1 == 0) a2_0 a2_1 a2_2) else (frisketlaw07_SpanOthers.j0 k l0 a1 true a2_0 a2_1 a2_2))) = some r := h
 clear h
 replace H := Option.bind_eq_some_iff.mp H
 obtain ⟨t331, A40, H⟩ := H
 replace H : (if t331 = true then (frisketlaw07_SpanOthers.j0 k l0 a1 (a1 == 0) a2_0 a2_1 a2_2) else (frisketlaw07_SpanOthers.j0 k l0 a1 true a2_0 a2_1 a2_2)) = some r := H
 have A4 := Aside0.mk A40
 clear A40
 have HC5 := Aside0.mk H
 clear H
 go_enter Try.func6, Try.ntmps6
 go_upto_region 2 with (first | ((with_reducible refine gate_dst (N := 5) rfl ?_); refine box_event ?hg (N := 5) ?hd (cs := #[.int .i64 a2_0, .int .i64 a2_1, .int .i64 a2_2]) (t := 23) ?hr ?_; (case hd => rfl); (case hg => rfl); (case hr => first | (go_simp; done) | (go_simp; rfl)); intro gb330 hg w6 hbox hb; have n0_ := Aside0.mk (below_step (by repeat (first | (with_reducible first | exact HB.out | apply below_alloc | apply pw_below_drewN | apply below_drew1) | exact HB.out)) hb); have n1_ := Aside0.mk (hbox); have n2_ := Aside0.mk ((by rw [hg]; exact (below_size (by repeat (first | (with_reducible first | exact HB.out | apply below_alloc | apply pw_below_drewN | apply below_drew1) | exact HB.out))) : w.heap.size ≤ gb330)); have n3_ := Aside0.mk ((by rw [hg]; exact (below_size (by repeat (first | (with_reducible first | exact HB.out | apply below_alloc | apply pw_below_drewN | apply below_drew1) | exact HB.out))) : w.heap.size ≤ gb330)); clear HB; have HB := n0_; have BK330 := n1_; have GW330 := n2_; have GE330 := n3_; clear n0_ n1_ n2_ n3_; clear hb hbox hg) | ((with_reducible refine gate_callee (f := 7) rfl ?_); refine goesL_ (some 19) rfl rfl Try.func7 (by kernel_rfl) rfl #[.slice A0 l0.length c0, .int .i64 a1] rfl (by (try simp only [List.map_toArray, List.map_cons, List.map_nil]); first | done | rfl | (simp only [List.length_drop, List.length_take]; rfl)) ?_; (with_reducible refine (frisketlaw07_Fits.calls k _ _ l0 a1 t331 _ ?side1 ?side2 A4.out).mono ?_); (case side1 => repeat (first | exact (Kd.C_below HR0.out HB.out) | (with_reducible refine Kd.C_alloc ?_ _) | (with_reducible refine Kd.C_drewN ?_ _) | (with_reducible refine Kd.C_drew ?_))); (case side2 => exact HC0.out); rintro e w7 ⟨rfl, hb⟩; refine ⟨_, rfl, ?_⟩; have n0_ := Aside0.mk (blk_below (g := gb330) (o := .cells #[.int .i64 a2_0, .int .i64 a2_1, .int .i64 a2_2] 23 (0, 0)) (by (with_reducible repeat (first | refine blk_drewN ?_ _ | refine blk_drew ?_ | refine blk_alloc ?_ _)); exact BK330.out) hb); have n1_ := Aside0.mk (below_step (by repeat (first | (with_reducible first | exact HB.out | apply below_alloc | apply pw_below_drewN | apply below_drew1 | refine below_set ?_ GE330.out) | exact HB.out)) hb); clear BK330; clear HB; have BK330 := n0_; have HB := n1_; clear n0_ n1_; (try clear hb); (try clear hb2); (try clear hk); (try clear hi)))
 (try simp only [Act.put, List.setIfInBounds_toArray, List.set_cons_zero, List.set_cons_succ])
 go_cut [25] (fun v25 wc => ∃ (kq : Nat) (x25_4 : Bool), v25 = .bool x25_4 ∧ Aside0 (frisketlaw07_SpanOthers.j0 kq l0 a1 x25_4 a2_0 a2_1 a2_2 = some r) ∧ Aside0 (kq ≤ k) ∧ Aside0 (wc.heap[gb330]? = some (.cells #[.int .i64 a2_0, .int .i64 a2_1, .int .i64 a2_2] 23 (0, 0))) ∧ Aside0 (Below w.heap.size w wc))
 case first =>
  have H := HC5.out
  clear HC5
  by_cases c8 : t331 = true
  ·subst c8
   have H1 : (frisketlaw07_SpanOthers.j0 k l0 a1 (a1 == 0) a2_0 a2_1 a2_2) = some r := by rw [if_pos rfl] at H; exact H
   clear H
   have H := H1
   clear H1
   have H' := Aside0.mk H
   clear H
   go_wp2
   go_meet
   case rel => exact ⟨_, ((a1 == 0)), (by first | rfl | (simp; done) | (simp [*]; done)), H', ⟨by first | omega | exact Nat.le_refl _⟩, ⟨by (with_reducible repeat (first | refine blk_drewN ?_ _ | refine blk_drew ?_ | refine blk_alloc ?_ _)); exact BK330.out⟩, ⟨by repeat (first | (with_reducible first | exact HB.out | apply below_alloc | apply pw_below_drewN | apply below_drew1 | refine below_set ?_ GE330.out) | exact HB.out)⟩⟩
  ·replace c8 := Bool.eq_false_iff.mpr c8
   subst c8
   have H1 : (frisketlaw07_SpanOthers.j0 k l0 a1 true a2_0 a2_1 a2_2) = some r := by rw [if_neg (show ¬ (false = true) by decide)] at H; exact H
   clear H
   have H := H1
   clear H1
   have H' := Aside0.mk H
   clear H
   go_wp2
   go_meet
   case rel => exact ⟨_, (true), (by first | rfl | (simp; done) | (simp [*]; done)), H', ⟨by first | omega | exact Nat.le_refl _⟩, ⟨by (with_reducible repeat (first | refine blk_drewN ?_ _ | refine blk_drew ?_ | refine blk_alloc ?_ _)); exact BK330.out⟩, ⟨by repeat (first | (with_reducible first | exact HB.out | apply below_alloc | apply pw_below_drewN | apply below_drew1 | refine below_set ?_ GE330.out) | exact HB.out)⟩⟩
 case rest =>
  clear HC5
  try clear p2
  try clear c6
  try clear c7
  try clear c8
  obtain ⟨kq, x25_4, rfl, HA, HJ4, BK330, HB⟩ := hcut
  cases kq with
  | zero => exact absurd HA.out (by simp [frisketlaw07_SpanOthers.j0])
  | succ kj4 =>
   have H := HA.out
   clear HA
   simp only [frisketlaw07_SpanOthers.j0] at H
   by_cases c9 : x25_4 = true
   ·subst c9
    have H1 : ((frisketlaw07_alive.f kj4).bind fun t332 => (some t332)) = some r := by rw [if_pos rfl] at H; exact H
    clear H
    have H := H1
    clear H1
    replace H := Option.bind_eq_some_iff.mp H
    obtain ⟨t332, A100, H⟩ := H
    replace H : (some t332) = some r := H
    have A10 := Aside0.mk A100
    clear A100
    obtain rfl := Option.some.inj H
    go_wp2_with (first | ((with_reducible refine gate_callee (f := 8) rfl ?_); refine goesL_ (some 26) rfl rfl Try.func8 (by kernel_rfl) rfl #[] rfl (by (try simp only [List.map_toArray, List.map_cons, List.map_nil]); first | done | rfl | (simp only [List.length_drop, List.length_take]; rfl)) ?_; (with_reducible refine (frisketlaw07_alive.calls kj4  t332 _ A10.out).mono ?_); rintro e w11 ⟨rfl, hb⟩; refine ⟨_, rfl, ?_⟩; have n0_ := Aside0.mk (blk_below (g := gb330) (o := .cells #[.int .i64 a2_0, .int .i64 a2_1, .int .i64 a2_2] 23 (0, 0)) (by (with_reducible repeat (first | refine blk_drewN ?_ _ | refine blk_drew ?_ | refine blk_alloc ?_ _)); exact BK330.out) hb); have n1_ := Aside0.mk (below_step (by repeat (first | (with_reducible first | exact HB.out | apply below_alloc | apply pw_below_drewN | apply below_drew1 | refine below_set ?_ GE330.out) | exact HB.out)) hb); clear BK330; clear HB; have BK330 := n0_; have HB := n1_; clear n0_ n1_; (try clear hb); (try clear hb2); (try clear hk); (try clear hi)))
    go_ret
    exact ⟨by first | rfl | (simp [errW_none, errW_some] <;> rfl) | (simp [*, errW_none, errW_some] <;> rfl), by repeat (first | (with_reducible first | exact HB.out | apply below_alloc | apply pw_below_drewN | apply below_drew1 | refine below_set ?_ GE330.out) | exact HB.out)⟩
   ·replace c9 := Bool.eq_false_iff.mpr c9
    subst c9
    have H1 : (if (Go.bits .and .i64 a2_0 1023) ≥ a1 then (frisketlaw07_SpanOthers.j1 kj4 l0 (Go.bits .and .i64 a2_0 1023) (Go.bits .and .i64 a2_1 1023) (Go.bits .and .i64 a2_2 63) true) else (frisketlaw07_SpanOthers.j1 kj4 l0 (Go.bits .and .i64 a2_0 1023) (Go.bits .and .i64 a2_1 1023) (Go.bits .and .i64 a2_2 63) (decide ((Go.bits .and .i64 a2_1 1023) > a1)))) = some r := by rw [if_neg (show ¬ (false = true) by decide)] at H; exact H
    clear H
    have H := H1
    clear H1
    have HC12 := Aside0.mk H
    clear H
    have hcz13_0 : wc.cell? ⟨gb330, 0, none⟩ = some (.int .i64 a2_0) := (blk_cell BK330.out 0).trans rfl
    have hcz13_1 : wc.cell? ⟨gb330, 1, none⟩ = some (.int .i64 a2_1) := (blk_cell BK330.out 1).trans rfl
    have hcz13_2 : wc.cell? ⟨gb330, 2, none⟩ = some (.int .i64 a2_2) := (blk_cell BK330.out 2).trans rfl
    have hfz13_0 := blk_frozen BK330.out 0
    have hfz13_1 := blk_frozen BK330.out 1
    have hfz13_2 := blk_frozen BK330.out 2
    go_upto_region 7 with (fail)
    go_cut [43] (fun v43 wc => ∃ (kq : Nat) (x43_11 : Bool), v43 = .bool x43_11 ∧ Aside0 (frisketlaw07_SpanOthers.j1 kq l0 (Go.bits .and .i64 a2_0 1023) (Go.bits .and .i64 a2_1 1023) (Go.bits .and .i64 a2_2 63) x43_11 = some r) ∧ Aside0 (kq ≤ kj4) ∧ Aside0 (wc.heap[gb330]? = some (.cells #[.int .i64 a2_0, .int .i64 a2_1, .int .i64 a2_2] 23 (0, 0))) ∧ Aside0 (Below w.heap.size w wc))
    case first =>
     have H := HC12.out
     clear HC12
     by_cases c14 : (Go.bits .and .i64 a2_0 1023) ≥ a1
     ·rw [if_pos c14] at H
      have c14b0 : decide (a1 ≤ (Go.bits .and .i64 a2_0 1023)) = true := decide_eq_true c14
      clear c14
      (first | rw [c14b0] | (simp only [i64_w, i32_w]; rw [c14b0]) | skip)
      have H' := Aside0.mk H
      clear H
      go_wp2
      go_meet
      case rel => exact ⟨_, (true), (by first | rfl | (simp; done) | (simp [*]; done)), H', ⟨by have := HJ4.out; first | omega | exact Nat.le_refl _⟩, ⟨by (with_reducible repeat (first | refine blk_drewN ?_ _ | refine blk_drew ?_ | refine blk_alloc ?_ _)); exact BK330.out⟩, ⟨by repeat (first | (with_reducible first | exact HB.out | apply below_alloc | apply pw_below_drewN | apply below_drew1 | refine below_set ?_ GE330.out) | exact HB.out)⟩⟩
     ·rw [if_neg c14] at H
      have c14b0 : decide (a1 ≤ (Go.bits .and .i64 a2_0 1023)) = false := decide_eq_false c14
      clear c14
      (first | rw [c14b0] | (simp only [i64_w, i32_w]; rw [c14b0]) | skip)
      have H' := Aside0.mk H
      clear H
      go_wp2
      go_meet
      case rel => exact ⟨_, (decide ((Go.bits .and .i64 a2_1 1023) > a1)), (by first | rfl | (simp; done) | (simp [*]; done)), H', ⟨by have := HJ4.out; first | omega | exact Nat.le_refl _⟩, ⟨by (with_reducible repeat (first | refine blk_drewN ?_ _ | refine blk_drew ?_ | refine blk_alloc ?_ _)); exact BK330.out⟩, ⟨by repeat (first | (with_reducible first | exact HB.out | apply below_alloc | apply pw_below_drewN | apply below_drew1 | refine below_set ?_ GE330.out) | exact HB.out)⟩⟩
    case rest =>
     clear HC12
     try clear c1
     try clear p2
     try clear c6
     try clear c7
     try clear c8
     try clear c9
     try clear c14
     try clear c14b0
     try clear hcz13_0
     try clear hcz13_1
     try clear hcz13_2
     try clear hfz13_0
     try clear hfz13_1
     try clear hfz13_2
     try clear p2
     obtain ⟨kq, x43_11, rfl, HA, HJ11, BK330, HB⟩ := hcut
     cases kq with
     | zero => exact absurd HA.out (by simp [frisketlaw07_SpanOthers.j1])
     | succ kj11 =>
      have H := HA.out
      clear HA
      simp only [frisketlaw07_SpanOthers.j1] at H
      by_cases c15 : x43_11 = true
      ·subst c15
       have H1 : ((frisketlaw07_alive.f kj11).bind fun t333 => (some t333)) = some r := by rw [if_pos rfl] at H; exact H
       clear H
       have H := H1
       clear H1
       replace H := Option.bind_eq_some_iff.mp H
       obtain ⟨t333, A160, H⟩ := H
       replace H : (some t333) = some r := H
       have A16 := Aside0.mk A160
       clear A160
       obtain rfl := Option.some.inj H
       go_wp2_with (first | ((with_reducible refine gate_callee (f := 8) rfl ?_); refine goesL_ (some 44) rfl rfl Try.func8 (by kernel_rfl) rfl #[] rfl (by (try simp only [List.map_toArray, List.map_cons, List.map_nil]); first | done | rfl | (simp only [List.length_drop, List.length_take]; rfl)) ?_; (with_reducible refine (frisketlaw07_alive.calls kj11  t333 _ A16.out).mono ?_); rintro e w17 ⟨rfl, hb⟩; refine ⟨_, rfl, ?_⟩; have n0_ := Aside0.mk (blk_below (g := gb330) (o := .cells #[.int .i64 a2_0, .int .i64 a2_1, .int .i64 a2_2] 23 (0, 0)) (by (with_reducible repeat (first | refine blk_drewN ?_ _ | refine blk_drew ?_ | refine blk_alloc ?_ _)); exact BK330.out) hb); have n1_ := Aside0.mk (below_step (by repeat (first | (with_reducible first | exact HB.out | apply below_alloc | apply pw_below_drewN | apply below_drew1 | refine below_set ?_ GE330.out) | exact HB.out)) hb); clear BK330; clear HB; have BK330 := n0_; have HB := n1_; clear n0_ n1_; (try clear hb); (try clear hb2); (try clear hk); (try clear hi)))
       go_ret
       exact ⟨by first | rfl | (simp [errW_none, errW_some] <;> rfl) | (simp [*, errW_none, errW_some] <;> rfl), by repeat (first | (with_reducible first | exact HB.out | apply below_alloc | apply pw_below_drewN | apply below_drew1 | refine below_set ?_ GE330.out) | exact HB.out)⟩
      ·replace c15 := Bool.eq_false_iff.mpr c15
       subst c15
       have H1 : ((span_Delete.f l0 (Go.bits .and .i64 a2_1 1023) (wrap64 ((Go.bits .and .i64 a2_1 1023) + (Go.bits .and .i64 a2_2 63)))).bind fun t334 => ((span_Insert.f l0 (Go.bits .and .i64 a2_1 1023) (Go.bits .and .i64 a2_2 63)).bind fun t337 => ((span_Style.f l0 (Go.bits .and .i64 a2_0 1023)).bind fun bt340 => (if (Go.bits .and .i64 a2_0 1023) ≥ (wrap64 ((Go.bits .and .i64 a2_1 1023) + (Go.bits .and .i64 a2_2 63))) then (frisketlaw07_SpanOthers.j2 kj11 (Go.bits .and .i64 a2_0 1023) (Go.bits .and .i64 a2_1 1023) (Go.bits .and .i64 a2_2 63) t334 t337 (wrap64 ((Go.bits .and .i64 a2_0 1023) - (Go.bits .and .i64 a2_2 63))) bt340.1 bt340.2.1 bt340.2.2.1 bt340.2.2.2.1 bt340.2.2.2.2.1 bt340.2.2.2.2.2) else (frisketlaw07_SpanOthers.j2 kj11 (Go.bits .and .i64 a2_0 1023) (Go.bits .and .i64 a2_1 1023) (Go.bits .and .i64 a2_2 63) t334 t337 (Go.bits .and .i64 a2_0 1023) bt340.1 bt340.2.1 bt340.2.2.1 bt340.2.2.2.1 bt340.2.2.2.2.1 bt340.2.2.2.2.2))))) = some r := by rw [if_neg (show ¬ (false = true) by decide)] at H; exact H
       clear H
       have H := H1
       clear H1
       replace H := Option.bind_eq_some_iff.mp H
       obtain ⟨t334, A180, H⟩ := H
       replace H : ((span_Insert.f l0 (Go.bits .and .i64 a2_1 1023) (Go.bits .and .i64 a2_2 63)).bind fun t337 => ((span_Style.f l0 (Go.bits .and .i64 a2_0 1023)).bind fun bt340 => (if (Go.bits .and .i64 a2_0 1023) ≥ (wrap64 ((Go.bits .and .i64 a2_1 1023) + (Go.bits .and .i64 a2_2 63))) then (frisketlaw07_SpanOthers.j2 kj11 (Go.bits .and .i64 a2_0 1023) (Go.bits .and .i64 a2_1 1023) (Go.bits .and .i64 a2_2 63) t334 t337 (wrap64 ((Go.bits .and .i64 a2_0 1023) - (Go.bits .and .i64 a2_2 63))) bt340.1 bt340.2.1 bt340.2.2.1 bt340.2.2.2.1 bt340.2.2.2.2.1 bt340.2.2.2.2.2) else (frisketlaw07_SpanOthers.j2 kj11 (Go.bits .and .i64 a2_0 1023) (Go.bits .and .i64 a2_1 1023) (Go.bits .and .i64 a2_2 63) t334 t337 (Go.bits .and .i64 a2_0 1023) bt340.1 bt340.2.1 bt340.2.2.1 bt340.2.2.2.1 bt340.2.2.2.2.1 bt340.2.2.2.2.2)))) = some r := H
       have A18 := Aside0.mk A180
       clear A180
       replace H := Option.bind_eq_some_iff.mp H
       obtain ⟨t337, A190, H⟩ := H
       replace H : ((span_Style.f l0 (Go.bits .and .i64 a2_0 1023)).bind fun bt340 => (if (Go.bits .and .i64 a2_0 1023) ≥ (wrap64 ((Go.bits .and .i64 a2_1 1023) + (Go.bits .and .i64 a2_2 63))) then (frisketlaw07_SpanOthers.j2 kj11 (Go.bits .and .i64 a2_0 1023) (Go.bits .and .i64 a2_1 1023) (Go.bits .and .i64 a2_2 63) t334 t337 (wrap64 ((Go.bits .and .i64 a2_0 1023) - (Go.bits .and .i64 a2_2 63))) bt340.1 bt340.2.1 bt340.2.2.1 bt340.2.2.2.1 bt340.2.2.2.2.1 bt340.2.2.2.2.2) else (frisketlaw07_SpanOthers.j2 kj11 (Go.bits .and .i64 a2_0 1023) (Go.bits .and .i64 a2_1 1023) (Go.bits .and .i64 a2_2 63) t334 t337 (Go.bits .and .i64 a2_0 1023) bt340.1 bt340.2.1 bt340.2.2.1 bt340.2.2.2.1 bt340.2.2.2.2.1 bt340.2.2.2.2.2))) = some r := H
       have A19 := Aside0.mk A190
       clear A190
       replace H := Option.bind_eq_some_iff.mp H
       obtain ⟨⟨t340, t341, t342, t343, t344, t345⟩, A200, H⟩ := H
       replace H : (if (Go.bits .and .i64 a2_0 1023) ≥ (wrap64 ((Go.bits .and .i64 a2_1 1023) + (Go.bits .and .i64 a2_2 63))) then (frisketlaw07_SpanOthers.j2 kj11 (Go.bits .and .i64 a2_0 1023) (Go.bits .and .i64 a2_1 1023) (Go.bits .and .i64 a2_2 63) t334 t337 (wrap64 ((Go.bits .and .i64 a2_0 1023) - (Go.bits .and .i64 a2_2 63))) t340 t341 t342 t343 t344 t345) else (frisketlaw07_SpanOthers.j2 kj11 (Go.bits .and .i64 a2_0 1023) (Go.bits .and .i64 a2_1 1023) (Go.bits .and .i64 a2_2 63) t334 t337 (Go.bits .and .i64 a2_0 1023) t340 t341 t342 t343 t344 t345)) = some r := H
       have A20 := Aside0.mk A200
       clear A200
       have HC21 := Aside0.mk H
       clear H
       go_upto_if 63 with (first | ((with_reducible refine gate_callee (f := 12) rfl ?_); refine goesL_ (some 50) rfl rfl Try.func12 (by kernel_rfl) rfl #[.slice A0 l0.length c0, .int .i64 (Go.bits .and .i64 a2_1 1023), .int .i64 (wrap64 ((Go.bits .and .i64 a2_1 1023) + (Go.bits .and .i64 a2_2 63)))] rfl (by (try simp only [List.map_toArray, List.map_cons, List.map_nil]); first | done | rfl | (simp only [List.length_drop, List.length_take]; rfl)) ?_; (with_reducible refine (span_Delete.calls _ _ l0 (Go.bits .and .i64 a2_1 1023) (wrap64 ((Go.bits .and .i64 a2_1 1023) + (Go.bits .and .i64 a2_2 63))) t334 _ ?side1 ?side2 A18.out).mono ?_); (case side1 => repeat (first | exact (Kd.C_below HR0.out HB.out) | (with_reducible refine Kd.C_alloc ?_ _) | (with_reducible refine Kd.C_drewN ?_ _) | (with_reducible refine Kd.C_drew ?_))); (case side2 => exact HC0.out); rintro e w22 ⟨v335, rfl, ho0, hb⟩; refine ⟨_, rfl, ?_⟩; have n0_ := Aside0.mk (Kd.R_lower ho0 (below_size (by repeat (first | (with_reducible first | exact HB.out | apply below_alloc | apply pw_below_drewN | apply below_drew1 | refine below_set ?_ GE330.out) | exact HB.out)))); have n1_ := Aside0.mk (blk_below (g := gb330) (o := .cells #[.int .i64 a2_0, .int .i64 a2_1, .int .i64 a2_2] 23 (0, 0)) (by (with_reducible repeat (first | refine blk_drewN ?_ _ | refine blk_drew ?_ | refine blk_alloc ?_ _)); exact BK330.out) hb); have n2_ := Aside0.mk (below_step (by repeat (first | (with_reducible first | exact HB.out | apply below_alloc | apply pw_below_drewN | apply below_drew1 | refine below_set ?_ GE330.out) | exact HB.out)) hb); clear BK330; clear HB; have HO336 := n0_; have BK330 := n1_; have HB := n2_; clear n0_ n1_ n2_; (try clear hb); (try clear hb2); (try clear hk); (try clear hi); (try clear ho0)) | ((with_reducible refine gate_callee (f := 10) rfl ?_); refine goesL_ (some 54) rfl rfl Try.func10 (by kernel_rfl) rfl #[.slice A0 l0.length c0, .int .i64 (Go.bits .and .i64 a2_1 1023), .int .i64 (Go.bits .and .i64 a2_2 63)] rfl (by (try simp only [List.map_toArray, List.map_cons, List.map_nil]); first | done | rfl | (simp only [List.length_drop, List.length_take]; rfl)) ?_; (with_reducible refine (span_Insert.calls _ _ l0 (Go.bits .and .i64 a2_1 1023) (Go.bits .and .i64 a2_2 63) t337 _ ?side1 ?side2 A19.out).mono ?_); (case side1 => repeat (first | exact (Kd.C_below HR0.out HB.out) | (with_reducible refine Kd.C_alloc ?_ _) | (with_reducible refine Kd.C_drewN ?_ _) | (with_reducible refine Kd.C_drew ?_))); (case side2 => exact HC0.out); rintro e w23 ⟨v338, rfl, ho0, hb⟩; refine ⟨_, rfl, ?_⟩; have n0_ := Aside0.mk (Kd.R_elder' (by (with_reducible repeat (first | apply Kd.R_alloc | apply Kd.R_drewN | apply Kd.R_drew)); exact HO336.out) (Kd.R_base ho0) hb); have n1_ := Aside0.mk (Kd.R_lower (Kd.R_new' ho0 (Kd.R_lt (by (with_reducible repeat (first | apply Kd.R_alloc | apply Kd.R_drewN | apply Kd.R_drew)); exact HO336.out))) (below_size (by repeat (first | (with_reducible first | exact HB.out | apply below_alloc | apply pw_below_drewN | apply below_drew1 | refine below_set ?_ GE330.out) | exact HB.out)))); have n2_ := Aside0.mk (blk_below (g := gb330) (o := .cells #[.int .i64 a2_0, .int .i64 a2_1, .int .i64 a2_2] 23 (0, 0)) (by (with_reducible repeat (first | refine blk_drewN ?_ _ | refine blk_drew ?_ | refine blk_alloc ?_ _)); exact BK330.out) hb); have n3_ := Aside0.mk (below_step (by repeat (first | (with_reducible first | exact HB.out | apply below_alloc | apply pw_below_drewN | apply below_drew1 | refine below_set ?_ GE330.out) | exact HB.out)) hb); clear HO336; clear BK330; clear HB; have HO336 := n0_; have HO339 := n1_; have BK330 := n2_; have HB := n3_; clear n0_ n1_ n2_ n3_; (try clear hb); (try clear hb2); (try clear hk); (try clear hi); (try clear ho0)) | ((with_reducible refine gate_callee (f := 16) rfl ?_); refine goesL_ (some 57) rfl rfl Try.func16 (by kernel_rfl) rfl #[.slice A0 l0.length c0, .int .i64 (Go.bits .and .i64 a2_0 1023)] rfl (by (try simp only [List.map_toArray, List.map_cons, List.map_nil]); first | done | rfl | (simp only [List.length_drop, List.length_take]; rfl)) ?_; (with_reducible refine (span_Style.calls _ _ l0 (Go.bits .and .i64 a2_0 1023) t340 t341 t342 t343 t344 t345 _ ?side1 ?side2 A20.out).mono ?_); (case side1 => repeat (first | exact (Kd.C_below HR0.out HB.out) | (with_reducible refine Kd.C_alloc ?_ _) | (with_reducible refine Kd.C_drewN ?_ _) | (with_reducible refine Kd.C_drew ?_))); (case side2 => exact HC0.out); rintro e w24 ⟨rfl, hb⟩; refine ⟨_, rfl, ?_⟩; have n0_ := Aside0.mk (Kd.R_below (by (with_reducible repeat (first | apply Kd.R_alloc | apply Kd.R_drewN | apply Kd.R_drew)); exact HO336.out) hb); have n1_ := Aside0.mk (Kd.R_below (by (with_reducible repeat (first | apply Kd.R_alloc | apply Kd.R_drewN | apply Kd.R_drew)); exact HO339.out) hb); have n2_ := Aside0.mk (blk_below (g := gb330) (o := .cells #[.int .i64 a2_0, .int .i64 a2_1, .int .i64 a2_2] 23 (0, 0)) (by (with_reducible repeat (first | refine blk_drewN ?_ _ | refine blk_drew ?_ | refine blk_alloc ?_ _)); exact BK330.out) hb); have n3_ := Aside0.mk (below_step (by repeat (first | (with_reducible first | exact HB.out | apply below_alloc | apply pw_below_drewN | apply below_drew1 | refine below_set ?_ GE330.out) | exact HB.out)) hb); clear HO336; clear HO339; clear BK330; clear HB; have HO336 := n0_; have HO339 := n1_; have BK330 := n2_; have HB := n3_; clear n0_ n1_ n2_ n3_; (try clear hb); (try clear hb2); (try clear hk); (try clear hi)) | ((with_reducible refine gate_dst (N := 13) rfl ?_); refine box_event ?hg (N := 13) ?hd (cs := #[.int .i64 0, .int .i64 0, .int .i64 0, .bool false, .string (⟨#[]⟩ : ByteArray), .int .u64 0]) (t := 33) ?hr ?_; (case hd => rfl); (case hg => rfl); (case hr => first | (go_simp; done) | (go_simp; rfl)); intro gb346 hg w25 hbox hb; have n0_ := Aside0.mk (Kd.R_below (Kd.R_elderB (by (with_reducible repeat (first | apply Kd.R_alloc | apply Kd.R_drewN | apply Kd.R_drew)); exact HO336.out) gb346 (Nat.le_of_eq hg.symm)) hb); have n1_ := Aside0.mk (Kd.R_below (Kd.R_elderB (by (with_reducible repeat (first | apply Kd.R_alloc | apply Kd.R_drewN | apply Kd.R_drew)); exact HO339.out) gb346 (Nat.le_of_eq hg.symm)) hb); have n2_ := Aside0.mk (blk_below (g := gb330) (o := .cells #[.int .i64 a2_0, .int .i64 a2_1, .int .i64 a2_2] 23 (0, 0)) (by (with_reducible repeat (first | refine blk_drewN ?_ _ | refine blk_drew ?_ | refine blk_alloc ?_ _)); exact BK330.out) hb); have n3_ := Aside0.mk (below_step (by repeat (first | (with_reducible first | exact HB.out | apply below_alloc | apply pw_below_drewN | apply below_drew1 | refine below_set ?_ GE330.out) | exact HB.out)) hb); have n4_ := Aside0.mk (hbox); have n5_ := Aside0.mk ((by rw [hg]; exact (below_size (by repeat (first | (with_reducible first | exact HB.out | apply below_alloc | apply pw_below_drewN | apply below_drew1 | refine below_set ?_ GE330.out) | exact HB.out))) : w.heap.size ≤ gb346)); have n6_ := Aside0.mk ((by rw [hg]; exact (below_size (by repeat (first | (with_reducible first | exact HB.out | apply below_alloc | apply pw_below_drewN | apply below_drew1 | refine below_set ?_ GE330.out) | exact HB.out))) : w.heap.size ≤ gb346)); have n7_ := Aside0.mk ((by rw [hg]; exact Nat.ne_of_lt (blk_lt (g := gb330) (o := .cells #[.int .i64 a2_0, .int .i64 a2_1, .int .i64 a2_2] 23 (0, 0)) (by (with_reducible repeat (first | refine blk_drewN ?_ _ | refine blk_drew ?_ | refine blk_alloc ?_ _)); exact BK330.out)) : gb330 ≠ gb346)); have n8_ := Aside0.mk ((by rw [hg]; exact Nat.ne_of_gt (blk_lt (g := gb330) (o := .cells #[.int .i64 a2_0, .int .i64 a2_1, .int .i64 a2_2] 23 (0, 0)) (by (with_reducible repeat (first | refine blk_drewN ?_ _ | refine blk_drew ?_ | refine blk_alloc ?_ _)); exact BK330.out)) : gb346 ≠ gb330)); clear HO336; clear HO339; clear BK330; clear HB; have HO336 := n0_; have HO339 := n1_; have BK330 := n2_; have HB := n3_; have BK346 := n4_; have GW346 := n5_; have GE346 := n6_; have NB330_346 := n7_; have NB346_330 := n8_; clear n0_ n1_ n2_ n3_ n4_ n5_ n6_ n7_ n8_; clear hb hbox hg; have hnb26 := NB346_330.out; have hnc26 := NB330_346.out; have hcz27_0 : w25.cell? ⟨gb346, 0, none⟩ = some (.int .i64 0) := (blk_cell BK346.out 0).trans rfl; have hcz27_1 : w25.cell? ⟨gb346, 1, none⟩ = some (.int .i64 0) := (blk_cell BK346.out 1).trans rfl; have hcz27_2 : w25.cell? ⟨gb346, 2, none⟩ = some (.int .i64 0) := (blk_cell BK346.out 2).trans rfl; have hcz27_3 : w25.cell? ⟨gb346, 3, none⟩ = some (.bool false) := (blk_cell BK346.out 3).trans rfl; have hcz27_4 : w25.cell? ⟨gb346, 4, none⟩ = some (.string (⟨#[]⟩ : ByteArray)) := (blk_cell BK346.out 4).trans rfl; have hcz27_5 : w25.cell? ⟨gb346, 5, none⟩ = some (.int .u64 0) := (blk_cell BK346.out 5).trans rfl; have hfz27_0 := blk_frozen BK346.out 0; have hfz27_1 := blk_frozen BK346.out 1; have hfz27_2 := blk_frozen BK346.out 2; have hfz27_3 := blk_frozen BK346.out 3; have hfz27_4 := blk_frozen BK346.out 4; have hfz27_5 := blk_frozen BK346.out 5))
       (try simp only [Act.put, List.setIfInBounds_toArray, List.set_cons_zero, List.set_cons_succ])
       go_cut [14] (fun v14 wc => ∃ (kq : Nat) (x14_20 : Int), v14 = .int .i64 x14_20 ∧ Aside0 (frisketlaw07_SpanOthers.j2 kq (Go.bits .and .i64 a2_0 1023) (Go.bits .and .i64 a2_1 1023) (Go.bits .and .i64 a2_2 63) t334 t337 x14_20 t340 t341 t342 t343 t344 t345 = some r) ∧ Aside0 (kq ≤ kj11) ∧ Aside0 (Kd.R k33 33 wc w.heap.size (fun k_ => some k_ ≠ (v338 : Value).ownBlock ∧ k_ ≠ gb346) v335 t334) ∧ Aside0 (Kd.R k33 33 wc w.heap.size (fun k_ => some k_ ≠ (v335 : Value).ownBlock ∧ k_ ≠ gb346) v338 t337) ∧ Aside0 (wc.heap[gb330]? = some (.cells #[.int .i64 a2_0, .int .i64 a2_1, .int .i64 a2_2] 23 (0, 0))) ∧ Aside0 (wc.heap[gb346]? = some (.cells #[.int .i64 t340, .int .i64 t341, .int .i64 t342, .bool t343, .string t344, .int .u64 t345] 33 (0, 0))) ∧ Aside0 (Below w.heap.size w wc))
       case first =>
        have H := HC21.out
        clear HC21
        by_cases c28 : (Go.bits .and .i64 a2_0 1023) ≥ (wrap64 ((Go.bits .and .i64 a2_1 1023) + (Go.bits .and .i64 a2_2 63)))
        ·rw [if_pos c28] at H
         have c28b0 : decide ((wrap64 ((Go.bits .and .i64 a2_1 1023) + (Go.bits .and .i64 a2_2 63))) ≤ (Go.bits .and .i64 a2_0 1023)) = true := decide_eq_true c28
         clear c28
         (first | rw [c28b0] | (simp only [i64_w, i32_w]; rw [c28b0]) | skip)
         have H' := Aside0.mk H
         clear H
         go_wp2
         go_meet
         case rel => exact ⟨_, (wrap64 ((Go.bits .and .i64 a2_0 1023) - (Go.bits .and .i64 a2_2 63))), (by first | rfl | (simp; done) | (simp [*]; done)), H', ⟨by have := HJ4.out; have := HJ11.out; first | omega | exact Nat.le_refl _⟩, ⟨by (with_reducible repeat (first | apply Kd.R_alloc | apply Kd.R_drewN | apply Kd.R_drew)); exact Kd.R_mono (Kd.R_far (p := ⟨gb346, 5, none⟩) (Kd.R_far (p := ⟨gb346, 4, none⟩) (Kd.R_far (p := ⟨gb346, 3, none⟩) (Kd.R_far (p := ⟨gb346, 2, none⟩) (Kd.R_far (p := ⟨gb346, 1, none⟩) (Kd.R_far (p := ⟨gb346, 0, none⟩) (Kd.R_mono HO336.out (fun k_ hk => (⟨hk, hk.2⟩ : _ ∧ k_ ≠ gb346))) (fun _ hk => hk.2) (.int .i64 t340)) (fun _ hk => hk.2) (.int .i64 t341)) (fun _ hk => hk.2) (.int .i64 t342)) (fun _ hk => hk.2) (.bool t343)) (fun _ hk => hk.2) (.string t344)) (fun _ hk => hk.2) (.int .u64 t345)) (fun _ hk => ⟨hk.1.1.2, hk.1.2⟩)⟩, ⟨by (with_reducible repeat (first | apply Kd.R_alloc | apply Kd.R_drewN | apply Kd.R_drew)); exact Kd.R_mono (Kd.R_far (p := ⟨gb346, 5, none⟩) (Kd.R_far (p := ⟨gb346, 4, none⟩) (Kd.R_far (p := ⟨gb346, 3, none⟩) (Kd.R_far (p := ⟨gb346, 2, none⟩) (Kd.R_far (p := ⟨gb346, 1, none⟩) (Kd.R_far (p := ⟨gb346, 0, none⟩) (Kd.R_mono HO339.out (fun k_ hk => (⟨hk, hk.2⟩ : _ ∧ k_ ≠ gb346))) (fun _ hk => hk.2) (.int .i64 t340)) (fun _ hk => hk.2) (.int .i64 t341)) (fun _ hk => hk.2) (.int .i64 t342)) (fun _ hk => hk.2) (.bool t343)) (fun _ hk => hk.2) (.string t344)) (fun _ hk => hk.2) (.int .u64 t345)) (fun _ hk => ⟨hk.1.1.2, hk.1.2⟩)⟩, ⟨by (with_reducible repeat (first | refine blk_drewN ?_ _ | refine blk_drew ?_ | refine blk_alloc ?_ _)); refine blk_far ?_ NB330_346.out _; (with_reducible repeat (first | refine blk_drewN ?_ _ | refine blk_drew ?_ | refine blk_alloc ?_ _)); refine blk_far ?_ NB330_346.out _; (with_reducible repeat (first | refine blk_drewN ?_ _ | refine blk_drew ?_ | refine blk_alloc ?_ _)); refine blk_far ?_ NB330_346.out _; (with_reducible repeat (first | refine blk_drewN ?_ _ | refine blk_drew ?_ | refine blk_alloc ?_ _)); refine blk_far ?_ NB330_346.out _; (with_reducible repeat (first | refine blk_drewN ?_ _ | refine blk_drew ?_ | refine blk_alloc ?_ _)); refine blk_far ?_ NB330_346.out _; (with_reducible repeat (first | refine blk_drewN ?_ _ | refine blk_drew ?_ | refine blk_alloc ?_ _)); refine blk_far ?_ NB330_346.out _; (with_reducible repeat (first | refine blk_drewN ?_ _ | refine blk_drew ?_ | refine blk_alloc ?_ _)); exact BK330.out⟩, ⟨by (with_reducible repeat (first | refine blk_drewN ?_ _ | refine blk_drew ?_ | refine blk_alloc ?_ _)); refine blk_put (cs := #[.int .i64 t340, .int .i64 t341, .int .i64 t342, .bool t343, .string t344, .int .u64 0]) ?_ 5 _ rfl; (with_reducible repeat (first | refine blk_drewN ?_ _ | refine blk_drew ?_ | refine blk_alloc ?_ _)); refine blk_put (cs := #[.int .i64 t340, .int .i64 t341, .int .i64 t342, .bool t343, .string (⟨#[]⟩ : ByteArray), .int .u64 0]) ?_ 4 _ rfl; (with_reducible repeat (first | refine blk_drewN ?_ _ | refine blk_drew ?_ | refine blk_alloc ?_ _)); refine blk_put (cs := #[.int .i64 t340, .int .i64 t341, .int .i64 t342, .bool false, .string (⟨#[]⟩ : ByteArray), .int .u64 0]) ?_ 3 _ rfl; (with_reducible repeat (first | refine blk_drewN ?_ _ | refine blk_drew ?_ | refine blk_alloc ?_ _)); refine blk_put (cs := #[.int .i64 t340, .int .i64 t341, .int .i64 0, .bool false, .string (⟨#[]⟩ : ByteArray), .int .u64 0]) ?_ 2 _ rfl; (with_reducible repeat (first | refine blk_drewN ?_ _ | refine blk_drew ?_ | refine blk_alloc ?_ _)); refine blk_put (cs := #[.int .i64 t340, .int .i64 0, .int .i64 0, .bool false, .string (⟨#[]⟩ : ByteArray), .int .u64 0]) ?_ 1 _ rfl; (with_reducible repeat (first | refine blk_drewN ?_ _ | refine blk_drew ?_ | refine blk_alloc ?_ _)); refine blk_put (cs := #[.int .i64 0, .int .i64 0, .int .i64 0, .bool false, .string (⟨#[]⟩ : ByteArray), .int .u64 0]) ?_ 0 _ rfl; (with_reducible repeat (first | refine blk_drewN ?_ _ | refine blk_drew ?_ | refine blk_alloc ?_ _)); exact BK346.out⟩, ⟨by repeat (first | (with_reducible first | exact HB.out | apply below_alloc | apply pw_below_drewN | apply below_drew1 | refine below_set ?_ GE330.out | refine below_set ?_ GE346.out) | exact HB.out)⟩⟩
        ·rw [if_neg c28] at H
         have c28b0 : decide ((wrap64 ((Go.bits .and .i64 a2_1 1023) + (Go.bits .and .i64 a2_2 63))) ≤ (Go.bits .and .i64 a2_0 1023)) = false := decide_eq_false c28
         clear c28
         (first | rw [c28b0] | (simp only [i64_w, i32_w]; rw [c28b0]) | skip)
         have H' := Aside0.mk H
         clear H
         go_wp2
         go_meet
         case rel => exact ⟨_, ((Go.bits .and .i64 a2_0 1023)), (by first | rfl | (simp; done) | (simp [*]; done)), H', ⟨by have := HJ4.out; have := HJ11.out; first | omega | exact Nat.le_refl _⟩, ⟨by (with_reducible repeat (first | apply Kd.R_alloc | apply Kd.R_drewN | apply Kd.R_drew)); exact Kd.R_mono (Kd.R_far (p := ⟨gb346, 5, none⟩) (Kd.R_far (p := ⟨gb346, 4, none⟩) (Kd.R_far (p := ⟨gb346, 3, none⟩) (Kd.R_far (p := ⟨gb346, 2, none⟩) (Kd.R_far (p := ⟨gb346, 1, none⟩) (Kd.R_far (p := ⟨gb346, 0, none⟩) (Kd.R_mono HO336.out (fun k_ hk => (⟨hk, hk.2⟩ : _ ∧ k_ ≠ gb346))) (fun _ hk => hk.2) (.int .i64 t340)) (fun _ hk => hk.2) (.int .i64 t341)) (fun _ hk => hk.2) (.int .i64 t342)) (fun _ hk => hk.2) (.bool t343)) (fun _ hk => hk.2) (.string t344)) (fun _ hk => hk.2) (.int .u64 t345)) (fun _ hk => ⟨hk.1.1.2, hk.1.2⟩)⟩, ⟨by (with_reducible repeat (first | apply Kd.R_alloc | apply Kd.R_drewN | apply Kd.R_drew)); exact Kd.R_mono (Kd.R_far (p := ⟨gb346, 5, none⟩) (Kd.R_far (p := ⟨gb346, 4, none⟩) (Kd.R_far (p := ⟨gb346, 3, none⟩) (Kd.R_far (p := ⟨gb346, 2, none⟩) (Kd.R_far (p := ⟨gb346, 1, none⟩) (Kd.R_far (p := ⟨gb346, 0, none⟩) (Kd.R_mono HO339.out (fun k_ hk => (⟨hk, hk.2⟩ : _ ∧ k_ ≠ gb346))) (fun _ hk => hk.2) (.int .i64 t340)) (fun _ hk => hk.2) (.int .i64 t341)) (fun _ hk => hk.2) (.int .i64 t342)) (fun _ hk => hk.2) (.bool t343)) (fun _ hk => hk.2) (.string t344)) (fun _ hk => hk.2) (.int .u64 t345)) (fun _ hk => ⟨hk.1.1.2, hk.1.2⟩)⟩, ⟨by (with_reducible repeat (first | refine blk_drewN ?_ _ | refine blk_drew ?_ | refine blk_alloc ?_ _)); refine blk_far ?_ NB330_346.out _; (with_reducible repeat (first | refine blk_drewN ?_ _ | refine blk_drew ?_ | refine blk_alloc ?_ _)); refine blk_far ?_ NB330_346.out _; (with_reducible repeat (first | refine blk_drewN ?_ _ | refine blk_drew ?_ | refine blk_alloc ?_ _)); refine blk_far ?_ NB330_346.out _; (with_reducible repeat (first | refine blk_drewN ?_ _ | refine blk_drew ?_ | refine blk_alloc ?_ _)); refine blk_far ?_ NB330_346.out _; (with_reducible repeat (first | refine blk_drewN ?_ _ | refine blk_drew ?_ | refine blk_alloc ?_ _)); refine blk_far ?_ NB330_346.out _; (with_reducible repeat (first | refine blk_drewN ?_ _ | refine blk_drew ?_ | refine blk_alloc ?_ _)); refine blk_far ?_ NB330_346.out _; (with_reducible repeat (first | refine blk_drewN ?_ _ | refine blk_drew ?_ | refine blk_alloc ?_ _)); exact BK330.out⟩, ⟨by (with_reducible repeat (first | refine blk_drewN ?_ _ | refine blk_drew ?_ | refine blk_alloc ?_ _)); refine blk_put (cs := #[.int .i64 t340, .int .i64 t341, .int .i64 t342, .bool t343, .string t344, .int .u64 0]) ?_ 5 _ rfl; (with_reducible repeat (first | refine blk_drewN ?_ _ | refine blk_drew ?_ | refine blk_alloc ?_ _)); refine blk_put (cs := #[.int .i64 t340, .int .i64 t341, .int .i64 t342, .bool t343, .string (⟨#[]⟩ : ByteArray), .int .u64 0]) ?_ 4 _ rfl; (with_reducible repeat (first | refine blk_drewN ?_ _ | refine blk_drew ?_ | refine blk_alloc ?_ _)); refine blk_put (cs := #[.int .i64 t340, .int .i64 t341, .int .i64 t342, .bool false, .string (⟨#[]⟩ : ByteArray), .int .u64 0]) ?_ 3 _ rfl; (with_reducible repeat (first | refine blk_drewN ?_ _ | refine blk_drew ?_ | refine blk_alloc ?_ _)); refine blk_put (cs := #[.int .i64 t340, .int .i64 t341, .int .i64 0, .bool false, .string (⟨#[]⟩ : ByteArray), .int .u64 0]) ?_ 2 _ rfl; (with_reducible repeat (first | refine blk_drewN ?_ _ | refine blk_drew ?_ | refine blk_alloc ?_ _)); refine blk_put (cs := #[.int .i64 t340, .int .i64 0, .int .i64 0, .bool false, .string (⟨#[]⟩ : ByteArray), .int .u64 0]) ?_ 1 _ rfl; (with_reducible repeat (first | refine blk_drewN ?_ _ | refine blk_drew ?_ | refine blk_alloc ?_ _)); refine blk_put (cs := #[.int .i64 0, .int .i64 0, .int .i64 0, .bool false, .string (⟨#[]⟩ : ByteArray), .int .u64 0]) ?_ 0 _ rfl; (with_reducible repeat (first | refine blk_drewN ?_ _ | refine blk_drew ?_ | refine blk_alloc ?_ _)); exact BK346.out⟩, ⟨by repeat (first | (with_reducible first | exact HB.out | apply below_alloc | apply pw_below_drewN | apply below_drew1 | refine below_set ?_ GE330.out | refine below_set ?_ GE346.out) | exact HB.out)⟩⟩
       case rest =>
        clear HC21
        try clear c1
        try clear c2
        try clear p2
        try clear c6
        try clear p6
        try clear c7
        try clear c8
        try clear c9
        try clear c10
        try clear c12
        try clear c14
        try clear c14b0
        try clear c15
        try clear c16
        try clear c26
        try clear c28
        try clear c28b0
        try clear hcz13_0
        try clear hcz13_1
        try clear hcz13_2
        try clear hcz27_0
        try clear hcz27_1
        try clear hcz27_2
        try clear hcz27_3
        try clear hcz27_4
        try clear hcz27_5
        try clear hfz13_0
        try clear hfz13_1
        try clear hfz13_2
        try clear hfz27_0
        try clear hfz27_1
        try clear hfz27_2
        try clear hfz27_3
        try clear hfz27_4
        try clear hfz27_5
        try clear p2
        obtain ⟨kq, x14_20, rfl, HA, HJ20, HO_11, HO_12, BK330, BK346, HB⟩ := hcut
        cases kq with
        | zero => exact absurd HA.out (by simp [frisketlaw07_SpanOthers.j2])
        | succ kj20 =>
         have H := HA.out
         clear HA
         simp only [frisketlaw07_SpanOthers.j2] at H
         have HC29 := Aside0.mk H
         clear H
         go_upto_region 15 with (fail)
         go_cut [15] (fun v15 wc => ∃ (kq : Nat) (x15_28 : Bool), v15 = .bool x15_28 ∧ Aside0 (frisketlaw07_SpanOthers.j3 kq (Go.bits .and .i64 a2_0 1023) (Go.bits .and .i64 a2_1 1023) (Go.bits .and .i64 a2_2 63) t334 t337 x14_20 x15_28 t340 t341 t342 t343 t344 t345 = some r) ∧ Aside0 (kq ≤ kj20) ∧ Aside0 (Kd.R k33 33 wc w.heap.size (fun k_ => some k_ ≠ (v338 : Value).ownBlock ∧ k_ ≠ gb346) v335 t334) ∧ Aside0 (Kd.R k33 33 wc w.heap.size (fun k_ => some k_ ≠ (v335 : Value).ownBlock ∧ k_ ≠ gb346) v338 t337) ∧ Aside0 (wc.heap[gb330]? = some (.cells #[.int .i64 a2_0, .int .i64 a2_1, .int .i64 a2_2] 23 (0, 0))) ∧ Aside0 (wc.heap[gb346]? = some (.cells #[.int .i64 t340, .int .i64 t341, .int .i64 t342, .bool t343, .string t344, .int .u64 t345] 33 (0, 0))) ∧ Aside0 (Below w.heap.size w wc))
         case first =>
          have H := HC29.out
          clear HC29
          by_cases c30 : (Go.bits .and .i64 a2_0 1023) ≥ (Go.bits .and .i64 a2_1 1023)
          ·rw [if_pos c30] at H
           have c30b0 : decide ((Go.bits .and .i64 a2_1 1023) ≤ (Go.bits .and .i64 a2_0 1023)) = true := decide_eq_true c30
           clear c30
           (first | rw [c30b0] | (simp only [i64_w, i32_w]; rw [c30b0]) | skip)
           have H' := Aside0.mk H
           clear H
           go_wp2
           go_meet
           case rel => exact ⟨_, (decide ((Go.bits .and .i64 a2_0 1023) < (wrap64 ((Go.bits .and .i64 a2_1 1023) + (Go.bits .and .i64 a2_2 63))))), (by first | rfl | (simp; done) | (simp [*]; done)), H', ⟨by have := HJ4.out; have := HJ11.out; have := HJ20.out; first | omega | exact Nat.le_refl _⟩, ⟨by (with_reducible repeat (first | apply Kd.R_alloc | apply Kd.R_drewN | apply Kd.R_drew)); exact HO_11.out⟩, ⟨by (with_reducible repeat (first | apply Kd.R_alloc | apply Kd.R_drewN | apply Kd.R_drew)); exact HO_12.out⟩, ⟨by (with_reducible repeat (first | refine blk_drewN ?_ _ | refine blk_drew ?_ | refine blk_alloc ?_ _)); exact BK330.out⟩, ⟨by (with_reducible repeat (first | refine blk_drewN ?_ _ | refine blk_drew ?_ | refine blk_alloc ?_ _)); exact BK346.out⟩, ⟨by repeat (first | (with_reducible first | exact HB.out | apply below_alloc | apply pw_below_drewN | apply below_drew1 | refine below_set ?_ GE330.out | refine below_set ?_ GE346.out) | exact HB.out)⟩⟩
          ·rw [if_neg c30] at H
           have c30b0 : decide ((Go.bits .and .i64 a2_1 1023) ≤ (Go.bits .and .i64 a2_0 1023)) = false := decide_eq_false c30
           clear c30
           (first | rw [c30b0] | (simp only [i64_w, i32_w]; rw [c30b0]) | skip)
           have H' := Aside0.mk H
           clear H
           go_wp2
           go_meet
           case rel => exact ⟨_, (false), (by first | rfl | (simp; done) | (simp [*]; done)), H', ⟨by have := HJ4.out; have := HJ11.out; have := HJ20.out; first | omega | exact Nat.le_refl _⟩, ⟨by (with_reducible repeat (first | apply Kd.R_alloc | apply Kd.R_drewN | apply Kd.R_drew)); exact HO_11.out⟩, ⟨by (with_reducible repeat (first | apply Kd.R_alloc | apply Kd.R_drewN | apply Kd.R_drew)); exact HO_12.out⟩, ⟨by (with_reducible repeat (first | refine blk_drewN ?_ _ | refine blk_drew ?_ | refine blk_alloc ?_ _)); exact BK330.out⟩, ⟨by (with_reducible repeat (first | refine blk_drewN ?_ _ | refine blk_drew ?_ | refine blk_alloc ?_ _)); exact BK346.out⟩, ⟨by repeat (first | (with_reducible first | exact HB.out | apply below_alloc | apply pw_below_drewN | apply below_drew1 | refine below_set ?_ GE330.out | refine below_set ?_ GE346.out) | exact HB.out)⟩⟩
         case rest =>
          clear HC29
          try clear c1
          try clear c2
          try clear p2
          try clear c3
          try clear c6
          try clear p6
          try clear c7
          try clear c8
          try clear c9
          try clear c10
          try clear c12
          try clear c14
          try clear c14b0
          try clear c15
          try clear c16
          try clear c26
          try clear c28
          try clear c28b0
          try clear c30
          try clear c30b0
          try clear hcz13_0
          try clear hcz13_1
          try clear hcz13_2
          try clear hcz27_0
          try clear hcz27_1
          try clear hcz27_2
          try clear hcz27_3
          try clear hcz27_4
          try clear hcz27_5
          try clear hfz13_0
          try clear hfz13_1
          try clear hfz13_2
          try clear hfz27_0
          try clear hfz27_1
          try clear hfz27_2
          try clear hfz27_3
          try clear hfz27_4
          try clear hfz27_5
          try clear p2
          try clear p6
          obtain ⟨kq, x15_28, rfl, HA, HJ28, HO_11, HO_12, BK330, BK346, HB⟩ := hcut
          cases kq with
          | zero => exact absurd HA.out (by simp [frisketlaw07_SpanOthers.j3])
          | succ kj28 =>
           have H := HA.out
           clear HA
           simp only [frisketlaw07_SpanOthers.j3] at H
           by_cases c31 : (Go.bits .and .i64 a2_0 1023) ≥ (Go.bits .and .i64 a2_1 1023)
           ·rw [if_pos c31] at H
            have c31b0 : decide ((Go.bits .and .i64 a2_1 1023) ≤ (Go.bits .and .i64 a2_0 1023)) = true := decide_eq_true c31
            clear c31
            replace H := Option.bind_eq_some_iff.mp H
            obtain ⟨t347, A320, H⟩ := H
            replace H : (if t347 = true then (if x15_28 = true then (if t343 = true then (some true) else ((span_Style.f t337 (wrap64 ((Go.bits .and .i64 a2_0 1023) + (Go.bits .and .i64 a2_2 63)))).bind fun bt348 => (some (bt348.1 == t340 && (bt348.2.1 == t341 && (bt348.2.2.1 == t342 && (bt348.2.2.2.1 == t343 && (bt348.2.2.2.2.1.toList == t344.toList && (bt348.2.2.2.2.2 == t345))))))))) else ((span_Style.f t334 x14_20).bind fun bt354 => (if (bt354.1 == t340 && (bt354.2.1 == t341 && (bt354.2.2.1 == t342 && (bt354.2.2.2.1 == t343 && (bt354.2.2.2.2.1.toList == t344.toList && (bt354.2.2.2.2.2 == t345)))))) = true then (if t343 = true then (some true) else ((span_Style.f t337 (wrap64 ((Go.bits .and .i64 a2_0 1023) + (Go.bits .and .i64 a2_2 63)))).bind fun bt360 => (some (bt360.1 == t340 && (bt360.2.1 == t341 && (bt360.2.2.1 == t342 && (bt360.2.2.2.1 == t343 && (bt360.2.2.2.2.1.toList == t344.toList && (bt360.2.2.2.2.2 == t345))))))))) else (some false)))) else (some false)) = some r := H
            have A32 := Aside0.mk A320
            clear A320
            by_cases c33 : t347 = true
            ·subst c33
             have H1 : (if x15_28 = true then (if t343 = true then (some true) else ((span_Style.f t337 (wrap64 ((Go.bits .and .i64 a2_0 1023) + (Go.bits .and .i64 a2_2 63)))).bind fun bt348 => (some (bt348.1 == t340 && (bt348.2.1 == t341 && (bt348.2.2.1 == t342 && (bt348.2.2.2.1 == t343 && (bt348.2.2.2.2.1.toList == t344.toList && (bt348.2.2.2.2.2 == t345))))))))) else ((span_Style.f t334 x14_20).bind fun bt354 => (if (bt354.1 == t340 && (bt354.2.1 == t341 && (bt354.2.2.1 == t342 && (bt354.2.2.2.1 == t343 && (bt354.2.2.2.2.1.toList == t344.toList && (bt354.2.2.2.2.2 == t345)))))) = true then (if t343 = true then (some true) else ((span_Style.f t337 (wrap64 ((Go.bits .and .i64 a2_0 1023) + (Go.bits .and .i64 a2_2 63)))).bind fun bt360 => (some (bt360.1 == t340 && (bt360.2.1 == t341 && (bt360.2.2.1 == t342 && (bt360.2.2.2.1 == t343 && (bt360.2.2.2.2.1.toList == t344.toList && (bt360.2.2.2.2.2 == t345))))))))) else (some false)))) = some r := by rw [if_pos rfl] at H; exact H
             clear H
             have H := H1
             clear H1
             by_cases c34 : x15_28 = true
             ·subst c34
              have H1 : (if t343 = true then (some true) else ((span_Style.f t337 (wrap64 ((Go.bits .and .i64 a2_0 1023) + (Go.bits .and .i64 a2_2 63)))).bind fun bt348 => (some (bt348.1 == t340 && (bt348.2.1 == t341 && (bt348.2.2.1 == t342 && (bt348.2.2.2.1 == t343 && (bt348.2.2.2.2.1.toList == t344.toList && (bt348.2.2.2.2.2 == t345))))))))) = some r := by rw [if_pos rfl] at H; exact H
              clear H
              have H := H1
              clear H1
              by_cases c35 : t343 = true
              ·subst c35
               have H1 : (some true) = some r := by rw [if_pos rfl] at H; exact H
               clear H
               have H := H1
               clear H1
               obtain rfl := Option.some.inj H
               try go_wp2
               have n0_ := Aside0.mk (Kd.R_drew HO_11.out)
               have n1_ := Aside0.mk (Kd.R_drew HO_12.out)
               have n2_ := Aside0.mk (blk_drew BK330.out)
               have n3_ := Aside0.mk (blk_drew BK346.out)
               have n4_ := Aside0.mk (below_drew1 HB.out)
               clear HO_11
               clear HO_12
               clear BK330
               clear BK346
               clear HB
               have HO_11 := n0_
               have HO_12 := n1_
               have BK330 := n2_
               have BK346 := n3_
               have HB := n4_
               clear n0_ n1_ n2_ n3_ n4_
               refine start_ (n := 23) (S := fun w' => w'.cell? ⟨gb346, 0, none⟩ = some (.int .i64 t340) ∧ w'.cell? ⟨gb346, 1, none⟩ = some (.int .i64 t341) ∧ w'.cell? ⟨gb346, 2, none⟩ = some (.int .i64 t342) ∧ w'.cell? ⟨gb346, 3, none⟩ = some (.bool true) ∧ w'.cell? ⟨gb346, 4, none⟩ = some (.string t344) ∧ w'.cell? ⟨gb346, 5, none⟩ = some (.int .u64 t345)) (ds := []) #[N',N',N',N',N',N',N',N',N',N',N',N',N',N',N',N',N',N',N',N',N',N',N'] (by kernel_rfl) rfl rfl ⟨(blk_cell BK346.out 0).trans rfl, (blk_cell BK346.out 1).trans rfl, (blk_cell BK346.out 2).trans rfl, (blk_cell BK346.out 3).trans (by first | with_reducible rfl | exact congrArg (fun b_ => some (Value.bool b_)) (by assumption) | rfl), (blk_cell BK346.out 4).trans rfl, (blk_cell BK346.out 5).trans rfl⟩ (fun hHeld => ?_); refine with_tabW frisketlaw07_SpanOthers.tab19 frisketlaw07_SpanOthers.bits19 (fun HT_ HW_ => ?_)
               generalize wc.drew = w36 at HO_11 HO_12 BK330 BK346 HB hHeld ⊢
               refine one_ (i := 0) (N := some 84) #[Y',N',N',N',N',N',N',N',N',N',N',N',N',N',N',N',N',N',N',N',N',N',N'] rfl rfl (one_of HT_.out (by kernel_rfl)) (by decide) (fun K hK => ?_)
               refine goes_ Try.func8 (by kernel_rfl) rfl #[] (by rfl) rfl rfl (by (try simp only [List.map_toArray, List.map_cons, List.map_nil]); first | done | rfl | (simp only [List.length_drop, List.length_take]; rfl)) ?_
               with_reducible refine (frisketlaw07_alive.calls kj28  true _ A32.out).mono ?_
               rintro e w37 ⟨rfl, hb⟩
               refine ⟨_, rfl, ?_⟩
               have n0_ := Aside0.mk (Kd.R_below (by (with_reducible repeat (first | apply Kd.R_alloc | apply Kd.R_drewN | apply Kd.R_drew)); exact HO_11.out) hb)
               have n1_ := Aside0.mk (Kd.R_below (by (with_reducible repeat (first | apply Kd.R_alloc | apply Kd.R_drewN | apply Kd.R_drew)); exact HO_12.out) hb)
               have n2_ := Aside0.mk (blk_below (g := gb330) (o := .cells #[.int .i64 a2_0, .int .i64 a2_1, .int .i64 a2_2] 23 (0, 0)) (by (with_reducible repeat (first | refine blk_drewN ?_ _ | refine blk_drew ?_ | refine blk_alloc ?_ _)); exact BK330.out) hb)
               have n3_ := Aside0.mk (blk_below (g := gb346) (o := .cells #[.int .i64 t340, .int .i64 t341, .int .i64 t342, .bool true, .string t344, .int .u64 t345] 33 (0, 0)) (by (with_reducible repeat (first | refine blk_drewN ?_ _ | refine blk_drew ?_ | refine blk_alloc ?_ _)); exact BK346.out) hb)
               have n4_ := Aside0.mk (below_step (by repeat (first | (with_reducible first | exact HB.out | apply below_alloc | apply pw_below_drewN | apply below_drew1 | refine below_set ?_ GE330.out | refine below_set ?_ GE346.out) | exact HB.out)) hb)
               clear HO_11
               clear HO_12
               clear BK330
               clear BK346
               clear HB
               have HO_11 := n0_
               have HO_12 := n1_
               have BK330 := n2_
               have BK346 := n3_
               have HB := n4_
               clear n0_ n1_ n2_ n3_ n4_
               (try clear hb)
               (try clear hb2)
               (try clear hk)
               (try clear hi)
               refine hK.out _ _ ⟨(blk_cell BK346.out 0).trans rfl, (blk_cell BK346.out 1).trans rfl, (blk_cell BK346.out 2).trans rfl, (blk_cell BK346.out 3).trans rfl, (blk_cell BK346.out 4).trans rfl, (blk_cell BK346.out 5).trans rfl⟩ (fun hHeld => ?_)
               clear hK K
               refine norm_ (a' := ?_) ?_ ?_
               rotate_left
               ·show Act.put _ (some 84) _ = _
                simp only [Act.put, List.setIfInBounds_toArray, List.set_cons_zero, List.set_cons_succ, i64_w, i32_w]
                rfl
               refine pure_ (i := 1) (N := some 85) (v := ?_) (a' := ?_) #[Y',Y',N',N',N',N',N',N',N',N',N',N',N',N',N',N',N',N',N',N',N',N',N'] rfl rfl (any_of HT_.out (by kernel_rfl)) (fun _ _ _ h => h) (Or.inl ⟨by rfl, ?_⟩) ?_ ?_
               rotate_left
               ·intro w'
                go_simp
                with_reducible rfl
               rotate_left
               ·simp only [Act.put, List.setIfInBounds_toArray, List.set_cons_zero, List.set_cons_succ, i64_w, i32_w]
                rfl
               refine pure_ (i := 2) (N := some 86) (v := ?_) (a' := ?_) #[Y',Y',Y',N',N',N',N',N',N',N',N',N',N',N',N',N',N',N',N',N',N',N',N'] rfl rfl (any_of HT_.out (by kernel_rfl)) (fun _ _ _ h => h) (Or.inl ⟨by rfl, ?_⟩) ?_ ?_
               rotate_left
               ·intro w'
                go_simp
                with_reducible rfl
               rotate_left
               ·simp only [Act.put, List.setIfInBounds_toArray, List.set_cons_zero, List.set_cons_succ, i64_w, i32_w]
                rfl
               refine pure_ (i := 3) (N := some 87) (v := ?_) (a' := ?_) #[Y',Y',Y',Y',N',N',N',N',N',N',N',N',N',N',N',N',N',N',N',N',N',N',N'] rfl rfl (any_of HT_.out (by kernel_rfl)) (fun _ _ _ h => h) (Or.inl ⟨by rfl, ?_⟩) ?_ ?_
               rotate_left
               ·intro w'
                go_simp
                with_reducible rfl
               rotate_left
               ·simp only [Act.put, List.setIfInBounds_toArray, List.set_cons_zero, List.set_cons_succ, i64_w, i32_w]
                rfl
               refine pure_ (i := 4) (N := some 88) (v := undef) (a' := ?_) #[Y',Y',Y',Y',Y',N',N',N',N',N',N',N',N',N',N',N',N',N',N',N',N',N',N'] rfl rfl (any_of HT_.out (by kernel_rfl)) (fun _ _ _ h => h) (Or.inr ⟨by rfl, rfl⟩) ?_ ?_
               rotate_left
               ·simp only [Act.put, List.setIfInBounds_toArray, List.set_cons_zero, List.set_cons_succ, i64_w, i32_w]
                rfl
               refine pure_ (i := 5) (N := some 89) (v := undef) (a' := ?_) #[Y',Y',Y',Y',Y',Y',N',N',N',N',N',N',N',N',N',N',N',N',N',N',N',N',N'] rfl rfl (any_of HT_.out (by kernel_rfl)) (fun _ _ _ h => h) (Or.inr ⟨by rfl, rfl⟩) ?_ ?_
               rotate_left
               ·simp only [Act.put, List.setIfInBounds_toArray, List.set_cons_zero, List.set_cons_succ, i64_w, i32_w]
                rfl
               refine pure_ (i := 6) (N := some 90) (v := undef) (a' := ?_) #[Y',Y',Y',Y',Y',Y',Y',N',N',N',N',N',N',N',N',N',N',N',N',N',N',N',N'] rfl rfl (any_of HT_.out (by kernel_rfl)) (fun _ _ _ h => h) (Or.inr ⟨by rfl, rfl⟩) ?_ ?_
               rotate_left
               ·simp only [Act.put, List.setIfInBounds_toArray, List.set_cons_zero, List.set_cons_succ, i64_w, i32_w]
                rfl
               refine pure_ (i := 7) (N := some 91) (v := undef) (a' := ?_) #[Y',Y',Y',Y',Y',Y',Y',Y',N',N',N',N',N',N',N',N',N',N',N',N',N',N',N'] rfl rfl (any_of HT_.out (by kernel_rfl)) (fun _ _ _ h => h) (Or.inr ⟨by rfl, rfl⟩) ?_ ?_
               rotate_left
               ·simp only [Act.put, List.setIfInBounds_toArray, List.set_cons_zero, List.set_cons_succ, i64_w, i32_w]
                rfl
               refine pure_ (i := 8) (N := some 92) (v := undef) (a' := ?_) #[Y',Y',Y',Y',Y',Y',Y',Y',Y',N',N',N',N',N',N',N',N',N',N',N',N',N',N'] rfl rfl (any_of HT_.out (by kernel_rfl)) (fun _ _ _ h => h) (Or.inr ⟨by rfl, rfl⟩) ?_ ?_
               rotate_left
               ·simp only [Act.put, List.setIfInBounds_toArray, List.set_cons_zero, List.set_cons_succ, i64_w, i32_w]
                rfl
               refine pure_ (i := 9) (N := some 93) (v := ?_) (a' := ?_) #[Y',Y',Y',Y',Y',Y',Y',Y',Y',Y',N',N',N',N',N',N',N',N',N',N',N',N',N'] rfl rfl (any_of HT_.out (by kernel_rfl)) (fun _ _ _ h => h) (Or.inl ⟨by rfl, ?_⟩) ?_ ?_
               rotate_left
               ·intro w'
                go_simp
                with_reducible rfl
               rotate_left
               ·simp only [Act.put, List.setIfInBounds_toArray, List.set_cons_zero, List.set_cons_succ, i64_w, i32_w]
                rfl
               refine pure_ (i := 10) (N := some 94) (v := ?_) (a' := ?_) #[Y',Y',Y',Y',Y',Y',Y',Y',Y',Y',Y',N',N',N',N',N',N',N',N',N',N',N',N'] rfl rfl (any_of HT_.out (by kernel_rfl)) (fun _ _ _ h => h) (Or.inl ⟨by rfl, ?_⟩) ?_ ?_
               rotate_left
               ·intro w'
                go_simp
                with_reducible rfl
               rotate_left
               ·simp only [Act.put, List.setIfInBounds_toArray, List.set_cons_zero, List.set_cons_succ, i64_w, i32_w]
                rfl
               refine pure_ (i := 11) (N := some 95) (v := ?_) (a' := ?_) #[Y',Y',Y',Y',Y',Y',Y',Y',Y',Y',Y',Y',N',N',N',N',N',N',N',N',N',N',N'] rfl rfl (any_of HT_.out (by kernel_rfl)) (fun _ _ _ h => h) (Or.inl ⟨by rfl, ?_⟩) ?_ ?_
               rotate_left
               ·intro w'
                go_simp
                with_reducible rfl
               rotate_left
               ·simp only [Act.put, List.setIfInBounds_toArray, List.set_cons_zero, List.set_cons_succ, i64_w, i32_w]
                rfl
               refine pure_ (i := 12) (N := some 96) (v := ?_) (a' := ?_) #[Y',Y',Y',Y',Y',Y',Y',Y',Y',Y',Y',Y',Y',N',N',N',N',N',N',N',N',N',N'] rfl rfl (any_of HT_.out (by kernel_rfl)) (fun _ _ _ h => h) (Or.inl ⟨by rfl, ?_⟩) ?_ ?_
               rotate_left
               ·intro w'
                go_simp
                with_reducible rfl
               rotate_left
               ·simp only [Act.put, List.setIfInBounds_toArray, List.set_cons_zero, List.set_cons_succ, i64_w, i32_w]
                rfl
               refine take_ (i := 13) (N := some 97) (v := ?_) (a' := ?_) #[Y',Y',Y',Y',Y',Y',Y',Y',Y',Y',Y',Y',Y',Y',N',N',N',N',N',N',N',N',N'] rfl rfl (take_ofW HT_.out HW_.out (by kernel_rfl)) (fun _ _ _ h => h) (Or.inl ⟨by rfl, ?_⟩) hHeld ?_ ?_
               rotate_left
               ·rintro w' ⟨s0, s1, s2, s3, s4, s5⟩
                go_simp
                with_reducible rfl
               rotate_left
               ·simp only [Act.put, List.setIfInBounds_toArray, List.set_cons_zero, List.set_cons_succ, i64_w, i32_w]
                rfl
               refine pure_ (i := 14) (N := some 98) (v := ?_) (a' := ?_) #[Y',Y',Y',Y',Y',Y',Y',Y',Y',Y',Y',Y',Y',Y',Y',N',N',N',N',N',N',N',N'] rfl rfl (any_of HT_.out (by kernel_rfl)) (fun _ _ _ h => h) (Or.inl ⟨by rfl, ?_⟩) ?_ ?_
               rotate_left
               ·intro w'
                go_simp
                with_reducible rfl
               rotate_left
               ·simp only [Act.put, List.setIfInBounds_toArray, List.set_cons_zero, List.set_cons_succ, i64_w, i32_w]
                rfl
               refine pure_ (i := 15) (N := some 99) (v := undef) (a' := ?_) #[Y',Y',Y',Y',Y',Y',Y',Y',Y',Y',Y',Y',Y',Y',Y',Y',N',N',N',N',N',N',N'] rfl rfl (any_of HT_.out (by kernel_rfl)) (fun _ _ _ h => h) (Or.inr ⟨by rfl, rfl⟩) ?_ ?_
               rotate_left
               ·simp only [Act.put, List.setIfInBounds_toArray, List.set_cons_zero, List.set_cons_succ, i64_w, i32_w]
                rfl
               refine pure_ (i := 16) (N := some 100) (v := undef) (a' := ?_) #[Y',Y',Y',Y',Y',Y',Y',Y',Y',Y',Y',Y',Y',Y',Y',Y',Y',N',N',N',N',N',N'] rfl rfl (any_of HT_.out (by kernel_rfl)) (fun _ _ _ h => h) (Or.inr ⟨by rfl, rfl⟩) ?_ ?_
               rotate_left
               ·simp only [Act.put, List.setIfInBounds_toArray, List.set_cons_zero, List.set_cons_succ, i64_w, i32_w]
                rfl
               refine pure_ (i := 17) (N := some 101) (v := undef) (a' := ?_) #[Y',Y',Y',Y',Y',Y',Y',Y',Y',Y',Y',Y',Y',Y',Y',Y',Y',Y',N',N',N',N',N'] rfl rfl (any_of HT_.out (by kernel_rfl)) (fun _ _ _ h => h) (Or.inr ⟨by rfl, rfl⟩) ?_ ?_
               rotate_left
               ·simp only [Act.put, List.setIfInBounds_toArray, List.set_cons_zero, List.set_cons_succ, i64_w, i32_w]
                rfl
               refine pure_ (i := 18) (N := some 102) (v := undef) (a' := ?_) #[Y',Y',Y',Y',Y',Y',Y',Y',Y',Y',Y',Y',Y',Y',Y',Y',Y',Y',Y',N',N',N',N'] rfl rfl (any_of HT_.out (by kernel_rfl)) (fun _ _ _ h => h) (Or.inr ⟨by rfl, rfl⟩) ?_ ?_
               rotate_left
               ·simp only [Act.put, List.setIfInBounds_toArray, List.set_cons_zero, List.set_cons_succ, i64_w, i32_w]
                rfl
               refine pure_ (i := 19) (N := some 103) (v := undef) (a' := ?_) #[Y',Y',Y',Y',Y',Y',Y',Y',Y',Y',Y',Y',Y',Y',Y',Y',Y',Y',Y',Y',N',N',N'] rfl rfl (any_of HT_.out (by kernel_rfl)) (fun _ _ _ h => h) (Or.inr ⟨by rfl, rfl⟩) ?_ ?_
               rotate_left
               ·simp only [Act.put, List.setIfInBounds_toArray, List.set_cons_zero, List.set_cons_succ, i64_w, i32_w]
                rfl
               refine pure_ (i := 20) (N := some 104) (v := ?_) (a' := ?_) #[Y',Y',Y',Y',Y',Y',Y',Y',Y',Y',Y',Y',Y',Y',Y',Y',Y',Y',Y',Y',Y',N',N'] rfl rfl (any_of HT_.out (by kernel_rfl)) (fun _ _ _ h => h) (Or.inl ⟨by rfl, ?_⟩) ?_ ?_
               rotate_left
               ·intro w'
                go_simp
                with_reducible rfl
               rotate_left
               ·simp only [Act.put, List.setIfInBounds_toArray, List.set_cons_zero, List.set_cons_succ, i64_w, i32_w]
                rfl
               refine pure_ (i := 21) (N := some 105) (v := ?_) (a' := ?_) #[Y',Y',Y',Y',Y',Y',Y',Y',Y',Y',Y',Y',Y',Y',Y',Y',Y',Y',Y',Y',Y',Y',N'] rfl rfl (any_of HT_.out (by kernel_rfl)) (fun _ _ _ h => h) (Or.inl ⟨by rfl, ?_⟩) ?_ ?_
               rotate_left
               ·intro w'
                go_simp
                with_reducible rfl
               rotate_left
               ·simp only [Act.put, List.setIfInBounds_toArray, List.set_cons_zero, List.set_cons_succ, i64_w, i32_w]
                rfl
               refine pure_ (i := 22) (N := some 6) (v := ?_) (a' := ?_) #[Y',Y',Y',Y',Y',Y',Y',Y',Y',Y',Y',Y',Y',Y',Y',Y',Y',Y',Y',Y',Y',Y',Y'] rfl rfl (any_of HT_.out (by kernel_rfl)) (fun _ _ _ h => h) (Or.inl ⟨by rfl, ?_⟩) ?_ ?_
               rotate_left
               ·intro w'
                go_simp
                with_reducible rfl
               rotate_left
               ·simp only [Act.put, List.setIfInBounds_toArray, List.set_cons_zero, List.set_cons_succ, i64_w, i32_w]
                rfl
               refine done_ (done_of HT_.out (by kernel_rfl)) ?_
               try go_wp2
               go_ret
               exact ⟨by first | rfl | (simp [errW_none, errW_some] <;> rfl) | (simp [*, errW_none, errW_some] <;> rfl), by repeat (first | (with_reducible first | exact HB.out | apply below_alloc | apply pw_below_drewN | apply below_drew1 | refine below_set ?_ GE330.out | refine below_set ?_ GE346.out) | exact HB.out)⟩
              ·replace c35 := Bool.eq_false_iff.mpr c35
               subst c35
               have H1 : ((span_Style.f t337 (wrap64 ((Go.bits .and .i64 a2_0 1023) + (Go.bits .and .i64 a2_2 63)))).bind fun bt348 => (some (bt348.1 == t340 && (bt348.2.1 == t341 && (bt348.2.2.1 == t342 && (bt348.2.2.2.1 == false && (bt348.2.2.2.2.1.toList == t344.toList && (bt348.2.2.2.2.2 == t345)))))))) = some r := by rw [if_neg (show ¬ (false = true) by decide)] at H; exact H
               clear H
               have H := H1
               clear H1
               replace H := Option.bind_eq_some_iff.mp H
               obtain ⟨⟨t348, t349, t350, t351, t352, t353⟩, A380, H⟩ := H
               replace H : (some (t348 == t340 && (t349 == t341 && (t350 == t342 && (t351 == false && (t352.toList == t344.toList && (t353 == t345))))))) = some r := H
               have A38 := Aside0.mk A380
               clear A380
               obtain rfl := Option.some.inj H
               try go_wp2
               have n0_ := Aside0.mk (Kd.R_drew HO_11.out)
               have n1_ := Aside0.mk (Kd.R_drew HO_12.out)
               have n2_ := Aside0.mk (blk_drew BK330.out)
               have n3_ := Aside0.mk (blk_drew BK346.out)
               have n4_ := Aside0.mk (below_drew1 HB.out)
               clear HO_11
               clear HO_12
               clear BK330
               clear BK346
               clear HB
               have HO_11 := n0_
               have HO_12 := n1_
               have BK330 := n2_
               have BK346 := n3_
               have HB := n4_
               clear n0_ n1_ n2_ n3_ n4_
               refine start_ (n := 23) (S := fun w' => w'.cell? ⟨gb346, 0, none⟩ = some (.int .i64 t340) ∧ w'.cell? ⟨gb346, 1, none⟩ = some (.int .i64 t341) ∧ w'.cell? ⟨gb346, 2, none⟩ = some (.int .i64 t342) ∧ w'.cell? ⟨gb346, 3, none⟩ = some (.bool false) ∧ w'.cell? ⟨gb346, 4, none⟩ = some (.string t344) ∧ w'.cell? ⟨gb346, 5, none⟩ = some (.int .u64 t345)) (ds := []) #[N',N',N',N',N',N',N',N',N',N',N',N',N',N',N',N',N',N',N',N',N',N',N'] (by kernel_rfl) rfl rfl ⟨(blk_cell BK346.out 0).trans rfl, (blk_cell BK346.out 1).trans rfl, (blk_cell BK346.out 2).trans rfl, (blk_cell BK346.out 3).trans (by first | with_reducible rfl | exact congrArg (fun b_ => some (Value.bool b_)) (by assumption) | rfl), (blk_cell BK346.out 4).trans rfl, (blk_cell BK346.out 5).trans rfl⟩ (fun hHeld => ?_); refine with_tabW frisketlaw07_SpanOthers.tab19 frisketlaw07_SpanOthers.bits19 (fun HT_ HW_ => ?_)
               generalize wc.drew = w39 at HO_11 HO_12 BK330 BK346 HB hHeld ⊢
               refine one_ (i := 0) (N := some 84) #[Y',N',N',N',N',N',N',N',N',N',N',N',N',N',N',N',N',N',N',N',N',N',N'] rfl rfl (one_of HT_.out (by kernel_rfl)) (by decide) (fun K hK => ?_)
               refine goes_ Try.func8 (by kernel_rfl) rfl #[] (by rfl) rfl rfl (by (try simp only [List.map_toArray, List.map_cons, List.map_nil]); first | done | rfl | (simp only [List.length_drop, List.length_take]; rfl)) ?_
               with_reducible refine (frisketlaw07_alive.calls kj28  true _ A32.out).mono ?_
               rintro e w40 ⟨rfl, hb⟩
               refine ⟨_, rfl, ?_⟩
               have n0_ := Aside0.mk (Kd.R_below (by (with_reducible repeat (first | apply Kd.R_alloc | apply Kd.R_drewN | apply Kd.R_drew)); exact HO_11.out) hb)
               have n1_ := Aside0.mk (Kd.R_below (by (with_reducible repeat (first | apply Kd.R_alloc | apply Kd.R_drewN | apply Kd.R_drew)); exact HO_12.out) hb)
               have n2_ := Aside0.mk (blk_below (g := gb330) (o := .cells #[.int .i64 a2_0, .int .i64 a2_1, .int .i64 a2_2] 23 (0, 0)) (by (with_reducible repeat (first | refine blk_drewN ?_ _ | refine blk_drew ?_ | refine blk_alloc ?_ _)); exact BK330.out) hb)
               have n3_ := Aside0.mk (blk_below (g := gb346) (o := .cells #[.int .i64 t340, .int .i64 t341, .int .i64 t342, .bool false, .string t344, .int .u64 t345] 33 (0, 0)) (by (with_reducible repeat (first | refine blk_drewN ?_ _ | refine blk_drew ?_ | refine blk_alloc ?_ _)); exact BK346.out) hb)
               have n4_ := Aside0.mk (below_step (by repeat (first | (with_reducible first | exact HB.out | apply below_alloc | apply pw_below_drewN | apply below_drew1 | refine below_set ?_ GE330.out | refine below_set ?_ GE346.out) | exact HB.out)) hb)
               clear HO_11
               clear HO_12
               clear BK330
               clear BK346
               clear HB
               have HO_11 := n0_
               have HO_12 := n1_
               have BK330 := n2_
               have BK346 := n3_
               have HB := n4_
               clear n0_ n1_ n2_ n3_ n4_
               (try clear hb)
               (try clear hb2)
               (try clear hk)
               (try clear hi)
               obtain ⟨Ao41, co41, eo41⟩ := Kd.R_slice HO_12.out
               (first | subst eo41 | (injection eo41 with f1_ f2_ f3_; have f4_ := f1_.symm; have f5_ := f3_.symm; clear f1_ f2_ f3_; subst f4_; subst f5_))
               refine hK.out _ _ ⟨(blk_cell BK346.out 0).trans rfl, (blk_cell BK346.out 1).trans rfl, (blk_cell BK346.out 2).trans rfl, (blk_cell BK346.out 3).trans rfl, (blk_cell BK346.out 4).trans rfl, (blk_cell BK346.out 5).trans rfl⟩ (fun hHeld => ?_)
               clear hK K
               refine norm_ (a' := ?_) ?_ ?_
               rotate_left
               ·show Act.put _ (some 84) _ = _
                simp only [Act.put, List.setIfInBounds_toArray, List.set_cons_zero, List.set_cons_succ, i64_w, i32_w]
                rfl
               refine pure_ (i := 1) (N := some 85) (v := ?_) (a' := ?_) #[Y',Y',N',N',N',N',N',N',N',N',N',N',N',N',N',N',N',N',N',N',N',N',N'] rfl rfl (any_of HT_.out (by kernel_rfl)) (fun _ _ _ h => h) (Or.inl ⟨by rfl, ?_⟩) ?_ ?_
               rotate_left
               ·intro w'
                go_simp
                with_reducible rfl
               rotate_left
               ·simp only [Act.put, List.setIfInBounds_toArray, List.set_cons_zero, List.set_cons_succ, i64_w, i32_w]
                rfl
               refine pure_ (i := 2) (N := some 86) (v := ?_) (a' := ?_) #[Y',Y',Y',N',N',N',N',N',N',N',N',N',N',N',N',N',N',N',N',N',N',N',N'] rfl rfl (any_of HT_.out (by kernel_rfl)) (fun _ _ _ h => h) (Or.inl ⟨by rfl, ?_⟩) ?_ ?_
               rotate_left
               ·intro w'
                go_simp
                with_reducible rfl
               rotate_left
               ·simp only [Act.put, List.setIfInBounds_toArray, List.set_cons_zero, List.set_cons_succ, i64_w, i32_w]
                rfl
               refine pure_ (i := 3) (N := some 87) (v := ?_) (a' := ?_) #[Y',Y',Y',Y',N',N',N',N',N',N',N',N',N',N',N',N',N',N',N',N',N',N',N'] rfl rfl (any_of HT_.out (by kernel_rfl)) (fun _ _ _ h => h) (Or.inl ⟨by rfl, ?_⟩) ?_ ?_
               rotate_left
               ·intro w'
                go_simp
                with_reducible rfl
               rotate_left
               ·simp only [Act.put, List.setIfInBounds_toArray, List.set_cons_zero, List.set_cons_succ, i64_w, i32_w]
                rfl
               refine pure_ (i := 4) (N := some 88) (v := undef) (a' := ?_) #[Y',Y',Y',Y',Y',N',N',N',N',N',N',N',N',N',N',N',N',N',N',N',N',N',N'] rfl rfl (any_of HT_.out (by kernel_rfl)) (fun _ _ _ h => h) (Or.inr ⟨by rfl, rfl⟩) ?_ ?_
               rotate_left
               ·simp only [Act.put, List.setIfInBounds_toArray, List.set_cons_zero, List.set_cons_succ, i64_w, i32_w]
                rfl
               refine pure_ (i := 5) (N := some 89) (v := undef) (a' := ?_) #[Y',Y',Y',Y',Y',Y',N',N',N',N',N',N',N',N',N',N',N',N',N',N',N',N',N'] rfl rfl (any_of HT_.out (by kernel_rfl)) (fun _ _ _ h => h) (Or.inr ⟨by rfl, rfl⟩) ?_ ?_
               rotate_left
               ·simp only [Act.put, List.setIfInBounds_toArray, List.set_cons_zero, List.set_cons_succ, i64_w, i32_w]
                rfl
               refine pure_ (i := 6) (N := some 90) (v := undef) (a' := ?_) #[Y',Y',Y',Y',Y',Y',Y',N',N',N',N',N',N',N',N',N',N',N',N',N',N',N',N'] rfl rfl (any_of HT_.out (by kernel_rfl)) (fun _ _ _ h => h) (Or.inr ⟨by rfl, rfl⟩) ?_ ?_
               rotate_left
               ·simp only [Act.put, List.setIfInBounds_toArray, List.set_cons_zero, List.set_cons_succ, i64_w, i32_w]
                rfl
               refine pure_ (i := 7) (N := some 91) (v := undef) (a' := ?_) #[Y',Y',Y',Y',Y',Y',Y',Y',N',N',N',N',N',N',N',N',N',N',N',N',N',N',N'] rfl rfl (any_of HT_.out (by kernel_rfl)) (fun _ _ _ h => h) (Or.inr ⟨by rfl, rfl⟩) ?_ ?_
               rotate_left
               ·simp only [Act.put, List.setIfInBounds_toArray, List.set_cons_zero, List.set_cons_succ, i64_w, i32_w]
                rfl
               refine pure_ (i := 8) (N := some 92) (v := undef) (a' := ?_) #[Y',Y',Y',Y',Y',Y',Y',Y',Y',N',N',N',N',N',N',N',N',N',N',N',N',N',N'] rfl rfl (any_of HT_.out (by kernel_rfl)) (fun _ _ _ h => h) (Or.inr ⟨by rfl, rfl⟩) ?_ ?_
               rotate_left
               ·simp only [Act.put, List.setIfInBounds_toArray, List.set_cons_zero, List.set_cons_succ, i64_w, i32_w]
                rfl
               refine pure_ (i := 9) (N := some 93) (v := ?_) (a' := ?_) #[Y',Y',Y',Y',Y',Y',Y',Y',Y',Y',N',N',N',N',N',N',N',N',N',N',N',N',N'] rfl rfl (any_of HT_.out (by kernel_rfl)) (fun _ _ _ h => h) (Or.inl ⟨by rfl, ?_⟩) ?_ ?_
               rotate_left
               ·intro w'
                go_simp
                with_reducible rfl
               rotate_left
               ·simp only [Act.put, List.setIfInBounds_toArray, List.set_cons_zero, List.set_cons_succ, i64_w, i32_w]
                rfl
               refine pure_ (i := 10) (N := some 94) (v := ?_) (a' := ?_) #[Y',Y',Y',Y',Y',Y',Y',Y',Y',Y',Y',N',N',N',N',N',N',N',N',N',N',N',N'] rfl rfl (any_of HT_.out (by kernel_rfl)) (fun _ _ _ h => h) (Or.inl ⟨by rfl, ?_⟩) ?_ ?_
               rotate_left
               ·intro w'
                go_simp
                with_reducible rfl
               rotate_left
               ·simp only [Act.put, List.setIfInBounds_toArray, List.set_cons_zero, List.set_cons_succ, i64_w, i32_w]
                rfl
               refine pure_ (i := 11) (N := some 95) (v := ?_) (a' := ?_) #[Y',Y',Y',Y',Y',Y',Y',Y',Y',Y',Y',Y',N',N',N',N',N',N',N',N',N',N',N'] rfl rfl (any_of HT_.out (by kernel_rfl)) (fun _ _ _ h => h) (Or.inl ⟨by rfl, ?_⟩) ?_ ?_
               rotate_left
               ·intro w'
                go_simp
                with_reducible rfl
               rotate_left
               ·simp only [Act.put, List.setIfInBounds_toArray, List.set_cons_zero, List.set_cons_succ, i64_w, i32_w]
                rfl
               refine pure_ (i := 12) (N := some 96) (v := ?_) (a' := ?_) #[Y',Y',Y',Y',Y',Y',Y',Y',Y',Y',Y',Y',Y',N',N',N',N',N',N',N',N',N',N'] rfl rfl (any_of HT_.out (by kernel_rfl)) (fun _ _ _ h => h) (Or.inl ⟨by rfl, ?_⟩) ?_ ?_
               rotate_left
               ·intro w'
                go_simp
                with_reducible rfl
               rotate_left
               ·simp only [Act.put, List.setIfInBounds_toArray, List.set_cons_zero, List.set_cons_succ, i64_w, i32_w]
                rfl
               refine take_ (i := 13) (N := some 97) (v := ?_) (a' := ?_) #[Y',Y',Y',Y',Y',Y',Y',Y',Y',Y',Y',Y',Y',Y',N',N',N',N',N',N',N',N',N'] rfl rfl (take_ofW HT_.out HW_.out (by kernel_rfl)) (fun _ _ _ h => h) (Or.inl ⟨by rfl, ?_⟩) hHeld ?_ ?_
               rotate_left
               ·rintro w' ⟨s0, s1, s2, s3, s4, s5⟩
                go_simp
                with_reducible rfl
               rotate_left
               ·simp only [Act.put, List.setIfInBounds_toArray, List.set_cons_zero, List.set_cons_succ, i64_w, i32_w]
                rfl
               refine pure_ (i := 14) (N := some 98) (v := ?_) (a' := ?_) #[Y',Y',Y',Y',Y',Y',Y',Y',Y',Y',Y',Y',Y',Y',Y',N',N',N',N',N',N',N',N'] rfl rfl (any_of HT_.out (by kernel_rfl)) (fun _ _ _ h => h) (Or.inl ⟨by rfl, ?_⟩) ?_ ?_
               rotate_left
               ·intro w'
                go_simp
                with_reducible rfl
               rotate_left
               ·simp only [Act.put, List.setIfInBounds_toArray, List.set_cons_zero, List.set_cons_succ, i64_w, i32_w]
                rfl
               refine pure_ (i := 15) (N := some 99) (v := ?_) (a' := ?_) #[Y',Y',Y',Y',Y',Y',Y',Y',Y',Y',Y',Y',Y',Y',Y',Y',N',N',N',N',N',N',N'] rfl rfl (any_of HT_.out (by kernel_rfl)) (fun _ _ _ h => h) (Or.inl ⟨by rfl, ?_⟩) ?_ ?_
               rotate_left
               ·intro w'
                go_simp
                with_reducible rfl
               rotate_left
               ·simp only [Act.put, List.setIfInBounds_toArray, List.set_cons_zero, List.set_cons_succ, i64_w, i32_w]
                rfl
               refine pure_ (i := 16) (N := some 100) (v := ?_) (a' := ?_) #[Y',Y',Y',Y',Y',Y',Y',Y',Y',Y',Y',Y',Y',Y',Y',Y',Y',N',N',N',N',N',N'] rfl rfl (any_of HT_.out (by kernel_rfl)) (fun _ _ _ h => h) (Or.inl ⟨by rfl, ?_⟩) ?_ ?_
               rotate_left
               ·intro w'
                go_simp
                with_reducible rfl
               rotate_left
               ·simp only [Act.put, List.setIfInBounds_toArray, List.set_cons_zero, List.set_cons_succ, i64_w, i32_w]
                rfl
               refine take_ (i := 18) (N := some 102) (v := ?_) (a' := ?_) #[Y',Y',Y',Y',Y',Y',Y',Y',Y',Y',Y',Y',Y',Y',Y',Y',Y',N',Y',N',N',N',N'] rfl rfl (take_ofW HT_.out HW_.out (by kernel_rfl)) (fun _ _ _ h => h) (Or.inl ⟨by rfl, ?_⟩) hHeld ?_ ?_
               rotate_left
               ·rintro w' ⟨s0, s1, s2, s3, s4, s5⟩
                go_simp
                with_reducible rfl
               rotate_left
               ·simp only [Act.put, List.setIfInBounds_toArray, List.set_cons_zero, List.set_cons_succ, i64_w, i32_w]
                rfl
               refine one_ (i := 17) (N := some 101) #[Y',Y',Y',Y',Y',Y',Y',Y',Y',Y',Y',Y',Y',Y',Y',Y',Y',Y',Y',N',N',N',N'] rfl rfl (one_of HT_.out (by kernel_rfl)) (by decide) (fun K hK => ?_)
               refine goes_ Try.func16 (by kernel_rfl) rfl #[.slice Ao41 t337.length co41, .int .i64 (wrap64 ((Go.bits .and .i64 a2_0 1023) + (Go.bits .and .i64 a2_2 63)))] (by rfl) rfl rfl (by (try simp only [List.map_toArray, List.map_cons, List.map_nil]); first | done | rfl | (simp only [List.length_drop, List.length_take]; rfl)) ?_
               with_reducible refine (span_Style.calls _ _ t337 (wrap64 ((Go.bits .and .i64 a2_0 1023) + (Go.bits .and .i64 a2_2 63))) t348 t349 t350 t351 t352 t353 _ ?side1 ?side2 A38.out).mono ?_
               (case side1 => repeat (first | exact (Kd.R_reads' HO_12.out).2.2 | (with_reducible refine Kd.C_alloc ?_ _) | (with_reducible refine Kd.C_drewN ?_ _) | (with_reducible refine Kd.C_drew ?_)))
               (case side2 => exact (Kd.R_reads' HO_12.out).2.1)
               rintro e w42 ⟨rfl, hb⟩
               refine ⟨_, rfl, ?_⟩
               have n0_ := Aside0.mk (Kd.R_below (by (with_reducible repeat (first | apply Kd.R_alloc | apply Kd.R_drewN | apply Kd.R_drew)); exact HO_11.out) hb)
               have n1_ := Aside0.mk (Kd.R_below (by (with_reducible repeat (first | apply Kd.R_alloc | apply Kd.R_drewN | apply Kd.R_drew)); exact HO_12.out) hb)
               have n2_ := Aside0.mk (blk_below (g := gb330) (o := .cells #[.int .i64 a2_0, .int .i64 a2_1, .int .i64 a2_2] 23 (0, 0)) (by (with_reducible repeat (first | refine blk_drewN ?_ _ | refine blk_drew ?_ | refine blk_alloc ?_ _)); exact BK330.out) hb)
               have n3_ := Aside0.mk (blk_below (g := gb346) (o := .cells #[.int .i64 t340, .int .i64 t341, .int .i64 t342, .bool false, .string t344, .int .u64 t345] 33 (0, 0)) (by (with_reducible repeat (first | refine blk_drewN ?_ _ | refine blk_drew ?_ | refine blk_alloc ?_ _)); exact BK346.out) hb)
               have n4_ := Aside0.mk (below_step (by repeat (first | (with_reducible first | exact HB.out | apply below_alloc | apply pw_below_drewN | apply below_drew1 | refine below_set ?_ GE330.out | refine below_set ?_ GE346.out) | exact HB.out)) hb)
               clear HO_11
               clear HO_12
               clear BK330
               clear BK346
               clear HB
               have HO_11 := n0_
               have HO_12 := n1_
               have BK330 := n2_
               have BK346 := n3_
               have HB := n4_
               clear n0_ n1_ n2_ n3_ n4_
               (try clear hb)
               (try clear hb2)
               (try clear hk)
               (try clear hi)
               refine hK.out _ _ ⟨(blk_cell BK346.out 0).trans rfl, (blk_cell BK346.out 1).trans rfl, (blk_cell BK346.out 2).trans rfl, (blk_cell BK346.out 3).trans rfl, (blk_cell BK346.out 4).trans rfl, (blk_cell BK346.out 5).trans rfl⟩ (fun hHeld => ?_)
               clear hK K
               refine norm_ (a' := ?_) ?_ ?_
               rotate_left
               ·show Act.put _ (some 101) _ = _
                simp only [Act.put, List.setIfInBounds_toArray, List.set_cons_zero, List.set_cons_succ, i64_w, i32_w]
                rfl
               refine pure_ (i := 19) (N := some 103) (v := ?_) (a' := ?_) #[Y',Y',Y',Y',Y',Y',Y',Y',Y',Y',Y',Y',Y',Y',Y',Y',Y',Y',Y',Y',N',N',N'] rfl rfl (any_of HT_.out (by kernel_rfl)) (fun _ _ _ h => h) (Or.inl ⟨by rfl, ?_⟩) ?_ ?_
               rotate_left
               ·intro w'
                go_simp
                with_reducible rfl
               rotate_left
               ·simp only [Act.put, List.setIfInBounds_toArray, List.set_cons_zero, List.set_cons_succ, i64_w, i32_w]
                rfl
               refine pure_ (i := 20) (N := some 104) (v := ?_) (a' := ?_) #[Y',Y',Y',Y',Y',Y',Y',Y',Y',Y',Y',Y',Y',Y',Y',Y',Y',Y',Y',Y',Y',N',N'] rfl rfl (any_of HT_.out (by kernel_rfl)) (fun _ _ _ h => h) (Or.inl ⟨by rfl, ?_⟩) ?_ ?_
               rotate_left
               ·intro w'
                go_simp
                with_reducible rfl
               rotate_left
               ·simp only [Act.put, List.setIfInBounds_toArray, List.set_cons_zero, List.set_cons_succ, i64_w, i32_w]
                rfl
               refine pure_ (i := 21) (N := some 105) (v := ?_) (a' := ?_) #[Y',Y',Y',Y',Y',Y',Y',Y',Y',Y',Y',Y',Y',Y',Y',Y',Y',Y',Y',Y',Y',Y',N'] rfl rfl (any_of HT_.out (by kernel_rfl)) (fun _ _ _ h => h) (Or.inl ⟨by rfl, ?_⟩) ?_ ?_
               rotate_left
               ·intro w'
                go_simp
                with_reducible rfl
               rotate_left
               ·simp only [Act.put, List.setIfInBounds_toArray, List.set_cons_zero, List.set_cons_succ, i64_w, i32_w]
                rfl
               refine pure_ (i := 22) (N := some 6) (v := ?_) (a' := ?_) #[Y',Y',Y',Y',Y',Y',Y',Y',Y',Y',Y',Y',Y',Y',Y',Y',Y',Y',Y',Y',Y',Y',Y'] rfl rfl (any_of HT_.out (by kernel_rfl)) (fun _ _ _ h => h) (Or.inl ⟨by rfl, ?_⟩) ?_ ?_
               rotate_left
               ·intro w'
                go_simp
                with_reducible rfl
               rotate_left
               ·simp only [Act.put, List.setIfInBounds_toArray, List.set_cons_zero, List.set_cons_succ, i64_w, i32_w]
                rfl
               refine done_ (done_of HT_.out (by kernel_rfl)) ?_
               try go_wp2
               go_ret
               exact ⟨by first | rfl | (simp [errW_none, errW_some] <;> rfl) | (simp [*, errW_none, errW_some] <;> rfl), by repeat (first | (with_reducible first | exact HB.out | apply below_alloc | apply pw_below_drewN | apply below_drew1 | refine below_set ?_ GE330.out | refine below_set ?_ GE346.out) | exact HB.out)⟩
             ·replace c34 := Bool.eq_false_iff.mpr c34
              subst c34
              have H1 : ((span_Style.f t334 x14_20).bind fun bt354 => (if (bt354.1 == t340 && (bt354.2.1 == t341 && (bt354.2.2.1 == t342 && (bt354.2.2.2.1 == t343 && (bt354.2.2.2.2.1.toList == t344.toList && (bt354.2.2.2.2.2 == t345)))))) = true then (if t343 = true then (some true) else ((span_Style.f t337 (wrap64 ((Go.bits .and .i64 a2_0 1023) + (Go.bits .and .i64 a2_2 63)))).bind fun bt360 => (some (bt360.1 == t340 && (bt360.2.1 == t341 && (bt360.2.2.1 == t342 && (bt360.2.2.2.1 == t343 && (bt360.2.2.2.2.1.toList == t344.toList && (bt360.2.2.2.2.2 == t345))))))))) else (some false))) = some r := by rw [if_neg (show ¬ (false = true) by decide)] at H; exact H
              clear H
              have H := H1
              clear H1
              replace H := Option.bind_eq_some_iff.mp H
              obtain ⟨⟨t354, t355, t356, t357, t358, t359⟩, A430, H⟩ := H
              replace H : (if (t354 == t340 && (t355 == t341 && (t356 == t342 && (t357 == t343 && (t358.toList == t344.toList && (t359 == t345)))))) = true then (if t343 = true then (some true) else ((span_Style.f t337 (wrap64 ((Go.bits .and .i64 a2_0 1023) + (Go.bits .and .i64 a2_2 63)))).bind fun bt360 => (some (bt360.1 == t340 && (bt360.2.1 == t341 && (bt360.2.2.1 == t342 && (bt360.2.2.2.1 == t343 && (bt360.2.2.2.2.1.toList == t344.toList && (bt360.2.2.2.2.2 == t345))))))))) else (some false)) = some r := H
              have A43 := Aside0.mk A430
              clear A430
              by_cases c44 : (t354 == t340 && (t355 == t341 && (t356 == t342 && (t357 == t343 && (t358.toList == t344.toList && (t359 == t345)))))) = true
              ·rw [if_pos c44] at H
               have c44b0 : (t354 == t340 && (t355 == t341 && (t356 == t342 && (t357 == t343 && (t358.toList == t344.toList && (t359 == t345)))))) = true := c44
               (try (have c44b1 : decide (t354 = t340 && (t355 == t341 && (t356 == t342 && (t357 == t343 && (t358.toList == t344.toList && (t359 == t345)))))) = true := by simpa using c44))
               (try (have c44b2 : (t354 == t340 && (t355 == t341 && (t356 == t342 && (t357 == t343 && (t358.toList == t344.toList && (t359 == t345)))))) = true := by simpa using c44))
               clear c44
               by_cases c45 : t343 = true
               ·subst c45
                have c44b9 : (t354 == t340 && (t355 == t341 && (t356 == t342 && (t357 && (t358.toList == t344.toList && (t359 == t345)))))) = true := by simpa using c44b0
                have H1 : (some true) = some r := by rw [if_pos rfl] at H; exact H
                clear H
                have H := H1
                clear H1
                obtain rfl := Option.some.inj H
                try go_wp2
                have n0_ := Aside0.mk (Kd.R_drew HO_11.out)
                have n1_ := Aside0.mk (Kd.R_drew HO_12.out)
                have n2_ := Aside0.mk (blk_drew BK330.out)
                have n3_ := Aside0.mk (blk_drew BK346.out)
                have n4_ := Aside0.mk (below_drew1 HB.out)
                clear HO_11
                clear HO_12
                clear BK330
                clear BK346
                clear HB
                have HO_11 := n0_
                have HO_12 := n1_
                have BK330 := n2_
                have BK346 := n3_
                have HB := n4_
                clear n0_ n1_ n2_ n3_ n4_
                refine start_ (n := 23) (S := fun w' => w'.cell? ⟨gb346, 0, none⟩ = some (.int .i64 t340) ∧ w'.cell? ⟨gb346, 1, none⟩ = some (.int .i64 t341) ∧ w'.cell? ⟨gb346, 2, none⟩ = some (.int .i64 t342) ∧ w'.cell? ⟨gb346, 3, none⟩ = some (.bool true) ∧ w'.cell? ⟨gb346, 4, none⟩ = some (.string t344) ∧ w'.cell? ⟨gb346, 5, none⟩ = some (.int .u64 t345)) (ds := []) #[N',N',N',N',N',N',N',N',N',N',N',N',N',N',N',N',N',N',N',N',N',N',N'] (by kernel_rfl) rfl rfl ⟨(blk_cell BK346.out 0).trans rfl, (blk_cell BK346.out 1).trans rfl, (blk_cell BK346.out 2).trans rfl, (blk_cell BK346.out 3).trans (by first | with_reducible rfl | exact congrArg (fun b_ => some (Value.bool b_)) (by assumption) | rfl), (blk_cell BK346.out 4).trans rfl, (blk_cell BK346.out 5).trans rfl⟩ (fun hHeld => ?_); refine with_tabW frisketlaw07_SpanOthers.tab19 frisketlaw07_SpanOthers.bits19 (fun HT_ HW_ => ?_)
                generalize wc.drew = w46 at HO_11 HO_12 BK330 BK346 HB hHeld ⊢
                refine one_ (i := 0) (N := some 84) #[Y',N',N',N',N',N',N',N',N',N',N',N',N',N',N',N',N',N',N',N',N',N',N'] rfl rfl (one_of HT_.out (by kernel_rfl)) (by decide) (fun K hK => ?_)
                refine goes_ Try.func8 (by kernel_rfl) rfl #[] (by rfl) rfl rfl (by (try simp only [List.map_toArray, List.map_cons, List.map_nil]); first | done | rfl | (simp only [List.length_drop, List.length_take]; rfl)) ?_
                with_reducible refine (frisketlaw07_alive.calls kj28  true _ A32.out).mono ?_
                rintro e w47 ⟨rfl, hb⟩
                refine ⟨_, rfl, ?_⟩
                have n0_ := Aside0.mk (Kd.R_below (by (with_reducible repeat (first | apply Kd.R_alloc | apply Kd.R_drewN | apply Kd.R_drew)); exact HO_11.out) hb)
                have n1_ := Aside0.mk (Kd.R_below (by (with_reducible repeat (first | apply Kd.R_alloc | apply Kd.R_drewN | apply Kd.R_drew)); exact HO_12.out) hb)
                have n2_ := Aside0.mk (blk_below (g := gb330) (o := .cells #[.int .i64 a2_0, .int .i64 a2_1, .int .i64 a2_2] 23 (0, 0)) (by (with_reducible repeat (first | refine blk_drewN ?_ _ | refine blk_drew ?_ | refine blk_alloc ?_ _)); exact BK330.out) hb)
                have n3_ := Aside0.mk (blk_below (g := gb346) (o := .cells #[.int .i64 t340, .int .i64 t341, .int .i64 t342, .bool true, .string t344, .int .u64 t345] 33 (0, 0)) (by (with_reducible repeat (first | refine blk_drewN ?_ _ | refine blk_drew ?_ | refine blk_alloc ?_ _)); exact BK346.out) hb)
                have n4_ := Aside0.mk (below_step (by repeat (first | (with_reducible first | exact HB.out | apply below_alloc | apply pw_below_drewN | apply below_drew1 | refine below_set ?_ GE330.out | refine below_set ?_ GE346.out) | exact HB.out)) hb)
                clear HO_11
                clear HO_12
                clear BK330
                clear BK346
                clear HB
                have HO_11 := n0_
                have HO_12 := n1_
                have BK330 := n2_
                have BK346 := n3_
                have HB := n4_
                clear n0_ n1_ n2_ n3_ n4_
                (try clear hb)
                (try clear hb2)
                (try clear hk)
                (try clear hi)
                obtain ⟨Ao48, co48, eo48⟩ := Kd.R_slice HO_11.out
                (first | subst eo48 | (injection eo48 with f1_ f2_ f3_; have f4_ := f1_.symm; have f5_ := f3_.symm; clear f1_ f2_ f3_; subst f4_; subst f5_))
                refine hK.out _ _ ⟨(blk_cell BK346.out 0).trans rfl, (blk_cell BK346.out 1).trans rfl, (blk_cell BK346.out 2).trans rfl, (blk_cell BK346.out 3).trans rfl, (blk_cell BK346.out 4).trans rfl, (blk_cell BK346.out 5).trans rfl⟩ (fun hHeld => ?_)
                clear hK K
                refine norm_ (a' := ?_) ?_ ?_
                rotate_left
                ·show Act.put _ (some 84) _ = _
                 simp only [Act.put, List.setIfInBounds_toArray, List.set_cons_zero, List.set_cons_succ, i64_w, i32_w]
                 rfl
                refine pure_ (i := 1) (N := some 85) (v := ?_) (a' := ?_) #[Y',Y',N',N',N',N',N',N',N',N',N',N',N',N',N',N',N',N',N',N',N',N',N'] rfl rfl (any_of HT_.out (by kernel_rfl)) (fun _ _ _ h => h) (Or.inl ⟨by rfl, ?_⟩) ?_ ?_
                rotate_left
                ·intro w'
                 go_simp
                 with_reducible rfl
                rotate_left
                ·simp only [Act.put, List.setIfInBounds_toArray, List.set_cons_zero, List.set_cons_succ, i64_w, i32_w]
                 rfl
                refine pure_ (i := 2) (N := some 86) (v := ?_) (a' := ?_) #[Y',Y',Y',N',N',N',N',N',N',N',N',N',N',N',N',N',N',N',N',N',N',N',N'] rfl rfl (any_of HT_.out (by kernel_rfl)) (fun _ _ _ h => h) (Or.inl ⟨by rfl, ?_⟩) ?_ ?_
                rotate_left
                ·intro w'
                 go_simp
                 with_reducible rfl
                rotate_left
                ·simp only [Act.put, List.setIfInBounds_toArray, List.set_cons_zero, List.set_cons_succ, i64_w, i32_w]
                 rfl
                refine pure_ (i := 3) (N := some 87) (v := ?_) (a' := ?_) #[Y',Y',Y',Y',N',N',N',N',N',N',N',N',N',N',N',N',N',N',N',N',N',N',N'] rfl rfl (any_of HT_.out (by kernel_rfl)) (fun _ _ _ h => h) (Or.inl ⟨by rfl, ?_⟩) ?_ ?_
                rotate_left
                ·intro w'
                 go_simp
                 with_reducible rfl
                rotate_left
                ·simp only [Act.put, List.setIfInBounds_toArray, List.set_cons_zero, List.set_cons_succ, i64_w, i32_w]
                 rfl
                refine pure_ (i := 4) (N := some 88) (v := ?_) (a' := ?_) #[Y',Y',Y',Y',Y',N',N',N',N',N',N',N',N',N',N',N',N',N',N',N',N',N',N'] rfl rfl (any_of HT_.out (by kernel_rfl)) (fun _ _ _ h => h) (Or.inl ⟨by rfl, ?_⟩) ?_ ?_
                rotate_left
                ·intro w'
                 go_simp
                 with_reducible rfl
                rotate_left
                ·simp only [Act.put, List.setIfInBounds_toArray, List.set_cons_zero, List.set_cons_succ, i64_w, i32_w]
                 rfl
                refine pure_ (i := 5) (N := some 89) (v := ?_) (a' := ?_) #[Y',Y',Y',Y',Y',Y',N',N',N',N',N',N',N',N',N',N',N',N',N',N',N',N',N'] rfl rfl (any_of HT_.out (by kernel_rfl)) (fun _ _ _ h => h) (Or.inl ⟨by rfl, ?_⟩) ?_ ?_
                rotate_left
                ·intro w'
                 go_simp
                 with_reducible rfl
                rotate_left
                ·simp only [Act.put, List.setIfInBounds_toArray, List.set_cons_zero, List.set_cons_succ, i64_w, i32_w]
                 rfl
                refine take_ (i := 7) (N := some 91) (v := ?_) (a' := ?_) #[Y',Y',Y',Y',Y',Y',N',Y',N',N',N',N',N',N',N',N',N',N',N',N',N',N',N'] rfl rfl (take_ofW HT_.out HW_.out (by kernel_rfl)) (fun _ _ _ h => h) (Or.inl ⟨by rfl, ?_⟩) hHeld ?_ ?_
                rotate_left
                ·rintro w' ⟨s0, s1, s2, s3, s4, s5⟩
                 go_simp
                 with_reducible rfl
                rotate_left
                ·simp only [Act.put, List.setIfInBounds_toArray, List.set_cons_zero, List.set_cons_succ, i64_w, i32_w]
                 rfl
                refine one_ (i := 6) (N := some 90) #[Y',Y',Y',Y',Y',Y',Y',Y',N',N',N',N',N',N',N',N',N',N',N',N',N',N',N'] rfl rfl (one_of HT_.out (by kernel_rfl)) (by decide) (fun K hK => ?_)
                refine goes_ Try.func16 (by kernel_rfl) rfl #[.slice Ao48 t334.length co48, .int .i64 x14_20] (by rfl) rfl rfl (by (try simp only [List.map_toArray, List.map_cons, List.map_nil]); first | done | rfl | (simp only [List.length_drop, List.length_take]; rfl)) ?_
                with_reducible refine (span_Style.calls _ _ t334 x14_20 t354 t355 t356 t357 t358 t359 _ ?side1 ?side2 A43.out).mono ?_
                (case side1 => repeat (first | exact (Kd.R_reads' HO_11.out).2.2 | (with_reducible refine Kd.C_alloc ?_ _) | (with_reducible refine Kd.C_drewN ?_ _) | (with_reducible refine Kd.C_drew ?_)))
                (case side2 => exact (Kd.R_reads' HO_11.out).2.1)
                rintro e w49 ⟨rfl, hb⟩
                refine ⟨_, rfl, ?_⟩
                have n0_ := Aside0.mk (Kd.R_below (by (with_reducible repeat (first | apply Kd.R_alloc | apply Kd.R_drewN | apply Kd.R_drew)); exact HO_11.out) hb)
                have n1_ := Aside0.mk (Kd.R_below (by (with_reducible repeat (first | apply Kd.R_alloc | apply Kd.R_drewN | apply Kd.R_drew)); exact HO_12.out) hb)
                have n2_ := Aside0.mk (blk_below (g := gb330) (o := .cells #[.int .i64 a2_0, .int .i64 a2_1, .int .i64 a2_2] 23 (0, 0)) (by (with_reducible repeat (first | refine blk_drewN ?_ _ | refine blk_drew ?_ | refine blk_alloc ?_ _)); exact BK330.out) hb)
                have n3_ := Aside0.mk (blk_below (g := gb346) (o := .cells #[.int .i64 t340, .int .i64 t341, .int .i64 t342, .bool true, .string t344, .int .u64 t345] 33 (0, 0)) (by (with_reducible repeat (first | refine blk_drewN ?_ _ | refine blk_drew ?_ | refine blk_alloc ?_ _)); exact BK346.out) hb)
                have n4_ := Aside0.mk (below_step (by repeat (first | (with_reducible first | exact HB.out | apply below_alloc | apply pw_below_drewN | apply below_drew1 | refine below_set ?_ GE330.out | refine below_set ?_ GE346.out) | exact HB.out)) hb)
                clear HO_11
                clear HO_12
                clear BK330
                clear BK346
                clear HB
                have HO_11 := n0_
                have HO_12 := n1_
                have BK330 := n2_
                have BK346 := n3_
                have HB := n4_
                clear n0_ n1_ n2_ n3_ n4_
                (try clear hb)
                (try clear hb2)
                (try clear hk)
                (try clear hi)
                refine hK.out _ _ ⟨(blk_cell BK346.out 0).trans rfl, (blk_cell BK346.out 1).trans rfl, (blk_cell BK346.out 2).trans rfl, (blk_cell BK346.out 3).trans rfl, (blk_cell BK346.out 4).trans rfl, (blk_cell BK346.out 5).trans rfl⟩ (fun hHeld => ?_)
                clear hK K
                refine norm_ (a' := ?_) ?_ ?_
                rotate_left
                ·show Act.put _ (some 90) _ = _
                 simp only [Act.put, List.setIfInBounds_toArray, List.set_cons_zero, List.set_cons_succ, i64_w, i32_w]
                 rfl
                refine pure_ (i := 8) (N := some 92) (v := ?_) (a' := ?_) #[Y',Y',Y',Y',Y',Y',Y',Y',Y',N',N',N',N',N',N',N',N',N',N',N',N',N',N'] rfl rfl (any_of HT_.out (by kernel_rfl)) (fun _ _ _ h => h) (Or.inl ⟨by rfl, ?_⟩) ?_ ?_
                rotate_left
                ·intro w'
                 go_simp
                 with_reducible rfl
                rotate_left
                ·simp only [Act.put, List.setIfInBounds_toArray, List.set_cons_zero, List.set_cons_succ, i64_w, i32_w]
                 rfl
                refine pure_ (i := 9) (N := some 93) (v := ?_) (a' := ?_) #[Y',Y',Y',Y',Y',Y',Y',Y',Y',Y',N',N',N',N',N',N',N',N',N',N',N',N',N'] rfl rfl (any_of HT_.out (by kernel_rfl)) (fun _ _ _ h => h) (Or.inl ⟨by rfl, ?_⟩) ?_ ?_
                rotate_left
                ·intro w'
                 go_simp
                 with_reducible rfl
                rotate_left
                ·simp only [Act.put, List.setIfInBounds_toArray, List.set_cons_zero, List.set_cons_succ, i64_w, i32_w]
                 rfl
                refine pure_ (i := 10) (N := some 94) (v := ?_) (a' := ?_) #[Y',Y',Y',Y',Y',Y',Y',Y',Y',Y',Y',N',N',N',N',N',N',N',N',N',N',N',N'] rfl rfl (any_of HT_.out (by kernel_rfl)) (fun _ _ _ h => h) (Or.inl ⟨by rfl, ?_⟩) ?_ ?_
                rotate_left
                ·intro w'
                 go_simp
                 with_reducible rfl
                rotate_left
                ·simp only [Act.put, List.setIfInBounds_toArray, List.set_cons_zero, List.set_cons_succ, i64_w, i32_w]
                 rfl
                refine pure_ (i := 11) (N := some 95) (v := ?_) (a' := ?_) #[Y',Y',Y',Y',Y',Y',Y',Y',Y',Y',Y',Y',N',N',N',N',N',N',N',N',N',N',N'] rfl rfl (any_of HT_.out (by kernel_rfl)) (fun _ _ _ h => h) (Or.inl ⟨by rfl, ?_⟩) ?_ ?_
                rotate_left
                ·intro w'
                 go_simp
                 with_reducible rfl
                rotate_left
                ·simp only [Act.put, List.setIfInBounds_toArray, List.set_cons_zero, List.set_cons_succ, i64_w, i32_w]
                 rfl
                refine pure_ (i := 12) (N := some 96) (v := ?_) (a' := ?_) #[Y',Y',Y',Y',Y',Y',Y',Y',Y',Y',Y',Y',Y',N',N',N',N',N',N',N',N',N',N'] rfl rfl (any_of HT_.out (by kernel_rfl)) (fun _ _ _ h => h) (Or.inl ⟨by rfl, ?_⟩) ?_ ?_
                rotate_left
                ·intro w'
                 go_simp
                 with_reducible rfl
                rotate_left
                ·simp only [Act.put, List.setIfInBounds_toArray, List.set_cons_zero, List.set_cons_succ, i64_w, i32_w]
                 rfl
                refine take_ (i := 13) (N := some 97) (v := ?_) (a' := ?_) #[Y',Y',Y',Y',Y',Y',Y',Y',Y',Y',Y',Y',Y',Y',N',N',N',N',N',N',N',N',N'] rfl rfl (take_ofW HT_.out HW_.out (by kernel_rfl)) (fun _ _ _ h => h) (Or.inl ⟨by rfl, ?_⟩) hHeld ?_ ?_
                rotate_left
                ·rintro w' ⟨s0, s1, s2, s3, s4, s5⟩
                 go_simp
                 with_reducible rfl
                rotate_left
                ·simp only [Act.put, List.setIfInBounds_toArray, List.set_cons_zero, List.set_cons_succ, i64_w, i32_w]
                 rfl
                refine pure_ (i := 14) (N := some 98) (v := ?_) (a' := ?_) #[Y',Y',Y',Y',Y',Y',Y',Y',Y',Y',Y',Y',Y',Y',Y',N',N',N',N',N',N',N',N'] rfl rfl (any_of HT_.out (by kernel_rfl)) (fun _ _ _ h => h) (Or.inl ⟨by rfl, ?_⟩) ?_ ?_
                rotate_left
                ·intro w'
                 go_simp
                 with_reducible rfl
                rotate_left
                ·simp only [Act.put, List.setIfInBounds_toArray, List.set_cons_zero, List.set_cons_succ, i64_w, i32_w]
                 rfl
                refine pure_ (i := 15) (N := some 99) (v := undef) (a' := ?_) #[Y',Y',Y',Y',Y',Y',Y',Y',Y',Y',Y',Y',Y',Y',Y',Y',N',N',N',N',N',N',N'] rfl rfl (any_of HT_.out (by kernel_rfl)) (fun _ _ _ h => h) (Or.inr ⟨by rfl, rfl⟩) ?_ ?_
                rotate_left
                ·simp only [Act.put, List.setIfInBounds_toArray, List.set_cons_zero, List.set_cons_succ, i64_w, i32_w]
                 rfl
                refine pure_ (i := 16) (N := some 100) (v := undef) (a' := ?_) #[Y',Y',Y',Y',Y',Y',Y',Y',Y',Y',Y',Y',Y',Y',Y',Y',Y',N',N',N',N',N',N'] rfl rfl (any_of HT_.out (by kernel_rfl)) (fun _ _ _ h => h) (Or.inr ⟨by rfl, rfl⟩) ?_ ?_
                rotate_left
                ·simp only [Act.put, List.setIfInBounds_toArray, List.set_cons_zero, List.set_cons_succ, i64_w, i32_w]
                 rfl
                refine pure_ (i := 17) (N := some 101) (v := undef) (a' := ?_) #[Y',Y',Y',Y',Y',Y',Y',Y',Y',Y',Y',Y',Y',Y',Y',Y',Y',Y',N',N',N',N',N'] rfl rfl (any_of HT_.out (by kernel_rfl)) (fun _ _ _ h => h) (Or.inr ⟨by rfl, rfl⟩) ?_ ?_
                rotate_left
                ·simp only [Act.put, List.setIfInBounds_toArray, List.set_cons_zero, List.set_cons_succ, i64_w, i32_w]
                 rfl
                refine pure_ (i := 18) (N := some 102) (v := undef) (a' := ?_) #[Y',Y',Y',Y',Y',Y',Y',Y',Y',Y',Y',Y',Y',Y',Y',Y',Y',Y',Y',N',N',N',N'] rfl rfl (any_of HT_.out (by kernel_rfl)) (fun _ _ _ h => h) (Or.inr ⟨by rfl, rfl⟩) ?_ ?_
                rotate_left
                ·simp only [Act.put, List.setIfInBounds_toArray, List.set_cons_zero, List.set_cons_succ, i64_w, i32_w]
                 rfl
                refine pure_ (i := 19) (N := some 103) (v := undef) (a' := ?_) #[Y',Y',Y',Y',Y',Y',Y',Y',Y',Y',Y',Y',Y',Y',Y',Y',Y',Y',Y',Y',N',N',N'] rfl rfl (any_of HT_.out (by kernel_rfl)) (fun _ _ _ h => h) (Or.inr ⟨by rfl, rfl⟩) ?_ ?_
                rotate_left
                ·simp only [Act.put, List.setIfInBounds_toArray, List.set_cons_zero, List.set_cons_succ, i64_w, i32_w]
                 rfl
                refine pure_ (i := 20) (N := some 104) (v := ?_) (a' := ?_) #[Y',Y',Y',Y',Y',Y',Y',Y',Y',Y',Y',Y',Y',Y',Y',Y',Y',Y',Y',Y',Y',N',N'] rfl rfl (any_of HT_.out (by kernel_rfl)) (fun _ _ _ h => h) (Or.inl ⟨by rfl, ?_⟩) ?_ ?_
                rotate_left
                ·intro w'
                 go_simp
                 with_reducible rfl
                rotate_left
                ·simp only [Act.put, List.setIfInBounds_toArray, List.set_cons_zero, List.set_cons_succ, i64_w, i32_w]
                 rfl
                refine pure_ (i := 21) (N := some 105) (v := ?_) (a' := ?_) #[Y',Y',Y',Y',Y',Y',Y',Y',Y',Y',Y',Y',Y',Y',Y',Y',Y',Y',Y',Y',Y',Y',N'] rfl rfl (any_of HT_.out (by kernel_rfl)) (fun _ _ _ h => h) (Or.inl ⟨by rfl, ?_⟩) ?_ ?_
                rotate_left
                ·intro w'
                 go_simp
                 with_reducible rfl
                rotate_left
                ·simp only [Act.put, List.setIfInBounds_toArray, List.set_cons_zero, List.set_cons_succ, i64_w, i32_w]
                 rfl
                refine pure_ (i := 22) (N := some 6) (v := ?_) (a' := ?_) #[Y',Y',Y',Y',Y',Y',Y',Y',Y',Y',Y',Y',Y',Y',Y',Y',Y',Y',Y',Y',Y',Y',Y'] rfl rfl (any_of HT_.out (by kernel_rfl)) (fun _ _ _ h => h) (Or.inl ⟨by rfl, ?_⟩) ?_ ?_
                rotate_left
                ·intro w'
                 go_simp
                 with_reducible rfl
                rotate_left
                ·simp only [Act.put, List.setIfInBounds_toArray, List.set_cons_zero, List.set_cons_succ, i64_w, i32_w]
                 rfl
                refine done_ (done_of HT_.out (by kernel_rfl)) ?_
                try go_wp2
                go_ret
                exact ⟨by first | rfl | (simp [errW_none, errW_some] <;> rfl) | (simp [*, errW_none, errW_some] <;> rfl), by repeat (first | (with_reducible first | exact HB.out | apply below_alloc | apply pw_below_drewN | apply below_drew1 | refine below_set ?_ GE330.out | refine below_set ?_ GE346.out) | exact HB.out)⟩
               ·replace c45 := Bool.eq_false_iff.mpr c45
                subst c45
                have c44b9 : (t354 == t340 && (t355 == t341 && (t356 == t342 && (!t357 && (t358.toList == t344.toList && (t359 == t345)))))) = true := by simpa using c44b0
                have H1 : ((span_Style.f t337 (wrap64 ((Go.bits .and .i64 a2_0 1023) + (Go.bits .and .i64 a2_2 63)))).bind fun bt360 => (some (bt360.1 == t340 && (bt360.2.1 == t341 && (bt360.2.2.1 == t342 && (bt360.2.2.2.1 == false && (bt360.2.2.2.2.1.toList == t344.toList && (bt360.2.2.2.2.2 == t345)))))))) = some r := by rw [if_neg (show ¬ (false = true) by decide)] at H; exact H
                clear H
                have H := H1
                clear H1
                replace H := Option.bind_eq_some_iff.mp H
                obtain ⟨⟨t360, t361, t362, t363, t364, t365⟩, A500, H⟩ := H
                replace H : (some (t360 == t340 && (t361 == t341 && (t362 == t342 && (t363 == false && (t364.toList == t344.toList && (t365 == t345))))))) = some r := H
                have A50 := Aside0.mk A500
                clear A500
                obtain rfl := Option.some.inj H
                try go_wp2
                have n0_ := Aside0.mk (Kd.R_drew HO_11.out)
                have n1_ := Aside0.mk (Kd.R_drew HO_12.out)
                have n2_ := Aside0.mk (blk_drew BK330.out)
                have n3_ := Aside0.mk (blk_drew BK346.out)
                have n4_ := Aside0.mk (below_drew1 HB.out)
                clear HO_11
                clear HO_12
                clear BK330
                clear BK346
                clear HB
                have HO_11 := n0_
                have HO_12 := n1_
                have BK330 := n2_
                have BK346 := n3_
                have HB := n4_
                clear n0_ n1_ n2_ n3_ n4_
                refine start_ (n := 23) (S := fun w' => w'.cell? ⟨gb346, 0, none⟩ = some (.int .i64 t340) ∧ w'.cell? ⟨gb346, 1, none⟩ = some (.int .i64 t341) ∧ w'.cell? ⟨gb346, 2, none⟩ = some (.int .i64 t342) ∧ w'.cell? ⟨gb346, 3, none⟩ = some (.bool false) ∧ w'.cell? ⟨gb346, 4, none⟩ = some (.string t344) ∧ w'.cell? ⟨gb346, 5, none⟩ = some (.int .u64 t345)) (ds := []) #[N',N',N',N',N',N',N',N',N',N',N',N',N',N',N',N',N',N',N',N',N',N',N'] (by kernel_rfl) rfl rfl ⟨(blk_cell BK346.out 0).trans rfl, (blk_cell BK346.out 1).trans rfl, (blk_cell BK346.out 2).trans rfl, (blk_cell BK346.out 3).trans (by first | with_reducible rfl | exact congrArg (fun b_ => some (Value.bool b_)) (by assumption) | rfl), (blk_cell BK346.out 4).trans rfl, (blk_cell BK346.out 5).trans rfl⟩ (fun hHeld => ?_); refine with_tabW frisketlaw07_SpanOthers.tab19 frisketlaw07_SpanOthers.bits19 (fun HT_ HW_ => ?_)
                generalize wc.drew = w51 at HO_11 HO_12 BK330 BK346 HB hHeld ⊢
                refine one_ (i := 0) (N := some 84) #[Y',N',N',N',N',N',N',N',N',N',N',N',N',N',N',N',N',N',N',N',N',N',N'] rfl rfl (one_of HT_.out (by kernel_rfl)) (by decide) (fun K hK => ?_)
                refine goes_ Try.func8 (by kernel_rfl) rfl #[] (by rfl) rfl rfl (by (try simp only [List.map_toArray, List.map_cons, List.map_nil]); first | done | rfl | (simp only [List.length_drop, List.length_take]; rfl)) ?_
                with_reducible refine (frisketlaw07_alive.calls kj28  true _ A32.out).mono ?_
                rintro e w52 ⟨rfl, hb⟩
                refine ⟨_, rfl, ?_⟩
                have n0_ := Aside0.mk (Kd.R_below (by (with_reducible repeat (first | apply Kd.R_alloc | apply Kd.R_drewN | apply Kd.R_drew)); exact HO_11.out) hb)
                have n1_ := Aside0.mk (Kd.R_below (by (with_reducible repeat (first | apply Kd.R_alloc | apply Kd.R_drewN | apply Kd.R_drew)); exact HO_12.out) hb)
                have n2_ := Aside0.mk (blk_below (g := gb330) (o := .cells #[.int .i64 a2_0, .int .i64 a2_1, .int .i64 a2_2] 23 (0, 0)) (by (with_reducible repeat (first | refine blk_drewN ?_ _ | refine blk_drew ?_ | refine blk_alloc ?_ _)); exact BK330.out) hb)
                have n3_ := Aside0.mk (blk_below (g := gb346) (o := .cells #[.int .i64 t340, .int .i64 t341, .int .i64 t342, .bool false, .string t344, .int .u64 t345] 33 (0, 0)) (by (with_reducible repeat (first | refine blk_drewN ?_ _ | refine blk_drew ?_ | refine blk_alloc ?_ _)); exact BK346.out) hb)
                have n4_ := Aside0.mk (below_step (by repeat (first | (with_reducible first | exact HB.out | apply below_alloc | apply pw_below_drewN | apply below_drew1 | refine below_set ?_ GE330.out | refine below_set ?_ GE346.out) | exact HB.out)) hb)
                clear HO_11
                clear HO_12
                clear BK330
                clear BK346
                clear HB
                have HO_11 := n0_
                have HO_12 := n1_
                have BK330 := n2_
                have BK346 := n3_
                have HB := n4_
                clear n0_ n1_ n2_ n3_ n4_
                (try clear hb)
                (try clear hb2)
                (try clear hk)
                (try clear hi)
                obtain ⟨Ao53, co53, eo53⟩ := Kd.R_slice HO_11.out
                (first | subst eo53 | (injection eo53 with f1_ f2_ f3_; have f4_ := f1_.symm; have f5_ := f3_.symm; clear f1_ f2_ f3_; subst f4_; subst f5_))
                refine hK.out _ _ ⟨(blk_cell BK346.out 0).trans rfl, (blk_cell BK346.out 1).trans rfl, (blk_cell BK346.out 2).trans rfl, (blk_cell BK346.out 3).trans rfl, (blk_cell BK346.out 4).trans rfl, (blk_cell BK346.out 5).trans rfl⟩ (fun hHeld => ?_)
                clear hK K
                refine norm_ (a' := ?_) ?_ ?_
                rotate_left
                ·show Act.put _ (some 84) _ = _
                 simp only [Act.put, List.setIfInBounds_toArray, List.set_cons_zero, List.set_cons_succ, i64_w, i32_w]
                 rfl
                refine pure_ (i := 1) (N := some 85) (v := ?_) (a' := ?_) #[Y',Y',N',N',N',N',N',N',N',N',N',N',N',N',N',N',N',N',N',N',N',N',N'] rfl rfl (any_of HT_.out (by kernel_rfl)) (fun _ _ _ h => h) (Or.inl ⟨by rfl, ?_⟩) ?_ ?_
                rotate_left
                ·intro w'
                 go_simp
                 with_reducible rfl
                rotate_left
                ·simp only [Act.put, List.setIfInBounds_toArray, List.set_cons_zero, List.set_cons_succ, i64_w, i32_w]
                 rfl
                refine pure_ (i := 2) (N := some 86) (v := ?_) (a' := ?_) #[Y',Y',Y',N',N',N',N',N',N',N',N',N',N',N',N',N',N',N',N',N',N',N',N'] rfl rfl (any_of HT_.out (by kernel_rfl)) (fun _ _ _ h => h) (Or.inl ⟨by rfl, ?_⟩) ?_ ?_
                rotate_left
                ·intro w'
                 go_simp
                 with_reducible rfl
                rotate_left
                ·simp only [Act.put, List.setIfInBounds_toArray, List.set_cons_zero, List.set_cons_succ, i64_w, i32_w]
                 rfl
                refine pure_ (i := 3) (N := some 87) (v := ?_) (a' := ?_) #[Y',Y',Y',Y',N',N',N',N',N',N',N',N',N',N',N',N',N',N',N',N',N',N',N'] rfl rfl (any_of HT_.out (by kernel_rfl)) (fun _ _ _ h => h) (Or.inl ⟨by rfl, ?_⟩) ?_ ?_
                rotate_left
                ·intro w'
                 go_simp
                 with_reducible rfl
                rotate_left
                ·simp only [Act.put, List.setIfInBounds_toArray, List.set_cons_zero, List.set_cons_succ, i64_w, i32_w]
                 rfl
                refine pure_ (i := 4) (N := some 88) (v := ?_) (a' := ?_) #[Y',Y',Y',Y',Y',N',N',N',N',N',N',N',N',N',N',N',N',N',N',N',N',N',N'] rfl rfl (any_of HT_.out (by kernel_rfl)) (fun _ _ _ h => h) (Or.inl ⟨by rfl, ?_⟩) ?_ ?_
                rotate_left
                ·intro w'
                 go_simp
                 with_reducible rfl
                rotate_left
                ·simp only [Act.put, List.setIfInBounds_toArray, List.set_cons_zero, List.set_cons_succ, i64_w, i32_w]
                 rfl
                refine pure_ (i := 5) (N := some 89) (v := ?_) (a' := ?_) #[Y',Y',Y',Y',Y',Y',N',N',N',N',N',N',N',N',N',N',N',N',N',N',N',N',N'] rfl rfl (any_of HT_.out (by kernel_rfl)) (fun _ _ _ h => h) (Or.inl ⟨by rfl, ?_⟩) ?_ ?_
                rotate_left
                ·intro w'
                 go_simp
                 with_reducible rfl
                rotate_left
                ·simp only [Act.put, List.setIfInBounds_toArray, List.set_cons_zero, List.set_cons_succ, i64_w, i32_w]
                 rfl
                refine take_ (i := 7) (N := some 91) (v := ?_) (a' := ?_) #[Y',Y',Y',Y',Y',Y',N',Y',N',N',N',N',N',N',N',N',N',N',N',N',N',N',N'] rfl rfl (take_ofW HT_.out HW_.out (by kernel_rfl)) (fun _ _ _ h => h) (Or.inl ⟨by rfl, ?_⟩) hHeld ?_ ?_
                rotate_left
                ·rintro w' ⟨s0, s1, s2, s3, s4, s5⟩
                 go_simp
                 with_reducible rfl
                rotate_left
                ·simp only [Act.put, List.setIfInBounds_toArray, List.set_cons_zero, List.set_cons_succ, i64_w, i32_w]
                 rfl
                refine one_ (i := 6) (N := some 90) #[Y',Y',Y',Y',Y',Y',Y',Y',N',N',N',N',N',N',N',N',N',N',N',N',N',N',N'] rfl rfl (one_of HT_.out (by kernel_rfl)) (by decide) (fun K hK => ?_)
                refine goes_ Try.func16 (by kernel_rfl) rfl #[.slice Ao53 t334.length co53, .int .i64 x14_20] (by rfl) rfl rfl (by (try simp only [List.map_toArray, List.map_cons, List.map_nil]); first | done | rfl | (simp only [List.length_drop, List.length_take]; rfl)) ?_
                with_reducible refine (span_Style.calls _ _ t334 x14_20 t354 t355 t356 t357 t358 t359 _ ?side1 ?side2 A43.out).mono ?_
                (case side1 => repeat (first | exact (Kd.R_reads' HO_11.out).2.2 | (with_reducible refine Kd.C_alloc ?_ _) | (with_reducible refine Kd.C_drewN ?_ _) | (with_reducible refine Kd.C_drew ?_)))
                (case side2 => exact (Kd.R_reads' HO_11.out).2.1)
                rintro e w54 ⟨rfl, hb⟩
                refine ⟨_, rfl, ?_⟩
                have n0_ := Aside0.mk (Kd.R_below (by (with_reducible repeat (first | apply Kd.R_alloc | apply Kd.R_drewN | apply Kd.R_drew)); exact HO_11.out) hb)
                have n1_ := Aside0.mk (Kd.R_below (by (with_reducible repeat (first | apply Kd.R_alloc | apply Kd.R_drewN | apply Kd.R_drew)); exact HO_12.out) hb)
                have n2_ := Aside0.mk (blk_below (g := gb330) (o := .cells #[.int .i64 a2_0, .int .i64 a2_1, .int .i64 a2_2] 23 (0, 0)) (by (with_reducible repeat (first | refine blk_drewN ?_ _ | refine blk_drew ?_ | refine blk_alloc ?_ _)); exact BK330.out) hb)
                have n3_ := Aside0.mk (blk_below (g := gb346) (o := .cells #[.int .i64 t340, .int .i64 t341, .int .i64 t342, .bool false, .string t344, .int .u64 t345] 33 (0, 0)) (by (with_reducible repeat (first | refine blk_drewN ?_ _ | refine blk_drew ?_ | refine blk_alloc ?_ _)); exact BK346.out) hb)
                have n4_ := Aside0.mk (below_step (by repeat (first | (with_reducible first | exact HB.out | apply below_alloc | apply pw_below_drewN | apply below_drew1 | refine below_set ?_ GE330.out | refine below_set ?_ GE346.out) | exact HB.out)) hb)
                clear HO_11
                clear HO_12
                clear BK330
                clear BK346
                clear HB
                have HO_11 := n0_
                have HO_12 := n1_
                have BK330 := n2_
                have BK346 := n3_
                have HB := n4_
                clear n0_ n1_ n2_ n3_ n4_
                (try clear hb)
                (try clear hb2)
                (try clear hk)
                (try clear hi)
                obtain ⟨Ao55, co55, eo55⟩ := Kd.R_slice HO_12.out
                (first | subst eo55 | (injection eo55 with f1_ f2_ f3_; have f4_ := f1_.symm; have f5_ := f3_.symm; clear f1_ f2_ f3_; subst f4_; subst f5_))
                refine hK.out _ _ ⟨(blk_cell BK346.out 0).trans rfl, (blk_cell BK346.out 1).trans rfl, (blk_cell BK346.out 2).trans rfl, (blk_cell BK346.out 3).trans rfl, (blk_cell BK346.out 4).trans rfl, (blk_cell BK346.out 5).trans rfl⟩ (fun hHeld => ?_)
                clear hK K
                refine norm_ (a' := ?_) ?_ ?_
                rotate_left
                ·show Act.put _ (some 90) _ = _
                 simp only [Act.put, List.setIfInBounds_toArray, List.set_cons_zero, List.set_cons_succ, i64_w, i32_w]
                 rfl
                refine pure_ (i := 8) (N := some 92) (v := ?_) (a' := ?_) #[Y',Y',Y',Y',Y',Y',Y',Y',Y',N',N',N',N',N',N',N',N',N',N',N',N',N',N'] rfl rfl (any_of HT_.out (by kernel_rfl)) (fun _ _ _ h => h) (Or.inl ⟨by rfl, ?_⟩) ?_ ?_
                rotate_left
                ·intro w'
                 go_simp
                 with_reducible rfl
                rotate_left
                ·simp only [Act.put, List.setIfInBounds_toArray, List.set_cons_zero, List.set_cons_succ, i64_w, i32_w]
                 rfl
                refine pure_ (i := 9) (N := some 93) (v := ?_) (a' := ?_) #[Y',Y',Y',Y',Y',Y',Y',Y',Y',Y',N',N',N',N',N',N',N',N',N',N',N',N',N'] rfl rfl (any_of HT_.out (by kernel_rfl)) (fun _ _ _ h => h) (Or.inl ⟨by rfl, ?_⟩) ?_ ?_
                rotate_left
                ·intro w'
                 go_simp
                 with_reducible rfl
                rotate_left
                ·simp only [Act.put, List.setIfInBounds_toArray, List.set_cons_zero, List.set_cons_succ, i64_w, i32_w]
                 rfl
                refine pure_ (i := 10) (N := some 94) (v := ?_) (a' := ?_) #[Y',Y',Y',Y',Y',Y',Y',Y',Y',Y',Y',N',N',N',N',N',N',N',N',N',N',N',N'] rfl rfl (any_of HT_.out (by kernel_rfl)) (fun _ _ _ h => h) (Or.inl ⟨by rfl, ?_⟩) ?_ ?_
                rotate_left
                ·intro w'
                 go_simp
                 with_reducible rfl
                rotate_left
                ·simp only [Act.put, List.setIfInBounds_toArray, List.set_cons_zero, List.set_cons_succ, i64_w, i32_w]
                 rfl
                refine pure_ (i := 11) (N := some 95) (v := ?_) (a' := ?_) #[Y',Y',Y',Y',Y',Y',Y',Y',Y',Y',Y',Y',N',N',N',N',N',N',N',N',N',N',N'] rfl rfl (any_of HT_.out (by kernel_rfl)) (fun _ _ _ h => h) (Or.inl ⟨by rfl, ?_⟩) ?_ ?_
                rotate_left
                ·intro w'
                 go_simp
                 with_reducible rfl
                rotate_left
                ·simp only [Act.put, List.setIfInBounds_toArray, List.set_cons_zero, List.set_cons_succ, i64_w, i32_w]
                 rfl
                refine pure_ (i := 12) (N := some 96) (v := ?_) (a' := ?_) #[Y',Y',Y',Y',Y',Y',Y',Y',Y',Y',Y',Y',Y',N',N',N',N',N',N',N',N',N',N'] rfl rfl (any_of HT_.out (by kernel_rfl)) (fun _ _ _ h => h) (Or.inl ⟨by rfl, ?_⟩) ?_ ?_
                rotate_left
                ·intro w'
                 go_simp
                 with_reducible rfl
                rotate_left
                ·simp only [Act.put, List.setIfInBounds_toArray, List.set_cons_zero, List.set_cons_succ, i64_w, i32_w]
                 rfl
                refine take_ (i := 13) (N := some 97) (v := ?_) (a' := ?_) #[Y',Y',Y',Y',Y',Y',Y',Y',Y',Y',Y',Y',Y',Y',N',N',N',N',N',N',N',N',N'] rfl rfl (take_ofW HT_.out HW_.out (by kernel_rfl)) (fun _ _ _ h => h) (Or.inl ⟨by rfl, ?_⟩) hHeld ?_ ?_
                rotate_left
                ·rintro w' ⟨s0, s1, s2, s3, s4, s5⟩
                 go_simp
                 with_reducible rfl
                rotate_left
                ·simp only [Act.put, List.setIfInBounds_toArray, List.set_cons_zero, List.set_cons_succ, i64_w, i32_w]
                 rfl
                refine pure_ (i := 14) (N := some 98) (v := ?_) (a' := ?_) #[Y',Y',Y',Y',Y',Y',Y',Y',Y',Y',Y',Y',Y',Y',Y',N',N',N',N',N',N',N',N'] rfl rfl (any_of HT_.out (by kernel_rfl)) (fun _ _ _ h => h) (Or.inl ⟨by rfl, ?_⟩) ?_ ?_
                rotate_left
                ·intro w'
                 go_simp
                 with_reducible rfl
                rotate_left
                ·simp only [Act.put, List.setIfInBounds_toArray, List.set_cons_zero, List.set_cons_succ, i64_w, i32_w]
                 rfl
                refine pure_ (i := 15) (N := some 99) (v := ?_) (a' := ?_) #[Y',Y',Y',Y',Y',Y',Y',Y',Y',Y',Y',Y',Y',Y',Y',Y',N',N',N',N',N',N',N'] rfl rfl (any_of HT_.out (by kernel_rfl)) (fun _ _ _ h => h) (Or.inl ⟨by rfl, ?_⟩) ?_ ?_
                rotate_left
                ·intro w'
                 go_simp
                 with_reducible rfl
                rotate_left
                ·simp only [Act.put, List.setIfInBounds_toArray, List.set_cons_zero, List.set_cons_succ, i64_w, i32_w]
                 rfl
                refine pure_ (i := 16) (N := some 100) (v := ?_) (a' := ?_) #[Y',Y',Y',Y',Y',Y',Y',Y',Y',Y',Y',Y',Y',Y',Y',Y',Y',N',N',N',N',N',N'] rfl rfl (any_of HT_.out (by kernel_rfl)) (fun _ _ _ h => h) (Or.inl ⟨by rfl, ?_⟩) ?_ ?_
                rotate_left
                ·intro w'
                 go_simp
                 with_reducible rfl
                rotate_left
                ·simp only [Act.put, List.setIfInBounds_toArray, List.set_cons_zero, List.set_cons_succ, i64_w, i32_w]
                 rfl
                refine take_ (i := 18) (N := some 102) (v := ?_) (a' := ?_) #[Y',Y',Y',Y',Y',Y',Y',Y',Y',Y',Y',Y',Y',Y',Y',Y',Y',N',Y',N',N',N',N'] rfl rfl (take_ofW HT_.out HW_.out (by kernel_rfl)) (fun _ _ _ h => h) (Or.inl ⟨by rfl, ?_⟩) hHeld ?_ ?_
                rotate_left
                ·rintro w' ⟨s0, s1, s2, s3, s4, s5⟩
                 go_simp
                 with_reducible rfl
                rotate_left
                ·simp only [Act.put, List.setIfInBounds_toArray, List.set_cons_zero, List.set_cons_succ, i64_w, i32_w]
                 rfl
                refine one_ (i := 17) (N := some 101) #[Y',Y',Y',Y',Y',Y',Y',Y',Y',Y',Y',Y',Y',Y',Y',Y',Y',Y',Y',N',N',N',N'] rfl rfl (one_of HT_.out (by kernel_rfl)) (by decide) (fun K hK => ?_)
                refine goes_ Try.func16 (by kernel_rfl) rfl #[.slice Ao55 t337.length co55, .int .i64 (wrap64 ((Go.bits .and .i64 a2_0 1023) + (Go.bits .and .i64 a2_2 63)))] (by rfl) rfl rfl (by (try simp only [List.map_toArray, List.map_cons, List.map_nil]); first | done | rfl | (simp only [List.length_drop, List.length_take]; rfl)) ?_
                with_reducible refine (span_Style.calls _ _ t337 (wrap64 ((Go.bits .and .i64 a2_0 1023) + (Go.bits .and .i64 a2_2 63))) t360 t361 t362 t363 t364 t365 _ ?side1 ?side2 A50.out).mono ?_
                (case side1 => repeat (first | exact (Kd.R_reads' HO_12.out).2.2 | (with_reducible refine Kd.C_alloc ?_ _) | (with_reducible refine Kd.C_drewN ?_ _) | (with_reducible refine Kd.C_drew ?_)))
                (case side2 => exact (Kd.R_reads' HO_12.out).2.1)
                rintro e w56 ⟨rfl, hb⟩
                refine ⟨_, rfl, ?_⟩
                have n0_ := Aside0.mk (Kd.R_below (by (with_reducible repeat (first | apply Kd.R_alloc | apply Kd.R_drewN | apply Kd.R_drew)); exact HO_11.out) hb)
                have n1_ := Aside0.mk (Kd.R_below (by (with_reducible repeat (first | apply Kd.R_alloc | apply Kd.R_drewN | apply Kd.R_drew)); exact HO_12.out) hb)
                have n2_ := Aside0.mk (blk_below (g := gb330) (o := .cells #[.int .i64 a2_0, .int .i64 a2_1, .int .i64 a2_2] 23 (0, 0)) (by (with_reducible repeat (first | refine blk_drewN ?_ _ | refine blk_drew ?_ | refine blk_alloc ?_ _)); exact BK330.out) hb)
                have n3_ := Aside0.mk (blk_below (g := gb346) (o := .cells #[.int .i64 t340, .int .i64 t341, .int .i64 t342, .bool false, .string t344, .int .u64 t345] 33 (0, 0)) (by (with_reducible repeat (first | refine blk_drewN ?_ _ | refine blk_drew ?_ | refine blk_alloc ?_ _)); exact BK346.out) hb)
                have n4_ := Aside0.mk (below_step (by repeat (first | (with_reducible first | exact HB.out | apply below_alloc | apply pw_below_drewN | apply below_drew1 | refine below_set ?_ GE330.out | refine below_set ?_ GE346.out) | exact HB.out)) hb)
                clear HO_11
                clear HO_12
                clear BK330
                clear BK346
                clear HB
                have HO_11 := n0_
                have HO_12 := n1_
                have BK330 := n2_
                have BK346 := n3_
                have HB := n4_
                clear n0_ n1_ n2_ n3_ n4_
                (try clear hb)
                (try clear hb2)
                (try clear hk)
                (try clear hi)
                refine hK.out _ _ ⟨(blk_cell BK346.out 0).trans rfl, (blk_cell BK346.out 1).trans rfl, (blk_cell BK346.out 2).trans rfl, (blk_cell BK346.out 3).trans rfl, (blk_cell BK346.out 4).trans rfl, (blk_cell BK346.out 5).trans rfl⟩ (fun hHeld => ?_)
                clear hK K
                refine norm_ (a' := ?_) ?_ ?_
                rotate_left
                ·show Act.put _ (some 101) _ = _
                 simp only [Act.put, List.setIfInBounds_toArray, List.set_cons_zero, List.set_cons_succ, i64_w, i32_w]
                 rfl
                refine pure_ (i := 19) (N := some 103) (v := ?_) (a' := ?_) #[Y',Y',Y',Y',Y',Y',Y',Y',Y',Y',Y',Y',Y',Y',Y',Y',Y',Y',Y',Y',N',N',N'] rfl rfl (any_of HT_.out (by kernel_rfl)) (fun _ _ _ h => h) (Or.inl ⟨by rfl, ?_⟩) ?_ ?_
                rotate_left
                ·intro w'
                 go_simp
                 with_reducible rfl
                rotate_left
                ·simp only [Act.put, List.setIfInBounds_toArray, List.set_cons_zero, List.set_cons_succ, i64_w, i32_w]
                 rfl
                refine pure_ (i := 20) (N := some 104) (v := ?_) (a' := ?_) #[Y',Y',Y',Y',Y',Y',Y',Y',Y',Y',Y',Y',Y',Y',Y',Y',Y',Y',Y',Y',Y',N',N'] rfl rfl (any_of HT_.out (by kernel_rfl)) (fun _ _ _ h => h) (Or.inl ⟨by rfl, ?_⟩) ?_ ?_
                rotate_left
                ·intro w'
                 go_simp
                 with_reducible rfl
                rotate_left
                ·simp only [Act.put, List.setIfInBounds_toArray, List.set_cons_zero, List.set_cons_succ, i64_w, i32_w]
                 rfl
                refine pure_ (i := 21) (N := some 105) (v := ?_) (a' := ?_) #[Y',Y',Y',Y',Y',Y',Y',Y',Y',Y',Y',Y',Y',Y',Y',Y',Y',Y',Y',Y',Y',Y',N'] rfl rfl (any_of HT_.out (by kernel_rfl)) (fun _ _ _ h => h) (Or.inl ⟨by rfl, ?_⟩) ?_ ?_
                rotate_left
                ·intro w'
                 go_simp
                 with_reducible rfl
                rotate_left
                ·simp only [Act.put, List.setIfInBounds_toArray, List.set_cons_zero, List.set_cons_succ, i64_w, i32_w]
                 rfl
                refine pure_ (i := 22) (N := some 6) (v := ?_) (a' := ?_) #[Y',Y',Y',Y',Y',Y',Y',Y',Y',Y',Y',Y',Y',Y',Y',Y',Y',Y',Y',Y',Y',Y',Y'] rfl rfl (any_of HT_.out (by kernel_rfl)) (fun _ _ _ h => h) (Or.inl ⟨by rfl, ?_⟩) ?_ ?_
                rotate_left
                ·intro w'
                 go_simp
                 with_reducible rfl
                rotate_left
                ·simp only [Act.put, List.setIfInBounds_toArray, List.set_cons_zero, List.set_cons_succ, i64_w, i32_w]
                 rfl
                refine done_ (done_of HT_.out (by kernel_rfl)) ?_
                try go_wp2
                go_ret
                exact ⟨by first | rfl | (simp [errW_none, errW_some] <;> rfl) | (simp [*, errW_none, errW_some] <;> rfl), by repeat (first | (with_reducible first | exact HB.out | apply below_alloc | apply pw_below_drewN | apply below_drew1 | refine below_set ?_ GE330.out | refine below_set ?_ GE346.out) | exact HB.out)⟩
              ·rw [if_neg c44] at H
               have c44b0 : (t354 == t340 && (t355 == t341 && (t356 == t342 && (t357 == t343 && (t358.toList == t344.toList && (t359 == t345)))))) = false := by simpa using c44
               (try (have c44b1 : decide (t354 = t340 && (t355 == t341 && (t356 == t342 && (t357 == t343 && (t358.toList == t344.toList && (t359 == t345)))))) = false := by simpa using c44))
               (try (have c44b2 : (t354 == t340 && (t355 == t341 && (t356 == t342 && (t357 == t343 && (t358.toList == t344.toList && (t359 == t345)))))) = false := by simpa using c44))
               (try (have c44b3 : ¬ (t354 = t340 && (t355 == t341 && (t356 == t342 && (t357 == t343 && (t358.toList == t344.toList && (t359 == t345)))))) := by simpa using c44))
               clear c44
               obtain rfl := Option.some.inj H
               try go_wp2
               have n0_ := Aside0.mk (Kd.R_drew HO_11.out)
               have n1_ := Aside0.mk (Kd.R_drew HO_12.out)
               have n2_ := Aside0.mk (blk_drew BK330.out)
               have n3_ := Aside0.mk (blk_drew BK346.out)
               have n4_ := Aside0.mk (below_drew1 HB.out)
               clear HO_11
               clear HO_12
               clear BK330
               clear BK346
               clear HB
               have HO_11 := n0_
               have HO_12 := n1_
               have BK330 := n2_
               have BK346 := n3_
               have HB := n4_
               clear n0_ n1_ n2_ n3_ n4_
               refine start_ (n := 23) (S := fun w' => w'.cell? ⟨gb346, 0, none⟩ = some (.int .i64 t340) ∧ w'.cell? ⟨gb346, 1, none⟩ = some (.int .i64 t341) ∧ w'.cell? ⟨gb346, 2, none⟩ = some (.int .i64 t342) ∧ w'.cell? ⟨gb346, 3, none⟩ = some (.bool t343) ∧ w'.cell? ⟨gb346, 4, none⟩ = some (.string t344) ∧ w'.cell? ⟨gb346, 5, none⟩ = some (.int .u64 t345)) (ds := []) #[N',N',N',N',N',N',N',N',N',N',N',N',N',N',N',N',N',N',N',N',N',N',N'] (by kernel_rfl) rfl rfl ⟨(blk_cell BK346.out 0).trans rfl, (blk_cell BK346.out 1).trans rfl, (blk_cell BK346.out 2).trans rfl, (blk_cell BK346.out 3).trans rfl, (blk_cell BK346.out 4).trans rfl, (blk_cell BK346.out 5).trans rfl⟩ (fun hHeld => ?_); refine with_tabW frisketlaw07_SpanOthers.tab19 frisketlaw07_SpanOthers.bits19 (fun HT_ HW_ => ?_)
               generalize wc.drew = w57 at HO_11 HO_12 BK330 BK346 HB hHeld ⊢
               refine one_ (i := 0) (N := some 84) #[Y',N',N',N',N',N',N',N',N',N',N',N',N',N',N',N',N',N',N',N',N',N',N'] rfl rfl (one_of HT_.out (by kernel_rfl)) (by decide) (fun K hK => ?_)
               refine goes_ Try.func8 (by kernel_rfl) rfl #[] (by rfl) rfl rfl (by (try simp only [List.map_toArray, List.map_cons, List.map_nil]); first | done | rfl | (simp only [List.length_drop, List.length_take]; rfl)) ?_
               with_reducible refine (frisketlaw07_alive.calls kj28  true _ A32.out).mono ?_
               rintro e w58 ⟨rfl, hb⟩
               refine ⟨_, rfl, ?_⟩
               have n0_ := Aside0.mk (Kd.R_below (by (with_reducible repeat (first | apply Kd.R_alloc | apply Kd.R_drewN | apply Kd.R_drew)); exact HO_11.out) hb)
               have n1_ := Aside0.mk (Kd.R_below (by (with_reducible repeat (first | apply Kd.R_alloc | apply Kd.R_drewN | apply Kd.R_drew)); exact HO_12.out) hb)
               have n2_ := Aside0.mk (blk_below (g := gb330) (o := .cells #[.int .i64 a2_0, .int .i64 a2_1, .int .i64 a2_2] 23 (0, 0)) (by (with_reducible repeat (first | refine blk_drewN ?_ _ | refine blk_drew ?_ | refine blk_alloc ?_ _)); exact BK330.out) hb)
               have n3_ := Aside0.mk (blk_below (g := gb346) (o := .cells #[.int .i64 t340, .int .i64 t341, .int .i64 t342, .bool t343, .string t344, .int .u64 t345] 33 (0, 0)) (by (with_reducible repeat (first | refine blk_drewN ?_ _ | refine blk_drew ?_ | refine blk_alloc ?_ _)); exact BK346.out) hb)
               have n4_ := Aside0.mk (below_step (by repeat (first | (with_reducible first | exact HB.out | apply below_alloc | apply pw_below_drewN | apply below_drew1 | refine below_set ?_ GE330.out | refine below_set ?_ GE346.out) | exact HB.out)) hb)
               clear HO_11
               clear HO_12
               clear BK330
               clear BK346
               clear HB
               have HO_11 := n0_
               have HO_12 := n1_
               have BK330 := n2_
               have BK346 := n3_
               have HB := n4_
               clear n0_ n1_ n2_ n3_ n4_
               (try clear hb)
               (try clear hb2)
               (try clear hk)
               (try clear hi)
               obtain ⟨Ao59, co59, eo59⟩ := Kd.R_slice HO_11.out
               (first | subst eo59 | (injection eo59 with f1_ f2_ f3_; have f4_ := f1_.symm; have f5_ := f3_.symm; clear f1_ f2_ f3_; subst f4_; subst f5_))
               refine hK.out _ _ ⟨(blk_cell BK346.out 0).trans rfl, (blk_cell BK346.out 1).trans rfl, (blk_cell BK346.out 2).trans rfl, (blk_cell BK346.out 3).trans rfl, (blk_cell BK346.out 4).trans rfl, (blk_cell BK346.out 5).trans rfl⟩ (fun hHeld => ?_)
               clear hK K
               refine norm_ (a' := ?_) ?_ ?_
               rotate_left
               ·show Act.put _ (some 84) _ = _
                simp only [Act.put, List.setIfInBounds_toArray, List.set_cons_zero, List.set_cons_succ, i64_w, i32_w]
                rfl
               refine pure_ (i := 1) (N := some 85) (v := ?_) (a' := ?_) #[Y',Y',N',N',N',N',N',N',N',N',N',N',N',N',N',N',N',N',N',N',N',N',N'] rfl rfl (any_of HT_.out (by kernel_rfl)) (fun _ _ _ h => h) (Or.inl ⟨by rfl, ?_⟩) ?_ ?_
               rotate_left
               ·intro w'
                go_simp
                with_reducible rfl
               rotate_left
               ·simp only [Act.put, List.setIfInBounds_toArray, List.set_cons_zero, List.set_cons_succ, i64_w, i32_w]
                rfl
               refine pure_ (i := 2) (N := some 86) (v := ?_) (a' := ?_) #[Y',Y',Y',N',N',N',N',N',N',N',N',N',N',N',N',N',N',N',N',N',N',N',N'] rfl rfl (any_of HT_.out (by kernel_rfl)) (fun _ _ _ h => h) (Or.inl ⟨by rfl, ?_⟩) ?_ ?_
               rotate_left
               ·intro w'
                go_simp
                with_reducible rfl
               rotate_left
               ·simp only [Act.put, List.setIfInBounds_toArray, List.set_cons_zero, List.set_cons_succ, i64_w, i32_w]
                rfl
               refine pure_ (i := 3) (N := some 87) (v := ?_) (a' := ?_) #[Y',Y',Y',Y',N',N',N',N',N',N',N',N',N',N',N',N',N',N',N',N',N',N',N'] rfl rfl (any_of HT_.out (by kernel_rfl)) (fun _ _ _ h => h) (Or.inl ⟨by rfl, ?_⟩) ?_ ?_
               rotate_left
               ·intro w'
                go_simp
                with_reducible rfl
               rotate_left
               ·simp only [Act.put, List.setIfInBounds_toArray, List.set_cons_zero, List.set_cons_succ, i64_w, i32_w]
                rfl
               refine pure_ (i := 4) (N := some 88) (v := ?_) (a' := ?_) #[Y',Y',Y',Y',Y',N',N',N',N',N',N',N',N',N',N',N',N',N',N',N',N',N',N'] rfl rfl (any_of HT_.out (by kernel_rfl)) (fun _ _ _ h => h) (Or.inl ⟨by rfl, ?_⟩) ?_ ?_
               rotate_left
               ·intro w'
                go_simp
                with_reducible rfl
               rotate_left
               ·simp only [Act.put, List.setIfInBounds_toArray, List.set_cons_zero, List.set_cons_succ, i64_w, i32_w]
                rfl
               refine pure_ (i := 5) (N := some 89) (v := ?_) (a' := ?_) #[Y',Y',Y',Y',Y',Y',N',N',N',N',N',N',N',N',N',N',N',N',N',N',N',N',N'] rfl rfl (any_of HT_.out (by kernel_rfl)) (fun _ _ _ h => h) (Or.inl ⟨by rfl, ?_⟩) ?_ ?_
               rotate_left
               ·intro w'
                go_simp
                with_reducible rfl
               rotate_left
               ·simp only [Act.put, List.setIfInBounds_toArray, List.set_cons_zero, List.set_cons_succ, i64_w, i32_w]
                rfl
               refine take_ (i := 7) (N := some 91) (v := ?_) (a' := ?_) #[Y',Y',Y',Y',Y',Y',N',Y',N',N',N',N',N',N',N',N',N',N',N',N',N',N',N'] rfl rfl (take_ofW HT_.out HW_.out (by kernel_rfl)) (fun _ _ _ h => h) (Or.inl ⟨by rfl, ?_⟩) hHeld ?_ ?_
               rotate_left
               ·rintro w' ⟨s0, s1, s2, s3, s4, s5⟩
                go_simp
                with_reducible rfl
               rotate_left
               ·simp only [Act.put, List.setIfInBounds_toArray, List.set_cons_zero, List.set_cons_succ, i64_w, i32_w]
                rfl
               refine one_ (i := 6) (N := some 90) #[Y',Y',Y',Y',Y',Y',Y',Y',N',N',N',N',N',N',N',N',N',N',N',N',N',N',N'] rfl rfl (one_of HT_.out (by kernel_rfl)) (by decide) (fun K hK => ?_)
               refine goes_ Try.func16 (by kernel_rfl) rfl #[.slice Ao59 t334.length co59, .int .i64 x14_20] (by rfl) rfl rfl (by (try simp only [List.map_toArray, List.map_cons, List.map_nil]); first | done | rfl | (simp only [List.length_drop, List.length_take]; rfl)) ?_
               with_reducible refine (span_Style.calls _ _ t334 x14_20 t354 t355 t356 t357 t358 t359 _ ?side1 ?side2 A43.out).mono ?_
               (case side1 => repeat (first | exact (Kd.R_reads' HO_11.out).2.2 | (with_reducible refine Kd.C_alloc ?_ _) | (with_reducible refine Kd.C_drewN ?_ _) | (with_reducible refine Kd.C_drew ?_)))
               (case side2 => exact (Kd.R_reads' HO_11.out).2.1)
               rintro e w60 ⟨rfl, hb⟩
               refine ⟨_, rfl, ?_⟩
               have n0_ := Aside0.mk (Kd.R_below (by (with_reducible repeat (first | apply Kd.R_alloc | apply Kd.R_drewN | apply Kd.R_drew)); exact HO_11.out) hb)
               have n1_ := Aside0.mk (Kd.R_below (by (with_reducible repeat (first | apply Kd.R_alloc | apply Kd.R_drewN | apply Kd.R_drew)); exact HO_12.out) hb)
               have n2_ := Aside0.mk (blk_below (g := gb330) (o := .cells #[.int .i64 a2_0, .int .i64 a2_1, .int .i64 a2_2] 23 (0, 0)) (by (with_reducible repeat (first | refine blk_drewN ?_ _ | refine blk_drew ?_ | refine blk_alloc ?_ _)); exact BK330.out) hb)
               have n3_ := Aside0.mk (blk_below (g := gb346) (o := .cells #[.int .i64 t340, .int .i64 t341, .int .i64 t342, .bool t343, .string t344, .int .u64 t345] 33 (0, 0)) (by (with_reducible repeat (first | refine blk_drewN ?_ _ | refine blk_drew ?_ | refine blk_alloc ?_ _)); exact BK346.out) hb)
               have n4_ := Aside0.mk (below_step (by repeat (first | (with_reducible first | exact HB.out | apply below_alloc | apply pw_below_drewN | apply below_drew1 | refine below_set ?_ GE330.out | refine below_set ?_ GE346.out) | exact HB.out)) hb)
               clear HO_11
               clear HO_12
               clear BK330
               clear BK346
               clear HB
               have HO_11 := n0_
               have HO_12 := n1_
               have BK330 := n2_
               have BK346 := n3_
               have HB := n4_
               clear n0_ n1_ n2_ n3_ n4_
               (try clear hb)
               (try clear hb2)
               (try clear hk)
               (try clear hi)
               refine hK.out _ _ ⟨(blk_cell BK346.out 0).trans rfl, (blk_cell BK346.out 1).trans rfl, (blk_cell BK346.out 2).trans rfl, (blk_cell BK346.out 3).trans rfl, (blk_cell BK346.out 4).trans rfl, (blk_cell BK346.out 5).trans rfl⟩ (fun hHeld => ?_)
               clear hK K
               refine norm_ (a' := ?_) ?_ ?_
               rotate_left
               ·show Act.put _ (some 90) _ = _
                simp only [Act.put, List.setIfInBounds_toArray, List.set_cons_zero, List.set_cons_succ, i64_w, i32_w]
                rfl
               refine pure_ (i := 8) (N := some 92) (v := ?_) (a' := ?_) #[Y',Y',Y',Y',Y',Y',Y',Y',Y',N',N',N',N',N',N',N',N',N',N',N',N',N',N'] rfl rfl (any_of HT_.out (by kernel_rfl)) (fun _ _ _ h => h) (Or.inl ⟨by rfl, ?_⟩) ?_ ?_
               rotate_left
               ·intro w'
                go_simp
                with_reducible rfl
               rotate_left
               ·simp only [Act.put, List.setIfInBounds_toArray, List.set_cons_zero, List.set_cons_succ, i64_w, i32_w]
                rfl
               refine pure_ (i := 9) (N := some 93) (v := ?_) (a' := ?_) #[Y',Y',Y',Y',Y',Y',Y',Y',Y',Y',N',N',N',N',N',N',N',N',N',N',N',N',N'] rfl rfl (any_of HT_.out (by kernel_rfl)) (fun _ _ _ h => h) (Or.inl ⟨by rfl, ?_⟩) ?_ ?_
               rotate_left
               ·intro w'
                go_simp
                with_reducible rfl
               rotate_left
               ·simp only [Act.put, List.setIfInBounds_toArray, List.set_cons_zero, List.set_cons_succ, i64_w, i32_w]
                rfl
               refine pure_ (i := 10) (N := some 94) (v := ?_) (a' := ?_) #[Y',Y',Y',Y',Y',Y',Y',Y',Y',Y',Y',N',N',N',N',N',N',N',N',N',N',N',N'] rfl rfl (any_of HT_.out (by kernel_rfl)) (fun _ _ _ h => h) (Or.inl ⟨by rfl, ?_⟩) ?_ ?_
               rotate_left
               ·intro w'
                go_simp
                with_reducible rfl
               rotate_left
               ·simp only [Act.put, List.setIfInBounds_toArray, List.set_cons_zero, List.set_cons_succ, i64_w, i32_w]
                rfl
               refine pure_ (i := 11) (N := some 95) (v := ?_) (a' := ?_) #[Y',Y',Y',Y',Y',Y',Y',Y',Y',Y',Y',Y',N',N',N',N',N',N',N',N',N',N',N'] rfl rfl (any_of HT_.out (by kernel_rfl)) (fun _ _ _ h => h) (Or.inl ⟨by rfl, ?_⟩) ?_ ?_
               rotate_left
               ·intro w'
                go_simp
                with_reducible rfl
               rotate_left
               ·simp only [Act.put, List.setIfInBounds_toArray, List.set_cons_zero, List.set_cons_succ, i64_w, i32_w]
                rfl
               refine pure_ (i := 12) (N := some 96) (v := undef) (a' := ?_) #[Y',Y',Y',Y',Y',Y',Y',Y',Y',Y',Y',Y',Y',N',N',N',N',N',N',N',N',N',N'] rfl rfl (any_of HT_.out (by kernel_rfl)) (fun _ _ _ h => h) (Or.inr ⟨by rfl, rfl⟩) ?_ ?_
               rotate_left
               ·simp only [Act.put, List.setIfInBounds_toArray, List.set_cons_zero, List.set_cons_succ, i64_w, i32_w]
                rfl
               refine pure_ (i := 13) (N := some 97) (v := undef) (a' := ?_) #[Y',Y',Y',Y',Y',Y',Y',Y',Y',Y',Y',Y',Y',Y',N',N',N',N',N',N',N',N',N'] rfl rfl (any_of HT_.out (by kernel_rfl)) (fun _ _ _ h => h) (Or.inr ⟨by rfl, rfl⟩) ?_ ?_
               rotate_left
               ·simp only [Act.put, List.setIfInBounds_toArray, List.set_cons_zero, List.set_cons_succ, i64_w, i32_w]
                rfl
               refine pure_ (i := 14) (N := some 98) (v := undef) (a' := ?_) #[Y',Y',Y',Y',Y',Y',Y',Y',Y',Y',Y',Y',Y',Y',Y',N',N',N',N',N',N',N',N'] rfl rfl (any_of HT_.out (by kernel_rfl)) (fun _ _ _ h => h) (Or.inr ⟨by rfl, rfl⟩) ?_ ?_
               rotate_left
               ·simp only [Act.put, List.setIfInBounds_toArray, List.set_cons_zero, List.set_cons_succ, i64_w, i32_w]
                rfl
               refine pure_ (i := 15) (N := some 99) (v := undef) (a' := ?_) #[Y',Y',Y',Y',Y',Y',Y',Y',Y',Y',Y',Y',Y',Y',Y',Y',N',N',N',N',N',N',N'] rfl rfl (any_of HT_.out (by kernel_rfl)) (fun _ _ _ h => h) (Or.inr ⟨by rfl, rfl⟩) ?_ ?_
               rotate_left
               ·simp only [Act.put, List.setIfInBounds_toArray, List.set_cons_zero, List.set_cons_succ, i64_w, i32_w]
                rfl
               refine pure_ (i := 16) (N := some 100) (v := undef) (a' := ?_) #[Y',Y',Y',Y',Y',Y',Y',Y',Y',Y',Y',Y',Y',Y',Y',Y',Y',N',N',N',N',N',N'] rfl rfl (any_of HT_.out (by kernel_rfl)) (fun _ _ _ h => h) (Or.inr ⟨by rfl, rfl⟩) ?_ ?_
               rotate_left
               ·simp only [Act.put, List.setIfInBounds_toArray, List.set_cons_zero, List.set_cons_succ, i64_w, i32_w]
                rfl
               refine pure_ (i := 17) (N := some 101) (v := undef) (a' := ?_) #[Y',Y',Y',Y',Y',Y',Y',Y',Y',Y',Y',Y',Y',Y',Y',Y',Y',Y',N',N',N',N',N'] rfl rfl (any_of HT_.out (by kernel_rfl)) (fun _ _ _ h => h) (Or.inr ⟨by rfl, rfl⟩) ?_ ?_
               rotate_left
               ·simp only [Act.put, List.setIfInBounds_toArray, List.set_cons_zero, List.set_cons_succ, i64_w, i32_w]
                rfl
               refine pure_ (i := 18) (N := some 102) (v := undef) (a' := ?_) #[Y',Y',Y',Y',Y',Y',Y',Y',Y',Y',Y',Y',Y',Y',Y',Y',Y',Y',Y',N',N',N',N'] rfl rfl (any_of HT_.out (by kernel_rfl)) (fun _ _ _ h => h) (Or.inr ⟨by rfl, rfl⟩) ?_ ?_
               rotate_left
               ·simp only [Act.put, List.setIfInBounds_toArray, List.set_cons_zero, List.set_cons_succ, i64_w, i32_w]
                rfl
               refine pure_ (i := 19) (N := some 103) (v := undef) (a' := ?_) #[Y',Y',Y',Y',Y',Y',Y',Y',Y',Y',Y',Y',Y',Y',Y',Y',Y',Y',Y',Y',N',N',N'] rfl rfl (any_of HT_.out (by kernel_rfl)) (fun _ _ _ h => h) (Or.inr ⟨by rfl, rfl⟩) ?_ ?_
               rotate_left
               ·simp only [Act.put, List.setIfInBounds_toArray, List.set_cons_zero, List.set_cons_succ, i64_w, i32_w]
                rfl
               refine pure_ (i := 20) (N := some 104) (v := undef) (a' := ?_) #[Y',Y',Y',Y',Y',Y',Y',Y',Y',Y',Y',Y',Y',Y',Y',Y',Y',Y',Y',Y',Y',N',N'] rfl rfl (any_of HT_.out (by kernel_rfl)) (fun _ _ _ h => h) (Or.inr ⟨by rfl, rfl⟩) ?_ ?_
               rotate_left
               ·simp only [Act.put, List.setIfInBounds_toArray, List.set_cons_zero, List.set_cons_succ, i64_w, i32_w]
                rfl
               refine pure_ (i := 21) (N := some 105) (v := ?_) (a' := ?_) #[Y',Y',Y',Y',Y',Y',Y',Y',Y',Y',Y',Y',Y',Y',Y',Y',Y',Y',Y',Y',Y',Y',N'] rfl rfl (any_of HT_.out (by kernel_rfl)) (fun _ _ _ h => h) (Or.inl ⟨by rfl, ?_⟩) ?_ ?_
               rotate_left
               ·intro w'
                go_simp
                with_reducible rfl
               rotate_left
               ·simp only [Act.put, List.setIfInBounds_toArray, List.set_cons_zero, List.set_cons_succ, i64_w, i32_w]
                rfl
               refine pure_ (i := 22) (N := some 6) (v := ?_) (a' := ?_) #[Y',Y',Y',Y',Y',Y',Y',Y',Y',Y',Y',Y',Y',Y',Y',Y',Y',Y',Y',Y',Y',Y',Y'] rfl rfl (any_of HT_.out (by kernel_rfl)) (fun _ _ _ h => h) (Or.inl ⟨by rfl, ?_⟩) ?_ ?_
               rotate_left
               ·intro w'
                go_simp
                with_reducible rfl
               rotate_left
               ·simp only [Act.put, List.setIfInBounds_toArray, List.set_cons_zero, List.set_cons_succ, i64_w, i32_w]
                rfl
               refine done_ (done_of HT_.out (by kernel_rfl)) ?_
               try go_wp2
               go_ret
               exact ⟨by first | rfl | (simp [errW_none, errW_some] <;> rfl) | (simp [*, errW_none, errW_some] <;> rfl), by repeat (first | (with_reducible first | exact HB.out | apply below_alloc | apply pw_below_drewN | apply below_drew1 | refine below_set ?_ GE330.out | refine below_set ?_ GE346.out) | exact HB.out)⟩
            ·replace c33 := Bool.eq_false_iff.mpr c33
             subst c33
             have H1 : (some false) = some r := by rw [if_neg (show ¬ (false = true) by decide)] at H; exact H
             clear H
             have H := H1
             clear H1
             obtain rfl := Option.some.inj H
             try go_wp2
             have n0_ := Aside0.mk (Kd.R_drew HO_11.out)
             have n1_ := Aside0.mk (Kd.R_drew HO_12.out)
             have n2_ := Aside0.mk (blk_drew BK330.out)
             have n3_ := Aside0.mk (blk_drew BK346.out)
             have n4_ := Aside0.mk (below_drew1 HB.out)
             clear HO_11
             clear HO_12
             clear BK330
             clear BK346
             clear HB
             have HO_11 := n0_
             have HO_12 := n1_
             have BK330 := n2_
             have BK346 := n3_
             have HB := n4_
             clear n0_ n1_ n2_ n3_ n4_
             refine start_ (n := 23) (S := fun w' => True) (ds := []) #[N',N',N',N',N',N',N',N',N',N',N',N',N',N',N',N',N',N',N',N',N',N',N'] (by kernel_rfl) rfl rfl trivial (fun hHeld => ?_); refine with_tabW frisketlaw07_SpanOthers.tab19 frisketlaw07_SpanOthers.bits19 (fun HT_ HW_ => ?_)
             generalize wc.drew = w61 at HO_11 HO_12 BK330 BK346 HB hHeld ⊢
             refine one_ (i := 0) (N := some 84) #[Y',N',N',N',N',N',N',N',N',N',N',N',N',N',N',N',N',N',N',N',N',N',N'] rfl rfl (one_of HT_.out (by kernel_rfl)) (by decide) (fun K hK => ?_)
             refine goes_ Try.func8 (by kernel_rfl) rfl #[] (by rfl) rfl rfl (by (try simp only [List.map_toArray, List.map_cons, List.map_nil]); first | done | rfl | (simp only [List.length_drop, List.length_take]; rfl)) ?_
             with_reducible refine (frisketlaw07_alive.calls kj28  false _ A32.out).mono ?_
             rintro e w62 ⟨rfl, hb⟩
             refine ⟨_, rfl, ?_⟩
             have n0_ := Aside0.mk (Kd.R_below (by (with_reducible repeat (first | apply Kd.R_alloc | apply Kd.R_drewN | apply Kd.R_drew)); exact HO_11.out) hb)
             have n1_ := Aside0.mk (Kd.R_below (by (with_reducible repeat (first | apply Kd.R_alloc | apply Kd.R_drewN | apply Kd.R_drew)); exact HO_12.out) hb)
             have n2_ := Aside0.mk (blk_below (g := gb330) (o := .cells #[.int .i64 a2_0, .int .i64 a2_1, .int .i64 a2_2] 23 (0, 0)) (by (with_reducible repeat (first | refine blk_drewN ?_ _ | refine blk_drew ?_ | refine blk_alloc ?_ _)); exact BK330.out) hb)
             have n3_ := Aside0.mk (blk_below (g := gb346) (o := .cells #[.int .i64 t340, .int .i64 t341, .int .i64 t342, .bool t343, .string t344, .int .u64 t345] 33 (0, 0)) (by (with_reducible repeat (first | refine blk_drewN ?_ _ | refine blk_drew ?_ | refine blk_alloc ?_ _)); exact BK346.out) hb)
             have n4_ := Aside0.mk (below_step (by repeat (first | (with_reducible first | exact HB.out | apply below_alloc | apply pw_below_drewN | apply below_drew1 | refine below_set ?_ GE330.out | refine below_set ?_ GE346.out) | exact HB.out)) hb)
             clear HO_11
             clear HO_12
             clear BK330
             clear BK346
             clear HB
             have HO_11 := n0_
             have HO_12 := n1_
             have BK330 := n2_
             have BK346 := n3_
             have HB := n4_
             clear n0_ n1_ n2_ n3_ n4_
             (try clear hb)
             (try clear hb2)
             (try clear hk)
             (try clear hi)
             refine hK.out _ _ trivial (fun hHeld => ?_)
             clear hK K
             refine norm_ (a' := ?_) ?_ ?_
             rotate_left
             ·show Act.put _ (some 84) _ = _
              simp only [Act.put, List.setIfInBounds_toArray, List.set_cons_zero, List.set_cons_succ, i64_w, i32_w]
              rfl
             refine pure_ (i := 1) (N := some 85) (v := ?_) (a' := ?_) #[Y',Y',N',N',N',N',N',N',N',N',N',N',N',N',N',N',N',N',N',N',N',N',N'] rfl rfl (any_of HT_.out (by kernel_rfl)) (fun _ _ _ h => h) (Or.inl ⟨by rfl, ?_⟩) ?_ ?_
             rotate_left
             ·intro w'
              go_simp
              with_reducible rfl
             rotate_left
             ·simp only [Act.put, List.setIfInBounds_toArray, List.set_cons_zero, List.set_cons_succ, i64_w, i32_w]
              rfl
             refine pure_ (i := 2) (N := some 86) (v := undef) (a' := ?_) #[Y',Y',Y',N',N',N',N',N',N',N',N',N',N',N',N',N',N',N',N',N',N',N',N'] rfl rfl (any_of HT_.out (by kernel_rfl)) (fun _ _ _ h => h) (Or.inr ⟨by rfl, rfl⟩) ?_ ?_
             rotate_left
             ·simp only [Act.put, List.setIfInBounds_toArray, List.set_cons_zero, List.set_cons_succ, i64_w, i32_w]
              rfl
             refine pure_ (i := 3) (N := some 87) (v := undef) (a' := ?_) #[Y',Y',Y',Y',N',N',N',N',N',N',N',N',N',N',N',N',N',N',N',N',N',N',N'] rfl rfl (any_of HT_.out (by kernel_rfl)) (fun _ _ _ h => h) (Or.inr ⟨by rfl, rfl⟩) ?_ ?_
             rotate_left
             ·simp only [Act.put, List.setIfInBounds_toArray, List.set_cons_zero, List.set_cons_succ, i64_w, i32_w]
              rfl
             refine pure_ (i := 4) (N := some 88) (v := undef) (a' := ?_) #[Y',Y',Y',Y',Y',N',N',N',N',N',N',N',N',N',N',N',N',N',N',N',N',N',N'] rfl rfl (any_of HT_.out (by kernel_rfl)) (fun _ _ _ h => h) (Or.inr ⟨by rfl, rfl⟩) ?_ ?_
             rotate_left
             ·simp only [Act.put, List.setIfInBounds_toArray, List.set_cons_zero, List.set_cons_succ, i64_w, i32_w]
              rfl
             refine pure_ (i := 5) (N := some 89) (v := undef) (a' := ?_) #[Y',Y',Y',Y',Y',Y',N',N',N',N',N',N',N',N',N',N',N',N',N',N',N',N',N'] rfl rfl (any_of HT_.out (by kernel_rfl)) (fun _ _ _ h => h) (Or.inr ⟨by rfl, rfl⟩) ?_ ?_
             rotate_left
             ·simp only [Act.put, List.setIfInBounds_toArray, List.set_cons_zero, List.set_cons_succ, i64_w, i32_w]
              rfl
             refine pure_ (i := 6) (N := some 90) (v := undef) (a' := ?_) #[Y',Y',Y',Y',Y',Y',Y',N',N',N',N',N',N',N',N',N',N',N',N',N',N',N',N'] rfl rfl (any_of HT_.out (by kernel_rfl)) (fun _ _ _ h => h) (Or.inr ⟨by rfl, rfl⟩) ?_ ?_
             rotate_left
             ·simp only [Act.put, List.setIfInBounds_toArray, List.set_cons_zero, List.set_cons_succ, i64_w, i32_w]
              rfl
             refine pure_ (i := 7) (N := some 91) (v := undef) (a' := ?_) #[Y',Y',Y',Y',Y',Y',Y',Y',N',N',N',N',N',N',N',N',N',N',N',N',N',N',N'] rfl rfl (any_of HT_.out (by kernel_rfl)) (fun _ _ _ h => h) (Or.inr ⟨by rfl, rfl⟩) ?_ ?_
             rotate_left
             ·simp only [Act.put, List.setIfInBounds_toArray, List.set_cons_zero, List.set_cons_succ, i64_w, i32_w]
              rfl
             refine pure_ (i := 8) (N := some 92) (v := undef) (a' := ?_) #[Y',Y',Y',Y',Y',Y',Y',Y',Y',N',N',N',N',N',N',N',N',N',N',N',N',N',N'] rfl rfl (any_of HT_.out (by kernel_rfl)) (fun _ _ _ h => h) (Or.inr ⟨by rfl, rfl⟩) ?_ ?_
             rotate_left
             ·simp only [Act.put, List.setIfInBounds_toArray, List.set_cons_zero, List.set_cons_succ, i64_w, i32_w]
              rfl
             refine pure_ (i := 9) (N := some 93) (v := undef) (a' := ?_) #[Y',Y',Y',Y',Y',Y',Y',Y',Y',Y',N',N',N',N',N',N',N',N',N',N',N',N',N'] rfl rfl (any_of HT_.out (by kernel_rfl)) (fun _ _ _ h => h) (Or.inr ⟨by rfl, rfl⟩) ?_ ?_
             rotate_left
             ·simp only [Act.put, List.setIfInBounds_toArray, List.set_cons_zero, List.set_cons_succ, i64_w, i32_w]
              rfl
             refine pure_ (i := 10) (N := some 94) (v := ?_) (a' := ?_) #[Y',Y',Y',Y',Y',Y',Y',Y',Y',Y',Y',N',N',N',N',N',N',N',N',N',N',N',N'] rfl rfl (any_of HT_.out (by kernel_rfl)) (fun _ _ _ h => h) (Or.inl ⟨by rfl, ?_⟩) ?_ ?_
             rotate_left
             ·intro w'
              go_simp
              with_reducible rfl
             rotate_left
             ·simp only [Act.put, List.setIfInBounds_toArray, List.set_cons_zero, List.set_cons_succ, i64_w, i32_w]
              rfl
             refine pure_ (i := 11) (N := some 95) (v := ?_) (a' := ?_) #[Y',Y',Y',Y',Y',Y',Y',Y',Y',Y',Y',Y',N',N',N',N',N',N',N',N',N',N',N'] rfl rfl (any_of HT_.out (by kernel_rfl)) (fun _ _ _ h => h) (Or.inl ⟨by rfl, ?_⟩) ?_ ?_
             rotate_left
             ·intro w'
              go_simp
              with_reducible rfl
             rotate_left
             ·simp only [Act.put, List.setIfInBounds_toArray, List.set_cons_zero, List.set_cons_succ, i64_w, i32_w]
              rfl
             refine pure_ (i := 12) (N := some 96) (v := undef) (a' := ?_) #[Y',Y',Y',Y',Y',Y',Y',Y',Y',Y',Y',Y',Y',N',N',N',N',N',N',N',N',N',N'] rfl rfl (any_of HT_.out (by kernel_rfl)) (fun _ _ _ h => h) (Or.inr ⟨by rfl, rfl⟩) ?_ ?_
             rotate_left
             ·simp only [Act.put, List.setIfInBounds_toArray, List.set_cons_zero, List.set_cons_succ, i64_w, i32_w]
              rfl
             refine pure_ (i := 13) (N := some 97) (v := undef) (a' := ?_) #[Y',Y',Y',Y',Y',Y',Y',Y',Y',Y',Y',Y',Y',Y',N',N',N',N',N',N',N',N',N'] rfl rfl (any_of HT_.out (by kernel_rfl)) (fun _ _ _ h => h) (Or.inr ⟨by rfl, rfl⟩) ?_ ?_
             rotate_left
             ·simp only [Act.put, List.setIfInBounds_toArray, List.set_cons_zero, List.set_cons_succ, i64_w, i32_w]
              rfl
             refine pure_ (i := 14) (N := some 98) (v := undef) (a' := ?_) #[Y',Y',Y',Y',Y',Y',Y',Y',Y',Y',Y',Y',Y',Y',Y',N',N',N',N',N',N',N',N'] rfl rfl (any_of HT_.out (by kernel_rfl)) (fun _ _ _ h => h) (Or.inr ⟨by rfl, rfl⟩) ?_ ?_
             rotate_left
             ·simp only [Act.put, List.setIfInBounds_toArray, List.set_cons_zero, List.set_cons_succ, i64_w, i32_w]
              rfl
             refine pure_ (i := 15) (N := some 99) (v := undef) (a' := ?_) #[Y',Y',Y',Y',Y',Y',Y',Y',Y',Y',Y',Y',Y',Y',Y',Y',N',N',N',N',N',N',N'] rfl rfl (any_of HT_.out (by kernel_rfl)) (fun _ _ _ h => h) (Or.inr ⟨by rfl, rfl⟩) ?_ ?_
             rotate_left
             ·simp only [Act.put, List.setIfInBounds_toArray, List.set_cons_zero, List.set_cons_succ, i64_w, i32_w]
              rfl
             refine pure_ (i := 16) (N := some 100) (v := undef) (a' := ?_) #[Y',Y',Y',Y',Y',Y',Y',Y',Y',Y',Y',Y',Y',Y',Y',Y',Y',N',N',N',N',N',N'] rfl rfl (any_of HT_.out (by kernel_rfl)) (fun _ _ _ h => h) (Or.inr ⟨by rfl, rfl⟩) ?_ ?_
             rotate_left
             ·simp only [Act.put, List.setIfInBounds_toArray, List.set_cons_zero, List.set_cons_succ, i64_w, i32_w]
              rfl
             refine pure_ (i := 17) (N := some 101) (v := undef) (a' := ?_) #[Y',Y',Y',Y',Y',Y',Y',Y',Y',Y',Y',Y',Y',Y',Y',Y',Y',Y',N',N',N',N',N'] rfl rfl (any_of HT_.out (by kernel_rfl)) (fun _ _ _ h => h) (Or.inr ⟨by rfl, rfl⟩) ?_ ?_
             rotate_left
             ·simp only [Act.put, List.setIfInBounds_toArray, List.set_cons_zero, List.set_cons_succ, i64_w, i32_w]
              rfl
             refine pure_ (i := 18) (N := some 102) (v := undef) (a' := ?_) #[Y',Y',Y',Y',Y',Y',Y',Y',Y',Y',Y',Y',Y',Y',Y',Y',Y',Y',Y',N',N',N',N'] rfl rfl (any_of HT_.out (by kernel_rfl)) (fun _ _ _ h => h) (Or.inr ⟨by rfl, rfl⟩) ?_ ?_
             rotate_left
             ·simp only [Act.put, List.setIfInBounds_toArray, List.set_cons_zero, List.set_cons_succ, i64_w, i32_w]
              rfl
             refine pure_ (i := 19) (N := some 103) (v := undef) (a' := ?_) #[Y',Y',Y',Y',Y',Y',Y',Y',Y',Y',Y',Y',Y',Y',Y',Y',Y',Y',Y',Y',N',N',N'] rfl rfl (any_of HT_.out (by kernel_rfl)) (fun _ _ _ h => h) (Or.inr ⟨by rfl, rfl⟩) ?_ ?_
             rotate_left
             ·simp only [Act.put, List.setIfInBounds_toArray, List.set_cons_zero, List.set_cons_succ, i64_w, i32_w]
              rfl
             refine pure_ (i := 20) (N := some 104) (v := undef) (a' := ?_) #[Y',Y',Y',Y',Y',Y',Y',Y',Y',Y',Y',Y',Y',Y',Y',Y',Y',Y',Y',Y',Y',N',N'] rfl rfl (any_of HT_.out (by kernel_rfl)) (fun _ _ _ h => h) (Or.inr ⟨by rfl, rfl⟩) ?_ ?_
             rotate_left
             ·simp only [Act.put, List.setIfInBounds_toArray, List.set_cons_zero, List.set_cons_succ, i64_w, i32_w]
              rfl
             refine pure_ (i := 21) (N := some 105) (v := ?_) (a' := ?_) #[Y',Y',Y',Y',Y',Y',Y',Y',Y',Y',Y',Y',Y',Y',Y',Y',Y',Y',Y',Y',Y',Y',N'] rfl rfl (any_of HT_.out (by kernel_rfl)) (fun _ _ _ h => h) (Or.inl ⟨by rfl, ?_⟩) ?_ ?_
             rotate_left
             ·intro w'
              go_simp
              with_reducible rfl
             rotate_left
             ·simp only [Act.put, List.setIfInBounds_toArray, List.set_cons_zero, List.set_cons_succ, i64_w, i32_w]
              rfl
             refine pure_ (i := 22) (N := some 6) (v := ?_) (a' := ?_) #[Y',Y',Y',Y',Y',Y',Y',Y',Y',Y',Y',Y',Y',Y',Y',Y',Y',Y',Y',Y',Y',Y',Y'] rfl rfl (any_of HT_.out (by kernel_rfl)) (fun _ _ _ h => h) (Or.inl ⟨by rfl, ?_⟩) ?_ ?_
             rotate_left
             ·intro w'
              go_simp
              with_reducible rfl
             rotate_left
             ·simp only [Act.put, List.setIfInBounds_toArray, List.set_cons_zero, List.set_cons_succ, i64_w, i32_w]
              rfl
             refine done_ (done_of HT_.out (by kernel_rfl)) ?_
             try go_wp2
             go_ret
             exact ⟨by first | rfl | (simp [errW_none, errW_some] <;> rfl) | (simp [*, errW_none, errW_some] <;> rfl), by repeat (first | (with_reducible first | exact HB.out | apply below_alloc | apply pw_below_drewN | apply below_drew1 | refine below_set ?_ GE330.out | refine below_set ?_ GE346.out) | exact HB.out)⟩
           ·rw [if_neg c31] at H
            have c31b0 : decide ((Go.bits .and .i64 a2_1 1023) ≤ (Go.bits .and .i64 a2_0 1023)) = false := decide_eq_false c31
            clear c31
            replace H := Option.bind_eq_some_iff.mp H
            obtain ⟨t366, A630, H⟩ := H
            replace H : (if t366 = true then (if x15_28 = true then (if t343 = true then (some true) else ((span_Style.f t337 (Go.bits .and .i64 a2_0 1023)).bind fun bt367 => (some (bt367.1 == t340 && (bt367.2.1 == t341 && (bt367.2.2.1 == t342 && (bt367.2.2.2.1 == t343 && (bt367.2.2.2.2.1.toList == t344.toList && (bt367.2.2.2.2.2 == t345))))))))) else ((span_Style.f t334 x14_20).bind fun bt373 => (if (bt373.1 == t340 && (bt373.2.1 == t341 && (bt373.2.2.1 == t342 && (bt373.2.2.2.1 == t343 && (bt373.2.2.2.2.1.toList == t344.toList && (bt373.2.2.2.2.2 == t345)))))) = true then (if t343 = true then (some true) else ((span_Style.f t337 (Go.bits .and .i64 a2_0 1023)).bind fun bt379 => (some (bt379.1 == t340 && (bt379.2.1 == t341 && (bt379.2.2.1 == t342 && (bt379.2.2.2.1 == t343 && (bt379.2.2.2.2.1.toList == t344.toList && (bt379.2.2.2.2.2 == t345))))))))) else (some false)))) else (some false)) = some r := H
            have A63 := Aside0.mk A630
            clear A630
            by_cases c64 : t366 = true
            ·subst c64
             have H1 : (if x15_28 = true then (if t343 = true then (some true) else ((span_Style.f t337 (Go.bits .and .i64 a2_0 1023)).bind fun bt367 => (some (bt367.1 == t340 && (bt367.2.1 == t341 && (bt367.2.2.1 == t342 && (bt367.2.2.2.1 == t343 && (bt367.2.2.2.2.1.toList == t344.toList && (bt367.2.2.2.2.2 == t345))))))))) else ((span_Style.f t334 x14_20).bind fun bt373 => (if (bt373.1 == t340 && (bt373.2.1 == t341 && (bt373.2.2.1 == t342 && (bt373.2.2.2.1 == t343 && (bt373.2.2.2.2.1.toList == t344.toList && (bt373.2.2.2.2.2 == t345)))))) = true then (if t343 = true then (some true) else ((span_Style.f t337 (Go.bits .and .i64 a2_0 1023)).bind fun bt379 => (some (bt379.1 == t340 && (bt379.2.1 == t341 && (bt379.2.2.1 == t342 && (bt379.2.2.2.1 == t343 && (bt379.2.2.2.2.1.toList == t344.toList && (bt379.2.2.2.2.2 == t345))))))))) else (some false)))) = some r := by rw [if_pos rfl] at H; exact H
             clear H
             have H := H1
             clear H1
             by_cases c65 : x15_28 = true
             ·subst c65
              have H1 : (if t343 = true then (some true) else ((span_Style.f t337 (Go.bits .and .i64 a2_0 1023)).bind fun bt367 => (some (bt367.1 == t340 && (bt367.2.1 == t341 && (bt367.2.2.1 == t342 && (bt367.2.2.2.1 == t343 && (bt367.2.2.2.2.1.toList == t344.toList && (bt367.2.2.2.2.2 == t345))))))))) = some r := by rw [if_pos rfl] at H; exact H
              clear H
              have H := H1
              clear H1
              by_cases c66 : t343 = true
              ·subst c66
               have H1 : (some true) = some r := by rw [if_pos rfl] at H; exact H
               clear H
               have H := H1
               clear H1
               obtain rfl := Option.some.inj H
               try go_wp2
               have n0_ := Aside0.mk (Kd.R_drew HO_11.out)
               have n1_ := Aside0.mk (Kd.R_drew HO_12.out)
               have n2_ := Aside0.mk (blk_drew BK330.out)
               have n3_ := Aside0.mk (blk_drew BK346.out)
               have n4_ := Aside0.mk (below_drew1 HB.out)
               clear HO_11
               clear HO_12
               clear BK330
               clear BK346
               clear HB
               have HO_11 := n0_
               have HO_12 := n1_
               have BK330 := n2_
               have BK346 := n3_
               have HB := n4_
               clear n0_ n1_ n2_ n3_ n4_
               refine start_ (n := 23) (S := fun w' => w'.cell? ⟨gb346, 0, none⟩ = some (.int .i64 t340) ∧ w'.cell? ⟨gb346, 1, none⟩ = some (.int .i64 t341) ∧ w'.cell? ⟨gb346, 2, none⟩ = some (.int .i64 t342) ∧ w'.cell? ⟨gb346, 3, none⟩ = some (.bool true) ∧ w'.cell? ⟨gb346, 4, none⟩ = some (.string t344) ∧ w'.cell? ⟨gb346, 5, none⟩ = some (.int .u64 t345)) (ds := []) #[N',N',N',N',N',N',N',N',N',N',N',N',N',N',N',N',N',N',N',N',N',N',N'] (by kernel_rfl) rfl rfl ⟨(blk_cell BK346.out 0).trans rfl, (blk_cell BK346.out 1).trans rfl, (blk_cell BK346.out 2).trans rfl, (blk_cell BK346.out 3).trans (by first | with_reducible rfl | exact congrArg (fun b_ => some (Value.bool b_)) (by assumption) | rfl), (blk_cell BK346.out 4).trans rfl, (blk_cell BK346.out 5).trans rfl⟩ (fun hHeld => ?_); refine with_tabW frisketlaw07_SpanOthers.tab19 frisketlaw07_SpanOthers.bits19 (fun HT_ HW_ => ?_)
               generalize wc.drew = w67 at HO_11 HO_12 BK330 BK346 HB hHeld ⊢
               refine one_ (i := 0) (N := some 84) #[Y',N',N',N',N',N',N',N',N',N',N',N',N',N',N',N',N',N',N',N',N',N',N'] rfl rfl (one_of HT_.out (by kernel_rfl)) (by decide) (fun K hK => ?_)
               refine goes_ Try.func8 (by kernel_rfl) rfl #[] (by rfl) rfl rfl (by (try simp only [List.map_toArray, List.map_cons, List.map_nil]); first | done | rfl | (simp only [List.length_drop, List.length_take]; rfl)) ?_
               with_reducible refine (frisketlaw07_alive.calls kj28  true _ A63.out).mono ?_
               rintro e w68 ⟨rfl, hb⟩
               refine ⟨_, rfl, ?_⟩
               have n0_ := Aside0.mk (Kd.R_below (by (with_reducible repeat (first | apply Kd.R_alloc | apply Kd.R_drewN | apply Kd.R_drew)); exact HO_11.out) hb)
               have n1_ := Aside0.mk (Kd.R_below (by (with_reducible repeat (first | apply Kd.R_alloc | apply Kd.R_drewN | apply Kd.R_drew)); exact HO_12.out) hb)
               have n2_ := Aside0.mk (blk_below (g := gb330) (o := .cells #[.int .i64 a2_0, .int .i64 a2_1, .int .i64 a2_2] 23 (0, 0)) (by (with_reducible repeat (first | refine blk_drewN ?_ _ | refine blk_drew ?_ | refine blk_alloc ?_ _)); exact BK330.out) hb)
               have n3_ := Aside0.mk (blk_below (g := gb346) (o := .cells #[.int .i64 t340, .int .i64 t341, .int .i64 t342, .bool true, .string t344, .int .u64 t345] 33 (0, 0)) (by (with_reducible repeat (first | refine blk_drewN ?_ _ | refine blk_drew ?_ | refine blk_alloc ?_ _)); exact BK346.out) hb)
               have n4_ := Aside0.mk (below_step (by repeat (first | (with_reducible first | exact HB.out | apply below_alloc | apply pw_below_drewN | apply below_drew1 | refine below_set ?_ GE330.out | refine below_set ?_ GE346.out) | exact HB.out)) hb)
               clear HO_11
               clear HO_12
               clear BK330
               clear BK346
               clear HB
               have HO_11 := n0_
               have HO_12 := n1_
               have BK330 := n2_
               have BK346 := n3_
               have HB := n4_
               clear n0_ n1_ n2_ n3_ n4_
               (try clear hb)
               (try clear hb2)
               (try clear hk)
               (try clear hi)
               refine hK.out _ _ ⟨(blk_cell BK346.out 0).trans rfl, (blk_cell BK346.out 1).trans rfl, (blk_cell BK346.out 2).trans rfl, (blk_cell BK346.out 3).trans rfl, (blk_cell BK346.out 4).trans rfl, (blk_cell BK346.out 5).trans rfl⟩ (fun hHeld => ?_)
               clear hK K
               refine norm_ (a' := ?_) ?_ ?_
               rotate_left
               ·show Act.put _ (some 84) _ = _
                simp only [Act.put, List.setIfInBounds_toArray, List.set_cons_zero, List.set_cons_succ, i64_w, i32_w]
                rfl
               refine pure_ (i := 1) (N := some 85) (v := ?_) (a' := ?_) #[Y',Y',N',N',N',N',N',N',N',N',N',N',N',N',N',N',N',N',N',N',N',N',N'] rfl rfl (any_of HT_.out (by kernel_rfl)) (fun _ _ _ h => h) (Or.inl ⟨by rfl, ?_⟩) ?_ ?_
               rotate_left
               ·intro w'
                go_simp
                with_reducible rfl
               rotate_left
               ·simp only [Act.put, List.setIfInBounds_toArray, List.set_cons_zero, List.set_cons_succ, i64_w, i32_w]
                rfl
               refine pure_ (i := 2) (N := some 86) (v := ?_) (a' := ?_) #[Y',Y',Y',N',N',N',N',N',N',N',N',N',N',N',N',N',N',N',N',N',N',N',N'] rfl rfl (any_of HT_.out (by kernel_rfl)) (fun _ _ _ h => h) (Or.inl ⟨by rfl, ?_⟩) ?_ ?_
               rotate_left
               ·intro w'
                go_simp
                with_reducible rfl
               rotate_left
               ·simp only [Act.put, List.setIfInBounds_toArray, List.set_cons_zero, List.set_cons_succ, i64_w, i32_w]
                rfl
               refine pure_ (i := 3) (N := some 87) (v := ?_) (a' := ?_) #[Y',Y',Y',Y',N',N',N',N',N',N',N',N',N',N',N',N',N',N',N',N',N',N',N'] rfl rfl (any_of HT_.out (by kernel_rfl)) (fun _ _ _ h => h) (Or.inl ⟨by rfl, ?_⟩) ?_ ?_
               rotate_left
               ·intro w'
                go_simp
                with_reducible rfl
               rotate_left
               ·simp only [Act.put, List.setIfInBounds_toArray, List.set_cons_zero, List.set_cons_succ, i64_w, i32_w]
                rfl
               refine pure_ (i := 4) (N := some 88) (v := undef) (a' := ?_) #[Y',Y',Y',Y',Y',N',N',N',N',N',N',N',N',N',N',N',N',N',N',N',N',N',N'] rfl rfl (any_of HT_.out (by kernel_rfl)) (fun _ _ _ h => h) (Or.inr ⟨by rfl, rfl⟩) ?_ ?_
               rotate_left
               ·simp only [Act.put, List.setIfInBounds_toArray, List.set_cons_zero, List.set_cons_succ, i64_w, i32_w]
                rfl
               refine pure_ (i := 5) (N := some 89) (v := undef) (a' := ?_) #[Y',Y',Y',Y',Y',Y',N',N',N',N',N',N',N',N',N',N',N',N',N',N',N',N',N'] rfl rfl (any_of HT_.out (by kernel_rfl)) (fun _ _ _ h => h) (Or.inr ⟨by rfl, rfl⟩) ?_ ?_
               rotate_left
               ·simp only [Act.put, List.setIfInBounds_toArray, List.set_cons_zero, List.set_cons_succ, i64_w, i32_w]
                rfl
               refine pure_ (i := 6) (N := some 90) (v := undef) (a' := ?_) #[Y',Y',Y',Y',Y',Y',Y',N',N',N',N',N',N',N',N',N',N',N',N',N',N',N',N'] rfl rfl (any_of HT_.out (by kernel_rfl)) (fun _ _ _ h => h) (Or.inr ⟨by rfl, rfl⟩) ?_ ?_
               rotate_left
               ·simp only [Act.put, List.setIfInBounds_toArray, List.set_cons_zero, List.set_cons_succ, i64_w, i32_w]
                rfl
               refine pure_ (i := 7) (N := some 91) (v := undef) (a' := ?_) #[Y',Y',Y',Y',Y',Y',Y',Y',N',N',N',N',N',N',N',N',N',N',N',N',N',N',N'] rfl rfl (any_of HT_.out (by kernel_rfl)) (fun _ _ _ h => h) (Or.inr ⟨by rfl, rfl⟩) ?_ ?_
               rotate_left
               ·simp only [Act.put, List.setIfInBounds_toArray, List.set_cons_zero, List.set_cons_succ, i64_w, i32_w]
                rfl
               refine pure_ (i := 8) (N := some 92) (v := undef) (a' := ?_) #[Y',Y',Y',Y',Y',Y',Y',Y',Y',N',N',N',N',N',N',N',N',N',N',N',N',N',N'] rfl rfl (any_of HT_.out (by kernel_rfl)) (fun _ _ _ h => h) (Or.inr ⟨by rfl, rfl⟩) ?_ ?_
               rotate_left
               ·simp only [Act.put, List.setIfInBounds_toArray, List.set_cons_zero, List.set_cons_succ, i64_w, i32_w]
                rfl
               refine pure_ (i := 9) (N := some 93) (v := ?_) (a' := ?_) #[Y',Y',Y',Y',Y',Y',Y',Y',Y',Y',N',N',N',N',N',N',N',N',N',N',N',N',N'] rfl rfl (any_of HT_.out (by kernel_rfl)) (fun _ _ _ h => h) (Or.inl ⟨by rfl, ?_⟩) ?_ ?_
               rotate_left
               ·intro w'
                go_simp
                with_reducible rfl
               rotate_left
               ·simp only [Act.put, List.setIfInBounds_toArray, List.set_cons_zero, List.set_cons_succ, i64_w, i32_w]
                rfl
               refine pure_ (i := 10) (N := some 94) (v := ?_) (a' := ?_) #[Y',Y',Y',Y',Y',Y',Y',Y',Y',Y',Y',N',N',N',N',N',N',N',N',N',N',N',N'] rfl rfl (any_of HT_.out (by kernel_rfl)) (fun _ _ _ h => h) (Or.inl ⟨by rfl, ?_⟩) ?_ ?_
               rotate_left
               ·intro w'
                go_simp
                with_reducible rfl
               rotate_left
               ·simp only [Act.put, List.setIfInBounds_toArray, List.set_cons_zero, List.set_cons_succ, i64_w, i32_w]
                rfl
               refine pure_ (i := 11) (N := some 95) (v := ?_) (a' := ?_) #[Y',Y',Y',Y',Y',Y',Y',Y',Y',Y',Y',Y',N',N',N',N',N',N',N',N',N',N',N'] rfl rfl (any_of HT_.out (by kernel_rfl)) (fun _ _ _ h => h) (Or.inl ⟨by rfl, ?_⟩) ?_ ?_
               rotate_left
               ·intro w'
                go_simp
                with_reducible rfl
               rotate_left
               ·simp only [Act.put, List.setIfInBounds_toArray, List.set_cons_zero, List.set_cons_succ, i64_w, i32_w]
                rfl
               refine pure_ (i := 12) (N := some 96) (v := ?_) (a' := ?_) #[Y',Y',Y',Y',Y',Y',Y',Y',Y',Y',Y',Y',Y',N',N',N',N',N',N',N',N',N',N'] rfl rfl (any_of HT_.out (by kernel_rfl)) (fun _ _ _ h => h) (Or.inl ⟨by rfl, ?_⟩) ?_ ?_
               rotate_left
               ·intro w'
                go_simp
                with_reducible rfl
               rotate_left
               ·simp only [Act.put, List.setIfInBounds_toArray, List.set_cons_zero, List.set_cons_succ, i64_w, i32_w]
                rfl
               refine take_ (i := 13) (N := some 97) (v := ?_) (a' := ?_) #[Y',Y',Y',Y',Y',Y',Y',Y',Y',Y',Y',Y',Y',Y',N',N',N',N',N',N',N',N',N'] rfl rfl (take_ofW HT_.out HW_.out (by kernel_rfl)) (fun _ _ _ h => h) (Or.inl ⟨by rfl, ?_⟩) hHeld ?_ ?_
               rotate_left
               ·rintro w' ⟨s0, s1, s2, s3, s4, s5⟩
                go_simp
                with_reducible rfl
               rotate_left
               ·simp only [Act.put, List.setIfInBounds_toArray, List.set_cons_zero, List.set_cons_succ, i64_w, i32_w]
                rfl
               refine pure_ (i := 14) (N := some 98) (v := ?_) (a' := ?_) #[Y',Y',Y',Y',Y',Y',Y',Y',Y',Y',Y',Y',Y',Y',Y',N',N',N',N',N',N',N',N'] rfl rfl (any_of HT_.out (by kernel_rfl)) (fun _ _ _ h => h) (Or.inl ⟨by rfl, ?_⟩) ?_ ?_
               rotate_left
               ·intro w'
                go_simp
                with_reducible rfl
               rotate_left
               ·simp only [Act.put, List.setIfInBounds_toArray, List.set_cons_zero, List.set_cons_succ, i64_w, i32_w]
                rfl
               refine pure_ (i := 15) (N := some 99) (v := undef) (a' := ?_) #[Y',Y',Y',Y',Y',Y',Y',Y',Y',Y',Y',Y',Y',Y',Y',Y',N',N',N',N',N',N',N'] rfl rfl (any_of HT_.out (by kernel_rfl)) (fun _ _ _ h => h) (Or.inr ⟨by rfl, rfl⟩) ?_ ?_
               rotate_left
               ·simp only [Act.put, List.setIfInBounds_toArray, List.set_cons_zero, List.set_cons_succ, i64_w, i32_w]
                rfl
               refine pure_ (i := 16) (N := some 100) (v := undef) (a' := ?_) #[Y',Y',Y',Y',Y',Y',Y',Y',Y',Y',Y',Y',Y',Y',Y',Y',Y',N',N',N',N',N',N'] rfl rfl (any_of HT_.out (by kernel_rfl)) (fun _ _ _ h => h) (Or.inr ⟨by rfl, rfl⟩) ?_ ?_
               rotate_left
               ·simp only [Act.put, List.setIfInBounds_toArray, List.set_cons_zero, List.set_cons_succ, i64_w, i32_w]
                rfl
               refine pure_ (i := 17) (N := some 101) (v := undef) (a' := ?_) #[Y',Y',Y',Y',Y',Y',Y',Y',Y',Y',Y',Y',Y',Y',Y',Y',Y',Y',N',N',N',N',N'] rfl rfl (any_of HT_.out (by kernel_rfl)) (fun _ _ _ h => h) (Or.inr ⟨by rfl, rfl⟩) ?_ ?_
               rotate_left
               ·simp only [Act.put, List.setIfInBounds_toArray, List.set_cons_zero, List.set_cons_succ, i64_w, i32_w]
                rfl
               refine pure_ (i := 18) (N := some 102) (v := undef) (a' := ?_) #[Y',Y',Y',Y',Y',Y',Y',Y',Y',Y',Y',Y',Y',Y',Y',Y',Y',Y',Y',N',N',N',N'] rfl rfl (any_of HT_.out (by kernel_rfl)) (fun _ _ _ h => h) (Or.inr ⟨by rfl, rfl⟩) ?_ ?_
               rotate_left
               ·simp only [Act.put, List.setIfInBounds_toArray, List.set_cons_zero, List.set_cons_succ, i64_w, i32_w]
                rfl
               refine pure_ (i := 19) (N := some 103) (v := undef) (a' := ?_) #[Y',Y',Y',Y',Y',Y',Y',Y',Y',Y',Y',Y',Y',Y',Y',Y',Y',Y',Y',Y',N',N',N'] rfl rfl (any_of HT_.out (by kernel_rfl)) (fun _ _ _ h => h) (Or.inr ⟨by rfl, rfl⟩) ?_ ?_
               rotate_left
               ·simp only [Act.put, List.setIfInBounds_toArray, List.set_cons_zero, List.set_cons_succ, i64_w, i32_w]
                rfl
               refine pure_ (i := 20) (N := some 104) (v := ?_) (a' := ?_) #[Y',Y',Y',Y',Y',Y',Y',Y',Y',Y',Y',Y',Y',Y',Y',Y',Y',Y',Y',Y',Y',N',N'] rfl rfl (any_of HT_.out (by kernel_rfl)) (fun _ _ _ h => h) (Or.inl ⟨by rfl, ?_⟩) ?_ ?_
               rotate_left
               ·intro w'
                go_simp
                with_reducible rfl
               rotate_left
               ·simp only [Act.put, List.setIfInBounds_toArray, List.set_cons_zero, List.set_cons_succ, i64_w, i32_w]
                rfl
               refine pure_ (i := 21) (N := some 105) (v := ?_) (a' := ?_) #[Y',Y',Y',Y',Y',Y',Y',Y',Y',Y',Y',Y',Y',Y',Y',Y',Y',Y',Y',Y',Y',Y',N'] rfl rfl (any_of HT_.out (by kernel_rfl)) (fun _ _ _ h => h) (Or.inl ⟨by rfl, ?_⟩) ?_ ?_
               rotate_left
               ·intro w'
                go_simp
                with_reducible rfl
               rotate_left
               ·simp only [Act.put, List.setIfInBounds_toArray, List.set_cons_zero, List.set_cons_succ, i64_w, i32_w]
                rfl
               refine pure_ (i := 22) (N := some 6) (v := ?_) (a' := ?_) #[Y',Y',Y',Y',Y',Y',Y',Y',Y',Y',Y',Y',Y',Y',Y',Y',Y',Y',Y',Y',Y',Y',Y'] rfl rfl (any_of HT_.out (by kernel_rfl)) (fun _ _ _ h => h) (Or.inl ⟨by rfl, ?_⟩) ?_ ?_
               rotate_left
               ·intro w'
                go_simp
                with_reducible rfl
               rotate_left
               ·simp only [Act.put, List.setIfInBounds_toArray, List.set_cons_zero, List.set_cons_succ, i64_w, i32_w]
                rfl
               refine done_ (done_of HT_.out (by kernel_rfl)) ?_
               try go_wp2
               go_ret
               exact ⟨by first | rfl | (simp [errW_none, errW_some] <;> rfl) | (simp [*, errW_none, errW_some] <;> rfl), by repeat (first | (with_reducible first | exact HB.out | apply below_alloc | apply pw_below_drewN | apply below_drew1 | refine below_set ?_ GE330.out | refine below_set ?_ GE346.out) | exact HB.out)⟩
              ·replace c66 := Bool.eq_false_iff.mpr c66
               subst c66
               have H1 : ((span_Style.f t337 (Go.bits .and .i64 a2_0 1023)).bind fun bt367 => (some (bt367.1 == t340 && (bt367.2.1 == t341 && (bt367.2.2.1 == t342 && (bt367.2.2.2.1 == false && (bt367.2.2.2.2.1.toList == t344.toList && (bt367.2.2.2.2.2 == t345)))))))) = some r := by rw [if_neg (show ¬ (false = true) by decide)] at H; exact H
               clear H
               have H := H1
               clear H1
               replace H := Option.bind_eq_some_iff.mp H
               obtain ⟨⟨t367, t368, t369, t370, t371, t372⟩, A690, H⟩ := H
               replace H : (some (t367 == t340 && (t368 == t341 && (t369 == t342 && (t370 == false && (t371.toList == t344.toList && (t372 == t345))))))) = some r := H
               have A69 := Aside0.mk A690
               clear A690
               obtain rfl := Option.some.inj H
               try go_wp2
               have n0_ := Aside0.mk (Kd.R_drew HO_11.out)
               have n1_ := Aside0.mk (Kd.R_drew HO_12.out)
               have n2_ := Aside0.mk (blk_drew BK330.out)
               have n3_ := Aside0.mk (blk_drew BK346.out)
               have n4_ := Aside0.mk (below_drew1 HB.out)
               clear HO_11
               clear HO_12
               clear BK330
               clear BK346
               clear HB
               have HO_11 := n0_
               have HO_12 := n1_
               have BK330 := n2_
               have BK346 := n3_
               have HB := n4_
               clear n0_ n1_ n2_ n3_ n4_
               refine start_ (n := 23) (S := fun w' => w'.cell? ⟨gb346, 0, none⟩ = some (.int .i64 t340) ∧ w'.cell? ⟨gb346, 1, none⟩ = some (.int .i64 t341) ∧ w'.cell? ⟨gb346, 2, none⟩ = some (.int .i64 t342) ∧ w'.cell? ⟨gb346, 3, none⟩ = some (.bool false) ∧ w'.cell? ⟨gb346, 4, none⟩ = some (.string t344) ∧ w'.cell? ⟨gb346, 5, none⟩ = some (.int .u64 t345)) (ds := []) #[N',N',N',N',N',N',N',N',N',N',N',N',N',N',N',N',N',N',N',N',N',N',N'] (by kernel_rfl) rfl rfl ⟨(blk_cell BK346.out 0).trans rfl, (blk_cell BK346.out 1).trans rfl, (blk_cell BK346.out 2).trans rfl, (blk_cell BK346.out 3).trans (by first | with_reducible rfl | exact congrArg (fun b_ => some (Value.bool b_)) (by assumption) | rfl), (blk_cell BK346.out 4).trans rfl, (blk_cell BK346.out 5).trans rfl⟩ (fun hHeld => ?_); refine with_tabW frisketlaw07_SpanOthers.tab19 frisketlaw07_SpanOthers.bits19 (fun HT_ HW_ => ?_)
               generalize wc.drew = w70 at HO_11 HO_12 BK330 BK346 HB hHeld ⊢
               refine one_ (i := 0) (N := some 84) #[Y',N',N',N',N',N',N',N',N',N',N',N',N',N',N',N',N',N',N',N',N',N',N'] rfl rfl (one_of HT_.out (by kernel_rfl)) (by decide) (fun K hK => ?_)
               refine goes_ Try.func8 (by kernel_rfl) rfl #[] (by rfl) rfl rfl (by (try simp only [List.map_toArray, List.map_cons, List.map_nil]); first | done | rfl | (simp only [List.length_drop, List.length_take]; rfl)) ?_
               with_reducible refine (frisketlaw07_alive.calls kj28  true _ A63.out).mono ?_
               rintro e w71 ⟨rfl, hb⟩
               refine ⟨_, rfl, ?_⟩
               have n0_ := Aside0.mk (Kd.R_below (by (with_reducible repeat (first | apply Kd.R_alloc | apply Kd.R_drewN | apply Kd.R_drew)); exact HO_11.out) hb)
               have n1_ := Aside0.mk (Kd.R_below (by (with_reducible repeat (first | apply Kd.R_alloc | apply Kd.R_drewN | apply Kd.R_drew)); exact HO_12.out) hb)
               have n2_ := Aside0.mk (blk_below (g := gb330) (o := .cells #[.int .i64 a2_0, .int .i64 a2_1, .int .i64 a2_2] 23 (0, 0)) (by (with_reducible repeat (first | refine blk_drewN ?_ _ | refine blk_drew ?_ | refine blk_alloc ?_ _)); exact BK330.out) hb)
               have n3_ := Aside0.mk (blk_below (g := gb346) (o := .cells #[.int .i64 t340, .int .i64 t341, .int .i64 t342, .bool false, .string t344, .int .u64 t345] 33 (0, 0)) (by (with_reducible repeat (first | refine blk_drewN ?_ _ | refine blk_drew ?_ | refine blk_alloc ?_ _)); exact BK346.out) hb)
               have n4_ := Aside0.mk (below_step (by repeat (first | (with_reducible first | exact HB.out | apply below_alloc | apply pw_below_drewN | apply below_drew1 | refine below_set ?_ GE330.out | refine below_set ?_ GE346.out) | exact HB.out)) hb)
               clear HO_11
               clear HO_12
               clear BK330
               clear BK346
               clear HB
               have HO_11 := n0_
               have HO_12 := n1_
               have BK330 := n2_
               have BK346 := n3_
               have HB := n4_
               clear n0_ n1_ n2_ n3_ n4_
               (try clear hb)
               (try clear hb2)
               (try clear hk)
               (try clear hi)
               obtain ⟨Ao72, co72, eo72⟩ := Kd.R_slice HO_12.out
               (first | subst eo72 | (injection eo72 with f1_ f2_ f3_; have f4_ := f1_.symm; have f5_ := f3_.symm; clear f1_ f2_ f3_; subst f4_; subst f5_))
               refine hK.out _ _ ⟨(blk_cell BK346.out 0).trans rfl, (blk_cell BK346.out 1).trans rfl, (blk_cell BK346.out 2).trans rfl, (blk_cell BK346.out 3).trans rfl, (blk_cell BK346.out 4).trans rfl, (blk_cell BK346.out 5).trans rfl⟩ (fun hHeld => ?_)
               clear hK K
               refine norm_ (a' := ?_) ?_ ?_
               rotate_left
               ·show Act.put _ (some 84) _ = _
                simp only [Act.put, List.setIfInBounds_toArray, List.set_cons_zero, List.set_cons_succ, i64_w, i32_w]
                rfl
               refine pure_ (i := 1) (N := some 85) (v := ?_) (a' := ?_) #[Y',Y',N',N',N',N',N',N',N',N',N',N',N',N',N',N',N',N',N',N',N',N',N'] rfl rfl (any_of HT_.out (by kernel_rfl)) (fun _ _ _ h => h) (Or.inl ⟨by rfl, ?_⟩) ?_ ?_
               rotate_left
               ·intro w'
                go_simp
                with_reducible rfl
               rotate_left
               ·simp only [Act.put, List.setIfInBounds_toArray, List.set_cons_zero, List.set_cons_succ, i64_w, i32_w]
                rfl
               refine pure_ (i := 2) (N := some 86) (v := ?_) (a' := ?_) #[Y',Y',Y',N',N',N',N',N',N',N',N',N',N',N',N',N',N',N',N',N',N',N',N'] rfl rfl (any_of HT_.out (by kernel_rfl)) (fun _ _ _ h => h) (Or.inl ⟨by rfl, ?_⟩) ?_ ?_
               rotate_left
               ·intro w'
                go_simp
                with_reducible rfl
               rotate_left
               ·simp only [Act.put, List.setIfInBounds_toArray, List.set_cons_zero, List.set_cons_succ, i64_w, i32_w]
                rfl
               refine pure_ (i := 3) (N := some 87) (v := ?_) (a' := ?_) #[Y',Y',Y',Y',N',N',N',N',N',N',N',N',N',N',N',N',N',N',N',N',N',N',N'] rfl rfl (any_of HT_.out (by kernel_rfl)) (fun _ _ _ h => h) (Or.inl ⟨by rfl, ?_⟩) ?_ ?_
               rotate_left
               ·intro w'
                go_simp
                with_reducible rfl
               rotate_left
               ·simp only [Act.put, List.setIfInBounds_toArray, List.set_cons_zero, List.set_cons_succ, i64_w, i32_w]
                rfl
               refine pure_ (i := 4) (N := some 88) (v := undef) (a' := ?_) #[Y',Y',Y',Y',Y',N',N',N',N',N',N',N',N',N',N',N',N',N',N',N',N',N',N'] rfl rfl (any_of HT_.out (by kernel_rfl)) (fun _ _ _ h => h) (Or.inr ⟨by rfl, rfl⟩) ?_ ?_
               rotate_left
               ·simp only [Act.put, List.setIfInBounds_toArray, List.set_cons_zero, List.set_cons_succ, i64_w, i32_w]
                rfl
               refine pure_ (i := 5) (N := some 89) (v := undef) (a' := ?_) #[Y',Y',Y',Y',Y',Y',N',N',N',N',N',N',N',N',N',N',N',N',N',N',N',N',N'] rfl rfl (any_of HT_.out (by kernel_rfl)) (fun _ _ _ h => h) (Or.inr ⟨by rfl, rfl⟩) ?_ ?_
               rotate_left
               ·simp only [Act.put, List.setIfInBounds_toArray, List.set_cons_zero, List.set_cons_succ, i64_w, i32_w]
                rfl
               refine pure_ (i := 6) (N := some 90) (v := undef) (a' := ?_) #[Y',Y',Y',Y',Y',Y',Y',N',N',N',N',N',N',N',N',N',N',N',N',N',N',N',N'] rfl rfl (any_of HT_.out (by kernel_rfl)) (fun _ _ _ h => h) (Or.inr ⟨by rfl, rfl⟩) ?_ ?_
               rotate_left
               ·simp only [Act.put, List.setIfInBounds_toArray, List.set_cons_zero, List.set_cons_succ, i64_w, i32_w]
                rfl
               refine pure_ (i := 7) (N := some 91) (v := undef) (a' := ?_) #[Y',Y',Y',Y',Y',Y',Y',Y',N',N',N',N',N',N',N',N',N',N',N',N',N',N',N'] rfl rfl (any_of HT_.out (by kernel_rfl)) (fun _ _ _ h => h) (Or.inr ⟨by rfl, rfl⟩) ?_ ?_
               rotate_left
               ·simp only [Act.put, List.setIfInBounds_toArray, List.set_cons_zero, List.set_cons_succ, i64_w, i32_w]
                rfl
               refine pure_ (i := 8) (N := some 92) (v := undef) (a' := ?_) #[Y',Y',Y',Y',Y',Y',Y',Y',Y',N',N',N',N',N',N',N',N',N',N',N',N',N',N'] rfl rfl (any_of HT_.out (by kernel_rfl)) (fun _ _ _ h => h) (Or.inr ⟨by rfl, rfl⟩) ?_ ?_
               rotate_left
               ·simp only [Act.put, List.setIfInBounds_toArray, List.set_cons_zero, List.set_cons_succ, i64_w, i32_w]
                rfl
               refine pure_ (i := 9) (N := some 93) (v := ?_) (a' := ?_) #[Y',Y',Y',Y',Y',Y',Y',Y',Y',Y',N',N',N',N',N',N',N',N',N',N',N',N',N'] rfl rfl (any_of HT_.out (by kernel_rfl)) (fun _ _ _ h => h) (Or.inl ⟨by rfl, ?_⟩) ?_ ?_
               rotate_left
               ·intro w'
                go_simp
                with_reducible rfl
               rotate_left
               ·simp only [Act.put, List.setIfInBounds_toArray, List.set_cons_zero, List.set_cons_succ, i64_w, i32_w]
                rfl
               refine pure_ (i := 10) (N := some 94) (v := ?_) (a' := ?_) #[Y',Y',Y',Y',Y',Y',Y',Y',Y',Y',Y',N',N',N',N',N',N',N',N',N',N',N',N'] rfl rfl (any_of HT_.out (by kernel_rfl)) (fun _ _ _ h => h) (Or.inl ⟨by rfl, ?_⟩) ?_ ?_
               rotate_left
               ·intro w'
                go_simp
                with_reducible rfl
               rotate_left
               ·simp only [Act.put, List.setIfInBounds_toArray, List.set_cons_zero, List.set_cons_succ, i64_w, i32_w]
                rfl
               refine pure_ (i := 11) (N := some 95) (v := ?_) (a' := ?_) #[Y',Y',Y',Y',Y',Y',Y',Y',Y',Y',Y',Y',N',N',N',N',N',N',N',N',N',N',N'] rfl rfl (any_of HT_.out (by kernel_rfl)) (fun _ _ _ h => h) (Or.inl ⟨by rfl, ?_⟩) ?_ ?_
               rotate_left
               ·intro w'
                go_simp
                with_reducible rfl
               rotate_left
               ·simp only [Act.put, List.setIfInBounds_toArray, List.set_cons_zero, List.set_cons_succ, i64_w, i32_w]
                rfl
               refine pure_ (i := 12) (N := some 96) (v := ?_) (a' := ?_) #[Y',Y',Y',Y',Y',Y',Y',Y',Y',Y',Y',Y',Y',N',N',N',N',N',N',N',N',N',N'] rfl rfl (any_of HT_.out (by kernel_rfl)) (fun _ _ _ h => h) (Or.inl ⟨by rfl, ?_⟩) ?_ ?_
               rotate_left
               ·intro w'
                go_simp
                with_reducible rfl
               rotate_left
               ·simp only [Act.put, List.setIfInBounds_toArray, List.set_cons_zero, List.set_cons_succ, i64_w, i32_w]
                rfl
               refine take_ (i := 13) (N := some 97) (v := ?_) (a' := ?_) #[Y',Y',Y',Y',Y',Y',Y',Y',Y',Y',Y',Y',Y',Y',N',N',N',N',N',N',N',N',N'] rfl rfl (take_ofW HT_.out HW_.out (by kernel_rfl)) (fun _ _ _ h => h) (Or.inl ⟨by rfl, ?_⟩) hHeld ?_ ?_
               rotate_left
               ·rintro w' ⟨s0, s1, s2, s3, s4, s5⟩
                go_simp
                with_reducible rfl
               rotate_left
               ·simp only [Act.put, List.setIfInBounds_toArray, List.set_cons_zero, List.set_cons_succ, i64_w, i32_w]
                rfl
               refine pure_ (i := 14) (N := some 98) (v := ?_) (a' := ?_) #[Y',Y',Y',Y',Y',Y',Y',Y',Y',Y',Y',Y',Y',Y',Y',N',N',N',N',N',N',N',N'] rfl rfl (any_of HT_.out (by kernel_rfl)) (fun _ _ _ h => h) (Or.inl ⟨by rfl, ?_⟩) ?_ ?_
               rotate_left
               ·intro w'
                go_simp
                with_reducible rfl
               rotate_left
               ·simp only [Act.put, List.setIfInBounds_toArray, List.set_cons_zero, List.set_cons_succ, i64_w, i32_w]
                rfl
               refine pure_ (i := 15) (N := some 99) (v := ?_) (a' := ?_) #[Y',Y',Y',Y',Y',Y',Y',Y',Y',Y',Y',Y',Y',Y',Y',Y',N',N',N',N',N',N',N'] rfl rfl (any_of HT_.out (by kernel_rfl)) (fun _ _ _ h => h) (Or.inl ⟨by rfl, ?_⟩) ?_ ?_
               rotate_left
               ·intro w'
                go_simp
                with_reducible rfl
               rotate_left
               ·simp only [Act.put, List.setIfInBounds_toArray, List.set_cons_zero, List.set_cons_succ, i64_w, i32_w]
                rfl
               refine pure_ (i := 16) (N := some 100) (v := ?_) (a' := ?_) #[Y',Y',Y',Y',Y',Y',Y',Y',Y',Y',Y',Y',Y',Y',Y',Y',Y',N',N',N',N',N',N'] rfl rfl (any_of HT_.out (by kernel_rfl)) (fun _ _ _ h => h) (Or.inl ⟨by rfl, ?_⟩) ?_ ?_
               rotate_left
               ·intro w'
                go_simp
                with_reducible rfl
               rotate_left
               ·simp only [Act.put, List.setIfInBounds_toArray, List.set_cons_zero, List.set_cons_succ, i64_w, i32_w]
                rfl
               refine take_ (i := 18) (N := some 102) (v := ?_) (a' := ?_) #[Y',Y',Y',Y',Y',Y',Y',Y',Y',Y',Y',Y',Y',Y',Y',Y',Y',N',Y',N',N',N',N'] rfl rfl (take_ofW HT_.out HW_.out (by kernel_rfl)) (fun _ _ _ h => h) (Or.inl ⟨by rfl, ?_⟩) hHeld ?_ ?_
               rotate_left
               ·rintro w' ⟨s0, s1, s2, s3, s4, s5⟩
                go_simp
                with_reducible rfl
               rotate_left
               ·simp only [Act.put, List.setIfInBounds_toArray, List.set_cons_zero, List.set_cons_succ, i64_w, i32_w]
                rfl
               refine one_ (i := 17) (N := some 101) #[Y',Y',Y',Y',Y',Y',Y',Y',Y',Y',Y',Y',Y',Y',Y',Y',Y',Y',Y',N',N',N',N'] rfl rfl (one_of HT_.out (by kernel_rfl)) (by decide) (fun K hK => ?_)
               refine goes_ Try.func16 (by kernel_rfl) rfl #[.slice Ao72 t337.length co72, .int .i64 (Go.bits .and .i64 a2_0 1023)] (by rfl) rfl rfl (by (try simp only [List.map_toArray, List.map_cons, List.map_nil]); first | done | rfl | (simp only [List.length_drop, List.length_take]; rfl)) ?_
               with_reducible refine (span_Style.calls _ _ t337 (Go.bits .and .i64 a2_0 1023) t367 t368 t369 t370 t371 t372 _ ?side1 ?side2 A69.out).mono ?_
               (case side1 => repeat (first | exact (Kd.R_reads' HO_12.out).2.2 | (with_reducible refine Kd.C_alloc ?_ _) | (with_reducible refine Kd.C_drewN ?_ _) | (with_reducible refine Kd.C_drew ?_)))
               (case side2 => exact (Kd.R_reads' HO_12.out).2.1)
               rintro e w73 ⟨rfl, hb⟩
               refine ⟨_, rfl, ?_⟩
               have n0_ := Aside0.mk (Kd.R_below (by (with_reducible repeat (first | apply Kd.R_alloc | apply Kd.R_drewN | apply Kd.R_drew)); exact HO_11.out) hb)
               have n1_ := Aside0.mk (Kd.R_below (by (with_reducible repeat (first | apply Kd.R_alloc | apply Kd.R_drewN | apply Kd.R_drew)); exact HO_12.out) hb)
               have n2_ := Aside0.mk (blk_below (g := gb330) (o := .cells #[.int .i64 a2_0, .int .i64 a2_1, .int .i64 a2_2] 23 (0, 0)) (by (with_reducible repeat (first | refine blk_drewN ?_ _ | refine blk_drew ?_ | refine blk_alloc ?_ _)); exact BK330.out) hb)
               have n3_ := Aside0.mk (blk_below (g := gb346) (o := .cells #[.int .i64 t340, .int .i64 t341, .int .i64 t342, .bool false, .string t344, .int .u64 t345] 33 (0, 0)) (by (with_reducible repeat (first | refine blk_drewN ?_ _ | refine blk_drew ?_ | refine blk_alloc ?_ _)); exact BK346.out) hb)
               have n4_ := Aside0.mk (below_step (by repeat (first | (with_reducible first | exact HB.out | apply below_alloc | apply pw_below_drewN | apply below_drew1 | refine below_set ?_ GE330.out | refine below_set ?_ GE346.out) | exact HB.out)) hb)
               clear HO_11
               clear HO_12
               clear BK330
               clear BK346
               clear HB
               have HO_11 := n0_
               have HO_12 := n1_
               have BK330 := n2_
               have BK346 := n3_
               have HB := n4_
               clear n0_ n1_ n2_ n3_ n4_
               (try clear hb)
               (try clear hb2)
               (try clear hk)
               (try clear hi)
               refine hK.out _ _ ⟨(blk_cell BK346.out 0).trans rfl, (blk_cell BK346.out 1).trans rfl, (blk_cell BK346.out 2).trans rfl, (blk_cell BK346.out 3).trans rfl, (blk_cell BK346.out 4).trans rfl, (blk_cell BK346.out 5).trans rfl⟩ (fun hHeld => ?_)
               clear hK K
               refine norm_ (a' := ?_) ?_ ?_
               rotate_left
               ·show Act.put _ (some 101) _ = _
                simp only [Act.put, List.setIfInBounds_toArray, List.set_cons_zero, List.set_cons_succ, i64_w, i32_w]
                rfl
               refine pure_ (i := 19) (N := some 103) (v := ?_) (a' := ?_) #[Y',Y',Y',Y',Y',Y',Y',Y',Y',Y',Y',Y',Y',Y',Y',Y',Y',Y',Y',Y',N',N',N'] rfl rfl (any_of HT_.out (by kernel_rfl)) (fun _ _ _ h => h) (Or.inl ⟨by rfl, ?_⟩) ?_ ?_
               rotate_left
               ·intro w'
                go_simp
                with_reducible rfl
               rotate_left
               ·simp only [Act.put, List.setIfInBounds_toArray, List.set_cons_zero, List.set_cons_succ, i64_w, i32_w]
                rfl
               refine pure_ (i := 20) (N := some 104) (v := ?_) (a' := ?_) #[Y',Y',Y',Y',Y',Y',Y',Y',Y',Y',Y',Y',Y',Y',Y',Y',Y',Y',Y',Y',Y',N',N'] rfl rfl (any_of HT_.out (by kernel_rfl)) (fun _ _ _ h => h) (Or.inl ⟨by rfl, ?_⟩) ?_ ?_
               rotate_left
               ·intro w'
                go_simp
                with_reducible rfl
               rotate_left
               ·simp only [Act.put, List.setIfInBounds_toArray, List.set_cons_zero, List.set_cons_succ, i64_w, i32_w]
                rfl
               refine pure_ (i := 21) (N := some 105) (v := ?_) (a' := ?_) #[Y',Y',Y',Y',Y',Y',Y',Y',Y',Y',Y',Y',Y',Y',Y',Y',Y',Y',Y',Y',Y',Y',N'] rfl rfl (any_of HT_.out (by kernel_rfl)) (fun _ _ _ h => h) (Or.inl ⟨by rfl, ?_⟩) ?_ ?_
               rotate_left
               ·intro w'
                go_simp
                with_reducible rfl
               rotate_left
               ·simp only [Act.put, List.setIfInBounds_toArray, List.set_cons_zero, List.set_cons_succ, i64_w, i32_w]
                rfl
               refine pure_ (i := 22) (N := some 6) (v := ?_) (a' := ?_) #[Y',Y',Y',Y',Y',Y',Y',Y',Y',Y',Y',Y',Y',Y',Y',Y',Y',Y',Y',Y',Y',Y',Y'] rfl rfl (any_of HT_.out (by kernel_rfl)) (fun _ _ _ h => h) (Or.inl ⟨by rfl, ?_⟩) ?_ ?_
               rotate_left
               ·intro w'
                go_simp
                with_reducible rfl
               rotate_left
               ·simp only [Act.put, List.setIfInBounds_toArray, List.set_cons_zero, List.set_cons_succ, i64_w, i32_w]
                rfl
               refine done_ (done_of HT_.out (by kernel_rfl)) ?_
               try go_wp2
               go_ret
               exact ⟨by first | rfl | (simp [errW_none, errW_some] <;> rfl) | (simp [*, errW_none, errW_some] <;> rfl), by repeat (first | (with_reducible first | exact HB.out | apply below_alloc | apply pw_below_drewN | apply below_drew1 | refine below_set ?_ GE330.out | refine below_set ?_ GE346.out) | exact HB.out)⟩
             ·replace c65 := Bool.eq_false_iff.mpr c65
              subst c65
              have H1 : ((span_Style.f t334 x14_20).bind fun bt373 => (if (bt373.1 == t340 && (bt373.2.1 == t341 && (bt373.2.2.1 == t342 && (bt373.2.2.2.1 == t343 && (bt373.2.2.2.2.1.toList == t344.toList && (bt373.2.2.2.2.2 == t345)))))) = true then (if t343 = true then (some true) else ((span_Style.f t337 (Go.bits .and .i64 a2_0 1023)).bind fun bt379 => (some (bt379.1 == t340 && (bt379.2.1 == t341 && (bt379.2.2.1 == t342 && (bt379.2.2.2.1 == t343 && (bt379.2.2.2.2.1.toList == t344.toList && (bt379.2.2.2.2.2 == t345))))))))) else (some false))) = some r := by rw [if_neg (show ¬ (false = true) by decide)] at H; exact H
              clear H
              have H := H1
              clear H1
              replace H := Option.bind_eq_some_iff.mp H
              obtain ⟨⟨t373, t374, t375, t376, t377, t378⟩, A740, H⟩ := H
              replace H : (if (t373 == t340 && (t374 == t341 && (t375 == t342 && (t376 == t343 && (t377.toList == t344.toList && (t378 == t345)))))) = true then (if t343 = true then (some true) else ((span_Style.f t337 (Go.bits .and .i64 a2_0 1023)).bind fun bt379 => (some (bt379.1 == t340 && (bt379.2.1 == t341 && (bt379.2.2.1 == t342 && (bt379.2.2.2.1 == t343 && (bt379.2.2.2.2.1.toList == t344.toList && (bt379.2.2.2.2.2 == t345))))))))) else (some false)) = some r := H
              have A74 := Aside0.mk A740
              clear A740
              by_cases c75 : (t373 == t340 && (t374 == t341 && (t375 == t342 && (t376 == t343 && (t377.toList == t344.toList && (t378 == t345)))))) = true
              ·rw [if_pos c75] at H
               have c75b0 : (t373 == t340 && (t374 == t341 && (t375 == t342 && (t376 == t343 && (t377.toList == t344.toList && (t378 == t345)))))) = true := c75
               (try (have c75b1 : decide (t373 = t340 && (t374 == t341 && (t375 == t342 && (t376 == t343 && (t377.toList == t344.toList && (t378 == t345)))))) = true := by simpa using c75))
               (try (have c75b2 : (t373 == t340 && (t374 == t341 && (t375 == t342 && (t376 == t343 && (t377.toList == t344.toList && (t378 == t345)))))) = true := by simpa using c75))
               clear c75
               by_cases c76 : t343 = true
               ·subst c76
                have c75b9 : (t373 == t340 && (t374 == t341 && (t375 == t342 && (t376 && (t377.toList == t344.toList && (t378 == t345)))))) = true := by simpa using c75b0
                have H1 : (some true) = some r := by rw [if_pos rfl] at H; exact H
                clear H
                have H := H1
                clear H1
                obtain rfl := Option.some.inj H
                try go_wp2
                have n0_ := Aside0.mk (Kd.R_drew HO_11.out)
                have n1_ := Aside0.mk (Kd.R_drew HO_12.out)
                have n2_ := Aside0.mk (blk_drew BK330.out)
                have n3_ := Aside0.mk (blk_drew BK346.out)
                have n4_ := Aside0.mk (below_drew1 HB.out)
                clear HO_11
                clear HO_12
                clear BK330
                clear BK346
                clear HB
                have HO_11 := n0_
                have HO_12 := n1_
                have BK330 := n2_
                have BK346 := n3_
                have HB := n4_
                clear n0_ n1_ n2_ n3_ n4_
                refine start_ (n := 23) (S := fun w' => w'.cell? ⟨gb346, 0, none⟩ = some (.int .i64 t340) ∧ w'.cell? ⟨gb346, 1, none⟩ = some (.int .i64 t341) ∧ w'.cell? ⟨gb346, 2, none⟩ = some (.int .i64 t342) ∧ w'.cell? ⟨gb346, 3, none⟩ = some (.bool true) ∧ w'.cell? ⟨gb346, 4, none⟩ = some (.string t344) ∧ w'.cell? ⟨gb346, 5, none⟩ = some (.int .u64 t345)) (ds := []) #[N',N',N',N',N',N',N',N',N',N',N',N',N',N',N',N',N',N',N',N',N',N',N'] (by kernel_rfl) rfl rfl ⟨(blk_cell BK346.out 0).trans rfl, (blk_cell BK346.out 1).trans rfl, (blk_cell BK346.out 2).trans rfl, (blk_cell BK346.out 3).trans (by first | with_reducible rfl | exact congrArg (fun b_ => some (Value.bool b_)) (by assumption) | rfl), (blk_cell BK346.out 4).trans rfl, (blk_cell BK346.out 5).trans rfl⟩ (fun hHeld => ?_); refine with_tabW frisketlaw07_SpanOthers.tab19 frisketlaw07_SpanOthers.bits19 (fun HT_ HW_ => ?_)
                generalize wc.drew = w77 at HO_11 HO_12 BK330 BK346 HB hHeld ⊢
                refine one_ (i := 0) (N := some 84) #[Y',N',N',N',N',N',N',N',N',N',N',N',N',N',N',N',N',N',N',N',N',N',N'] rfl rfl (one_of HT_.out (by kernel_rfl)) (by decide) (fun K hK => ?_)
                refine goes_ Try.func8 (by kernel_rfl) rfl #[] (by rfl) rfl rfl (by (try simp only [List.map_toArray, List.map_cons, List.map_nil]); first | done | rfl | (simp only [List.length_drop, List.length_take]; rfl)) ?_
                with_reducible refine (frisketlaw07_alive.calls kj28  true _ A63.out).mono ?_
                rintro e w78 ⟨rfl, hb⟩
                refine ⟨_, rfl, ?_⟩
                have n0_ := Aside0.mk (Kd.R_below (by (with_reducible repeat (first | apply Kd.R_alloc | apply Kd.R_drewN | apply Kd.R_drew)); exact HO_11.out) hb)
                have n1_ := Aside0.mk (Kd.R_below (by (with_reducible repeat (first | apply Kd.R_alloc | apply Kd.R_drewN | apply Kd.R_drew)); exact HO_12.out) hb)
                have n2_ := Aside0.mk (blk_below (g := gb330) (o := .cells #[.int .i64 a2_0, .int .i64 a2_1, .int .i64 a2_2] 23 (0, 0)) (by (with_reducible repeat (first | refine blk_drewN ?_ _ | refine blk_drew ?_ | refine blk_alloc ?_ _)); exact BK330.out) hb)
                have n3_ := Aside0.mk (blk_below (g := gb346) (o := .cells #[.int .i64 t340, .int .i64 t341, .int .i64 t342, .bool true, .string t344, .int .u64 t345] 33 (0, 0)) (by (with_reducible repeat (first | refine blk_drewN ?_ _ | refine blk_drew ?_ | refine blk_alloc ?_ _)); exact BK346.out) hb)
                have n4_ := Aside0.mk (below_step (by repeat (first | (with_reducible first | exact HB.out | apply below_alloc | apply pw_below_drewN | apply below_drew1 | refine below_set ?_ GE330.out | refine below_set ?_ GE346.out) | exact HB.out)) hb)
                clear HO_11
                clear HO_12
                clear BK330
                clear BK346
                clear HB
                have HO_11 := n0_
                have HO_12 := n1_
                have BK330 := n2_
                have BK346 := n3_
                have HB := n4_
                clear n0_ n1_ n2_ n3_ n4_
                (try clear hb)
                (try clear hb2)
                (try clear hk)
                (try clear hi)
                obtain ⟨Ao79, co79, eo79⟩ := Kd.R_slice HO_11.out
                (first | subst eo79 | (injection eo79 with f1_ f2_ f3_; have f4_ := f1_.symm; have f5_ := f3_.symm; clear f1_ f2_ f3_; subst f4_; subst f5_))
                refine hK.out _ _ ⟨(blk_cell BK346.out 0).trans rfl, (blk_cell BK346.out 1).trans rfl, (blk_cell BK346.out 2).trans rfl, (blk_cell BK346.out 3).trans rfl, (blk_cell BK346.out 4).trans rfl, (blk_cell BK346.out 5).trans rfl⟩ (fun hHeld => ?_)
                clear hK K
                refine norm_ (a' := ?_) ?_ ?_
                rotate_left
                ·show Act.put _ (some 84) _ = _
                 simp only [Act.put, List.setIfInBounds_toArray, List.set_cons_zero, List.set_cons_succ, i64_w, i32_w]
                 rfl
                refine pure_ (i := 1) (N := some 85) (v := ?_) (a' := ?_) #[Y',Y',N',N',N',N',N',N',N',N',N',N',N',N',N',N',N',N',N',N',N',N',N'] rfl rfl (any_of HT_.out (by kernel_rfl)) (fun _ _ _ h => h) (Or.inl ⟨by rfl, ?_⟩) ?_ ?_
                rotate_left
                ·intro w'
                 go_simp
                 with_reducible rfl
                rotate_left
                ·simp only [Act.put, List.setIfInBounds_toArray, List.set_cons_zero, List.set_cons_succ, i64_w, i32_w]
                 rfl
                refine pure_ (i := 2) (N := some 86) (v := ?_) (a' := ?_) #[Y',Y',Y',N',N',N',N',N',N',N',N',N',N',N',N',N',N',N',N',N',N',N',N'] rfl rfl (any_of HT_.out (by kernel_rfl)) (fun _ _ _ h => h) (Or.inl ⟨by rfl, ?_⟩) ?_ ?_
                rotate_left
                ·intro w'
                 go_simp
                 with_reducible rfl
                rotate_left
                ·simp only [Act.put, List.setIfInBounds_toArray, List.set_cons_zero, List.set_cons_succ, i64_w, i32_w]
                 rfl
                refine pure_ (i := 3) (N := some 87) (v := ?_) (a' := ?_) #[Y',Y',Y',Y',N',N',N',N',N',N',N',N',N',N',N',N',N',N',N',N',N',N',N'] rfl rfl (any_of HT_.out (by kernel_rfl)) (fun _ _ _ h => h) (Or.inl ⟨by rfl, ?_⟩) ?_ ?_
                rotate_left
                ·intro w'
                 go_simp
                 with_reducible rfl
                rotate_left
                ·simp only [Act.put, List.setIfInBounds_toArray, List.set_cons_zero, List.set_cons_succ, i64_w, i32_w]
                 rfl
                refine pure_ (i := 4) (N := some 88) (v := ?_) (a' := ?_) #[Y',Y',Y',Y',Y',N',N',N',N',N',N',N',N',N',N',N',N',N',N',N',N',N',N'] rfl rfl (any_of HT_.out (by kernel_rfl)) (fun _ _ _ h => h) (Or.inl ⟨by rfl, ?_⟩) ?_ ?_
                rotate_left
                ·intro w'
                 go_simp
                 with_reducible rfl
                rotate_left
                ·simp only [Act.put, List.setIfInBounds_toArray, List.set_cons_zero, List.set_cons_succ, i64_w, i32_w]
                 rfl
                refine pure_ (i := 5) (N := some 89) (v := ?_) (a' := ?_) #[Y',Y',Y',Y',Y',Y',N',N',N',N',N',N',N',N',N',N',N',N',N',N',N',N',N'] rfl rfl (any_of HT_.out (by kernel_rfl)) (fun _ _ _ h => h) (Or.inl ⟨by rfl, ?_⟩) ?_ ?_
                rotate_left
                ·intro w'
                 go_simp
                 with_reducible rfl
                rotate_left
                ·simp only [Act.put, List.setIfInBounds_toArray, List.set_cons_zero, List.set_cons_succ, i64_w, i32_w]
                 rfl
                refine take_ (i := 7) (N := some 91) (v := ?_) (a' := ?_) #[Y',Y',Y',Y',Y',Y',N',Y',N',N',N',N',N',N',N',N',N',N',N',N',N',N',N'] rfl rfl (take_ofW HT_.out HW_.out (by kernel_rfl)) (fun _ _ _ h => h) (Or.inl ⟨by rfl, ?_⟩) hHeld ?_ ?_
                rotate_left
                ·rintro w' ⟨s0, s1, s2, s3, s4, s5⟩
                 go_simp
                 with_reducible rfl
                rotate_left
                ·simp only [Act.put, List.setIfInBounds_toArray, List.set_cons_zero, List.set_cons_succ, i64_w, i32_w]
                 rfl
                refine one_ (i := 6) (N := some 90) #[Y',Y',Y',Y',Y',Y',Y',Y',N',N',N',N',N',N',N',N',N',N',N',N',N',N',N'] rfl rfl (one_of HT_.out (by kernel_rfl)) (by decide) (fun K hK => ?_)
                refine goes_ Try.func16 (by kernel_rfl) rfl #[.slice Ao79 t334.length co79, .int .i64 x14_20] (by rfl) rfl rfl (by (try simp only [List.map_toArray, List.map_cons, List.map_nil]); first | done | rfl | (simp only [List.length_drop, List.length_take]; rfl)) ?_
                with_reducible refine (span_Style.calls _ _ t334 x14_20 t373 t374 t375 t376 t377 t378 _ ?side1 ?side2 A74.out).mono ?_
                (case side1 => repeat (first | exact (Kd.R_reads' HO_11.out).2.2 | (with_reducible refine Kd.C_alloc ?_ _) | (with_reducible refine Kd.C_drewN ?_ _) | (with_reducible refine Kd.C_drew ?_)))
                (case side2 => exact (Kd.R_reads' HO_11.out).2.1)
                rintro e w80 ⟨rfl, hb⟩
                refine ⟨_, rfl, ?_⟩
                have n0_ := Aside0.mk (Kd.R_below (by (with_reducible repeat (first | apply Kd.R_alloc | apply Kd.R_drewN | apply Kd.R_drew)); exact HO_11.out) hb)
                have n1_ := Aside0.mk (Kd.R_below (by (with_reducible repeat (first | apply Kd.R_alloc | apply Kd.R_drewN | apply Kd.R_drew)); exact HO_12.out) hb)
                have n2_ := Aside0.mk (blk_below (g := gb330) (o := .cells #[.int .i64 a2_0, .int .i64 a2_1, .int .i64 a2_2] 23 (0, 0)) (by (with_reducible repeat (first | refine blk_drewN ?_ _ | refine blk_drew ?_ | refine blk_alloc ?_ _)); exact BK330.out) hb)
                have n3_ := Aside0.mk (blk_below (g := gb346) (o := .cells #[.int .i64 t340, .int .i64 t341, .int .i64 t342, .bool true, .string t344, .int .u64 t345] 33 (0, 0)) (by (with_reducible repeat (first | refine blk_drewN ?_ _ | refine blk_drew ?_ | refine blk_alloc ?_ _)); exact BK346.out) hb)
                have n4_ := Aside0.mk (below_step (by repeat (first | (with_reducible first | exact HB.out | apply below_alloc | apply pw_below_drewN | apply below_drew1 | refine below_set ?_ GE330.out | refine below_set ?_ GE346.out) | exact HB.out)) hb)
                clear HO_11
                clear HO_12
                clear BK330
                clear BK346
                clear HB
                have HO_11 := n0_
                have HO_12 := n1_
                have BK330 := n2_
                have BK346 := n3_
                have HB := n4_
                clear n0_ n1_ n2_ n3_ n4_
                (try clear hb)
                (try clear hb2)
                (try clear hk)
                (try clear hi)
                refine hK.out _ _ ⟨(blk_cell BK346.out 0).trans rfl, (blk_cell BK346.out 1).trans rfl, (blk_cell BK346.out 2).trans rfl, (blk_cell BK346.out 3).trans rfl, (blk_cell BK346.out 4).trans rfl, (blk_cell BK346.out 5).trans rfl⟩ (fun hHeld => ?_)
                clear hK K
                refine norm_ (a' := ?_) ?_ ?_
                rotate_left
                ·show Act.put _ (some 90) _ = _
                 simp only [Act.put, List.setIfInBounds_toArray, List.set_cons_zero, List.set_cons_succ, i64_w, i32_w]
                 rfl
                refine pure_ (i := 8) (N := some 92) (v := ?_) (a' := ?_) #[Y',Y',Y',Y',Y',Y',Y',Y',Y',N',N',N',N',N',N',N',N',N',N',N',N',N',N'] rfl rfl (any_of HT_.out (by kernel_rfl)) (fun _ _ _ h => h) (Or.inl ⟨by rfl, ?_⟩) ?_ ?_
                rotate_left
                ·intro w'
                 go_simp
                 with_reducible rfl
                rotate_left
                ·simp only [Act.put, List.setIfInBounds_toArray, List.set_cons_zero, List.set_cons_succ, i64_w, i32_w]
                 rfl
                refine pure_ (i := 9) (N := some 93) (v := ?_) (a' := ?_) #[Y',Y',Y',Y',Y',Y',Y',Y',Y',Y',N',N',N',N',N',N',N',N',N',N',N',N',N'] rfl rfl (any_of HT_.out (by kernel_rfl)) (fun _ _ _ h => h) (Or.inl ⟨by rfl, ?_⟩) ?_ ?_
                rotate_left
                ·intro w'
                 go_simp
                 with_reducible rfl
                rotate_left
                ·simp only [Act.put, List.setIfInBounds_toArray, List.set_cons_zero, List.set_cons_succ, i64_w, i32_w]
                 rfl
                refine pure_ (i := 10) (N := some 94) (v := ?_) (a' := ?_) #[Y',Y',Y',Y',Y',Y',Y',Y',Y',Y',Y',N',N',N',N',N',N',N',N',N',N',N',N'] rfl rfl (any_of HT_.out (by kernel_rfl)) (fun _ _ _ h => h) (Or.inl ⟨by rfl, ?_⟩) ?_ ?_
                rotate_left
                ·intro w'
                 go_simp
                 with_reducible rfl
                rotate_left
                ·simp only [Act.put, List.setIfInBounds_toArray, List.set_cons_zero, List.set_cons_succ, i64_w, i32_w]
                 rfl
                refine pure_ (i := 11) (N := some 95) (v := ?_) (a' := ?_) #[Y',Y',Y',Y',Y',Y',Y',Y',Y',Y',Y',Y',N',N',N',N',N',N',N',N',N',N',N'] rfl rfl (any_of HT_.out (by kernel_rfl)) (fun _ _ _ h => h) (Or.inl ⟨by rfl, ?_⟩) ?_ ?_
                rotate_left
                ·intro w'
                 go_simp
                 with_reducible rfl
                rotate_left
                ·simp only [Act.put, List.setIfInBounds_toArray, List.set_cons_zero, List.set_cons_succ, i64_w, i32_w]
                 rfl
                refine pure_ (i := 12) (N := some 96) (v := ?_) (a' := ?_) #[Y',Y',Y',Y',Y',Y',Y',Y',Y',Y',Y',Y',Y',N',N',N',N',N',N',N',N',N',N'] rfl rfl (any_of HT_.out (by kernel_rfl)) (fun _ _ _ h => h) (Or.inl ⟨by rfl, ?_⟩) ?_ ?_
                rotate_left
                ·intro w'
                 go_simp
                 with_reducible rfl
                rotate_left
                ·simp only [Act.put, List.setIfInBounds_toArray, List.set_cons_zero, List.set_cons_succ, i64_w, i32_w]
                 rfl
                refine take_ (i := 13) (N := some 97) (v := ?_) (a' := ?_) #[Y',Y',Y',Y',Y',Y',Y',Y',Y',Y',Y',Y',Y',Y',N',N',N',N',N',N',N',N',N'] rfl rfl (take_ofW HT_.out HW_.out (by kernel_rfl)) (fun _ _ _ h => h) (Or.inl ⟨by rfl, ?_⟩) hHeld ?_ ?_
                rotate_left
                ·rintro w' ⟨s0, s1, s2, s3, s4, s5⟩
                 go_simp
                 with_reducible rfl
                rotate_left
                ·simp only [Act.put, List.setIfInBounds_toArray, List.set_cons_zero, List.set_cons_succ, i64_w, i32_w]
                 rfl
                refine pure_ (i := 14) (N := some 98) (v := ?_) (a' := ?_) #[Y',Y',Y',Y',Y',Y',Y',Y',Y',Y',Y',Y',Y',Y',Y',N',N',N',N',N',N',N',N'] rfl rfl (any_of HT_.out (by kernel_rfl)) (fun _ _ _ h => h) (Or.inl ⟨by rfl, ?_⟩) ?_ ?_
                rotate_left
                ·intro w'
                 go_simp
                 with_reducible rfl
                rotate_left
                ·simp only [Act.put, List.setIfInBounds_toArray, List.set_cons_zero, List.set_cons_succ, i64_w, i32_w]
                 rfl
                refine pure_ (i := 15) (N := some 99) (v := undef) (a' := ?_) #[Y',Y',Y',Y',Y',Y',Y',Y',Y',Y',Y',Y',Y',Y',Y',Y',N',N',N',N',N',N',N'] rfl rfl (any_of HT_.out (by kernel_rfl)) (fun _ _ _ h => h) (Or.inr ⟨by rfl, rfl⟩) ?_ ?_
                rotate_left
                ·simp only [Act.put, List.setIfInBounds_toArray, List.set_cons_zero, List.set_cons_succ, i64_w, i32_w]
                 rfl
                refine pure_ (i := 16) (N := some 100) (v := undef) (a' := ?_) #[Y',Y',Y',Y',Y',Y',Y',Y',Y',Y',Y',Y',Y',Y',Y',Y',Y',N',N',N',N',N',N'] rfl rfl (any_of HT_.out (by kernel_rfl)) (fun _ _ _ h => h) (Or.inr ⟨by rfl, rfl⟩) ?_ ?_
                rotate_left
                ·simp only [Act.put, List.setIfInBounds_toArray, List.set_cons_zero, List.set_cons_succ, i64_w, i32_w]
                 rfl
                refine pure_ (i := 17) (N := some 101) (v := undef) (a' := ?_) #[Y',Y',Y',Y',Y',Y',Y',Y',Y',Y',Y',Y',Y',Y',Y',Y',Y',Y',N',N',N',N',N'] rfl rfl (any_of HT_.out (by kernel_rfl)) (fun _ _ _ h => h) (Or.inr ⟨by rfl, rfl⟩) ?_ ?_
                rotate_left
                ·simp only [Act.put, List.setIfInBounds_toArray, List.set_cons_zero, List.set_cons_succ, i64_w, i32_w]
                 rfl
                refine pure_ (i := 18) (N := some 102) (v := undef) (a' := ?_) #[Y',Y',Y',Y',Y',Y',Y',Y',Y',Y',Y',Y',Y',Y',Y',Y',Y',Y',Y',N',N',N',N'] rfl rfl (any_of HT_.out (by kernel_rfl)) (fun _ _ _ h => h) (Or.inr ⟨by rfl, rfl⟩) ?_ ?_
                rotate_left
                ·simp only [Act.put, List.setIfInBounds_toArray, List.set_cons_zero, List.set_cons_succ, i64_w, i32_w]
                 rfl
                refine pure_ (i := 19) (N := some 103) (v := undef) (a' := ?_) #[Y',Y',Y',Y',Y',Y',Y',Y',Y',Y',Y',Y',Y',Y',Y',Y',Y',Y',Y',Y',N',N',N'] rfl rfl (any_of HT_.out (by kernel_rfl)) (fun _ _ _ h => h) (Or.inr ⟨by rfl, rfl⟩) ?_ ?_
                rotate_left
                ·simp only [Act.put, List.setIfInBounds_toArray, List.set_cons_zero, List.set_cons_succ, i64_w, i32_w]
                 rfl
                refine pure_ (i := 20) (N := some 104) (v := ?_) (a' := ?_) #[Y',Y',Y',Y',Y',Y',Y',Y',Y',Y',Y',Y',Y',Y',Y',Y',Y',Y',Y',Y',Y',N',N'] rfl rfl (any_of HT_.out (by kernel_rfl)) (fun _ _ _ h => h) (Or.inl ⟨by rfl, ?_⟩) ?_ ?_
                rotate_left
                ·intro w'
                 go_simp
                 with_reducible rfl
                rotate_left
                ·simp only [Act.put, List.setIfInBounds_toArray, List.set_cons_zero, List.set_cons_succ, i64_w, i32_w]
                 rfl
                refine pure_ (i := 21) (N := some 105) (v := ?_) (a' := ?_) #[Y',Y',Y',Y',Y',Y',Y',Y',Y',Y',Y',Y',Y',Y',Y',Y',Y',Y',Y',Y',Y',Y',N'] rfl rfl (any_of HT_.out (by kernel_rfl)) (fun _ _ _ h => h) (Or.inl ⟨by rfl, ?_⟩) ?_ ?_
                rotate_left
                ·intro w'
                 go_simp
                 with_reducible rfl
                rotate_left
                ·simp only [Act.put, List.setIfInBounds_toArray, List.set_cons_zero, List.set_cons_succ, i64_w, i32_w]
                 rfl
                refine pure_ (i := 22) (N := some 6) (v := ?_) (a' := ?_) #[Y',Y',Y',Y',Y',Y',Y',Y',Y',Y',Y',Y',Y',Y',Y',Y',Y',Y',Y',Y',Y',Y',Y'] rfl rfl (any_of HT_.out (by kernel_rfl)) (fun _ _ _ h => h) (Or.inl ⟨by rfl, ?_⟩) ?_ ?_
                rotate_left
                ·intro w'
                 go_simp
                 with_reducible rfl
                rotate_left
                ·simp only [Act.put, List.setIfInBounds_toArray, List.set_cons_zero, List.set_cons_succ, i64_w, i32_w]
                 rfl
                refine done_ (done_of HT_.out (by kernel_rfl)) ?_
                try go_wp2
                go_ret
                exact ⟨by first | rfl | (simp [errW_none, errW_some] <;> rfl) | (simp [*, errW_none, errW_some] <;> rfl), by repeat (first | (with_reducible first | exact HB.out | apply below_alloc | apply pw_below_drewN | apply below_drew1 | refine below_set ?_ GE330.out | refine below_set ?_ GE346.out) | exact HB.out)⟩
               ·replace c76 := Bool.eq_false_iff.mpr c76
                subst c76
                have c75b9 : (t373 == t340 && (t374 == t341 && (t375 == t342 && (!t376 && (t377.toList == t344.toList && (t378 == t345)))))) = true := by simpa using c75b0
                have H1 : ((span_Style.f t337 (Go.bits .and .i64 a2_0 1023)).bind fun bt379 => (some (bt379.1 == t340 && (bt379.2.1 == t341 && (bt379.2.2.1 == t342 && (bt379.2.2.2.1 == false && (bt379.2.2.2.2.1.toList == t344.toList && (bt379.2.2.2.2.2 == t345)))))))) = some r := by rw [if_neg (show ¬ (false = true) by decide)] at H; exact H
                clear H
                have H := H1
                clear H1
                replace H := Option.bind_eq_some_iff.mp H
                obtain ⟨⟨t379, t380, t381, t382, t383, t384⟩, A810, H⟩ := H
                replace H : (some (t379 == t340 && (t380 == t341 && (t381 == t342 && (t382 == false && (t383.toList == t344.toList && (t384 == t345))))))) = some r := H
                have A81 := Aside0.mk A810
                clear A810
                obtain rfl := Option.some.inj H
                try go_wp2
                have n0_ := Aside0.mk (Kd.R_drew HO_11.out)
                have n1_ := Aside0.mk (Kd.R_drew HO_12.out)
                have n2_ := Aside0.mk (blk_drew BK330.out)
                have n3_ := Aside0.mk (blk_drew BK346.out)
                have n4_ := Aside0.mk (below_drew1 HB.out)
                clear HO_11
                clear HO_12
                clear BK330
                clear BK346
                clear HB
                have HO_11 := n0_
                have HO_12 := n1_
                have BK330 := n2_
                have BK346 := n3_
                have HB := n4_
                clear n0_ n1_ n2_ n3_ n4_
                refine start_ (n := 23) (S := fun w' => w'.cell? ⟨gb346, 0, none⟩ = some (.int .i64 t340) ∧ w'.cell? ⟨gb346, 1, none⟩ = some (.int .i64 t341) ∧ w'.cell? ⟨gb346, 2, none⟩ = some (.int .i64 t342) ∧ w'.cell? ⟨gb346, 3, none⟩ = some (.bool false) ∧ w'.cell? ⟨gb346, 4, none⟩ = some (.string t344) ∧ w'.cell? ⟨gb346, 5, none⟩ = some (.int .u64 t345)) (ds := []) #[N',N',N',N',N',N',N',N',N',N',N',N',N',N',N',N',N',N',N',N',N',N',N'] (by kernel_rfl) rfl rfl ⟨(blk_cell BK346.out 0).trans rfl, (blk_cell BK346.out 1).trans rfl, (blk_cell BK346.out 2).trans rfl, (blk_cell BK346.out 3).trans (by first | with_reducible rfl | exact congrArg (fun b_ => some (Value.bool b_)) (by assumption) | rfl), (blk_cell BK346.out 4).trans rfl, (blk_cell BK346.out 5).trans rfl⟩ (fun hHeld => ?_); refine with_tabW frisketlaw07_SpanOthers.tab19 frisketlaw07_SpanOthers.bits19 (fun HT_ HW_ => ?_)
                generalize wc.drew = w82 at HO_11 HO_12 BK330 BK346 HB hHeld ⊢
                refine one_ (i := 0) (N := some 84) #[Y',N',N',N',N',N',N',N',N',N',N',N',N',N',N',N',N',N',N',N',N',N',N'] rfl rfl (one_of HT_.out (by kernel_rfl)) (by decide) (fun K hK => ?_)
                refine goes_ Try.func8 (by kernel_rfl) rfl #[] (by rfl) rfl rfl (by (try simp only [List.map_toArray, List.map_cons, List.map_nil]); first | done | rfl | (simp only [List.length_drop, List.length_take]; rfl)) ?_
                with_reducible refine (frisketlaw07_alive.calls kj28  true _ A63.out).mono ?_
                rintro e w83 ⟨rfl, hb⟩
                refine ⟨_, rfl, ?_⟩
                have n0_ := Aside0.mk (Kd.R_below (by (with_reducible repeat (first | apply Kd.R_alloc | apply Kd.R_drewN | apply Kd.R_drew)); exact HO_11.out) hb)
                have n1_ := Aside0.mk (Kd.R_below (by (with_reducible repeat (first | apply Kd.R_alloc | apply Kd.R_drewN | apply Kd.R_drew)); exact HO_12.out) hb)
                have n2_ := Aside0.mk (blk_below (g := gb330) (o := .cells #[.int .i64 a2_0, .int .i64 a2_1, .int .i64 a2_2] 23 (0, 0)) (by (with_reducible repeat (first | refine blk_drewN ?_ _ | refine blk_drew ?_ | refine blk_alloc ?_ _)); exact BK330.out) hb)
                have n3_ := Aside0.mk (blk_below (g := gb346) (o := .cells #[.int .i64 t340, .int .i64 t341, .int .i64 t342, .bool false, .string t344, .int .u64 t345] 33 (0, 0)) (by (with_reducible repeat (first | refine blk_drewN ?_ _ | refine blk_drew ?_ | refine blk_alloc ?_ _)); exact BK346.out) hb)
                have n4_ := Aside0.mk (below_step (by repeat (first | (with_reducible first | exact HB.out | apply below_alloc | apply pw_below_drewN | apply below_drew1 | refine below_set ?_ GE330.out | refine below_set ?_ GE346.out) | exact HB.out)) hb)
                clear HO_11
                clear HO_12
                clear BK330
                clear BK346
                clear HB
                have HO_11 := n0_
                have HO_12 := n1_
                have BK330 := n2_
                have BK346 := n3_
                have HB := n4_
                clear n0_ n1_ n2_ n3_ n4_
                (try clear hb)
                (try clear hb2)
                (try clear hk)
                (try clear hi)
                obtain ⟨Ao84, co84, eo84⟩ := Kd.R_slice HO_11.out
                (first | subst eo84 | (injection eo84 with f1_ f2_ f3_; have f4_ := f1_.symm; have f5_ := f3_.symm; clear f1_ f2_ f3_; subst f4_; subst f5_))
                refine hK.out _ _ ⟨(blk_cell BK346.out 0).trans rfl, (blk_cell BK346.out 1).trans rfl, (blk_cell BK346.out 2).trans rfl, (blk_cell BK346.out 3).trans rfl, (blk_cell BK346.out 4).trans rfl, (blk_cell BK346.out 5).trans rfl⟩ (fun hHeld => ?_)
                clear hK K
                refine norm_ (a' := ?_) ?_ ?_
                rotate_left
                ·show Act.put _ (some 84) _ = _
                 simp only [Act.put, List.setIfInBounds_toArray, List.set_cons_zero, List.set_cons_succ, i64_w, i32_w]
                 rfl
                refine pure_ (i := 1) (N := some 85) (v := ?_) (a' := ?_) #[Y',Y',N',N',N',N',N',N',N',N',N',N',N',N',N',N',N',N',N',N',N',N',N'] rfl rfl (any_of HT_.out (by kernel_rfl)) (fun _ _ _ h => h) (Or.inl ⟨by rfl, ?_⟩) ?_ ?_
                rotate_left
                ·intro w'
                 go_simp
                 with_reducible rfl
                rotate_left
                ·simp only [Act.put, List.setIfInBounds_toArray, List.set_cons_zero, List.set_cons_succ, i64_w, i32_w]
                 rfl
                refine pure_ (i := 2) (N := some 86) (v := ?_) (a' := ?_) #[Y',Y',Y',N',N',N',N',N',N',N',N',N',N',N',N',N',N',N',N',N',N',N',N'] rfl rfl (any_of HT_.out (by kernel_rfl)) (fun _ _ _ h => h) (Or.inl ⟨by rfl, ?_⟩) ?_ ?_
                rotate_left
                ·intro w'
                 go_simp
                 with_reducible rfl
                rotate_left
                ·simp only [Act.put, List.setIfInBounds_toArray, List.set_cons_zero, List.set_cons_succ, i64_w, i32_w]
                 rfl
                refine pure_ (i := 3) (N := some 87) (v := ?_) (a' := ?_) #[Y',Y',Y',Y',N',N',N',N',N',N',N',N',N',N',N',N',N',N',N',N',N',N',N'] rfl rfl (any_of HT_.out (by kernel_rfl)) (fun _ _ _ h => h) (Or.inl ⟨by rfl, ?_⟩) ?_ ?_
                rotate_left
                ·intro w'
                 go_simp
                 with_reducible rfl
                rotate_left
                ·simp only [Act.put, List.setIfInBounds_toArray, List.set_cons_zero, List.set_cons_succ, i64_w, i32_w]
                 rfl
                refine pure_ (i := 4) (N := some 88) (v := ?_) (a' := ?_) #[Y',Y',Y',Y',Y',N',N',N',N',N',N',N',N',N',N',N',N',N',N',N',N',N',N'] rfl rfl (any_of HT_.out (by kernel_rfl)) (fun _ _ _ h => h) (Or.inl ⟨by rfl, ?_⟩) ?_ ?_
                rotate_left
                ·intro w'
                 go_simp
                 with_reducible rfl
                rotate_left
                ·simp only [Act.put, List.setIfInBounds_toArray, List.set_cons_zero, List.set_cons_succ, i64_w, i32_w]
                 rfl
                refine pure_ (i := 5) (N := some 89) (v := ?_) (a' := ?_) #[Y',Y',Y',Y',Y',Y',N',N',N',N',N',N',N',N',N',N',N',N',N',N',N',N',N'] rfl rfl (any_of HT_.out (by kernel_rfl)) (fun _ _ _ h => h) (Or.inl ⟨by rfl, ?_⟩) ?_ ?_
                rotate_left
                ·intro w'
                 go_simp
                 with_reducible rfl
                rotate_left
                ·simp only [Act.put, List.setIfInBounds_toArray, List.set_cons_zero, List.set_cons_succ, i64_w, i32_w]
                 rfl
                refine take_ (i := 7) (N := some 91) (v := ?_) (a' := ?_) #[Y',Y',Y',Y',Y',Y',N',Y',N',N',N',N',N',N',N',N',N',N',N',N',N',N',N'] rfl rfl (take_ofW HT_.out HW_.out (by kernel_rfl)) (fun _ _ _ h => h) (Or.inl ⟨by rfl, ?_⟩) hHeld ?_ ?_
                rotate_left
                ·rintro w' ⟨s0, s1, s2, s3, s4, s5⟩
                 go_simp
                 with_reducible rfl
                rotate_left
                ·simp only [Act.put, List.setIfInBounds_toArray, List.set_cons_zero, List.set_cons_succ, i64_w, i32_w]
                 rfl
                refine one_ (i := 6) (N := some 90) #[Y',Y',Y',Y',Y',Y',Y',Y',N',N',N',N',N',N',N',N',N',N',N',N',N',N',N'] rfl rfl (one_of HT_.out (by kernel_rfl)) (by decide) (fun K hK => ?_)
                refine goes_ Try.func16 (by kernel_rfl) rfl #[.slice Ao84 t334.length co84, .int .i64 x14_20] (by rfl) rfl rfl (by (try simp only [List.map_toArray, List.map_cons, List.map_nil]); first | done | rfl | (simp only [List.length_drop, List.length_take]; rfl)) ?_
                with_reducible refine (span_Style.calls _ _ t334 x14_20 t373 t374 t375 t376 t377 t378 _ ?side1 ?side2 A74.out).mono ?_
                (case side1 => repeat (first | exact (Kd.R_reads' HO_11.out).2.2 | (with_reducible refine Kd.C_alloc ?_ _) | (with_reducible refine Kd.C_drewN ?_ _) | (with_reducible refine Kd.C_drew ?_)))
                (case side2 => exact (Kd.R_reads' HO_11.out).2.1)
                rintro e w85 ⟨rfl, hb⟩
                refine ⟨_, rfl, ?_⟩
                have n0_ := Aside0.mk (Kd.R_below (by (with_reducible repeat (first | apply Kd.R_alloc | apply Kd.R_drewN | apply Kd.R_drew)); exact HO_11.out) hb)
                have n1_ := Aside0.mk (Kd.R_below (by (with_reducible repeat (first | apply Kd.R_alloc | apply Kd.R_drewN | apply Kd.R_drew)); exact HO_12.out) hb)
                have n2_ := Aside0.mk (blk_below (g := gb330) (o := .cells #[.int .i64 a2_0, .int .i64 a2_1, .int .i64 a2_2] 23 (0, 0)) (by (with_reducible repeat (first | refine blk_drewN ?_ _ | refine blk_drew ?_ | refine blk_alloc ?_ _)); exact BK330.out) hb)
                have n3_ := Aside0.mk (blk_below (g := gb346) (o := .cells #[.int .i64 t340, .int .i64 t341, .int .i64 t342, .bool false, .string t344, .int .u64 t345] 33 (0, 0)) (by (with_reducible repeat (first | refine blk_drewN ?_ _ | refine blk_drew ?_ | refine blk_alloc ?_ _)); exact BK346.out) hb)
                have n4_ := Aside0.mk (below_step (by repeat (first | (with_reducible first | exact HB.out | apply below_alloc | apply pw_below_drewN | apply below_drew1 | refine below_set ?_ GE330.out | refine below_set ?_ GE346.out) | exact HB.out)) hb)
                clear HO_11
                clear HO_12
                clear BK330
                clear BK346
                clear HB
                have HO_11 := n0_
                have HO_12 := n1_
                have BK330 := n2_
                have BK346 := n3_
                have HB := n4_
                clear n0_ n1_ n2_ n3_ n4_
                (try clear hb)
                (try clear hb2)
                (try clear hk)
                (try clear hi)
                obtain ⟨Ao86, co86, eo86⟩ := Kd.R_slice HO_12.out
                (first | subst eo86 | (injection eo86 with f1_ f2_ f3_; have f4_ := f1_.symm; have f5_ := f3_.symm; clear f1_ f2_ f3_; subst f4_; subst f5_))
                refine hK.out _ _ ⟨(blk_cell BK346.out 0).trans rfl, (blk_cell BK346.out 1).trans rfl, (blk_cell BK346.out 2).trans rfl, (blk_cell BK346.out 3).trans rfl, (blk_cell BK346.out 4).trans rfl, (blk_cell BK346.out 5).trans rfl⟩ (fun hHeld => ?_)
                clear hK K
                refine norm_ (a' := ?_) ?_ ?_
                rotate_left
                ·show Act.put _ (some 90) _ = _
                 simp only [Act.put, List.setIfInBounds_toArray, List.set_cons_zero, List.set_cons_succ, i64_w, i32_w]
                 rfl
                refine pure_ (i := 8) (N := some 92) (v := ?_) (a' := ?_) #[Y',Y',Y',Y',Y',Y',Y',Y',Y',N',N',N',N',N',N',N',N',N',N',N',N',N',N'] rfl rfl (any_of HT_.out (by kernel_rfl)) (fun _ _ _ h => h) (Or.inl ⟨by rfl, ?_⟩) ?_ ?_
                rotate_left
                ·intro w'
                 go_simp
                 with_reducible rfl
                rotate_left
                ·simp only [Act.put, List.setIfInBounds_toArray, List.set_cons_zero, List.set_cons_succ, i64_w, i32_w]
                 rfl
                refine pure_ (i := 9) (N := some 93) (v := ?_) (a' := ?_) #[Y',Y',Y',Y',Y',Y',Y',Y',Y',Y',N',N',N',N',N',N',N',N',N',N',N',N',N'] rfl rfl (any_of HT_.out (by kernel_rfl)) (fun _ _ _ h => h) (Or.inl ⟨by rfl, ?_⟩) ?_ ?_
                rotate_left
                ·intro w'
                 go_simp
                 with_reducible rfl
                rotate_left
                ·simp only [Act.put, List.setIfInBounds_toArray, List.set_cons_zero, List.set_cons_succ, i64_w, i32_w]
                 rfl
                refine pure_ (i := 10) (N := some 94) (v := ?_) (a' := ?_) #[Y',Y',Y',Y',Y',Y',Y',Y',Y',Y',Y',N',N',N',N',N',N',N',N',N',N',N',N'] rfl rfl (any_of HT_.out (by kernel_rfl)) (fun _ _ _ h => h) (Or.inl ⟨by rfl, ?_⟩) ?_ ?_
                rotate_left
                ·intro w'
                 go_simp
                 with_reducible rfl
                rotate_left
                ·simp only [Act.put, List.setIfInBounds_toArray, List.set_cons_zero, List.set_cons_succ, i64_w, i32_w]
                 rfl
                refine pure_ (i := 11) (N := some 95) (v := ?_) (a' := ?_) #[Y',Y',Y',Y',Y',Y',Y',Y',Y',Y',Y',Y',N',N',N',N',N',N',N',N',N',N',N'] rfl rfl (any_of HT_.out (by kernel_rfl)) (fun _ _ _ h => h) (Or.inl ⟨by rfl, ?_⟩) ?_ ?_
                rotate_left
                ·intro w'
                 go_simp
                 with_reducible rfl
                rotate_left
                ·simp only [Act.put, List.setIfInBounds_toArray, List.set_cons_zero, List.set_cons_succ, i64_w, i32_w]
                 rfl
                refine pure_ (i := 12) (N := some 96) (v := ?_) (a' := ?_) #[Y',Y',Y',Y',Y',Y',Y',Y',Y',Y',Y',Y',Y',N',N',N',N',N',N',N',N',N',N'] rfl rfl (any_of HT_.out (by kernel_rfl)) (fun _ _ _ h => h) (Or.inl ⟨by rfl, ?_⟩) ?_ ?_
                rotate_left
                ·intro w'
                 go_simp
                 with_reducible rfl
                rotate_left
                ·simp only [Act.put, List.setIfInBounds_toArray, List.set_cons_zero, List.set_cons_succ, i64_w, i32_w]
                 rfl
                refine take_ (i := 13) (N := some 97) (v := ?_) (a' := ?_) #[Y',Y',Y',Y',Y',Y',Y',Y',Y',Y',Y',Y',Y',Y',N',N',N',N',N',N',N',N',N'] rfl rfl (take_ofW HT_.out HW_.out (by kernel_rfl)) (fun _ _ _ h => h) (Or.inl ⟨by rfl, ?_⟩) hHeld ?_ ?_
                rotate_left
                ·rintro w' ⟨s0, s1, s2, s3, s4, s5⟩
                 go_simp
                 with_reducible rfl
                rotate_left
                ·simp only [Act.put, List.setIfInBounds_toArray, List.set_cons_zero, List.set_cons_succ, i64_w, i32_w]
                 rfl
                refine pure_ (i := 14) (N := some 98) (v := ?_) (a' := ?_) #[Y',Y',Y',Y',Y',Y',Y',Y',Y',Y',Y',Y',Y',Y',Y',N',N',N',N',N',N',N',N'] rfl rfl (any_of HT_.out (by kernel_rfl)) (fun _ _ _ h => h) (Or.inl ⟨by rfl, ?_⟩) ?_ ?_
                rotate_left
                ·intro w'
                 go_simp
                 with_reducible rfl
                rotate_left
                ·simp only [Act.put, List.setIfInBounds_toArray, List.set_cons_zero, List.set_cons_succ, i64_w, i32_w]
                 rfl
                refine pure_ (i := 15) (N := some 99) (v := ?_) (a' := ?_) #[Y',Y',Y',Y',Y',Y',Y',Y',Y',Y',Y',Y',Y',Y',Y',Y',N',N',N',N',N',N',N'] rfl rfl (any_of HT_.out (by kernel_rfl)) (fun _ _ _ h => h) (Or.inl ⟨by rfl, ?_⟩) ?_ ?_
                rotate_left
                ·intro w'
                 go_simp
                 with_reducible rfl
                rotate_left
                ·simp only [Act.put, List.setIfInBounds_toArray, List.set_cons_zero, List.set_cons_succ, i64_w, i32_w]
                 rfl
                refine pure_ (i := 16) (N := some 100) (v := ?_) (a' := ?_) #[Y',Y',Y',Y',Y',Y',Y',Y',Y',Y',Y',Y',Y',Y',Y',Y',Y',N',N',N',N',N',N'] rfl rfl (any_of HT_.out (by kernel_rfl)) (fun _ _ _ h => h) (Or.inl ⟨by rfl, ?_⟩) ?_ ?_
                rotate_left
                ·intro w'
                 go_simp
                 with_reducible rfl
                rotate_left
                ·simp only [Act.put, List.setIfInBounds_toArray, List.set_cons_zero, List.set_cons_succ, i64_w, i32_w]
                 rfl
                refine take_ (i := 18) (N := some 102) (v := ?_) (a' := ?_) #[Y',Y',Y',Y',Y',Y',Y',Y',Y',Y',Y',Y',Y',Y',Y',Y',Y',N',Y',N',N',N',N'] rfl rfl (take_ofW HT_.out HW_.out (by kernel_rfl)) (fun _ _ _ h => h) (Or.inl ⟨by rfl, ?_⟩) hHeld ?_ ?_
                rotate_left
                ·rintro w' ⟨s0, s1, s2, s3, s4, s5⟩
                 go_simp
                 with_reducible rfl
                rotate_left
                ·simp only [Act.put, List.setIfInBounds_toArray, List.set_cons_zero, List.set_cons_succ, i64_w, i32_w]
                 rfl
                refine one_ (i := 17) (N := some 101) #[Y',Y',Y',Y',Y',Y',Y',Y',Y',Y',Y',Y',Y',Y',Y',Y',Y',Y',Y',N',N',N',N'] rfl rfl (one_of HT_.out (by kernel_rfl)) (by decide) (fun K hK => ?_)
                refine goes_ Try.func16 (by kernel_rfl) rfl #[.slice Ao86 t337.length co86, .int .i64 (Go.bits .and .i64 a2_0 1023)] (by rfl) rfl rfl (by (try simp only [List.map_toArray, List.map_cons, List.map_nil]); first | done | rfl | (simp only [List.length_drop, List.length_take]; rfl)) ?_
                with_reducible refine (span_Style.calls _ _ t337 (Go.bits .and .i64 a2_0 1023) t379 t380 t381 t382 t383 t384 _ ?side1 ?side2 A81.out).mono ?_
                (case side1 => repeat (first | exact (Kd.R_reads' HO_12.out).2.2 | (with_reducible refine Kd.C_alloc ?_ _) | (with_reducible refine Kd.C_drewN ?_ _) | (with_reducible refine Kd.C_drew ?_)))
                (case side2 => exact (Kd.R_reads' HO_12.out).2.1)
                rintro e w87 ⟨rfl, hb⟩
                refine ⟨_, rfl, ?_⟩
                have n0_ := Aside0.mk (Kd.R_below (by (with_reducible repeat (first | apply Kd.R_alloc | apply Kd.R_drewN | apply Kd.R_drew)); exact HO_11.out) hb)
                have n1_ := Aside0.mk (Kd.R_below (by (with_reducible repeat (first | apply Kd.R_alloc | apply Kd.R_drewN | apply Kd.R_drew)); exact HO_12.out) hb)
                have n2_ := Aside0.mk (blk_below (g := gb330) (o := .cells #[.int .i64 a2_0, .int .i64 a2_1, .int .i64 a2_2] 23 (0, 0)) (by (with_reducible repeat (first | refine blk_drewN ?_ _ | refine blk_drew ?_ | refine blk_alloc ?_ _)); exact BK330.out) hb)
                have n3_ := Aside0.mk (blk_below (g := gb346) (o := .cells #[.int .i64 t340, .int .i64 t341, .int .i64 t342, .bool false, .string t344, .int .u64 t345] 33 (0, 0)) (by (with_reducible repeat (first | refine blk_drewN ?_ _ | refine blk_drew ?_ | refine blk_alloc ?_ _)); exact BK346.out) hb)
                have n4_ := Aside0.mk (below_step (by repeat (first | (with_reducible first | exact HB.out | apply below_alloc | apply pw_below_drewN | apply below_drew1 | refine below_set ?_ GE330.out | refine below_set ?_ GE346.out) | exact HB.out)) hb)
                clear HO_11
                clear HO_12
                clear BK330
                clear BK346
                clear HB
                have HO_11 := n0_
                have HO_12 := n1_
                have BK330 := n2_
                have BK346 := n3_
                have HB := n4_
                clear n0_ n1_ n2_ n3_ n4_
                (try clear hb)
                (try clear hb2)
                (try clear hk)
                (try clear hi)
                refine hK.out _ _ ⟨(blk_cell BK346.out 0).trans rfl, (blk_cell BK346.out 1).trans rfl, (blk_cell BK346.out 2).trans rfl, (blk_cell BK346.out 3).trans rfl, (blk_cell BK346.out 4).trans rfl, (blk_cell BK346.out 5).trans rfl⟩ (fun hHeld => ?_)
                clear hK K
                refine norm_ (a' := ?_) ?_ ?_
                rotate_left
                ·show Act.put _ (some 101) _ = _
                 simp only [Act.put, List.setIfInBounds_toArray, List.set_cons_zero, List.set_cons_succ, i64_w, i32_w]
                 rfl
                refine pure_ (i := 19) (N := some 103) (v := ?_) (a' := ?_) #[Y',Y',Y',Y',Y',Y',Y',Y',Y',Y',Y',Y',Y',Y',Y',Y',Y',Y',Y',Y',N',N',N'] rfl rfl (any_of HT_.out (by kernel_rfl)) (fun _ _ _ h => h) (Or.inl ⟨by rfl, ?_⟩) ?_ ?_
                rotate_left
                ·intro w'
                 go_simp
                 with_reducible rfl
                rotate_left
                ·simp only [Act.put, List.setIfInBounds_toArray, List.set_cons_zero, List.set_cons_succ, i64_w, i32_w]
                 rfl
                refine pure_ (i := 20) (N := some 104) (v := ?_) (a' := ?_) #[Y',Y',Y',Y',Y',Y',Y',Y',Y',Y',Y',Y',Y',Y',Y',Y',Y',Y',Y',Y',Y',N',N'] rfl rfl (any_of HT_.out (by kernel_rfl)) (fun _ _ _ h => h) (Or.inl ⟨by rfl, ?_⟩) ?_ ?_
                rotate_left
                ·intro w'
                 go_simp
                 with_reducible rfl
                rotate_left
                ·simp only [Act.put, List.setIfInBounds_toArray, List.set_cons_zero, List.set_cons_succ, i64_w, i32_w]
                 rfl
                refine pure_ (i := 21) (N := some 105) (v := ?_) (a' := ?_) #[Y',Y',Y',Y',Y',Y',Y',Y',Y',Y',Y',Y',Y',Y',Y',Y',Y',Y',Y',Y',Y',Y',N'] rfl rfl (any_of HT_.out (by kernel_rfl)) (fun _ _ _ h => h) (Or.inl ⟨by rfl, ?_⟩) ?_ ?_
                rotate_left
                ·intro w'
                 go_simp
                 with_reducible rfl
                rotate_left
                ·simp only [Act.put, List.setIfInBounds_toArray, List.set_cons_zero, List.set_cons_succ, i64_w, i32_w]
                 rfl
                refine pure_ (i := 22) (N := some 6) (v := ?_) (a' := ?_) #[Y',Y',Y',Y',Y',Y',Y',Y',Y',Y',Y',Y',Y',Y',Y',Y',Y',Y',Y',Y',Y',Y',Y'] rfl rfl (any_of HT_.out (by kernel_rfl)) (fun _ _ _ h => h) (Or.inl ⟨by rfl, ?_⟩) ?_ ?_
                rotate_left
                ·intro w'
                 go_simp
                 with_reducible rfl
                rotate_left
                ·simp only [Act.put, List.setIfInBounds_toArray, List.set_cons_zero, List.set_cons_succ, i64_w, i32_w]
                 rfl
                refine done_ (done_of HT_.out (by kernel_rfl)) ?_
                try go_wp2
                go_ret
                exact ⟨by first | rfl | (simp [errW_none, errW_some] <;> rfl) | (simp [*, errW_none, errW_some] <;> rfl), by repeat (first | (with_reducible first | exact HB.out | apply below_alloc | apply pw_below_drewN | apply below_drew1 | refine below_set ?_ GE330.out | refine below_set ?_ GE346.out) | exact HB.out)⟩
              ·rw [if_neg c75] at H
               have c75b0 : (t373 == t340 && (t374 == t341 && (t375 == t342 && (t376 == t343 && (t377.toList == t344.toList && (t378 == t345)))))) = false := by simpa using c75
               (try (have c75b1 : decide (t373 = t340 && (t374 == t341 && (t375 == t342 && (t376 == t343 && (t377.toList == t344.toList && (t378 == t345)))))) = false := by simpa using c75))
               (try (have c75b2 : (t373 == t340 && (t374 == t341 && (t375 == t342 && (t376 == t343 && (t377.toList == t344.toList && (t378 == t345)))))) = false := by simpa using c75))
               (try (have c75b3 : ¬ (t373 = t340 && (t374 == t341 && (t375 == t342 && (t376 == t343 && (t377.toList == t344.toList && (t378 == t345)))))) := by simpa using c75))
               clear c75
               obtain rfl := Option.some.inj H
               try go_wp2
               have n0_ := Aside0.mk (Kd.R_drew HO_11.out)
               have n1_ := Aside0.mk (Kd.R_drew HO_12.out)
               have n2_ := Aside0.mk (blk_drew BK330.out)
               have n3_ := Aside0.mk (blk_drew BK346.out)
               have n4_ := Aside0.mk (below_drew1 HB.out)
               clear HO_11
               clear HO_12
               clear BK330
               clear BK346
               clear HB
               have HO_11 := n0_
               have HO_12 := n1_
               have BK330 := n2_
               have BK346 := n3_
               have HB := n4_
               clear n0_ n1_ n2_ n3_ n4_
               refine start_ (n := 23) (S := fun w' => w'.cell? ⟨gb346, 0, none⟩ = some (.int .i64 t340) ∧ w'.cell? ⟨gb346, 1, none⟩ = some (.int .i64 t341) ∧ w'.cell? ⟨gb346, 2, none⟩ = some (.int .i64 t342) ∧ w'.cell? ⟨gb346, 3, none⟩ = some (.bool t343) ∧ w'.cell? ⟨gb346, 4, none⟩ = some (.string t344) ∧ w'.cell? ⟨gb346, 5, none⟩ = some (.int .u64 t345)) (ds := []) #[N',N',N',N',N',N',N',N',N',N',N',N',N',N',N',N',N',N',N',N',N',N',N'] (by kernel_rfl) rfl rfl ⟨(blk_cell BK346.out 0).trans rfl, (blk_cell BK346.out 1).trans rfl, (blk_cell BK346.out 2).trans rfl, (blk_cell BK346.out 3).trans rfl, (blk_cell BK346.out 4).trans rfl, (blk_cell BK346.out 5).trans rfl⟩ (fun hHeld => ?_); refine with_tabW frisketlaw07_SpanOthers.tab19 frisketlaw07_SpanOthers.bits19 (fun HT_ HW_ => ?_)
               generalize wc.drew = w88 at HO_11 HO_12 BK330 BK346 HB hHeld ⊢
               refine one_ (i := 0) (N := some 84) #[Y',N',N',N',N',N',N',N',N',N',N',N',N',N',N',N',N',N',N',N',N',N',N'] rfl rfl (one_of HT_.out (by kernel_rfl)) (by decide) (fun K hK => ?_)
               refine goes_ Try.func8 (by kernel_rfl) rfl #[] (by rfl) rfl rfl (by (try simp only [List.map_toArray, List.map_cons, List.map_nil]); first | done | rfl | (simp only [List.length_drop, List.length_take]; rfl)) ?_
               with_reducible refine (frisketlaw07_alive.calls kj28  true _ A63.out).mono ?_
               rintro e w89 ⟨rfl, hb⟩
               refine ⟨_, rfl, ?_⟩
               have n0_ := Aside0.mk (Kd.R_below (by (with_reducible repeat (first | apply Kd.R_alloc | apply Kd.R_drewN | apply Kd.R_drew)); exact HO_11.out) hb)
               have n1_ := Aside0.mk (Kd.R_below (by (with_reducible repeat (first | apply Kd.R_alloc | apply Kd.R_drewN | apply Kd.R_drew)); exact HO_12.out) hb)
               have n2_ := Aside0.mk (blk_below (g := gb330) (o := .cells #[.int .i64 a2_0, .int .i64 a2_1, .int .i64 a2_2] 23 (0, 0)) (by (with_reducible repeat (first | refine blk_drewN ?_ _ | refine blk_drew ?_ | refine blk_alloc ?_ _)); exact BK330.out) hb)
               have n3_ := Aside0.mk (blk_below (g := gb346) (o := .cells #[.int .i64 t340, .int .i64 t341, .int .i64 t342, .bool t343, .string t344, .int .u64 t345] 33 (0, 0)) (by (with_reducible repeat (first | refine blk_drewN ?_ _ | refine blk_drew ?_ | refine blk_alloc ?_ _)); exact BK346.out) hb)
               have n4_ := Aside0.mk (below_step (by repeat (first | (with_reducible first | exact HB.out | apply below_alloc | apply pw_below_drewN | apply below_drew1 | refine below_set ?_ GE330.out | refine below_set ?_ GE346.out) | exact HB.out)) hb)
               clear HO_11
               clear HO_12
               clear BK330
               clear BK346
               clear HB
               have HO_11 := n0_
               have HO_12 := n1_
               have BK330 := n2_
               have BK346 := n3_
               have HB := n4_
               clear n0_ n1_ n2_ n3_ n4_
               (try clear hb)
               (try clear hb2)
               (try clear hk)
               (try clear hi)
               obtain ⟨Ao90, co90, eo90⟩ := Kd.R_slice HO_11.out
               (first | subst eo90 | (injection eo90 with f1_ f2_ f3_; have f4_ := f1_.symm; have f5_ := f3_.symm; clear f1_ f2_ f3_; subst f4_; subst f5_))
               refine hK.out _ _ ⟨(blk_cell BK346.out 0).trans rfl, (blk_cell BK346.out 1).trans rfl, (blk_cell BK346.out 2).trans rfl, (blk_cell BK346.out 3).trans rfl, (blk_cell BK346.out 4).trans rfl, (blk_cell BK346.out 5).trans rfl⟩ (fun hHeld => ?_)
               clear hK K
               refine norm_ (a' := ?_) ?_ ?_
               rotate_left
               ·show Act.put _ (some 84) _ = _
                simp only [Act.put, List.setIfInBounds_toArray, List.set_cons_zero, List.set_cons_succ, i64_w, i32_w]
                rfl
               refine pure_ (i := 1) (N := some 85) (v := ?_) (a' := ?_) #[Y',Y',N',N',N',N',N',N',N',N',N',N',N',N',N',N',N',N',N',N',N',N',N'] rfl rfl (any_of HT_.out (by kernel_rfl)) (fun _ _ _ h => h) (Or.inl ⟨by rfl, ?_⟩) ?_ ?_
               rotate_left
               ·intro w'
                go_simp
                with_reducible rfl
               rotate_left
               ·simp only [Act.put, List.setIfInBounds_toArray, List.set_cons_zero, List.set_cons_succ, i64_w, i32_w]
                rfl
               refine pure_ (i := 2) (N := some 86) (v := ?_) (a' := ?_) #[Y',Y',Y',N',N',N',N',N',N',N',N',N',N',N',N',N',N',N',N',N',N',N',N'] rfl rfl (any_of HT_.out (by kernel_rfl)) (fun _ _ _ h => h) (Or.inl ⟨by rfl, ?_⟩) ?_ ?_
               rotate_left
               ·intro w'
                go_simp
                with_reducible rfl
               rotate_left
               ·simp only [Act.put, List.setIfInBounds_toArray, List.set_cons_zero, List.set_cons_succ, i64_w, i32_w]
                rfl
               refine pure_ (i := 3) (N := some 87) (v := ?_) (a' := ?_) #[Y',Y',Y',Y',N',N',N',N',N',N',N',N',N',N',N',N',N',N',N',N',N',N',N'] rfl rfl (any_of HT_.out (by kernel_rfl)) (fun _ _ _ h => h) (Or.inl ⟨by rfl, ?_⟩) ?_ ?_
               rotate_left
               ·intro w'
                go_simp
                with_reducible rfl
               rotate_left
               ·simp only [Act.put, List.setIfInBounds_toArray, List.set_cons_zero, List.set_cons_succ, i64_w, i32_w]
                rfl
               refine pure_ (i := 4) (N := some 88) (v := ?_) (a' := ?_) #[Y',Y',Y',Y',Y',N',N',N',N',N',N',N',N',N',N',N',N',N',N',N',N',N',N'] rfl rfl (any_of HT_.out (by kernel_rfl)) (fun _ _ _ h => h) (Or.inl ⟨by rfl, ?_⟩) ?_ ?_
               rotate_left
               ·intro w'
                go_simp
                with_reducible rfl
               rotate_left
               ·simp only [Act.put, List.setIfInBounds_toArray, List.set_cons_zero, List.set_cons_succ, i64_w, i32_w]
                rfl
               refine pure_ (i := 5) (N := some 89) (v := ?_) (a' := ?_) #[Y',Y',Y',Y',Y',Y',N',N',N',N',N',N',N',N',N',N',N',N',N',N',N',N',N'] rfl rfl (any_of HT_.out (by kernel_rfl)) (fun _ _ _ h => h) (Or.inl ⟨by rfl, ?_⟩) ?_ ?_
               rotate_left
               ·intro w'
                go_simp
                with_reducible rfl
               rotate_left
               ·simp only [Act.put, List.setIfInBounds_toArray, List.set_cons_zero, List.set_cons_succ, i64_w, i32_w]
                rfl
               refine take_ (i := 7) (N := some 91) (v := ?_) (a' := ?_) #[Y',Y',Y',Y',Y',Y',N',Y',N',N',N',N',N',N',N',N',N',N',N',N',N',N',N'] rfl rfl (take_ofW HT_.out HW_.out (by kernel_rfl)) (fun _ _ _ h => h) (Or.inl ⟨by rfl, ?_⟩) hHeld ?_ ?_
               rotate_left
               ·rintro w' ⟨s0, s1, s2, s3, s4, s5⟩
                go_simp
                with_reducible rfl
               rotate_left
               ·simp only [Act.put, List.setIfInBounds_toArray, List.set_cons_zero, List.set_cons_succ, i64_w, i32_w]
                rfl
               refine one_ (i := 6) (N := some 90) #[Y',Y',Y',Y',Y',Y',Y',Y',N',N',N',N',N',N',N',N',N',N',N',N',N',N',N'] rfl rfl (one_of HT_.out (by kernel_rfl)) (by decide) (fun K hK => ?_)
               refine goes_ Try.func16 (by kernel_rfl) rfl #[.slice Ao90 t334.length co90, .int .i64 x14_20] (by rfl) rfl rfl (by (try simp only [List.map_toArray, List.map_cons, List.map_nil]); first | done | rfl | (simp only [List.length_drop, List.length_take]; rfl)) ?_
               with_reducible refine (span_Style.calls _ _ t334 x14_20 t373 t374 t375 t376 t377 t378 _ ?side1 ?side2 A74.out).mono ?_
               (case side1 => repeat (first | exact (Kd.R_reads' HO_11.out).2.2 | (with_reducible refine Kd.C_alloc ?_ _) | (with_reducible refine Kd.C_drewN ?_ _) | (with_reducible refine Kd.C_drew ?_)))
               (case side2 => exact (Kd.R_reads' HO_11.out).2.1)
               rintro e w91 ⟨rfl, hb⟩
               refine ⟨_, rfl, ?_⟩
               have n0_ := Aside0.mk (Kd.R_below (by (with_reducible repeat (first | apply Kd.R_alloc | apply Kd.R_drewN | apply Kd.R_drew)); exact HO_11.out) hb)
               have n1_ := Aside0.mk (Kd.R_below (by (with_reducible repeat (first | apply Kd.R_alloc | apply Kd.R_drewN | apply Kd.R_drew)); exact HO_12.out) hb)
               have n2_ := Aside0.mk (blk_below (g := gb330) (o := .cells #[.int .i64 a2_0, .int .i64 a2_1, .int .i64 a2_2] 23 (0, 0)) (by (with_reducible repeat (first | refine blk_drewN ?_ _ | refine blk_drew ?_ | refine blk_alloc ?_ _)); exact BK330.out) hb)
               have n3_ := Aside0.mk (blk_below (g := gb346) (o := .cells #[.int .i64 t340, .int .i64 t341, .int .i64 t342, .bool t343, .string t344, .int .u64 t345] 33 (0, 0)) (by (with_reducible repeat (first | refine blk_drewN ?_ _ | refine blk_drew ?_ | refine blk_alloc ?_ _)); exact BK346.out) hb)
               have n4_ := Aside0.mk (below_step (by repeat (first | (with_reducible first | exact HB.out | apply below_alloc | apply pw_below_drewN | apply below_drew1 | refine below_set ?_ GE330.out | refine below_set ?_ GE346.out) | exact HB.out)) hb)
               clear HO_11
               clear HO_12
               clear BK330
               clear BK346
               clear HB
               have HO_11 := n0_
               have HO_12 := n1_
               have BK330 := n2_
               have BK346 := n3_
               have HB := n4_
               clear n0_ n1_ n2_ n3_ n4_
               (try clear hb)
               (try clear hb2)
               (try clear hk)
               (try clear hi)
               refine hK.out _ _ ⟨(blk_cell BK346.out 0).trans rfl, (blk_cell BK346.out 1).trans rfl, (blk_cell BK346.out 2).trans rfl, (blk_cell BK346.out 3).trans rfl, (blk_cell BK346.out 4).trans rfl, (blk_cell BK346.out 5).trans rfl⟩ (fun hHeld => ?_)
               clear hK K
               refine norm_ (a' := ?_) ?_ ?_
               rotate_left
               ·show Act.put _ (some 90) _ = _
                simp only [Act.put, List.setIfInBounds_toArray, List.set_cons_zero, List.set_cons_succ, i64_w, i32_w]
                rfl
               refine pure_ (i := 8) (N := some 92) (v := ?_) (a' := ?_) #[Y',Y',Y',Y',Y',Y',Y',Y',Y',N',N',N',N',N',N',N',N',N',N',N',N',N',N'] rfl rfl (any_of HT_.out (by kernel_rfl)) (fun _ _ _ h => h) (Or.inl ⟨by rfl, ?_⟩) ?_ ?_
               rotate_left
               ·intro w'
                go_simp
                with_reducible rfl
               rotate_left
               ·simp only [Act.put, List.setIfInBounds_toArray, List.set_cons_zero, List.set_cons_succ, i64_w, i32_w]
                rfl
               refine pure_ (i := 9) (N := some 93) (v := ?_) (a' := ?_) #[Y',Y',Y',Y',Y',Y',Y',Y',Y',Y',N',N',N',N',N',N',N',N',N',N',N',N',N'] rfl rfl (any_of HT_.out (by kernel_rfl)) (fun _ _ _ h => h) (Or.inl ⟨by rfl, ?_⟩) ?_ ?_
               rotate_left
               ·intro w'
                go_simp
                with_reducible rfl
               rotate_left
               ·simp only [Act.put, List.setIfInBounds_toArray, List.set_cons_zero, List.set_cons_succ, i64_w, i32_w]
                rfl
               refine pure_ (i := 10) (N := some 94) (v := ?_) (a' := ?_) #[Y',Y',Y',Y',Y',Y',Y',Y',Y',Y',Y',N',N',N',N',N',N',N',N',N',N',N',N'] rfl rfl (any_of HT_.out (by kernel_rfl)) (fun _ _ _ h => h) (Or.inl ⟨by rfl, ?_⟩) ?_ ?_
               rotate_left
               ·intro w'
                go_simp
                with_reducible rfl
               rotate_left
               ·simp only [Act.put, List.setIfInBounds_toArray, List.set_cons_zero, List.set_cons_succ, i64_w, i32_w]
                rfl
               refine pure_ (i := 11) (N := some 95) (v := ?_) (a' := ?_) #[Y',Y',Y',Y',Y',Y',Y',Y',Y',Y',Y',Y',N',N',N',N',N',N',N',N',N',N',N'] rfl rfl (any_of HT_.out (by kernel_rfl)) (fun _ _ _ h => h) (Or.inl ⟨by rfl, ?_⟩) ?_ ?_
               rotate_left
               ·intro w'
                go_simp
                with_reducible rfl
               rotate_left
               ·simp only [Act.put, List.setIfInBounds_toArray, List.set_cons_zero, List.set_cons_succ, i64_w, i32_w]
                rfl
               refine pure_ (i := 12) (N := some 96) (v := undef) (a' := ?_) #[Y',Y',Y',Y',Y',Y',Y',Y',Y',Y',Y',Y',Y',N',N',N',N',N',N',N',N',N',N'] rfl rfl (any_of HT_.out (by kernel_rfl)) (fun _ _ _ h => h) (Or.inr ⟨by rfl, rfl⟩) ?_ ?_
               rotate_left
               ·simp only [Act.put, List.setIfInBounds_toArray, List.set_cons_zero, List.set_cons_succ, i64_w, i32_w]
                rfl
               refine pure_ (i := 13) (N := some 97) (v := undef) (a' := ?_) #[Y',Y',Y',Y',Y',Y',Y',Y',Y',Y',Y',Y',Y',Y',N',N',N',N',N',N',N',N',N'] rfl rfl (any_of HT_.out (by kernel_rfl)) (fun _ _ _ h => h) (Or.inr ⟨by rfl, rfl⟩) ?_ ?_
               rotate_left
               ·simp only [Act.put, List.setIfInBounds_toArray, List.set_cons_zero, List.set_cons_succ, i64_w, i32_w]
                rfl
               refine pure_ (i := 14) (N := some 98) (v := undef) (a' := ?_) #[Y',Y',Y',Y',Y',Y',Y',Y',Y',Y',Y',Y',Y',Y',Y',N',N',N',N',N',N',N',N'] rfl rfl (any_of HT_.out (by kernel_rfl)) (fun _ _ _ h => h) (Or.inr ⟨by rfl, rfl⟩) ?_ ?_
               rotate_left
               ·simp only [Act.put, List.setIfInBounds_toArray, List.set_cons_zero, List.set_cons_succ, i64_w, i32_w]
                rfl
               refine pure_ (i := 15) (N := some 99) (v := undef) (a' := ?_) #[Y',Y',Y',Y',Y',Y',Y',Y',Y',Y',Y',Y',Y',Y',Y',Y',N',N',N',N',N',N',N'] rfl rfl (any_of HT_.out (by kernel_rfl)) (fun _ _ _ h => h) (Or.inr ⟨by rfl, rfl⟩) ?_ ?_
               rotate_left
               ·simp only [Act.put, List.setIfInBounds_toArray, List.set_cons_zero, List.set_cons_succ, i64_w, i32_w]
                rfl
               refine pure_ (i := 16) (N := some 100) (v := undef) (a' := ?_) #[Y',Y',Y',Y',Y',Y',Y',Y',Y',Y',Y',Y',Y',Y',Y',Y',Y',N',N',N',N',N',N'] rfl rfl (any_of HT_.out (by kernel_rfl)) (fun _ _ _ h => h) (Or.inr ⟨by rfl, rfl⟩) ?_ ?_
               rotate_left
               ·simp only [Act.put, List.setIfInBounds_toArray, List.set_cons_zero, List.set_cons_succ, i64_w, i32_w]
                rfl
               refine pure_ (i := 17) (N := some 101) (v := undef) (a' := ?_) #[Y',Y',Y',Y',Y',Y',Y',Y',Y',Y',Y',Y',Y',Y',Y',Y',Y',Y',N',N',N',N',N'] rfl rfl (any_of HT_.out (by kernel_rfl)) (fun _ _ _ h => h) (Or.inr ⟨by rfl, rfl⟩) ?_ ?_
               rotate_left
               ·simp only [Act.put, List.setIfInBounds_toArray, List.set_cons_zero, List.set_cons_succ, i64_w, i32_w]
                rfl
               refine pure_ (i := 18) (N := some 102) (v := undef) (a' := ?_) #[Y',Y',Y',Y',Y',Y',Y',Y',Y',Y',Y',Y',Y',Y',Y',Y',Y',Y',Y',N',N',N',N'] rfl rfl (any_of HT_.out (by kernel_rfl)) (fun _ _ _ h => h) (Or.inr ⟨by rfl, rfl⟩) ?_ ?_
               rotate_left
               ·simp only [Act.put, List.setIfInBounds_toArray, List.set_cons_zero, List.set_cons_succ, i64_w, i32_w]
                rfl
               refine pure_ (i := 19) (N := some 103) (v := undef) (a' := ?_) #[Y',Y',Y',Y',Y',Y',Y',Y',Y',Y',Y',Y',Y',Y',Y',Y',Y',Y',Y',Y',N',N',N'] rfl rfl (any_of HT_.out (by kernel_rfl)) (fun _ _ _ h => h) (Or.inr ⟨by rfl, rfl⟩) ?_ ?_
               rotate_left
               ·simp only [Act.put, List.setIfInBounds_toArray, List.set_cons_zero, List.set_cons_succ, i64_w, i32_w]
                rfl
               refine pure_ (i := 20) (N := some 104) (v := undef) (a' := ?_) #[Y',Y',Y',Y',Y',Y',Y',Y',Y',Y',Y',Y',Y',Y',Y',Y',Y',Y',Y',Y',Y',N',N'] rfl rfl (any_of HT_.out (by kernel_rfl)) (fun _ _ _ h => h) (Or.inr ⟨by rfl, rfl⟩) ?_ ?_
               rotate_left
               ·simp only [Act.put, List.setIfInBounds_toArray, List.set_cons_zero, List.set_cons_succ, i64_w, i32_w]
                rfl
               refine pure_ (i := 21) (N := some 105) (v := ?_) (a' := ?_) #[Y',Y',Y',Y',Y',Y',Y',Y',Y',Y',Y',Y',Y',Y',Y',Y',Y',Y',Y',Y',Y',Y',N'] rfl rfl (any_of HT_.out (by kernel_rfl)) (fun _ _ _ h => h) (Or.inl ⟨by rfl, ?_⟩) ?_ ?_
               rotate_left
               ·intro w'
                go_simp
                with_reducible rfl
               rotate_left
               ·simp only [Act.put, List.setIfInBounds_toArray, List.set_cons_zero, List.set_cons_succ, i64_w, i32_w]
                rfl
               refine pure_ (i := 22) (N := some 6) (v := ?_) (a' := ?_) #[Y',Y',Y',Y',Y',Y',Y',Y',Y',Y',Y',Y',Y',Y',Y',Y',Y',Y',Y',Y',Y',Y',Y'] rfl rfl (any_of HT_.out (by kernel_rfl)) (fun _ _ _ h => h) (Or.inl ⟨by rfl, ?_⟩) ?_ ?_
               rotate_left
               ·intro w'
                go_simp
                with_reducible rfl
               rotate_left
               ·simp only [Act.put, List.setIfInBounds_toArray, List.set_cons_zero, List.set_cons_succ, i64_w, i32_w]
                rfl
               refine done_ (done_of HT_.out (by kernel_rfl)) ?_
               try go_wp2
               go_ret
               exact ⟨by first | rfl | (simp [errW_none, errW_some] <;> rfl) | (simp [*, errW_none, errW_some] <;> rfl), by repeat (first | (with_reducible first | exact HB.out | apply below_alloc | apply pw_below_drewN | apply below_drew1 | refine below_set ?_ GE330.out | refine below_set ?_ GE346.out) | exact HB.out)⟩
            ·replace c64 := Bool.eq_false_iff.mpr c64
             subst c64
             have H1 : (some false) = some r := by rw [if_neg (show ¬ (false = true) by decide)] at H; exact H
             clear H
             have H := H1
             clear H1
             obtain rfl := Option.some.inj H
             try go_wp2
             have n0_ := Aside0.mk (Kd.R_drew HO_11.out)
             have n1_ := Aside0.mk (Kd.R_drew HO_12.out)
             have n2_ := Aside0.mk (blk_drew BK330.out)
             have n3_ := Aside0.mk (blk_drew BK346.out)
             have n4_ := Aside0.mk (below_drew1 HB.out)
             clear HO_11
             clear HO_12
             clear BK330
             clear BK346
             clear HB
             have HO_11 := n0_
             have HO_12 := n1_
             have BK330 := n2_
             have BK346 := n3_
             have HB := n4_
             clear n0_ n1_ n2_ n3_ n4_
             refine start_ (n := 23) (S := fun w' => True) (ds := []) #[N',N',N',N',N',N',N',N',N',N',N',N',N',N',N',N',N',N',N',N',N',N',N'] (by kernel_rfl) rfl rfl trivial (fun hHeld => ?_); refine with_tabW frisketlaw07_SpanOthers.tab19 frisketlaw07_SpanOthers.bits19 (fun HT_ HW_ => ?_)
             generalize wc.drew = w92 at HO_11 HO_12 BK330 BK346 HB hHeld ⊢
             refine one_ (i := 0) (N := some 84) #[Y',N',N',N',N',N',N',N',N',N',N',N',N',N',N',N',N',N',N',N',N',N',N'] rfl rfl (one_of HT_.out (by kernel_rfl)) (by decide) (fun K hK => ?_)
             refine goes_ Try.func8 (by kernel_rfl) rfl #[] (by rfl) rfl rfl (by (try simp only [List.map_toArray, List.map_cons, List.map_nil]); first | done | rfl | (simp only [List.length_drop, List.length_take]; rfl)) ?_
             with_reducible refine (frisketlaw07_alive.calls kj28  false _ A63.out).mono ?_
             rintro e w93 ⟨rfl, hb⟩
             refine ⟨_, rfl, ?_⟩
             have n0_ := Aside0.mk (Kd.R_below (by (with_reducible repeat (first | apply Kd.R_alloc | apply Kd.R_drewN | apply Kd.R_drew)); exact HO_11.out) hb)
             have n1_ := Aside0.mk (Kd.R_below (by (with_reducible repeat (first | apply Kd.R_alloc | apply Kd.R_drewN | apply Kd.R_drew)); exact HO_12.out) hb)
             have n2_ := Aside0.mk (blk_below (g := gb330) (o := .cells #[.int .i64 a2_0, .int .i64 a2_1, .int .i64 a2_2] 23 (0, 0)) (by (with_reducible repeat (first | refine blk_drewN ?_ _ | refine blk_drew ?_ | refine blk_alloc ?_ _)); exact BK330.out) hb)
             have n3_ := Aside0.mk (blk_below (g := gb346) (o := .cells #[.int .i64 t340, .int .i64 t341, .int .i64 t342, .bool t343, .string t344, .int .u64 t345] 33 (0, 0)) (by (with_reducible repeat (first | refine blk_drewN ?_ _ | refine blk_drew ?_ | refine blk_alloc ?_ _)); exact BK346.out) hb)
             have n4_ := Aside0.mk (below_step (by repeat (first | (with_reducible first | exact HB.out | apply below_alloc | apply pw_below_drewN | apply below_drew1 | refine below_set ?_ GE330.out | refine below_set ?_ GE346.out) | exact HB.out)) hb)
             clear HO_11
             clear HO_12
             clear BK330
             clear BK346
             clear HB
             have HO_11 := n0_
             have HO_12 := n1_
             have BK330 := n2_
             have BK346 := n3_
             have HB := n4_
             clear n0_ n1_ n2_ n3_ n4_
             (try clear hb)
             (try clear hb2)
             (try clear hk)
             (try clear hi)
             refine hK.out _ _ trivial (fun hHeld => ?_)
             clear hK K
             refine norm_ (a' := ?_) ?_ ?_
             rotate_left
             ·show Act.put _ (some 84) _ = _
              simp only [Act.put, List.setIfInBounds_toArray, List.set_cons_zero, List.set_cons_succ, i64_w, i32_w]
              rfl
             refine pure_ (i := 1) (N := some 85) (v := ?_) (a' := ?_) #[Y',Y',N',N',N',N',N',N',N',N',N',N',N',N',N',N',N',N',N',N',N',N',N'] rfl rfl (any_of HT_.out (by kernel_rfl)) (fun _ _ _ h => h) (Or.inl ⟨by rfl, ?_⟩) ?_ ?_
             rotate_left
             ·intro w'
              go_simp
              with_reducible rfl
             rotate_left
             ·simp only [Act.put, List.setIfInBounds_toArray, List.set_cons_zero, List.set_cons_succ, i64_w, i32_w]
              rfl
             refine pure_ (i := 2) (N := some 86) (v := undef) (a' := ?_) #[Y',Y',Y',N',N',N',N',N',N',N',N',N',N',N',N',N',N',N',N',N',N',N',N'] rfl rfl (any_of HT_.out (by kernel_rfl)) (fun _ _ _ h => h) (Or.inr ⟨by rfl, rfl⟩) ?_ ?_
             rotate_left
             ·simp only [Act.put, List.setIfInBounds_toArray, List.set_cons_zero, List.set_cons_succ, i64_w, i32_w]
              rfl
             refine pure_ (i := 3) (N := some 87) (v := undef) (a' := ?_) #[Y',Y',Y',Y',N',N',N',N',N',N',N',N',N',N',N',N',N',N',N',N',N',N',N'] rfl rfl (any_of HT_.out (by kernel_rfl)) (fun _ _ _ h => h) (Or.inr ⟨by rfl, rfl⟩) ?_ ?_
             rotate_left
             ·simp only [Act.put, List.setIfInBounds_toArray, List.set_cons_zero, List.set_cons_succ, i64_w, i32_w]
              rfl
             refine pure_ (i := 4) (N := some 88) (v := undef) (a' := ?_) #[Y',Y',Y',Y',Y',N',N',N',N',N',N',N',N',N',N',N',N',N',N',N',N',N',N'] rfl rfl (any_of HT_.out (by kernel_rfl)) (fun _ _ _ h => h) (Or.inr ⟨by rfl, rfl⟩) ?_ ?_
             rotate_left
             ·simp only [Act.put, List.setIfInBounds_toArray, List.set_cons_zero, List.set_cons_succ, i64_w, i32_w]
              rfl
             refine pure_ (i := 5) (N := some 89) (v := undef) (a' := ?_) #[Y',Y',Y',Y',Y',Y',N',N',N',N',N',N',N',N',N',N',N',N',N',N',N',N',N'] rfl rfl (any_of HT_.out (by kernel_rfl)) (fun _ _ _ h => h) (Or.inr ⟨by rfl, rfl⟩) ?_ ?_
             rotate_left
             ·simp only [Act.put, List.setIfInBounds_toArray, List.set_cons_zero, List.set_cons_succ, i64_w, i32_w]
              rfl
             refine pure_ (i := 6) (N := some 90) (v := undef) (a' := ?_) #[Y',Y',Y',Y',Y',Y',Y',N',N',N',N',N',N',N',N',N',N',N',N',N',N',N',N'] rfl rfl (any_of HT_.out (by kernel_rfl)) (fun _ _ _ h => h) (Or.inr ⟨by rfl, rfl⟩) ?_ ?_
             rotate_left
             ·simp only [Act.put, List.setIfInBounds_toArray, List.set_cons_zero, List.set_cons_succ, i64_w, i32_w]
              rfl
             refine pure_ (i := 7) (N := some 91) (v := undef) (a' := ?_) #[Y',Y',Y',Y',Y',Y',Y',Y',N',N',N',N',N',N',N',N',N',N',N',N',N',N',N'] rfl rfl (any_of HT_.out (by kernel_rfl)) (fun _ _ _ h => h) (Or.inr ⟨by rfl, rfl⟩) ?_ ?_
             rotate_left
             ·simp only [Act.put, List.setIfInBounds_toArray, List.set_cons_zero, List.set_cons_succ, i64_w, i32_w]
              rfl
             refine pure_ (i := 8) (N := some 92) (v := undef) (a' := ?_) #[Y',Y',Y',Y',Y',Y',Y',Y',Y',N',N',N',N',N',N',N',N',N',N',N',N',N',N'] rfl rfl (any_of HT_.out (by kernel_rfl)) (fun _ _ _ h => h) (Or.inr ⟨by rfl, rfl⟩) ?_ ?_
             rotate_left
             ·simp only [Act.put, List.setIfInBounds_toArray, List.set_cons_zero, List.set_cons_succ, i64_w, i32_w]
              rfl
             refine pure_ (i := 9) (N := some 93) (v := undef) (a' := ?_) #[Y',Y',Y',Y',Y',Y',Y',Y',Y',Y',N',N',N',N',N',N',N',N',N',N',N',N',N'] rfl rfl (any_of HT_.out (by kernel_rfl)) (fun _ _ _ h => h) (Or.inr ⟨by rfl, rfl⟩) ?_ ?_
             rotate_left
             ·simp only [Act.put, List.setIfInBounds_toArray, List.set_cons_zero, List.set_cons_succ, i64_w, i32_w]
              rfl
             refine pure_ (i := 10) (N := some 94) (v := ?_) (a' := ?_) #[Y',Y',Y',Y',Y',Y',Y',Y',Y',Y',Y',N',N',N',N',N',N',N',N',N',N',N',N'] rfl rfl (any_of HT_.out (by kernel_rfl)) (fun _ _ _ h => h) (Or.inl ⟨by rfl, ?_⟩) ?_ ?_
             rotate_left
             ·intro w'
              go_simp
              with_reducible rfl
             rotate_left
             ·simp only [Act.put, List.setIfInBounds_toArray, List.set_cons_zero, List.set_cons_succ, i64_w, i32_w]
              rfl
             refine pure_ (i := 11) (N := some 95) (v := ?_) (a' := ?_) #[Y',Y',Y',Y',Y',Y',Y',Y',Y',Y',Y',Y',N',N',N',N',N',N',N',N',N',N',N'] rfl rfl (any_of HT_.out (by kernel_rfl)) (fun _ _ _ h => h) (Or.inl ⟨by rfl, ?_⟩) ?_ ?_
             rotate_left
             ·intro w'
              go_simp
              with_reducible rfl
             rotate_left
             ·simp only [Act.put, List.setIfInBounds_toArray, List.set_cons_zero, List.set_cons_succ, i64_w, i32_w]
              rfl
             refine pure_ (i := 12) (N := some 96) (v := undef) (a' := ?_) #[Y',Y',Y',Y',Y',Y',Y',Y',Y',Y',Y',Y',Y',N',N',N',N',N',N',N',N',N',N'] rfl rfl (any_of HT_.out (by kernel_rfl)) (fun _ _ _ h => h) (Or.inr ⟨by rfl, rfl⟩) ?_ ?_
             rotate_left
             ·simp only [Act.put, List.setIfInBounds_toArray, List.set_cons_zero, List.set_cons_succ, i64_w, i32_w]
              rfl
             refine pure_ (i := 13) (N := some 97) (v := undef) (a' := ?_) #[Y',Y',Y',Y',Y',Y',Y',Y',Y',Y',Y',Y',Y',Y',N',N',N',N',N',N',N',N',N'] rfl rfl (any_of HT_.out (by kernel_rfl)) (fun _ _ _ h => h) (Or.inr ⟨by rfl, rfl⟩) ?_ ?_
             rotate_left
             ·simp only [Act.put, List.setIfInBounds_toArray, List.set_cons_zero, List.set_cons_succ, i64_w, i32_w]
              rfl
             refine pure_ (i := 14) (N := some 98) (v := undef) (a' := ?_) #[Y',Y',Y',Y',Y',Y',Y',Y',Y',Y',Y',Y',Y',Y',Y',N',N',N',N',N',N',N',N'] rfl rfl (any_of HT_.out (by kernel_rfl)) (fun _ _ _ h => h) (Or.inr ⟨by rfl, rfl⟩) ?_ ?_
             rotate_left
             ·simp only [Act.put, List.setIfInBounds_toArray, List.set_cons_zero, List.set_cons_succ, i64_w, i32_w]
              rfl
             refine pure_ (i := 15) (N := some 99) (v := undef) (a' := ?_) #[Y',Y',Y',Y',Y',Y',Y',Y',Y',Y',Y',Y',Y',Y',Y',Y',N',N',N',N',N',N',N'] rfl rfl (any_of HT_.out (by kernel_rfl)) (fun _ _ _ h => h) (Or.inr ⟨by rfl, rfl⟩) ?_ ?_
             rotate_left
             ·simp only [Act.put, List.setIfInBounds_toArray, List.set_cons_zero, List.set_cons_succ, i64_w, i32_w]
              rfl
             refine pure_ (i := 16) (N := some 100) (v := undef) (a' := ?_) #[Y',Y',Y',Y',Y',Y',Y',Y',Y',Y',Y',Y',Y',Y',Y',Y',Y',N',N',N',N',N',N'] rfl rfl (any_of HT_.out (by kernel_rfl)) (fun _ _ _ h => h) (Or.inr ⟨by rfl, rfl⟩) ?_ ?_
             rotate_left
             ·simp only [Act.put, List.setIfInBounds_toArray, List.set_cons_zero, List.set_cons_succ, i64_w, i32_w]
              rfl
             refine pure_ (i := 17) (N := some 101) (v := undef) (a' := ?_) #[Y',Y',Y',Y',Y',Y',Y',Y',Y',Y',Y',Y',Y',Y',Y',Y',Y',Y',N',N',N',N',N'] rfl rfl (any_of HT_.out (by kernel_rfl)) (fun _ _ _ h => h) (Or.inr ⟨by rfl, rfl⟩) ?_ ?_
             rotate_left
             ·simp only [Act.put, List.setIfInBounds_toArray, List.set_cons_zero, List.set_cons_succ, i64_w, i32_w]
              rfl
             refine pure_ (i := 18) (N := some 102) (v := undef) (a' := ?_) #[Y',Y',Y',Y',Y',Y',Y',Y',Y',Y',Y',Y',Y',Y',Y',Y',Y',Y',Y',N',N',N',N'] rfl rfl (any_of HT_.out (by kernel_rfl)) (fun _ _ _ h => h) (Or.inr ⟨by rfl, rfl⟩) ?_ ?_
             rotate_left
             ·simp only [Act.put, List.setIfInBounds_toArray, List.set_cons_zero, List.set_cons_succ, i64_w, i32_w]
              rfl
             refine pure_ (i := 19) (N := some 103) (v := undef) (a' := ?_) #[Y',Y',Y',Y',Y',Y',Y',Y',Y',Y',Y',Y',Y',Y',Y',Y',Y',Y',Y',Y',N',N',N'] rfl rfl (any_of HT_.out (by kernel_rfl)) (fun _ _ _ h => h) (Or.inr ⟨by rfl, rfl⟩) ?_ ?_
             rotate_left
             ·simp only [Act.put, List.setIfInBounds_toArray, List.set_cons_zero, List.set_cons_succ, i64_w, i32_w]
              rfl
             refine pure_ (i := 20) (N := some 104) (v := undef) (a' := ?_) #[Y',Y',Y',Y',Y',Y',Y',Y',Y',Y',Y',Y',Y',Y',Y',Y',Y',Y',Y',Y',Y',N',N'] rfl rfl (any_of HT_.out (by kernel_rfl)) (fun _ _ _ h => h) (Or.inr ⟨by rfl, rfl⟩) ?_ ?_
             rotate_left
             ·simp only [Act.put, List.setIfInBounds_toArray, List.set_cons_zero, List.set_cons_succ, i64_w, i32_w]
              rfl
             refine pure_ (i := 21) (N := some 105) (v := ?_) (a' := ?_) #[Y',Y',Y',Y',Y',Y',Y',Y',Y',Y',Y',Y',Y',Y',Y',Y',Y',Y',Y',Y',Y',Y',N'] rfl rfl (any_of HT_.out (by kernel_rfl)) (fun _ _ _ h => h) (Or.inl ⟨by rfl, ?_⟩) ?_ ?_
             rotate_left
             ·intro w'
              go_simp
              with_reducible rfl
             rotate_left
             ·simp only [Act.put, List.setIfInBounds_toArray, List.set_cons_zero, List.set_cons_succ, i64_w, i32_w]
              rfl
             refine pure_ (i := 22) (N := some 6) (v := ?_) (a' := ?_) #[Y',Y',Y',Y',Y',Y',Y',Y',Y',Y',Y',Y',Y',Y',Y',Y',Y',Y',Y',Y',Y',Y',Y'] rfl rfl (any_of HT_.out (by kernel_rfl)) (fun _ _ _ h => h) (Or.inl ⟨by rfl, ?_⟩) ?_ ?_
             rotate_left
             ·intro w'
              go_simp
              with_reducible rfl
             rotate_left
             ·simp only [Act.put, List.setIfInBounds_toArray, List.set_cons_zero, List.set_cons_succ, i64_w, i32_w]
              rfl
             refine done_ (done_of HT_.out (by kernel_rfl)) ?_
             try go_wp2
             go_ret
             exact ⟨by first | rfl | (simp [errW_none, errW_some] <;> rfl) | (simp [*, errW_none, errW_some] <;> rfl), by repeat (first | (with_reducible first | exact HB.out | apply below_alloc | apply pw_below_drewN | apply below_drew1 | refine below_set ?_ GE330.out | refine below_set ?_ GE346.out) | exact HB.out)⟩

end Go.Proofs.Ytdkblhfcndafaaa.X
