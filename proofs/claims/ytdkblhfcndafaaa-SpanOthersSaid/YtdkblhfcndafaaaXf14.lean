-- Printed by xprint.py (mine, in wip/tools) through the kit's print. Not trusted: Lean checks it.
import Derived.Test.YtdkblhfcndafaaaX0
import Derived.Test.YtdkblhfcndafaaaXe33
import Derived.Test.YtdkblhfcndafaaaXf23
namespace Go.Proofs.Ytdkblhfcndafaaa.X
open Go.RowKit Go.Proofs.YtdkblhfcndafaaaW.PrintWords Go.Proofs.YtdkblhfcndafaaaW.PrintLast Go.Proofs.YtdkblhfcndafaaaW.PrintMore
attribute [local go_sem] max2_int min2_int max_two min_two
set_option linter.unusedVariables false
set_option linter.unusedSimpArgs false

attribute [local go_sem high] eqA33
/-! ### span_Normal: function 14 -/
mutual
def span_Normal.l0 : Nat → List (S33) → List (S33) → Int → Int → Option ((List (S33)))
 | 0, _, _, _, _ => none
 | k + 1, x3, x8, x9, x10 => if x10 < x9 then (if 0 ≤ x10 then (if x10 < (x8.length : Int) then (if (wrap64 ((x3.length : Int) - 1)) ≥ 0 then (if 0 ≤ (wrap64 ((x3.length : Int) - 1)) then (if (wrap64 ((x3.length : Int) - 1)) < (x3.length : Int) then (if ((rd_T33 x3 (wrap64 ((x3.length : Int) - 1))).f1) = ((rd_T33 x8 x10).f0) then ((span_bare.f ((rd_T33 x3 (wrap64 ((x3.length : Int) - 1))).f0) ((rd_T33 x3 (wrap64 ((x3.length : Int) - 1))).f1) ((rd_T33 x3 (wrap64 ((x3.length : Int) - 1))).f2) ((rd_T33 x3 (wrap64 ((x3.length : Int) - 1))).f3) ((rd_T33 x3 (wrap64 ((x3.length : Int) - 1))).f4) ((rd_T33 x3 (wrap64 ((x3.length : Int) - 1))).f5)).bind fun bt114 => ((span_bare.f ((rd_T33 x8 x10).f0) ((rd_T33 x8 x10).f1) ((rd_T33 x8 x10).f2) ((rd_T33 x8 x10).f3) ((rd_T33 x8 x10).f4) ((rd_T33 x8 x10).f5)).bind fun bt120 => (if (bt114.1 == bt120.1 && (bt114.2.1 == bt120.2.1 && (bt114.2.2.1 == bt120.2.2.1 && (bt114.2.2.2.1 == bt120.2.2.2.1 && (bt114.2.2.2.2.1.toList == bt120.2.2.2.2.1.toList && (bt114.2.2.2.2.2 == bt120.2.2.2.2.2)))))) = true then (if ((rd_T33 x8 x10).f3 = true) then (span_Normal.j1 k x3 (wrap64 ((x3.length : Int) - 1)) false x8 x9 x10 ((rd_T33 x8 x10).f0) ((rd_T33 x8 x10).f1) ((rd_T33 x8 x10).f2) ((rd_T33 x8 x10).f3) ((rd_T33 x8 x10).f4) ((rd_T33 x8 x10).f5)) else (span_Normal.j1 k x3 (wrap64 ((x3.length : Int) - 1)) (((rd_T33 x8 x10).f4).toList == ([] : List UInt8)) x8 x9 x10 ((rd_T33 x8 x10).f0) ((rd_T33 x8 x10).f1) ((rd_T33 x8 x10).f2) ((rd_T33 x8 x10).f3) ((rd_T33 x8 x10).f4) ((rd_T33 x8 x10).f5))) else (span_Normal.j1 k x3 (wrap64 ((x3.length : Int) - 1)) false x8 x9 x10 ((rd_T33 x8 x10).f0) ((rd_T33 x8 x10).f1) ((rd_T33 x8 x10).f2) ((rd_T33 x8 x10).f3) ((rd_T33 x8 x10).f4) ((rd_T33 x8 x10).f5))))) else (span_Normal.j1 k x3 (wrap64 ((x3.length : Int) - 1)) false x8 x9 x10 ((rd_T33 x8 x10).f0) ((rd_T33 x8 x10).f1) ((rd_T33 x8 x10).f2) ((rd_T33 x8 x10).f3) ((rd_T33 x8 x10).f4) ((rd_T33 x8 x10).f5))) else (none)) else (none)) else (span_Normal.j1 k x3 (wrap64 ((x3.length : Int) - 1)) false x8 x9 x10 ((rd_T33 x8 x10).f0) ((rd_T33 x8 x10).f1) ((rd_T33 x8 x10).f2) ((rd_T33 x8 x10).f3) ((rd_T33 x8 x10).f4) ((rd_T33 x8 x10).f5))) else (none)) else (none)) else (some x3)
def span_Normal.j1 : Nat → List (S33) → Int → Bool → List (S33) → Int → Int → Int → Int → Int → Bool → ByteArray → Int → Option ((List (S33)))
 | 0, _, _, _, _, _, _, _, _, _, _, _, _ => none
 | k + 1, x3, x6, x7, x8, x9, x10, x112000, x112001, x112002, x112003, x112004, x112005 => (span_bare.f x112000 x112001 x112002 x112003 x112004 x112005).bind fun bt126 => (if (bt126.1 == 0 && (bt126.2.1 == 0 && (bt126.2.2.1 == 0 && (!bt126.2.2.2.1 && (bt126.2.2.2.2.1.toList == ([] : List UInt8) && (bt126.2.2.2.2.2 == 0)))))) = true then (span_Normal.l0 k x3 x8 x9 (wrap64 (x10 + 1))) else (if x7 = true then (if 0 ≤ x6 then (if x6 < (x3.length : Int) then (span_Normal.l0 k (x3.set (x6 : Int).toNat (⟨(rd_T33 x3 x6).f0, x112001, (rd_T33 x3 x6).f2, (rd_T33 x3 x6).f3, (rd_T33 x3 x6).f4, (rd_T33 x3 x6).f5⟩ : S33)) x8 x9 (wrap64 (x10 + 1))) else (none)) else (none)) else (if x3.length < 2513169434916 then (span_Normal.l0 k (x3 ++ [(⟨x112000, x112001, x112002, x112003, x112004, x112005⟩ : S33)]) x8 x9 (wrap64 (x10 + 1))) else (none))))
end
def span_Normal.f (k : Nat) (l0 : List (S33)) : Option ((List (S33))) := span_Normal.l0 k ([] : List (S33)) l0 (l0.length : Int) 0
theorem span_Normal.mono_l : ∀ k, (∀ y0 y1 y2 y3, LeO (span_Normal.l0 k y0 y1 y2 y3) (span_Normal.l0 (k + 1) y0 y1 y2 y3)) ∧ (∀ y0 y1 y2 y3 y4 y5 y6 y7 y8 y9 y10 y11, LeO (span_Normal.j1 k y0 y1 y2 y3 y4 y5 y6 y7 y8 y9 y10 y11) (span_Normal.j1 (k + 1) y0 y1 y2 y3 y4 y5 y6 y7 y8 y9 y10 y11))
 | 0 => ⟨fun _ _ _ _ r h => by simp [span_Normal.l0] at h, fun _ _ _ _ _ _ _ _ _ _ _ _ r h => by simp [span_Normal.j1] at h⟩
 | k + 1 => by
  obtain ⟨ih0, ih1⟩ := span_Normal.mono_l k
  refine ⟨?_, ?_⟩
  ·intro y0 y1 y2 y3
   unfold span_Normal.l0
   repeat' first
   | (with_reducible exact ih0 _ _ _ _)
   | (with_reducible exact ih1 _ _ _ _ _ _ _ _ _ _ _ _)
   | (with_reducible exact LeO.refl _)
   | (with_reducible exact LeO.none _)
   | (with_reducible refine LeO.ite ?_ ?_)
   | (with_reducible refine LeO.bind ?_ (fun _ => ?_))
   | exact ih0 _ _ _ _
   | exact ih1 _ _ _ _ _ _ _ _ _ _ _ _
   | exact LeO.none _
   | refine LeO.ite ?_ ?_
   | refine LeO.bind ?_ (fun _ => ?_)
  ·intro y0 y1 y2 y3 y4 y5 y6 y7 y8 y9 y10 y11
   unfold span_Normal.j1
   repeat' first
   | (with_reducible exact ih0 _ _ _ _)
   | (with_reducible exact ih1 _ _ _ _ _ _ _ _ _ _ _ _)
   | (with_reducible exact LeO.refl _)
   | (with_reducible exact LeO.none _)
   | (with_reducible refine LeO.ite ?_ ?_)
   | (with_reducible refine LeO.bind ?_ (fun _ => ?_))
   | exact ih0 _ _ _ _
   | exact ih1 _ _ _ _ _ _ _ _ _ _ _ _
   | exact LeO.none _
   | refine LeO.ite ?_ ?_
   | refine LeO.bind ?_ (fun _ => ?_)
theorem span_Normal.mono : ∀ a0 k, LeO (span_Normal.f k a0) (span_Normal.f (k + 1) a0) := by
 intro a0 k
 obtain ⟨ih0, ih1⟩ := span_Normal.mono_l k
 unfold span_Normal.f
 repeat' first
   | (with_reducible exact ih0 _ _ _ _)
   | (with_reducible exact ih1 _ _ _ _ _ _ _ _ _ _ _ _)
   | (with_reducible exact LeO.refl _)
   | (with_reducible exact LeO.none _)
   | (with_reducible refine LeO.ite ?_ ?_)
   | (with_reducible refine LeO.bind ?_ (fun _ => ?_))
   | exact ih0 _ _ _ _
   | exact ih1 _ _ _ _ _ _ _ _ _ _ _ _
   | exact LeO.none _
   | refine LeO.ite ?_ ?_
   | refine LeO.bind ?_ (fun _ => ?_)
def span_Normal.T6 : Bool × List (List Nat × List Nat) := (true, [([], []), ([0], [0]), ([1], [1]), ([2], [2]), ([2], [2]), ([3, 4, 2], [2, 3, 4]), ([5, 2], [2, 5]), ([6, 2], [2, 6]), ([2], [2]), ([8, 2], [2, 8]), ([7, 9, 2], [2, 7, 9]), ([2, 10], [2, 10]), ([11, 2], [11]), ([12], [12]), ([12], [12]), ([13, 14, 12], [12, 13, 14]), ([15, 12], [12, 15]), ([16, 12, 12], [12, 16]), ([12], [12]), ([18, 17, 12], [12, 18]), ([17, 19, 12], [12, 17, 19]), ([12, 20], [12, 20]), ([21, 19], [21]), ([22], [22]), ([23, 22], [22, 23]), ([24, 22], [22, 24]), ([22, 25], [22, 25]), ([26, 22], [26]), ([27], [27]), ([28, 27], [27, 28]), ([29, 27], [27, 29]), ([27, 30], [27, 30]), ([31, 27, 0, 1, 2, 3, 4, 5, 6, 7, 8, 9, 10, 11, 12, 13, 14, 15, 16, 17, 18, 19, 20, 21, 22, 23, 24, 25, 26, 27, 28, 29, 30, 31], [31])])
def span_Normal.B6 : List Nat := [0, 1, 3, 7, 7, 31, 63, 127, 7, 263, 1023, 2047, 4095, 8191, 8191, 32767, 65535, 131071, 8191, 524287, 1048575, 2097151, 4194303, 8388607, 16777215, 33554431, 67108863, 134217727, 268435455, 536870911, 1073741823, 2147483647, 4294967295]
theorem span_Normal.tab6 : rtab .any (opsOf Try.f14 6) = span_Normal.T6 := by kernel_rfl
theorem span_Normal.bits6 : waitsOk span_Normal.T6.2 span_Normal.B6 = true := by kernel_rfl
set_option maxHeartbeats 8000000 in
set_option maxRecDepth 100000 in
theorem span_Normal.calls (k : Nat) (A0 : Option Addr) (c0 : Nat) (l0 : List (S33)) (r : List (S33)) (w : World) (hr0 : Kd.C k33 w A0 l0.length l0) (hc0 : l0.length ≤ c0) (h : span_Normal.f k l0 = some r) :
  Calls Try.prog 14 #[.slice A0 l0.length c0] w fun e w' => ∃ v0_ : Value, e = .returned (v0_) ∧ Kd.R k33 33 w' w.heap.size (fun _ => True) v0_ r ∧ Below w.heap.size w w' := by
 have hu33 := Try.underlying33
 have HR0 := Aside0.mk hr0
 have HC0 := Aside0.mk hc0
 clear hr0 hc0
 have HB := Aside0.mk (Below.refl w.heap.size w)
 have H : (span_Normal.l0 k ([] : List (S33)) l0 (l0.length : Int) 0) = some r := h
 clear h
 have H' := Aside0.mk H
 clear H
 go_enter Try.func14, Try.ntmps14
 go_wp2
 go_loopg [3, 10] k (fun kq v3 v10 w' => ∃ (x3_1 : List (S33)) (x10_1 : Int), v10 = .int .i64 x10_1 ∧ Aside0 (span_Normal.l0 kq x3_1 l0 (l0.length : Int) x10_1 = some r) ∧ Aside0 (kq ≤ k) ∧ Aside0 (Kd.R k33 33 w' w.heap.size (fun _ => True) v3 x3_1) ∧ Aside0 (Below w.heap.size w w'))
 case atStart => exact ⟨(([] : List (S33))), (0), (by first | rfl | (simp; done) | (simp [*]; done)), H', ⟨Nat.le_refl _⟩, ⟨by first | exact Kd.R_nil _ _ _ _ _ | exact Kd.N_nil _ _ _ _ _ | exact Kd.V_nil _ _ _ _ _ | exact Kd.Q_nil _ _ _ _ _ | exact Kd.S_nil _ _ _ _ _⟩, ⟨by repeat (first | (with_reducible first | exact HB.out | apply below_alloc | apply pw_below_drewN | apply below_drew1) | exact HB.out)⟩⟩
 case round =>
  clear H'
  try clear c1
  obtain ⟨x3_1, x10_1, rfl, HA, HK1, HO_3, HB⟩ := hrel
  cases gk with
  | zero => exact absurd HA.out (by simp [span_Normal.l0])
  | succ k1 =>
   have H := HA.out
   clear HA
   simp only [span_Normal.l0] at H
   by_cases c2 : x10_1 < (l0.length : Int)
   ·rw [if_pos c2] at H
    have c2b0 : decide (x10_1 < (l0.length : Int)) = true := decide_eq_true c2
    clear c2
    by_cases c3 : 0 ≤ x10_1
    ·rw [if_pos c3] at H
     have c3b0 : decide (0 ≤ x10_1) = true := decide_eq_true c3
     clear c3
     by_cases c4 : x10_1 < (l0.length : Int)
     ·rw [if_pos c4] at H
      have c4b0 : decide (x10_1 < (l0.length : Int)) = true := decide_eq_true c4
      clear c4
      have HC5 := Aside0.mk H
      clear H
      have p110 : 0 ≤ (x10_1 : Int) := of_decide_eq_true (by first | (with_reducible assumption) | assumption)
      have q110 : x10_1 < (l0.length : Int) := of_decide_eq_true (by first | (with_reducible assumption) | assumption)
      obtain ⟨ad110, e110, hx110_0, hx110_1, hx110_2, hx110_3, hx110_4, hx110_5⟩ := at_T33 HR0.out x10_1 p110 q110
      cases e110
      replace hx110_0 := (HB.out.cell (World.block_lt_of_cell? w _ hx110_0)).trans hx110_0
      replace hx110_1 := (HB.out.cell (World.block_lt_of_cell? w _ hx110_1)).trans hx110_1
      replace hx110_2 := (HB.out.cell (World.block_lt_of_cell? w _ hx110_2)).trans hx110_2
      replace hx110_3 := (HB.out.cell (World.block_lt_of_cell? w _ hx110_3)).trans hx110_3
      replace hx110_4 := (HB.out.cell (World.block_lt_of_cell? w _ hx110_4)).trans hx110_4
      replace hx110_5 := (HB.out.cell (World.block_lt_of_cell? w _ hx110_5)).trans hx110_5
      replace p110 := eq_true p110
      replace q110 := eq_true q110
      go_upto_region 6 with (first | ((with_reducible refine gate_dst (N := 5) rfl ?_); refine box_event ?hg (N := 5) ?hd (cs := #[.int .i64 0, .int .i64 0, .int .i64 0, .bool false, .string (⟨#[]⟩ : ByteArray), .int .u64 0]) (t := 33) ?hr ?_; (case hd => rfl); (case hg => rfl); (case hr => first | (go_simp; done) | (go_simp; rfl)); intro gb111 hg w6 hbox hb; have n0_ := Aside0.mk (Kd.R_below (Kd.R_elderB (by (with_reducible repeat (first | apply Kd.R_alloc | apply Kd.R_drewN | apply Kd.R_drew)); exact HO_3.out) gb111 (Nat.le_of_eq hg.symm)) hb); have n1_ := Aside0.mk (below_step (by repeat (first | (with_reducible first | exact HB.out | apply below_alloc | apply pw_below_drewN | apply below_drew1) | exact HB.out)) hb); have n2_ := Aside0.mk (hbox); have n3_ := Aside0.mk ((by rw [hg]; exact (below_size (by repeat (first | (with_reducible first | exact HB.out | apply below_alloc | apply pw_below_drewN | apply below_drew1) | exact HB.out))) : w.heap.size ≤ gb111)); have n4_ := Aside0.mk ((by rw [hg]; exact (below_size (by repeat (first | (with_reducible first | exact HB.out | apply below_alloc | apply pw_below_drewN | apply below_drew1) | exact HB.out))) : w.heap.size ≤ gb111)); clear HO_3; clear HB; have HO_3 := n0_; have HB := n1_; have BK111 := n2_; have GW111 := n3_; have GE111 := n4_; clear n0_ n1_ n2_ n3_ n4_; clear hb hbox hg; have hcz7_0 : w6.cell? ⟨gb111, 0, none⟩ = some (.int .i64 0) := (blk_cell BK111.out 0).trans rfl; have hcz7_1 : w6.cell? ⟨gb111, 1, none⟩ = some (.int .i64 0) := (blk_cell BK111.out 1).trans rfl; have hcz7_2 : w6.cell? ⟨gb111, 2, none⟩ = some (.int .i64 0) := (blk_cell BK111.out 2).trans rfl; have hcz7_3 : w6.cell? ⟨gb111, 3, none⟩ = some (.bool false) := (blk_cell BK111.out 3).trans rfl; have hcz7_4 : w6.cell? ⟨gb111, 4, none⟩ = some (.string (⟨#[]⟩ : ByteArray)) := (blk_cell BK111.out 4).trans rfl; have hcz7_5 : w6.cell? ⟨gb111, 5, none⟩ = some (.int .u64 0) := (blk_cell BK111.out 5).trans rfl; have hfz7_0 := blk_frozen BK111.out 0; have hfz7_1 := blk_frozen BK111.out 1; have hfz7_2 := blk_frozen BK111.out 2; have hfz7_3 := blk_frozen BK111.out 3; have hfz7_4 := blk_frozen BK111.out 4; have hfz7_5 := blk_frozen BK111.out 5; obtain ⟨Ao8, co8, eo8⟩ := Kd.R_slice HO_3.out; subst eo8))
      (try simp only [Act.put, List.setIfInBounds_toArray, List.set_cons_zero, List.set_cons_succ])
      go_cut [7] (fun v7 wc => ∃ (kq : Nat) (x7_4 : Bool), v7 = .bool x7_4 ∧ Aside0 (span_Normal.j1 kq x3_1 (wrap64 ((x3_1.length : Int) - 1)) x7_4 l0 (l0.length : Int) x10_1 ((rd_T33 l0 x10_1).f0) ((rd_T33 l0 x10_1).f1) ((rd_T33 l0 x10_1).f2) ((rd_T33 l0 x10_1).f3) ((rd_T33 l0 x10_1).f4) ((rd_T33 l0 x10_1).f5) = some r) ∧ Aside0 (kq ≤ k1) ∧ Aside0 (Kd.R k33 33 wc w.heap.size (fun k_ => k_ ≠ gb111) (.slice Ao8 x3_1.length co8) x3_1) ∧ Aside0 (wc.heap[gb111]? = some (.cells #[.int .i64 ((rd_T33 l0 x10_1).f0), .int .i64 ((rd_T33 l0 x10_1).f1), .int .i64 ((rd_T33 l0 x10_1).f2), .bool ((rd_T33 l0 x10_1).f3), .string ((rd_T33 l0 x10_1).f4), .int .u64 ((rd_T33 l0 x10_1).f5)] 33 (0, 0))) ∧ Aside0 (Below w.heap.size w wc))
      case first =>
       have H := HC5.out
       clear HC5
       by_cases c9 : (wrap64 ((x3_1.length : Int) - 1)) ≥ 0
       ·rw [if_pos c9] at H
        have c9b0 : decide (0 ≤ (wrap64 ((x3_1.length : Int) - 1))) = true := decide_eq_true c9
        clear c9
        (first | rw [c9b0] | (simp only [i64_w, i32_w]; rw [c9b0]) | skip)
        obtain ⟨ji10, hji10⟩ : ∃ j_ : Int, (wrap64 ((x3_1.length : Int) - 1)) = j_ := ⟨_, rfl⟩
        replace H : (if 0 ≤ (ji10) then (if (ji10) < (x3_1.length : Int) then (if ((rd_T33 x3_1 (ji10)).f1) = ((rd_T33 l0 x10_1).f0) then ((span_bare.f ((rd_T33 x3_1 (ji10)).f0) ((rd_T33 x3_1 (ji10)).f1) ((rd_T33 x3_1 (ji10)).f2) ((rd_T33 x3_1 (ji10)).f3) ((rd_T33 x3_1 (ji10)).f4) ((rd_T33 x3_1 (ji10)).f5)).bind fun bt114 => ((span_bare.f ((rd_T33 l0 x10_1).f0) ((rd_T33 l0 x10_1).f1) ((rd_T33 l0 x10_1).f2) ((rd_T33 l0 x10_1).f3) ((rd_T33 l0 x10_1).f4) ((rd_T33 l0 x10_1).f5)).bind fun bt120 => (if (bt114.1 == bt120.1 && (bt114.2.1 == bt120.2.1 && (bt114.2.2.1 == bt120.2.2.1 && (bt114.2.2.2.1 == bt120.2.2.2.1 && (bt114.2.2.2.2.1.toList == bt120.2.2.2.2.1.toList && (bt114.2.2.2.2.2 == bt120.2.2.2.2.2)))))) = true then (if ((rd_T33 l0 x10_1).f3 = true) then (span_Normal.j1 k1 x3_1 ji10 false l0 (l0.length : Int) x10_1 ((rd_T33 l0 x10_1).f0) ((rd_T33 l0 x10_1).f1) ((rd_T33 l0 x10_1).f2) ((rd_T33 l0 x10_1).f3) ((rd_T33 l0 x10_1).f4) ((rd_T33 l0 x10_1).f5)) else (span_Normal.j1 k1 x3_1 ji10 (((rd_T33 l0 x10_1).f4).toList == ([] : List UInt8)) l0 (l0.length : Int) x10_1 ((rd_T33 l0 x10_1).f0) ((rd_T33 l0 x10_1).f1) ((rd_T33 l0 x10_1).f2) ((rd_T33 l0 x10_1).f3) ((rd_T33 l0 x10_1).f4) ((rd_T33 l0 x10_1).f5))) else (span_Normal.j1 k1 x3_1 ji10 false l0 (l0.length : Int) x10_1 ((rd_T33 l0 x10_1).f0) ((rd_T33 l0 x10_1).f1) ((rd_T33 l0 x10_1).f2) ((rd_T33 l0 x10_1).f3) ((rd_T33 l0 x10_1).f4) ((rd_T33 l0 x10_1).f5))))) else (span_Normal.j1 k1 x3_1 ji10 false l0 (l0.length : Int) x10_1 ((rd_T33 l0 x10_1).f0) ((rd_T33 l0 x10_1).f1) ((rd_T33 l0 x10_1).f2) ((rd_T33 l0 x10_1).f3) ((rd_T33 l0 x10_1).f4) ((rd_T33 l0 x10_1).f5))) else (none)) else (none)) = some r := by first | (rw [hji10] at H; exact H) | (simp only [hji10] at H ⊢; exact H)
        (try rw [hji10] at c9b0)
        have hji10w : (IntKind.i64.wrap ((x3_1.length : Int) - 1)) = ji10 := (i64_w _).trans hji10
        by_cases c11 : 0 ≤ (ji10)
        ·rw [if_pos c11] at H
         have c11b0 : decide (0 ≤ (ji10)) = true := decide_eq_true c11
         clear c11
         by_cases c12 : (ji10) < (x3_1.length : Int)
         ·rw [if_pos c12] at H
          have c12b0 : decide ((ji10) < (x3_1.length : Int)) = true := decide_eq_true c12
          clear c12
          by_cases c13 : ((rd_T33 x3_1 (ji10)).f1) = ((rd_T33 l0 x10_1).f0)
          ·rw [if_pos c13] at H
           have c13b0 : (((rd_T33 x3_1 (ji10)).f1) == ((rd_T33 l0 x10_1).f0)) = true := beq_iff_eq.mpr c13
           have c13b1 : (((rd_T33 x3_1 (ji10)).f1) != ((rd_T33 l0 x10_1).f0)) = false := bne_eq_false_iff_eq.mpr c13
           clear c13
           replace H := Option.bind_eq_some_iff.mp H
           obtain ⟨⟨t114, t115, t116, t117, t118, t119⟩, A140, H⟩ := H
           replace H : ((span_bare.f ((rd_T33 l0 x10_1).f0) ((rd_T33 l0 x10_1).f1) ((rd_T33 l0 x10_1).f2) ((rd_T33 l0 x10_1).f3) ((rd_T33 l0 x10_1).f4) ((rd_T33 l0 x10_1).f5)).bind fun bt120 => (if (t114 == bt120.1 && (t115 == bt120.2.1 && (t116 == bt120.2.2.1 && (t117 == bt120.2.2.2.1 && (t118.toList == bt120.2.2.2.2.1.toList && (t119 == bt120.2.2.2.2.2)))))) = true then (if ((rd_T33 l0 x10_1).f3 = true) then (span_Normal.j1 k1 x3_1 ji10 false l0 (l0.length : Int) x10_1 ((rd_T33 l0 x10_1).f0) ((rd_T33 l0 x10_1).f1) ((rd_T33 l0 x10_1).f2) ((rd_T33 l0 x10_1).f3) ((rd_T33 l0 x10_1).f4) ((rd_T33 l0 x10_1).f5)) else (span_Normal.j1 k1 x3_1 ji10 (((rd_T33 l0 x10_1).f4).toList == ([] : List UInt8)) l0 (l0.length : Int) x10_1 ((rd_T33 l0 x10_1).f0) ((rd_T33 l0 x10_1).f1) ((rd_T33 l0 x10_1).f2) ((rd_T33 l0 x10_1).f3) ((rd_T33 l0 x10_1).f4) ((rd_T33 l0 x10_1).f5))) else (span_Normal.j1 k1 x3_1 ji10 false l0 (l0.length : Int) x10_1 ((rd_T33 l0 x10_1).f0) ((rd_T33 l0 x10_1).f1) ((rd_T33 l0 x10_1).f2) ((rd_T33 l0 x10_1).f3) ((rd_T33 l0 x10_1).f4) ((rd_T33 l0 x10_1).f5)))) = some r := H
           have A14 := Aside0.mk A140
           clear A140
           replace H := Option.bind_eq_some_iff.mp H
           obtain ⟨⟨t120, t121, t122, t123, t124, t125⟩, A150, H⟩ := H
           replace H : (if (t114 == t120 && (t115 == t121 && (t116 == t122 && (t117 == t123 && (t118.toList == t124.toList && (t119 == t125)))))) = true then (if ((rd_T33 l0 x10_1).f3 = true) then (span_Normal.j1 k1 x3_1 ji10 false l0 (l0.length : Int) x10_1 ((rd_T33 l0 x10_1).f0) ((rd_T33 l0 x10_1).f1) ((rd_T33 l0 x10_1).f2) ((rd_T33 l0 x10_1).f3) ((rd_T33 l0 x10_1).f4) ((rd_T33 l0 x10_1).f5)) else (span_Normal.j1 k1 x3_1 ji10 (((rd_T33 l0 x10_1).f4).toList == ([] : List UInt8)) l0 (l0.length : Int) x10_1 ((rd_T33 l0 x10_1).f0) ((rd_T33 l0 x10_1).f1) ((rd_T33 l0 x10_1).f2) ((rd_T33 l0 x10_1).f3) ((rd_T33 l0 x10_1).f4) ((rd_T33 l0 x10_1).f5))) else (span_Normal.j1 k1 x3_1 ji10 false l0 (l0.length : Int) x10_1 ((rd_T33 l0 x10_1).f0) ((rd_T33 l0 x10_1).f1) ((rd_T33 l0 x10_1).f2) ((rd_T33 l0 x10_1).f3) ((rd_T33 l0 x10_1).f4) ((rd_T33 l0 x10_1).f5))) = some r := H
           have A15 := Aside0.mk A150
           clear A150
           by_cases c16 : (t114 == t120 && (t115 == t121 && (t116 == t122 && (t117 == t123 && (t118.toList == t124.toList && (t119 == t125)))))) = true
           ·rw [if_pos c16] at H
            have c16b0 : (t114 == t120 && (t115 == t121 && (t116 == t122 && (t117 == t123 && (t118.toList == t124.toList && (t119 == t125)))))) = true := c16
            (try (have c16b1 : decide (t114 = t120 && (t115 == t121 && (t116 == t122 && (t117 == t123 && (t118.toList == t124.toList && (t119 == t125)))))) = true := by simpa using c16))
            (try (have c16b2 : (t114 == t120 && (t115 == t121 && (t116 == t122 && (t117 == t123 && (t118.toList == t124.toList && (t119 == t125)))))) = true := by simpa using c16))
            clear c16
            obtain ⟨bq17, hbq17⟩ : ∃ b_ : Bool, b_ = ((rd_T33 l0 x10_1).f3) := ⟨_, rfl⟩
            replace H : (if (bq17 = true) then (span_Normal.j1 k1 x3_1 ji10 false l0 (l0.length : Int) x10_1 ((rd_T33 l0 x10_1).f0) ((rd_T33 l0 x10_1).f1) ((rd_T33 l0 x10_1).f2) bq17 ((rd_T33 l0 x10_1).f4) ((rd_T33 l0 x10_1).f5)) else (span_Normal.j1 k1 x3_1 ji10 (((rd_T33 l0 x10_1).f4).toList == ([] : List UInt8)) l0 (l0.length : Int) x10_1 ((rd_T33 l0 x10_1).f0) ((rd_T33 l0 x10_1).f1) ((rd_T33 l0 x10_1).f2) bq17 ((rd_T33 l0 x10_1).f4) ((rd_T33 l0 x10_1).f5))) = some r := by rw [← hbq17] at H; exact H
            have Nbq17 := Aside0.mk hbq17
            clear hbq17
            by_cases c18 : (bq17 = true)
            ·subst c18
             have H1 : (span_Normal.j1 k1 x3_1 ji10 false l0 (l0.length : Int) x10_1 ((rd_T33 l0 x10_1).f0) ((rd_T33 l0 x10_1).f1) ((rd_T33 l0 x10_1).f2) true ((rd_T33 l0 x10_1).f4) ((rd_T33 l0 x10_1).f5)) = some r := by rw [if_pos rfl] at H; exact H
             clear H
             have H := H1
             clear H1
             have H' := Aside0.mk H
             clear H
             try go_wp2
             (try rw [show ((((((w6.setCell ⟨gb111, 0, none⟩ (.int .i64 ((rd_T33 l0 x10_1).f0))).setCell ⟨gb111, 1, none⟩ (.int .i64 ((rd_T33 l0 x10_1).f1))).setCell ⟨gb111, 2, none⟩ (.int .i64 ((rd_T33 l0 x10_1).f2))).setCell ⟨gb111, 3, none⟩ (.bool ((rd_T33 l0 x10_1).f3))).setCell ⟨gb111, 4, none⟩ (.string ((rd_T33 l0 x10_1).f4))).setCell ⟨gb111, 5, none⟩ (.int .u64 ((rd_T33 l0 x10_1).f5))) = ((((((w6.setCell ⟨gb111, 0, none⟩ (.int .i64 ((rd_T33 l0 x10_1).f0))).setCell ⟨gb111, 1, none⟩ (.int .i64 ((rd_T33 l0 x10_1).f1))).setCell ⟨gb111, 2, none⟩ (.int .i64 ((rd_T33 l0 x10_1).f2))).setCell ⟨gb111, 3, none⟩ (.bool (true))).setCell ⟨gb111, 4, none⟩ (.string ((rd_T33 l0 x10_1).f4))).setCell ⟨gb111, 5, none⟩ (.int .u64 ((rd_T33 l0 x10_1).f5))) from by rw [← Nbq17.out]])
             have n0_ : Aside0 (Kd.R k33 33 ((((((w6.setCell ⟨gb111, 0, none⟩ (.int .i64 ((rd_T33 l0 x10_1).f0))).setCell ⟨gb111, 1, none⟩ (.int .i64 ((rd_T33 l0 x10_1).f1))).setCell ⟨gb111, 2, none⟩ (.int .i64 ((rd_T33 l0 x10_1).f2))).setCell ⟨gb111, 3, none⟩ (.bool (true))).setCell ⟨gb111, 4, none⟩ (.string ((rd_T33 l0 x10_1).f4))).setCell ⟨gb111, 5, none⟩ (.int .u64 ((rd_T33 l0 x10_1).f5))) w.heap.size (fun k_ => k_ ≠ gb111) (.slice Ao8 x3_1.length co8) x3_1) := ⟨by (with_reducible repeat (first | apply Kd.R_alloc | apply Kd.R_drewN | apply Kd.R_drew)); exact Kd.R_mono (Kd.R_far (p := ⟨gb111, 5, none⟩) (Kd.R_far (p := ⟨gb111, 4, none⟩) (Kd.R_far (p := ⟨gb111, 3, none⟩) (Kd.R_far (p := ⟨gb111, 2, none⟩) (Kd.R_far (p := ⟨gb111, 1, none⟩) (Kd.R_far (p := ⟨gb111, 0, none⟩) (Kd.R_mono HO_3.out (fun k_ hk => (⟨hk, hk.2⟩ : _ ∧ k_ ≠ gb111))) (fun _ hk => hk.2) (.int .i64 ((rd_T33 l0 x10_1).f0))) (fun _ hk => hk.2) (.int .i64 ((rd_T33 l0 x10_1).f1))) (fun _ hk => hk.2) (.int .i64 ((rd_T33 l0 x10_1).f2))) (fun _ hk => hk.2) (.bool (true))) (fun _ hk => hk.2) (.string ((rd_T33 l0 x10_1).f4))) (fun _ hk => hk.2) (.int .u64 ((rd_T33 l0 x10_1).f5))) (fun _ hk => hk.1.2)⟩
             have n1_ : Aside0 (((((((w6.setCell ⟨gb111, 0, none⟩ (.int .i64 ((rd_T33 l0 x10_1).f0))).setCell ⟨gb111, 1, none⟩ (.int .i64 ((rd_T33 l0 x10_1).f1))).setCell ⟨gb111, 2, none⟩ (.int .i64 ((rd_T33 l0 x10_1).f2))).setCell ⟨gb111, 3, none⟩ (.bool (true))).setCell ⟨gb111, 4, none⟩ (.string ((rd_T33 l0 x10_1).f4))).setCell ⟨gb111, 5, none⟩ (.int .u64 ((rd_T33 l0 x10_1).f5))).heap[gb111]? = some (.cells #[.int .i64 ((rd_T33 l0 x10_1).f0), .int .i64 ((rd_T33 l0 x10_1).f1), .int .i64 ((rd_T33 l0 x10_1).f2), .bool true, .string ((rd_T33 l0 x10_1).f4), .int .u64 ((rd_T33 l0 x10_1).f5)] 33 (0, 0))) := ⟨by (with_reducible repeat (first | refine blk_drewN ?_ _ | refine blk_drew ?_ | refine blk_alloc ?_ _)); refine blk_put (cs := #[.int .i64 ((rd_T33 l0 x10_1).f0), .int .i64 ((rd_T33 l0 x10_1).f1), .int .i64 ((rd_T33 l0 x10_1).f2), .bool (true), .string ((rd_T33 l0 x10_1).f4), .int .u64 0]) ?_ 5 _ rfl; (with_reducible repeat (first | refine blk_drewN ?_ _ | refine blk_drew ?_ | refine blk_alloc ?_ _)); refine blk_put (cs := #[.int .i64 ((rd_T33 l0 x10_1).f0), .int .i64 ((rd_T33 l0 x10_1).f1), .int .i64 ((rd_T33 l0 x10_1).f2), .bool (true), .string (⟨#[]⟩ : ByteArray), .int .u64 0]) ?_ 4 _ rfl; (with_reducible repeat (first | refine blk_drewN ?_ _ | refine blk_drew ?_ | refine blk_alloc ?_ _)); refine blk_put (cs := #[.int .i64 ((rd_T33 l0 x10_1).f0), .int .i64 ((rd_T33 l0 x10_1).f1), .int .i64 ((rd_T33 l0 x10_1).f2), .bool false, .string (⟨#[]⟩ : ByteArray), .int .u64 0]) ?_ 3 _ rfl; (with_reducible repeat (first | refine blk_drewN ?_ _ | refine blk_drew ?_ | refine blk_alloc ?_ _)); refine blk_put (cs := #[.int .i64 ((rd_T33 l0 x10_1).f0), .int .i64 ((rd_T33 l0 x10_1).f1), .int .i64 0, .bool false, .string (⟨#[]⟩ : ByteArray), .int .u64 0]) ?_ 2 _ rfl; (with_reducible repeat (first | refine blk_drewN ?_ _ | refine blk_drew ?_ | refine blk_alloc ?_ _)); refine blk_put (cs := #[.int .i64 ((rd_T33 l0 x10_1).f0), .int .i64 0, .int .i64 0, .bool false, .string (⟨#[]⟩ : ByteArray), .int .u64 0]) ?_ 1 _ rfl; (with_reducible repeat (first | refine blk_drewN ?_ _ | refine blk_drew ?_ | refine blk_alloc ?_ _)); refine blk_put (cs := #[.int .i64 0, .int .i64 0, .int .i64 0, .bool false, .string (⟨#[]⟩ : ByteArray), .int .u64 0]) ?_ 0 _ rfl; (with_reducible repeat (first | refine blk_drewN ?_ _ | refine blk_drew ?_ | refine blk_alloc ?_ _)); exact BK111.out⟩
             have n2_ : Aside0 (Below w.heap.size w ((((((w6.setCell ⟨gb111, 0, none⟩ (.int .i64 ((rd_T33 l0 x10_1).f0))).setCell ⟨gb111, 1, none⟩ (.int .i64 ((rd_T33 l0 x10_1).f1))).setCell ⟨gb111, 2, none⟩ (.int .i64 ((rd_T33 l0 x10_1).f2))).setCell ⟨gb111, 3, none⟩ (.bool (true))).setCell ⟨gb111, 4, none⟩ (.string ((rd_T33 l0 x10_1).f4))).setCell ⟨gb111, 5, none⟩ (.int .u64 ((rd_T33 l0 x10_1).f5)))) := ⟨by repeat (first | (with_reducible first | exact HB.out | apply below_alloc | apply pw_below_drewN | apply below_drew1 | refine below_set ?_ GE111.out) | exact HB.out)⟩
             (try clear HO_3)
             (try clear BK111)
             (try clear HB)
             generalize ((((((w6.setCell ⟨gb111, 0, none⟩ (.int .i64 ((rd_T33 l0 x10_1).f0))).setCell ⟨gb111, 1, none⟩ (.int .i64 ((rd_T33 l0 x10_1).f1))).setCell ⟨gb111, 2, none⟩ (.int .i64 ((rd_T33 l0 x10_1).f2))).setCell ⟨gb111, 3, none⟩ (.bool (true))).setCell ⟨gb111, 4, none⟩ (.string ((rd_T33 l0 x10_1).f4))).setCell ⟨gb111, 5, none⟩ (.int .u64 ((rd_T33 l0 x10_1).f5))) = w19 at n0_ n1_ n2_ ⊢
             have HO_3 := n0_
             have BK111 := n1_
             have HB := n2_
             clear n0_ n1_ n2_
             have n0_ := Aside0.mk (Kd.R_drew HO_3.out)
             have n1_ := Aside0.mk (blk_drew BK111.out)
             have n2_ := Aside0.mk (below_drew1 HB.out)
             clear HO_3
             clear BK111
             clear HB
             have HO_3 := n0_
             have BK111 := n1_
             have HB := n2_
             clear n0_ n1_ n2_
             have p112 : 0 ≤ ((ji10) : Int) := of_decide_eq_true (by first | (with_reducible assumption) | assumption)
             have q112 : (ji10) < (x3_1.length : Int) := of_decide_eq_true (by first | (with_reducible assumption) | assumption)
             obtain ⟨ad112, e112, hx112_0, hx112_1, hx112_2, hx112_3, hx112_4, hx112_5⟩ := at_T33 (Kd.R_reads' HO_3.out).2.2 (ji10) p112 q112
             (try rw [← Nbq17.out] at hx112_3)
             cases e112
             replace p112 := eq_true p112
             replace q112 := eq_true q112
             have p113 : 0 ≤ ((ji10) : Int) := of_decide_eq_true (by first | (with_reducible assumption) | assumption)
             have q113 : (ji10) < (x3_1.length : Int) := of_decide_eq_true (by first | (with_reducible assumption) | assumption)
             obtain ⟨ad113, e113, hx113_0, hx113_1, hx113_2, hx113_3, hx113_4, hx113_5⟩ := at_T33 (Kd.R_reads' HO_3.out).2.2 (ji10) p113 q113
             (try rw [← Nbq17.out] at hx113_3)
             obtain rfl : ad112 = ad113 := (by injection e113)
             replace p113 := eq_true p113
             replace q113 := eq_true q113
             refine start_ (n := 33) (S := fun w' => w'.cell? ⟨gb111, 0, none⟩ = some (.int .i64 ((rd_T33 l0 x10_1).f0)) ∧ w'.cell? ⟨gb111, 1, none⟩ = some (.int .i64 ((rd_T33 l0 x10_1).f1)) ∧ w'.cell? ⟨gb111, 2, none⟩ = some (.int .i64 ((rd_T33 l0 x10_1).f2)) ∧ w'.cell? ⟨gb111, 3, none⟩ = some (.bool true) ∧ w'.cell? ⟨gb111, 4, none⟩ = some (.string ((rd_T33 l0 x10_1).f4)) ∧ w'.cell? ⟨gb111, 5, none⟩ = some (.int .u64 ((rd_T33 l0 x10_1).f5)) ∧ w'.cell? (ad112.add (((ji10)).toNat * 6)) = some (.int .i64 ((rd_T33 x3_1 (ji10)).f0)) ∧ w'.cell? ⟨(ad112.add (((ji10)).toNat * 6)).block, (ad112.add (((ji10)).toNat * 6)).off + 1, none⟩ = some (.int .i64 ((rd_T33 x3_1 (ji10)).f1)) ∧ w'.cell? ⟨(ad112.add (((ji10)).toNat * 6)).block, (ad112.add (((ji10)).toNat * 6)).off + 2, none⟩ = some (.int .i64 ((rd_T33 x3_1 (ji10)).f2)) ∧ w'.cell? ⟨(ad112.add (((ji10)).toNat * 6)).block, (ad112.add (((ji10)).toNat * 6)).off + 3, none⟩ = some (.bool ((rd_T33 x3_1 (ji10)).f3)) ∧ w'.cell? ⟨(ad112.add (((ji10)).toNat * 6)).block, (ad112.add (((ji10)).toNat * 6)).off + 4, none⟩ = some (.string ((rd_T33 x3_1 (ji10)).f4)) ∧ w'.cell? ⟨(ad112.add (((ji10)).toNat * 6)).block, (ad112.add (((ji10)).toNat * 6)).off + 5, none⟩ = some (.int .u64 ((rd_T33 x3_1 (ji10)).f5)) ∧ w'.cell? (ad112.add (((ji10)).toNat * 6)) = some (.int .i64 ((rd_T33 x3_1 (ji10)).f0)) ∧ w'.cell? ⟨(ad112.add (((ji10)).toNat * 6)).block, (ad112.add (((ji10)).toNat * 6)).off + 1, none⟩ = some (.int .i64 ((rd_T33 x3_1 (ji10)).f1)) ∧ w'.cell? ⟨(ad112.add (((ji10)).toNat * 6)).block, (ad112.add (((ji10)).toNat * 6)).off + 2, none⟩ = some (.int .i64 ((rd_T33 x3_1 (ji10)).f2)) ∧ w'.cell? ⟨(ad112.add (((ji10)).toNat * 6)).block, (ad112.add (((ji10)).toNat * 6)).off + 3, none⟩ = some (.bool ((rd_T33 x3_1 (ji10)).f3)) ∧ w'.cell? ⟨(ad112.add (((ji10)).toNat * 6)).block, (ad112.add (((ji10)).toNat * 6)).off + 4, none⟩ = some (.string ((rd_T33 x3_1 (ji10)).f4)) ∧ w'.cell? ⟨(ad112.add (((ji10)).toNat * 6)).block, (ad112.add (((ji10)).toNat * 6)).off + 5, none⟩ = some (.int .u64 ((rd_T33 x3_1 (ji10)).f5))) (ds := []) #[false, false, false, false, false, false, false, false, false, false, false, false, false, false, false, false, false, false, false, false, false, false, false, false, false, false, false, false, false, false, false, false, false] (by kernel_rfl) rfl rfl ⟨(blk_cell BK111.out 0).trans rfl, (blk_cell BK111.out 1).trans rfl, (blk_cell BK111.out 2).trans rfl, (blk_cell BK111.out 3).trans (by first | with_reducible rfl | exact congrArg (fun b_ => some (Value.bool b_)) (by assumption) | rfl), (blk_cell BK111.out 4).trans rfl, (blk_cell BK111.out 5).trans rfl, hx112_0, hx112_1, hx112_2, hx112_3, hx112_4, hx112_5, hx113_0, hx113_1, hx113_2, hx113_3, hx113_4, hx113_5⟩ (fun hHeld => ?_); refine with_tabW span_Normal.tab6 span_Normal.bits6 (fun HT_ HW_ => ?_)
             generalize w19.drew = w20 at HO_3 BK111 HB hx112_0 hx112_1 hx112_2 hx112_3 hx112_4 hx112_5 hx113_0 hx113_1 hx113_2 hx113_3 hx113_4 hx113_5 hHeld ⊢
             refine pure_ (i := 0) (N := some 17) (v := ?_) (a' := ?_) #[true, false, false, false, false, false, false, false, false, false, false, false, false, false, false, false, false, false, false, false, false, false, false, false, false, false, false, false, false, false, false, false, false] rfl rfl (any_of HT_.out (by kernel_rfl)) (fun _ _ _ h => h) (Or.inl ⟨by rfl, ?_⟩) ?_ ?_
             rotate_left
             ·intro w'
              go_simp
              with_reducible rfl
             rotate_left
             ·simp only [Act.put, List.setIfInBounds_toArray, List.set_cons_zero, List.set_cons_succ, i64_w, i32_w]
              rfl
             refine pure_ (i := 1) (N := some 18) (v := ?_) (a' := ?_) #[true, true, false, false, false, false, false, false, false, false, false, false, false, false, false, false, false, false, false, false, false, false, false, false, false, false, false, false, false, false, false, false, false] rfl rfl (any_of HT_.out (by kernel_rfl)) (fun _ _ _ h => h) (Or.inl ⟨by rfl, ?_⟩) ?_ ?_
             rotate_left
             ·intro w'
              go_simp
              with_reducible rfl
             rotate_left
             ·simp only [Act.put, List.setIfInBounds_toArray, List.set_cons_zero, List.set_cons_succ, i64_w, i32_w]
              rfl
             refine pure_ (i := 2) (N := some 19) (v := ?_) (a' := ?_) #[true, true, true, false, false, false, false, false, false, false, false, false, false, false, false, false, false, false, false, false, false, false, false, false, false, false, false, false, false, false, false, false, false] rfl rfl (any_of HT_.out (by kernel_rfl)) (fun _ _ _ h => h) (Or.inl ⟨by rfl, ?_⟩) ?_ ?_
             rotate_left
             ·intro w'
              go_simp
              with_reducible rfl
             rotate_left
             ·simp only [Act.put, List.setIfInBounds_toArray, List.set_cons_zero, List.set_cons_succ, i64_w, i32_w]
              rfl
             refine pure_ (i := 3) (N := some 20) (v := ?_) (a' := ?_) #[true, true, true, true, false, false, false, false, false, false, false, false, false, false, false, false, false, false, false, false, false, false, false, false, false, false, false, false, false, false, false, false, false] rfl rfl (any_of HT_.out (by kernel_rfl)) (fun _ _ _ h => h) (Or.inl ⟨by rfl, ?_⟩) ?_ ?_
             rotate_left
             ·intro w'
              go_simp
              with_reducible rfl
             rotate_left
             ·simp only [Act.put, List.setIfInBounds_toArray, List.set_cons_zero, List.set_cons_succ, i64_w, i32_w]
              rfl
             refine pure_ (i := 4) (N := some 21) (v := ?_) (a' := ?_) #[true, true, true, true, true, false, false, false, false, false, false, false, false, false, false, false, false, false, false, false, false, false, false, false, false, false, false, false, false, false, false, false, false] rfl rfl (any_of HT_.out (by kernel_rfl)) (fun _ _ _ h => h) (Or.inl ⟨by rfl, ?_⟩) ?_ ?_
             rotate_left
             ·intro w'
              go_simp
              with_reducible rfl
             rotate_left
             ·simp only [Act.put, List.setIfInBounds_toArray, List.set_cons_zero, List.set_cons_succ, i64_w, i32_w]
              rfl
             refine pure_ (i := 5) (N := some 22) (v := ?_) (a' := ?_) #[true, true, true, true, true, true, false, false, false, false, false, false, false, false, false, false, false, false, false, false, false, false, false, false, false, false, false, false, false, false, false, false, false] rfl rfl (any_of HT_.out (by kernel_rfl)) (fun _ _ _ h => h) (Or.inl ⟨by rfl, ?_⟩) ?_ ?_
             rotate_left
             ·intro w'
              go_simp
              with_reducible rfl
             rotate_left
             ·simp only [Act.put, List.setIfInBounds_toArray, List.set_cons_zero, List.set_cons_succ, i64_w, i32_w]
              rfl
             refine pure_ (i := 6) (N := some 23) (v := ?_) (a' := ?_) #[true, true, true, true, true, true, true, false, false, false, false, false, false, false, false, false, false, false, false, false, false, false, false, false, false, false, false, false, false, false, false, false, false] rfl rfl (any_of HT_.out (by kernel_rfl)) (fun _ _ _ h => h) (Or.inl ⟨by rfl, ?_⟩) ?_ ?_
             rotate_left
             ·intro w'
              go_simp
              with_reducible rfl
             rotate_left
             ·simp only [Act.put, List.setIfInBounds_toArray, List.set_cons_zero, List.set_cons_succ, i64_w, i32_w]
              rfl
             refine pure_ (i := 8) (N := some 25) (v := ?_) (a' := ?_) #[true, true, true, true, true, true, true, false, true, false, false, false, false, false, false, false, false, false, false, false, false, false, false, false, false, false, false, false, false, false, false, false, false] rfl rfl (any_of HT_.out (by kernel_rfl)) (fun _ _ _ h => h) (Or.inl ⟨by rfl, ?_⟩) ?_ ?_
             rotate_left
             ·intro w'
              go_simp
              with_reducible rfl
             rotate_left
             ·simp only [Act.put, List.setIfInBounds_toArray, List.set_cons_zero, List.set_cons_succ, i64_w, i32_w]
              rfl
             refine take_ (i := 7) (N := some 24) (v := ?_) (a' := ?_) #[true, true, true, true, true, true, true, true, true, false, false, false, false, false, false, false, false, false, false, false, false, false, false, false, false, false, false, false, false, false, false, false, false] rfl rfl (take_ofW HT_.out HW_.out (by kernel_rfl)) (fun _ _ _ h => h) (Or.inl ⟨by rfl, ?_⟩) hHeld ?_ ?_
             rotate_left
             ·rintro w' ⟨s0, s1, s2, s3, s4, s5, s6, s7, s8, s9, s10, s11, s12, s13, s14, s15, s16, s17⟩
              go_simp
              with_reducible rfl
             rotate_left
             ·simp only [Act.put, List.setIfInBounds_toArray, List.set_cons_zero, List.set_cons_succ, i64_w, i32_w]
              rfl
             refine take_ (i := 9) (N := some 26) (v := ?_) (a' := ?_) #[true, true, true, true, true, true, true, true, true, true, false, false, false, false, false, false, false, false, false, false, false, false, false, false, false, false, false, false, false, false, false, false, false] rfl rfl (take_ofW HT_.out HW_.out (by kernel_rfl)) (fun _ _ _ h => h) (Or.inl ⟨by rfl, ?_⟩) hHeld ?_ ?_
             rotate_left
             ·rintro w' ⟨s0, s1, s2, s3, s4, s5, s6, s7, s8, s9, s10, s11, s12, s13, s14, s15, s16, s17⟩
              go_simp
              with_reducible rfl
             rotate_left
             ·simp only [Act.put, List.setIfInBounds_toArray, List.set_cons_zero, List.set_cons_succ, i64_w, i32_w]
              rfl
             refine pure_ (i := 10) (N := some 27) (v := ?_) (a' := ?_) #[true, true, true, true, true, true, true, true, true, true, true, false, false, false, false, false, false, false, false, false, false, false, false, false, false, false, false, false, false, false, false, false, false] rfl rfl (any_of HT_.out (by kernel_rfl)) (fun _ _ _ h => h) (Or.inl ⟨by rfl, ?_⟩) ?_ ?_
             rotate_left
             ·intro w'
              go_simp
              with_reducible rfl
             rotate_left
             ·simp only [Act.put, List.setIfInBounds_toArray, List.set_cons_zero, List.set_cons_succ, i64_w, i32_w]
              rfl
             refine pure_ (i := 11) (N := some 28) (v := ?_) (a' := ?_) #[true, true, true, true, true, true, true, true, true, true, true, true, false, false, false, false, false, false, false, false, false, false, false, false, false, false, false, false, false, false, false, false, false] rfl rfl (any_of HT_.out (by kernel_rfl)) (fun _ _ _ h => h) (Or.inl ⟨by rfl, ?_⟩) ?_ ?_
             rotate_left
             ·intro w'
              go_simp
              with_reducible rfl
             rotate_left
             ·simp only [Act.put, List.setIfInBounds_toArray, List.set_cons_zero, List.set_cons_succ, i64_w, i32_w]
              rfl
             refine pure_ (i := 12) (N := some 29) (v := ?_) (a' := ?_) #[true, true, true, true, true, true, true, true, true, true, true, true, true, false, false, false, false, false, false, false, false, false, false, false, false, false, false, false, false, false, false, false, false] rfl rfl (any_of HT_.out (by kernel_rfl)) (fun _ _ _ h => h) (Or.inl ⟨by rfl, ?_⟩) ?_ ?_
             rotate_left
             ·intro w'
              go_simp
              with_reducible rfl
             rotate_left
             ·simp only [Act.put, List.setIfInBounds_toArray, List.set_cons_zero, List.set_cons_succ, i64_w, i32_w]
              rfl
             refine pure_ (i := 13) (N := some 30) (v := ?_) (a' := ?_) #[true, true, true, true, true, true, true, true, true, true, true, true, true, true, false, false, false, false, false, false, false, false, false, false, false, false, false, false, false, false, false, false, false] rfl rfl (any_of HT_.out (by kernel_rfl)) (fun _ _ _ h => h) (Or.inl ⟨by rfl, ?_⟩) ?_ ?_
             rotate_left
             ·intro w'
              go_simp
              with_reducible rfl
             rotate_left
             ·simp only [Act.put, List.setIfInBounds_toArray, List.set_cons_zero, List.set_cons_succ, i64_w, i32_w]
              rfl
             refine pure_ (i := 14) (N := some 31) (v := ?_) (a' := ?_) #[true, true, true, true, true, true, true, true, true, true, true, true, true, true, true, false, false, false, false, false, false, false, false, false, false, false, false, false, false, false, false, false, false] rfl rfl (any_of HT_.out (by kernel_rfl)) (fun _ _ _ h => h) (Or.inl ⟨by rfl, ?_⟩) ?_ ?_
             rotate_left
             ·intro w'
              go_simp
              with_reducible rfl
             rotate_left
             ·simp only [Act.put, List.setIfInBounds_toArray, List.set_cons_zero, List.set_cons_succ, i64_w, i32_w]
              rfl
             refine pure_ (i := 15) (N := some 32) (v := ?_) (a' := ?_) #[true, true, true, true, true, true, true, true, true, true, true, true, true, true, true, true, false, false, false, false, false, false, false, false, false, false, false, false, false, false, false, false, false] rfl rfl (any_of HT_.out (by kernel_rfl)) (fun _ _ _ h => h) (Or.inl ⟨by rfl, ?_⟩) ?_ ?_
             rotate_left
             ·intro w'
              go_simp
              with_reducible rfl
             rotate_left
             ·simp only [Act.put, List.setIfInBounds_toArray, List.set_cons_zero, List.set_cons_succ, i64_w, i32_w]
              rfl
             refine take_ (i := 16) (N := some 33) (v := ?_) (a' := ?_) #[true, true, true, true, true, true, true, true, true, true, true, true, true, true, true, true, true, false, false, false, false, false, false, false, false, false, false, false, false, false, false, false, false] rfl rfl (take_ofW HT_.out HW_.out (by kernel_rfl)) (fun _ _ _ h => h) (Or.inl ⟨by rfl, ?_⟩) hHeld ?_ ?_
             rotate_left
             ·rintro w' ⟨s0, s1, s2, s3, s4, s5, s6, s7, s8, s9, s10, s11, s12, s13, s14, s15, s16, s17⟩
              go_simp
              with_reducible rfl
             rotate_left
             ·simp only [Act.put, List.setIfInBounds_toArray, List.set_cons_zero, List.set_cons_succ, i64_w, i32_w]
              rfl
             refine take_ (i := 18) (N := some 35) (v := ?_) (a' := ?_) #[true, true, true, true, true, true, true, true, true, true, true, true, true, true, true, true, true, false, true, false, false, false, false, false, false, false, false, false, false, false, false, false, false] rfl rfl (take_ofW HT_.out HW_.out (by kernel_rfl)) (fun _ _ _ h => h) (Or.inl ⟨by rfl, ?_⟩) hHeld ?_ ?_
             rotate_left
             ·rintro w' ⟨s0, s1, s2, s3, s4, s5, s6, s7, s8, s9, s10, s11, s12, s13, s14, s15, s16, s17⟩
              go_simp
              with_reducible rfl
             rotate_left
             ·simp only [Act.put, List.setIfInBounds_toArray, List.set_cons_zero, List.set_cons_succ, i64_w, i32_w]
              rfl
             refine one_ (i := 17) (N := some 34) #[true, true, true, true, true, true, true, true, true, true, true, true, true, true, true, true, true, true, true, false, false, false, false, false, false, false, false, false, false, false, false, false, false] rfl rfl (one_of HT_.out (by kernel_rfl)) (by decide) (fun K hK => ?_)
             refine goes_ Try.func23 (by kernel_rfl) rfl #[.agg #[.int .i64 ((rd_T33 x3_1 (ji10)).f0), .int .i64 ((rd_T33 x3_1 (ji10)).f1), .int .i64 ((rd_T33 x3_1 (ji10)).f2), .bool ((rd_T33 x3_1 (ji10)).f3), .string ((rd_T33 x3_1 (ji10)).f4), .int .u64 ((rd_T33 x3_1 (ji10)).f5)]] (by rfl) rfl rfl (by (try simp only [List.map_toArray, List.map_cons, List.map_nil]); first | done | (simp only [hji10]; rfl) | rfl | (simp only [List.length_drop, List.length_take]; rfl)) ?_
             with_reducible refine (span_bare.calls ((rd_T33 x3_1 (ji10)).f0) ((rd_T33 x3_1 (ji10)).f1) ((rd_T33 x3_1 (ji10)).f2) ((rd_T33 x3_1 (ji10)).f3) ((rd_T33 x3_1 (ji10)).f4) ((rd_T33 x3_1 (ji10)).f5) t114 t115 t116 t117 t118 t119 _ (by first | exact A14.out | (rw [Nbq17.out]; exact A14.out))).mono ?_
             rintro e w21 ⟨rfl, hb⟩
             have HS6_ := (hb.cell (World.block_lt_of_cell? _ _ (hHeld.2.2.2.2.2.2.1))).trans (hHeld.2.2.2.2.2.2.1)
             have HS7_ := (hb.cell (World.block_lt_of_cell? _ _ (hHeld.2.2.2.2.2.2.2.1))).trans (hHeld.2.2.2.2.2.2.2.1)
             have HS8_ := (hb.cell (World.block_lt_of_cell? _ _ (hHeld.2.2.2.2.2.2.2.2.1))).trans (hHeld.2.2.2.2.2.2.2.2.1)
             have HS9_ := (hb.cell (World.block_lt_of_cell? _ _ (hHeld.2.2.2.2.2.2.2.2.2.1))).trans (hHeld.2.2.2.2.2.2.2.2.2.1)
             have HS10_ := (hb.cell (World.block_lt_of_cell? _ _ (hHeld.2.2.2.2.2.2.2.2.2.2.1))).trans (hHeld.2.2.2.2.2.2.2.2.2.2.1)
             have HS11_ := (hb.cell (World.block_lt_of_cell? _ _ (hHeld.2.2.2.2.2.2.2.2.2.2.2.1))).trans (hHeld.2.2.2.2.2.2.2.2.2.2.2.1)
             have HS12_ := (hb.cell (World.block_lt_of_cell? _ _ (hHeld.2.2.2.2.2.2.2.2.2.2.2.2.1))).trans (hHeld.2.2.2.2.2.2.2.2.2.2.2.2.1)
             have HS13_ := (hb.cell (World.block_lt_of_cell? _ _ (hHeld.2.2.2.2.2.2.2.2.2.2.2.2.2.1))).trans (hHeld.2.2.2.2.2.2.2.2.2.2.2.2.2.1)
             have HS14_ := (hb.cell (World.block_lt_of_cell? _ _ (hHeld.2.2.2.2.2.2.2.2.2.2.2.2.2.2.1))).trans (hHeld.2.2.2.2.2.2.2.2.2.2.2.2.2.2.1)
             have HS15_ := (hb.cell (World.block_lt_of_cell? _ _ (hHeld.2.2.2.2.2.2.2.2.2.2.2.2.2.2.2.1))).trans (hHeld.2.2.2.2.2.2.2.2.2.2.2.2.2.2.2.1)
             have HS16_ := (hb.cell (World.block_lt_of_cell? _ _ (hHeld.2.2.2.2.2.2.2.2.2.2.2.2.2.2.2.2.1))).trans (hHeld.2.2.2.2.2.2.2.2.2.2.2.2.2.2.2.2.1)
             have HS17_ := (hb.cell (World.block_lt_of_cell? _ _ (hHeld.2.2.2.2.2.2.2.2.2.2.2.2.2.2.2.2.2))).trans (hHeld.2.2.2.2.2.2.2.2.2.2.2.2.2.2.2.2.2)
             refine ⟨_, rfl, ?_⟩
             have n0_ := Aside0.mk (Kd.R_below (by (with_reducible repeat (first | apply Kd.R_alloc | apply Kd.R_drewN | apply Kd.R_drew)); exact HO_3.out) hb)
             have n1_ := Aside0.mk (blk_below (g := gb111) (o := .cells #[.int .i64 ((rd_T33 l0 x10_1).f0), .int .i64 ((rd_T33 l0 x10_1).f1), .int .i64 ((rd_T33 l0 x10_1).f2), .bool true, .string ((rd_T33 l0 x10_1).f4), .int .u64 ((rd_T33 l0 x10_1).f5)] 33 (0, 0)) (by (with_reducible repeat (first | refine blk_drewN ?_ _ | refine blk_drew ?_ | refine blk_alloc ?_ _)); exact BK111.out) hb)
             have n2_ := Aside0.mk (below_step (by repeat (first | (with_reducible first | exact HB.out | apply below_alloc | apply pw_below_drewN | apply below_drew1 | refine below_set ?_ GE111.out) | exact HB.out)) hb)
             clear HO_3
             clear BK111
             clear HB
             have HO_3 := n0_
             have BK111 := n1_
             have HB := n2_
             clear n0_ n1_ n2_
             (try clear hb)
             (try clear hb2)
             (try clear hk)
             (try clear hi)
             refine hK.out _ _ ⟨(blk_cell BK111.out 0).trans rfl, (blk_cell BK111.out 1).trans rfl, (blk_cell BK111.out 2).trans rfl, (blk_cell BK111.out 3).trans rfl, (blk_cell BK111.out 4).trans rfl, (blk_cell BK111.out 5).trans rfl, HS6_, HS7_, HS8_, HS9_, HS10_, HS11_, HS12_, HS13_, HS14_, HS15_, HS16_, HS17_⟩ (fun hHeld => ?_)
             clear hK K
             refine norm_ (a' := ?_) ?_ ?_
             rotate_left
             ·show Act.put _ (some 34) _ = _
              simp only [Act.put, List.setIfInBounds_toArray, List.set_cons_zero, List.set_cons_succ, i64_w, i32_w]
              rfl
             refine one_ (i := 19) (N := some 36) #[true, true, true, true, true, true, true, true, true, true, true, true, true, true, true, true, true, true, true, true, false, false, false, false, false, false, false, false, false, false, false, false, false] rfl rfl (one_of HT_.out (by kernel_rfl)) (by decide) (fun K hK => ?_)
             refine goes_ Try.func23 (by kernel_rfl) rfl #[.agg #[.int .i64 ((rd_T33 l0 x10_1).f0), .int .i64 ((rd_T33 l0 x10_1).f1), .int .i64 ((rd_T33 l0 x10_1).f2), .bool true, .string ((rd_T33 l0 x10_1).f4), .int .u64 ((rd_T33 l0 x10_1).f5)]] (by rfl) rfl rfl (by (try simp only [List.map_toArray, List.map_cons, List.map_nil]); first | done | rfl | (simp only [List.length_drop, List.length_take]; rfl)) ?_
             with_reducible refine (span_bare.calls ((rd_T33 l0 x10_1).f0) ((rd_T33 l0 x10_1).f1) ((rd_T33 l0 x10_1).f2) true ((rd_T33 l0 x10_1).f4) ((rd_T33 l0 x10_1).f5) t120 t121 t122 t123 t124 t125 _ (by first | exact A15.out | (rw [Nbq17.out]; exact A15.out))).mono ?_
             rintro e w22 ⟨rfl, hb⟩
             have HS6_ := (hb.cell (World.block_lt_of_cell? _ _ (hHeld.2.2.2.2.2.2.1))).trans (hHeld.2.2.2.2.2.2.1)
             have HS7_ := (hb.cell (World.block_lt_of_cell? _ _ (hHeld.2.2.2.2.2.2.2.1))).trans (hHeld.2.2.2.2.2.2.2.1)
             have HS8_ := (hb.cell (World.block_lt_of_cell? _ _ (hHeld.2.2.2.2.2.2.2.2.1))).trans (hHeld.2.2.2.2.2.2.2.2.1)
             have HS9_ := (hb.cell (World.block_lt_of_cell? _ _ (hHeld.2.2.2.2.2.2.2.2.2.1))).trans (hHeld.2.2.2.2.2.2.2.2.2.1)
             have HS10_ := (hb.cell (World.block_lt_of_cell? _ _ (hHeld.2.2.2.2.2.2.2.2.2.2.1))).trans (hHeld.2.2.2.2.2.2.2.2.2.2.1)
             have HS11_ := (hb.cell (World.block_lt_of_cell? _ _ (hHeld.2.2.2.2.2.2.2.2.2.2.2.1))).trans (hHeld.2.2.2.2.2.2.2.2.2.2.2.1)
             have HS12_ := (hb.cell (World.block_lt_of_cell? _ _ (hHeld.2.2.2.2.2.2.2.2.2.2.2.2.1))).trans (hHeld.2.2.2.2.2.2.2.2.2.2.2.2.1)
             have HS13_ := (hb.cell (World.block_lt_of_cell? _ _ (hHeld.2.2.2.2.2.2.2.2.2.2.2.2.2.1))).trans (hHeld.2.2.2.2.2.2.2.2.2.2.2.2.2.1)
             have HS14_ := (hb.cell (World.block_lt_of_cell? _ _ (hHeld.2.2.2.2.2.2.2.2.2.2.2.2.2.2.1))).trans (hHeld.2.2.2.2.2.2.2.2.2.2.2.2.2.2.1)
             have HS15_ := (hb.cell (World.block_lt_of_cell? _ _ (hHeld.2.2.2.2.2.2.2.2.2.2.2.2.2.2.2.1))).trans (hHeld.2.2.2.2.2.2.2.2.2.2.2.2.2.2.2.1)
             have HS16_ := (hb.cell (World.block_lt_of_cell? _ _ (hHeld.2.2.2.2.2.2.2.2.2.2.2.2.2.2.2.2.1))).trans (hHeld.2.2.2.2.2.2.2.2.2.2.2.2.2.2.2.2.1)
             have HS17_ := (hb.cell (World.block_lt_of_cell? _ _ (hHeld.2.2.2.2.2.2.2.2.2.2.2.2.2.2.2.2.2))).trans (hHeld.2.2.2.2.2.2.2.2.2.2.2.2.2.2.2.2.2)
             refine ⟨_, rfl, ?_⟩
             have n0_ := Aside0.mk (Kd.R_below (by (with_reducible repeat (first | apply Kd.R_alloc | apply Kd.R_drewN | apply Kd.R_drew)); exact HO_3.out) hb)
             have n1_ := Aside0.mk (blk_below (g := gb111) (o := .cells #[.int .i64 ((rd_T33 l0 x10_1).f0), .int .i64 ((rd_T33 l0 x10_1).f1), .int .i64 ((rd_T33 l0 x10_1).f2), .bool true, .string ((rd_T33 l0 x10_1).f4), .int .u64 ((rd_T33 l0 x10_1).f5)] 33 (0, 0)) (by (with_reducible repeat (first | refine blk_drewN ?_ _ | refine blk_drew ?_ | refine blk_alloc ?_ _)); exact BK111.out) hb)
             have n2_ := Aside0.mk (below_step (by repeat (first | (with_reducible first | exact HB.out | apply below_alloc | apply pw_below_drewN | apply below_drew1 | refine below_set ?_ GE111.out) | exact HB.out)) hb)
             clear HO_3
             clear BK111
             clear HB
             have HO_3 := n0_
             have BK111 := n1_
             have HB := n2_
             clear n0_ n1_ n2_
             (try clear hb)
             (try clear hb2)
             (try clear hk)
             (try clear hi)
             refine hK.out _ _ ⟨(blk_cell BK111.out 0).trans rfl, (blk_cell BK111.out 1).trans rfl, (blk_cell BK111.out 2).trans rfl, (blk_cell BK111.out 3).trans rfl, (blk_cell BK111.out 4).trans rfl, (blk_cell BK111.out 5).trans rfl, HS6_, HS7_, HS8_, HS9_, HS10_, HS11_, HS12_, HS13_, HS14_, HS15_, HS16_, HS17_⟩ (fun hHeld => ?_)
             clear hK K
             refine norm_ (a' := ?_) ?_ ?_
             rotate_left
             ·show Act.put _ (some 36) _ = _
              simp only [Act.put, List.setIfInBounds_toArray, List.set_cons_zero, List.set_cons_succ, i64_w, i32_w]
              rfl
             refine pure_ (i := 20) (N := some 37) (v := ?_) (a' := ?_) #[true, true, true, true, true, true, true, true, true, true, true, true, true, true, true, true, true, true, true, true, true, false, false, false, false, false, false, false, false, false, false, false, false] rfl rfl (any_of HT_.out (by kernel_rfl)) (fun _ _ _ h => h) (Or.inl ⟨by rfl, ?_⟩) ?_ ?_
             rotate_left
             ·intro w'
              go_simp
              with_reducible rfl
             rotate_left
             ·simp only [Act.put, List.setIfInBounds_toArray, List.set_cons_zero, List.set_cons_succ, i64_w, i32_w]
              rfl
             refine pure_ (i := 21) (N := some 38) (v := ?_) (a' := ?_) #[true, true, true, true, true, true, true, true, true, true, true, true, true, true, true, true, true, true, true, true, true, true, false, false, false, false, false, false, false, false, false, false, false] rfl rfl (any_of HT_.out (by kernel_rfl)) (fun _ _ _ h => h) (Or.inl ⟨by rfl, ?_⟩) ?_ ?_
             rotate_left
             ·intro w'
              go_simp
              with_reducible rfl
             rotate_left
             ·simp only [Act.put, List.setIfInBounds_toArray, List.set_cons_zero, List.set_cons_succ, i64_w, i32_w]
              rfl
             refine pure_ (i := 22) (N := some 39) (v := ?_) (a' := ?_) #[true, true, true, true, true, true, true, true, true, true, true, true, true, true, true, true, true, true, true, true, true, true, true, false, false, false, false, false, false, false, false, false, false] rfl rfl (any_of HT_.out (by kernel_rfl)) (fun _ _ _ h => h) (Or.inl ⟨by rfl, ?_⟩) ?_ ?_
             rotate_left
             ·intro w'
              go_simp
              with_reducible rfl
             rotate_left
             ·simp only [Act.put, List.setIfInBounds_toArray, List.set_cons_zero, List.set_cons_succ, i64_w, i32_w]
              rfl
             refine pure_ (i := 23) (N := some 40) (v := ?_) (a' := ?_) #[true, true, true, true, true, true, true, true, true, true, true, true, true, true, true, true, true, true, true, true, true, true, true, true, false, false, false, false, false, false, false, false, false] rfl rfl (any_of HT_.out (by kernel_rfl)) (fun _ _ _ h => h) (Or.inl ⟨by rfl, ?_⟩) ?_ ?_
             rotate_left
             ·intro w'
              go_simp
              with_reducible rfl
             rotate_left
             ·simp only [Act.put, List.setIfInBounds_toArray, List.set_cons_zero, List.set_cons_succ, i64_w, i32_w]
              rfl
             refine take_ (i := 24) (N := some 41) (v := ?_) (a' := ?_) #[true, true, true, true, true, true, true, true, true, true, true, true, true, true, true, true, true, true, true, true, true, true, true, true, true, false, false, false, false, false, false, false, false] rfl rfl (take_ofW HT_.out HW_.out (by kernel_rfl)) (fun _ _ _ h => h) (Or.inl ⟨by rfl, ?_⟩) hHeld ?_ ?_
             rotate_left
             ·rintro w' ⟨s0, s1, s2, s3, s4, s5, s6, s7, s8, s9, s10, s11, s12, s13, s14, s15, s16, s17⟩
              go_simp
              with_reducible rfl
             rotate_left
             ·simp only [Act.put, List.setIfInBounds_toArray, List.set_cons_zero, List.set_cons_succ, i64_w, i32_w]
              rfl
             refine pure_ (i := 25) (N := some 42) (v := ?_) (a' := ?_) #[true, true, true, true, true, true, true, true, true, true, true, true, true, true, true, true, true, true, true, true, true, true, true, true, true, true, false, false, false, false, false, false, false] rfl rfl (any_of HT_.out (by kernel_rfl)) (fun _ _ _ h => h) (Or.inl ⟨by rfl, ?_⟩) ?_ ?_
             rotate_left
             ·intro w'
              go_simp
              with_reducible rfl
             rotate_left
             ·simp only [Act.put, List.setIfInBounds_toArray, List.set_cons_zero, List.set_cons_succ, i64_w, i32_w]
              rfl
             refine pure_ (i := 26) (N := some 43) (v := ?_) (a' := ?_) #[true, true, true, true, true, true, true, true, true, true, true, true, true, true, true, true, true, true, true, true, true, true, true, true, true, true, true, false, false, false, false, false, false] rfl rfl (any_of HT_.out (by kernel_rfl)) (fun _ _ _ h => h) (Or.inl ⟨by rfl, ?_⟩) ?_ ?_
             rotate_left
             ·intro w'
              go_simp
              with_reducible rfl
             rotate_left
             ·simp only [Act.put, List.setIfInBounds_toArray, List.set_cons_zero, List.set_cons_succ, i64_w, i32_w]
              rfl
             refine pure_ (i := 27) (N := some 44) (v := ?_) (a' := ?_) #[true, true, true, true, true, true, true, true, true, true, true, true, true, true, true, true, true, true, true, true, true, true, true, true, true, true, true, true, false, false, false, false, false] rfl rfl (any_of HT_.out (by kernel_rfl)) (fun _ _ _ h => h) (Or.inl ⟨by rfl, ?_⟩) ?_ ?_
             rotate_left
             ·intro w'
              go_simp
              with_reducible rfl
             rotate_left
             ·simp only [Act.put, List.setIfInBounds_toArray, List.set_cons_zero, List.set_cons_succ, i64_w, i32_w]
              rfl
             refine pure_ (i := 28) (N := some 45) (v := undef) (a' := ?_) #[true, true, true, true, true, true, true, true, true, true, true, true, true, true, true, true, true, true, true, true, true, true, true, true, true, true, true, true, true, false, false, false, false] rfl rfl (any_of HT_.out (by kernel_rfl)) (fun _ _ _ h => h) (Or.inr ⟨by rfl, rfl⟩) ?_ ?_
             rotate_left
             ·simp only [Act.put, List.setIfInBounds_toArray, List.set_cons_zero, List.set_cons_succ, i64_w, i32_w]
              rfl
             refine pure_ (i := 29) (N := some 46) (v := undef) (a' := ?_) #[true, true, true, true, true, true, true, true, true, true, true, true, true, true, true, true, true, true, true, true, true, true, true, true, true, true, true, true, true, true, false, false, false] rfl rfl (any_of HT_.out (by kernel_rfl)) (fun _ _ _ h => h) (Or.inr ⟨by rfl, rfl⟩) ?_ ?_
             rotate_left
             ·simp only [Act.put, List.setIfInBounds_toArray, List.set_cons_zero, List.set_cons_succ, i64_w, i32_w]
              rfl
             refine pure_ (i := 30) (N := some 47) (v := undef) (a' := ?_) #[true, true, true, true, true, true, true, true, true, true, true, true, true, true, true, true, true, true, true, true, true, true, true, true, true, true, true, true, true, true, true, false, false] rfl rfl (any_of HT_.out (by kernel_rfl)) (fun _ _ _ h => h) (Or.inr ⟨by rfl, rfl⟩) ?_ ?_
             rotate_left
             ·simp only [Act.put, List.setIfInBounds_toArray, List.set_cons_zero, List.set_cons_succ, i64_w, i32_w]
              rfl
             refine pure_ (i := 31) (N := some 48) (v := ?_) (a' := ?_) #[true, true, true, true, true, true, true, true, true, true, true, true, true, true, true, true, true, true, true, true, true, true, true, true, true, true, true, true, true, true, true, true, false] rfl rfl (any_of HT_.out (by kernel_rfl)) (fun _ _ _ h => h) (Or.inl ⟨by rfl, ?_⟩) ?_ ?_
             rotate_left
             ·intro w'
              go_simp
              with_reducible rfl
             rotate_left
             ·simp only [Act.put, List.setIfInBounds_toArray, List.set_cons_zero, List.set_cons_succ, i64_w, i32_w]
              rfl
             refine pure_ (i := 32) (N := some 7) (v := ?_) (a' := ?_) #[true, true, true, true, true, true, true, true, true, true, true, true, true, true, true, true, true, true, true, true, true, true, true, true, true, true, true, true, true, true, true, true, true] rfl rfl (any_of HT_.out (by kernel_rfl)) (fun _ _ _ h => h) (Or.inl ⟨by rfl, ?_⟩) ?_ ?_
             rotate_left
             ·intro w'
              go_simp
              with_reducible rfl
             rotate_left
             ·simp only [Act.put, List.setIfInBounds_toArray, List.set_cons_zero, List.set_cons_succ, i64_w, i32_w]
              rfl
             refine done_ (done_of HT_.out (by kernel_rfl)) ?_
             try go_wp2
             (try subst hji10)
             go_meet
             case rel => exact ⟨_, (false), (by first | rfl | (simp; done) | (simp [*]; done)), (by first | exact H' | (rw [← Nbq17.out]; exact H')), ⟨by have := HK1.out; first | omega | exact Nat.le_refl _⟩, ⟨by (with_reducible repeat (first | apply Kd.R_alloc | apply Kd.R_drewN | apply Kd.R_drew)); exact HO_3.out⟩, ⟨by (with_reducible repeat (first | refine blk_drewN ?_ _ | refine blk_drew ?_ | refine blk_alloc ?_ _)); first | exact BK111.out | (rw [← Nbq17.out]; exact BK111.out)⟩, ⟨by repeat (first | (with_reducible first | exact HB.out | apply below_alloc | apply pw_below_drewN | apply below_drew1 | refine below_set ?_ GE111.out) | exact HB.out)⟩⟩
            ·replace c18 := Bool.eq_false_iff.mpr c18
             subst c18
             have H1 : (span_Normal.j1 k1 x3_1 ji10 (((rd_T33 l0 x10_1).f4).toList == ([] : List UInt8)) l0 (l0.length : Int) x10_1 ((rd_T33 l0 x10_1).f0) ((rd_T33 l0 x10_1).f1) ((rd_T33 l0 x10_1).f2) false ((rd_T33 l0 x10_1).f4) ((rd_T33 l0 x10_1).f5)) = some r := by rw [if_neg (show ¬ (false = true) by decide)] at H; exact H
             clear H
             have H := H1
             clear H1
             have H' := Aside0.mk H
             clear H
             try go_wp2
             (try rw [show ((((((w6.setCell ⟨gb111, 0, none⟩ (.int .i64 ((rd_T33 l0 x10_1).f0))).setCell ⟨gb111, 1, none⟩ (.int .i64 ((rd_T33 l0 x10_1).f1))).setCell ⟨gb111, 2, none⟩ (.int .i64 ((rd_T33 l0 x10_1).f2))).setCell ⟨gb111, 3, none⟩ (.bool ((rd_T33 l0 x10_1).f3))).setCell ⟨gb111, 4, none⟩ (.string ((rd_T33 l0 x10_1).f4))).setCell ⟨gb111, 5, none⟩ (.int .u64 ((rd_T33 l0 x10_1).f5))) = ((((((w6.setCell ⟨gb111, 0, none⟩ (.int .i64 ((rd_T33 l0 x10_1).f0))).setCell ⟨gb111, 1, none⟩ (.int .i64 ((rd_T33 l0 x10_1).f1))).setCell ⟨gb111, 2, none⟩ (.int .i64 ((rd_T33 l0 x10_1).f2))).setCell ⟨gb111, 3, none⟩ (.bool (false))).setCell ⟨gb111, 4, none⟩ (.string ((rd_T33 l0 x10_1).f4))).setCell ⟨gb111, 5, none⟩ (.int .u64 ((rd_T33 l0 x10_1).f5))) from by rw [← Nbq17.out]])
             have n0_ : Aside0 (Kd.R k33 33 ((((((w6.setCell ⟨gb111, 0, none⟩ (.int .i64 ((rd_T33 l0 x10_1).f0))).setCell ⟨gb111, 1, none⟩ (.int .i64 ((rd_T33 l0 x10_1).f1))).setCell ⟨gb111, 2, none⟩ (.int .i64 ((rd_T33 l0 x10_1).f2))).setCell ⟨gb111, 3, none⟩ (.bool (false))).setCell ⟨gb111, 4, none⟩ (.string ((rd_T33 l0 x10_1).f4))).setCell ⟨gb111, 5, none⟩ (.int .u64 ((rd_T33 l0 x10_1).f5))) w.heap.size (fun k_ => k_ ≠ gb111) (.slice Ao8 x3_1.length co8) x3_1) := ⟨by (with_reducible repeat (first | apply Kd.R_alloc | apply Kd.R_drewN | apply Kd.R_drew)); exact Kd.R_mono (Kd.R_far (p := ⟨gb111, 5, none⟩) (Kd.R_far (p := ⟨gb111, 4, none⟩) (Kd.R_far (p := ⟨gb111, 3, none⟩) (Kd.R_far (p := ⟨gb111, 2, none⟩) (Kd.R_far (p := ⟨gb111, 1, none⟩) (Kd.R_far (p := ⟨gb111, 0, none⟩) (Kd.R_mono HO_3.out (fun k_ hk => (⟨hk, hk.2⟩ : _ ∧ k_ ≠ gb111))) (fun _ hk => hk.2) (.int .i64 ((rd_T33 l0 x10_1).f0))) (fun _ hk => hk.2) (.int .i64 ((rd_T33 l0 x10_1).f1))) (fun _ hk => hk.2) (.int .i64 ((rd_T33 l0 x10_1).f2))) (fun _ hk => hk.2) (.bool (false))) (fun _ hk => hk.2) (.string ((rd_T33 l0 x10_1).f4))) (fun _ hk => hk.2) (.int .u64 ((rd_T33 l0 x10_1).f5))) (fun _ hk => hk.1.2)⟩
             have n1_ : Aside0 (((((((w6.setCell ⟨gb111, 0, none⟩ (.int .i64 ((rd_T33 l0 x10_1).f0))).setCell ⟨gb111, 1, none⟩ (.int .i64 ((rd_T33 l0 x10_1).f1))).setCell ⟨gb111, 2, none⟩ (.int .i64 ((rd_T33 l0 x10_1).f2))).setCell ⟨gb111, 3, none⟩ (.bool (false))).setCell ⟨gb111, 4, none⟩ (.string ((rd_T33 l0 x10_1).f4))).setCell ⟨gb111, 5, none⟩ (.int .u64 ((rd_T33 l0 x10_1).f5))).heap[gb111]? = some (.cells #[.int .i64 ((rd_T33 l0 x10_1).f0), .int .i64 ((rd_T33 l0 x10_1).f1), .int .i64 ((rd_T33 l0 x10_1).f2), .bool false, .string ((rd_T33 l0 x10_1).f4), .int .u64 ((rd_T33 l0 x10_1).f5)] 33 (0, 0))) := ⟨by (with_reducible repeat (first | refine blk_drewN ?_ _ | refine blk_drew ?_ | refine blk_alloc ?_ _)); refine blk_put (cs := #[.int .i64 ((rd_T33 l0 x10_1).f0), .int .i64 ((rd_T33 l0 x10_1).f1), .int .i64 ((rd_T33 l0 x10_1).f2), .bool (false), .string ((rd_T33 l0 x10_1).f4), .int .u64 0]) ?_ 5 _ rfl; (with_reducible repeat (first | refine blk_drewN ?_ _ | refine blk_drew ?_ | refine blk_alloc ?_ _)); refine blk_put (cs := #[.int .i64 ((rd_T33 l0 x10_1).f0), .int .i64 ((rd_T33 l0 x10_1).f1), .int .i64 ((rd_T33 l0 x10_1).f2), .bool (false), .string (⟨#[]⟩ : ByteArray), .int .u64 0]) ?_ 4 _ rfl; (with_reducible repeat (first | refine blk_drewN ?_ _ | refine blk_drew ?_ | refine blk_alloc ?_ _)); refine blk_put (cs := #[.int .i64 ((rd_T33 l0 x10_1).f0), .int .i64 ((rd_T33 l0 x10_1).f1), .int .i64 ((rd_T33 l0 x10_1).f2), .bool false, .string (⟨#[]⟩ : ByteArray), .int .u64 0]) ?_ 3 _ rfl; (with_reducible repeat (first | refine blk_drewN ?_ _ | refine blk_drew ?_ | refine blk_alloc ?_ _)); refine blk_put (cs := #[.int .i64 ((rd_T33 l0 x10_1).f0), .int .i64 ((rd_T33 l0 x10_1).f1), .int .i64 0, .bool false, .string (⟨#[]⟩ : ByteArray), .int .u64 0]) ?_ 2 _ rfl; (with_reducible repeat (first | refine blk_drewN ?_ _ | refine blk_drew ?_ | refine blk_alloc ?_ _)); refine blk_put (cs := #[.int .i64 ((rd_T33 l0 x10_1).f0), .int .i64 0, .int .i64 0, .bool false, .string (⟨#[]⟩ : ByteArray), .int .u64 0]) ?_ 1 _ rfl; (with_reducible repeat (first | refine blk_drewN ?_ _ | refine blk_drew ?_ | refine blk_alloc ?_ _)); refine blk_put (cs := #[.int .i64 0, .int .i64 0, .int .i64 0, .bool false, .string (⟨#[]⟩ : ByteArray), .int .u64 0]) ?_ 0 _ rfl; (with_reducible repeat (first | refine blk_drewN ?_ _ | refine blk_drew ?_ | refine blk_alloc ?_ _)); exact BK111.out⟩
             have n2_ : Aside0 (Below w.heap.size w ((((((w6.setCell ⟨gb111, 0, none⟩ (.int .i64 ((rd_T33 l0 x10_1).f0))).setCell ⟨gb111, 1, none⟩ (.int .i64 ((rd_T33 l0 x10_1).f1))).setCell ⟨gb111, 2, none⟩ (.int .i64 ((rd_T33 l0 x10_1).f2))).setCell ⟨gb111, 3, none⟩ (.bool (false))).setCell ⟨gb111, 4, none⟩ (.string ((rd_T33 l0 x10_1).f4))).setCell ⟨gb111, 5, none⟩ (.int .u64 ((rd_T33 l0 x10_1).f5)))) := ⟨by repeat (first | (with_reducible first | exact HB.out | apply below_alloc | apply pw_below_drewN | apply below_drew1 | refine below_set ?_ GE111.out) | exact HB.out)⟩
             (try clear HO_3)
             (try clear BK111)
             (try clear HB)
             generalize ((((((w6.setCell ⟨gb111, 0, none⟩ (.int .i64 ((rd_T33 l0 x10_1).f0))).setCell ⟨gb111, 1, none⟩ (.int .i64 ((rd_T33 l0 x10_1).f1))).setCell ⟨gb111, 2, none⟩ (.int .i64 ((rd_T33 l0 x10_1).f2))).setCell ⟨gb111, 3, none⟩ (.bool (false))).setCell ⟨gb111, 4, none⟩ (.string ((rd_T33 l0 x10_1).f4))).setCell ⟨gb111, 5, none⟩ (.int .u64 ((rd_T33 l0 x10_1).f5))) = w23 at n0_ n1_ n2_ ⊢
             have HO_3 := n0_
             have BK111 := n1_
             have HB := n2_
             clear n0_ n1_ n2_
             have n0_ := Aside0.mk (Kd.R_drew HO_3.out)
             have n1_ := Aside0.mk (blk_drew BK111.out)
             have n2_ := Aside0.mk (below_drew1 HB.out)
             clear HO_3
             clear BK111
             clear HB
             have HO_3 := n0_
             have BK111 := n1_
             have HB := n2_
             clear n0_ n1_ n2_
             have p112 : 0 ≤ ((ji10) : Int) := of_decide_eq_true (by first | (with_reducible assumption) | assumption)
             have q112 : (ji10) < (x3_1.length : Int) := of_decide_eq_true (by first | (with_reducible assumption) | assumption)
             obtain ⟨ad112, e112, hx112_0, hx112_1, hx112_2, hx112_3, hx112_4, hx112_5⟩ := at_T33 (Kd.R_reads' HO_3.out).2.2 (ji10) p112 q112
             (try rw [← Nbq17.out] at hx112_3)
             cases e112
             replace p112 := eq_true p112
             replace q112 := eq_true q112
             have p113 : 0 ≤ ((ji10) : Int) := of_decide_eq_true (by first | (with_reducible assumption) | assumption)
             have q113 : (ji10) < (x3_1.length : Int) := of_decide_eq_true (by first | (with_reducible assumption) | assumption)
             obtain ⟨ad113, e113, hx113_0, hx113_1, hx113_2, hx113_3, hx113_4, hx113_5⟩ := at_T33 (Kd.R_reads' HO_3.out).2.2 (ji10) p113 q113
             (try rw [← Nbq17.out] at hx113_3)
             obtain rfl : ad112 = ad113 := (by injection e113)
             replace p113 := eq_true p113
             replace q113 := eq_true q113
             refine start_ (n := 33) (S := fun w' => w'.cell? ⟨gb111, 0, none⟩ = some (.int .i64 ((rd_T33 l0 x10_1).f0)) ∧ w'.cell? ⟨gb111, 1, none⟩ = some (.int .i64 ((rd_T33 l0 x10_1).f1)) ∧ w'.cell? ⟨gb111, 2, none⟩ = some (.int .i64 ((rd_T33 l0 x10_1).f2)) ∧ w'.cell? ⟨gb111, 3, none⟩ = some (.bool false) ∧ w'.cell? ⟨gb111, 4, none⟩ = some (.string ((rd_T33 l0 x10_1).f4)) ∧ w'.cell? ⟨gb111, 5, none⟩ = some (.int .u64 ((rd_T33 l0 x10_1).f5)) ∧ w'.cell? (ad112.add (((ji10)).toNat * 6)) = some (.int .i64 ((rd_T33 x3_1 (ji10)).f0)) ∧ w'.cell? ⟨(ad112.add (((ji10)).toNat * 6)).block, (ad112.add (((ji10)).toNat * 6)).off + 1, none⟩ = some (.int .i64 ((rd_T33 x3_1 (ji10)).f1)) ∧ w'.cell? ⟨(ad112.add (((ji10)).toNat * 6)).block, (ad112.add (((ji10)).toNat * 6)).off + 2, none⟩ = some (.int .i64 ((rd_T33 x3_1 (ji10)).f2)) ∧ w'.cell? ⟨(ad112.add (((ji10)).toNat * 6)).block, (ad112.add (((ji10)).toNat * 6)).off + 3, none⟩ = some (.bool ((rd_T33 x3_1 (ji10)).f3)) ∧ w'.cell? ⟨(ad112.add (((ji10)).toNat * 6)).block, (ad112.add (((ji10)).toNat * 6)).off + 4, none⟩ = some (.string ((rd_T33 x3_1 (ji10)).f4)) ∧ w'.cell? ⟨(ad112.add (((ji10)).toNat * 6)).block, (ad112.add (((ji10)).toNat * 6)).off + 5, none⟩ = some (.int .u64 ((rd_T33 x3_1 (ji10)).f5)) ∧ w'.cell? (ad112.add (((ji10)).toNat * 6)) = some (.int .i64 ((rd_T33 x3_1 (ji10)).f0)) ∧ w'.cell? ⟨(ad112.add (((ji10)).toNat * 6)).block, (ad112.add (((ji10)).toNat * 6)).off + 1, none⟩ = some (.int .i64 ((rd_T33 x3_1 (ji10)).f1)) ∧ w'.cell? ⟨(ad112.add (((ji10)).toNat * 6)).block, (ad112.add (((ji10)).toNat * 6)).off + 2, none⟩ = some (.int .i64 ((rd_T33 x3_1 (ji10)).f2)) ∧ w'.cell? ⟨(ad112.add (((ji10)).toNat * 6)).block, (ad112.add (((ji10)).toNat * 6)).off + 3, none⟩ = some (.bool ((rd_T33 x3_1 (ji10)).f3)) ∧ w'.cell? ⟨(ad112.add (((ji10)).toNat * 6)).block, (ad112.add (((ji10)).toNat * 6)).off + 4, none⟩ = some (.string ((rd_T33 x3_1 (ji10)).f4)) ∧ w'.cell? ⟨(ad112.add (((ji10)).toNat * 6)).block, (ad112.add (((ji10)).toNat * 6)).off + 5, none⟩ = some (.int .u64 ((rd_T33 x3_1 (ji10)).f5))) (ds := []) #[false, false, false, false, false, false, false, false, false, false, false, false, false, false, false, false, false, false, false, false, false, false, false, false, false, false, false, false, false, false, false, false, false] (by kernel_rfl) rfl rfl ⟨(blk_cell BK111.out 0).trans rfl, (blk_cell BK111.out 1).trans rfl, (blk_cell BK111.out 2).trans rfl, (blk_cell BK111.out 3).trans (by first | with_reducible rfl | exact congrArg (fun b_ => some (Value.bool b_)) (by assumption) | rfl), (blk_cell BK111.out 4).trans rfl, (blk_cell BK111.out 5).trans rfl, hx112_0, hx112_1, hx112_2, hx112_3, hx112_4, hx112_5, hx113_0, hx113_1, hx113_2, hx113_3, hx113_4, hx113_5⟩ (fun hHeld => ?_); refine with_tabW span_Normal.tab6 span_Normal.bits6 (fun HT_ HW_ => ?_)
             generalize w23.drew = w24 at HO_3 BK111 HB hx112_0 hx112_1 hx112_2 hx112_3 hx112_4 hx112_5 hx113_0 hx113_1 hx113_2 hx113_3 hx113_4 hx113_5 hHeld ⊢
             refine pure_ (i := 0) (N := some 17) (v := ?_) (a' := ?_) #[true, false, false, false, false, false, false, false, false, false, false, false, false, false, false, false, false, false, false, false, false, false, false, false, false, false, false, false, false, false, false, false, false] rfl rfl (any_of HT_.out (by kernel_rfl)) (fun _ _ _ h => h) (Or.inl ⟨by rfl, ?_⟩) ?_ ?_
             rotate_left
             ·intro w'
              go_simp
              with_reducible rfl
             rotate_left
             ·simp only [Act.put, List.setIfInBounds_toArray, List.set_cons_zero, List.set_cons_succ, i64_w, i32_w]
              rfl
             refine pure_ (i := 1) (N := some 18) (v := ?_) (a' := ?_) #[true, true, false, false, false, false, false, false, false, false, false, false, false, false, false, false, false, false, false, false, false, false, false, false, false, false, false, false, false, false, false, false, false] rfl rfl (any_of HT_.out (by kernel_rfl)) (fun _ _ _ h => h) (Or.inl ⟨by rfl, ?_⟩) ?_ ?_
             rotate_left
             ·intro w'
              go_simp
              with_reducible rfl
             rotate_left
             ·simp only [Act.put, List.setIfInBounds_toArray, List.set_cons_zero, List.set_cons_succ, i64_w, i32_w]
              rfl
             refine pure_ (i := 2) (N := some 19) (v := ?_) (a' := ?_) #[true, true, true, false, false, false, false, false, false, false, false, false, false, false, false, false, false, false, false, false, false, false, false, false, false, false, false, false, false, false, false, false, false] rfl rfl (any_of HT_.out (by kernel_rfl)) (fun _ _ _ h => h) (Or.inl ⟨by rfl, ?_⟩) ?_ ?_
             rotate_left
             ·intro w'
              go_simp
              with_reducible rfl
             rotate_left
             ·simp only [Act.put, List.setIfInBounds_toArray, List.set_cons_zero, List.set_cons_succ, i64_w, i32_w]
              rfl
             refine pure_ (i := 3) (N := some 20) (v := ?_) (a' := ?_) #[true, true, true, true, false, false, false, false, false, false, false, false, false, false, false, false, false, false, false, false, false, false, false, false, false, false, false, false, false, false, false, false, false] rfl rfl (any_of HT_.out (by kernel_rfl)) (fun _ _ _ h => h) (Or.inl ⟨by rfl, ?_⟩) ?_ ?_
             rotate_left
             ·intro w'
              go_simp
              with_reducible rfl
             rotate_left
             ·simp only [Act.put, List.setIfInBounds_toArray, List.set_cons_zero, List.set_cons_succ, i64_w, i32_w]
              rfl
             refine pure_ (i := 4) (N := some 21) (v := ?_) (a' := ?_) #[true, true, true, true, true, false, false, false, false, false, false, false, false, false, false, false, false, false, false, false, false, false, false, false, false, false, false, false, false, false, false, false, false] rfl rfl (any_of HT_.out (by kernel_rfl)) (fun _ _ _ h => h) (Or.inl ⟨by rfl, ?_⟩) ?_ ?_
             rotate_left
             ·intro w'
              go_simp
              with_reducible rfl
             rotate_left
             ·simp only [Act.put, List.setIfInBounds_toArray, List.set_cons_zero, List.set_cons_succ, i64_w, i32_w]
              rfl
             refine pure_ (i := 5) (N := some 22) (v := ?_) (a' := ?_) #[true, true, true, true, true, true, false, false, false, false, false, false, false, false, false, false, false, false, false, false, false, false, false, false, false, false, false, false, false, false, false, false, false] rfl rfl (any_of HT_.out (by kernel_rfl)) (fun _ _ _ h => h) (Or.inl ⟨by rfl, ?_⟩) ?_ ?_
             rotate_left
             ·intro w'
              go_simp
              with_reducible rfl
             rotate_left
             ·simp only [Act.put, List.setIfInBounds_toArray, List.set_cons_zero, List.set_cons_succ, i64_w, i32_w]
              rfl
             refine pure_ (i := 6) (N := some 23) (v := ?_) (a' := ?_) #[true, true, true, true, true, true, true, false, false, false, false, false, false, false, false, false, false, false, false, false, false, false, false, false, false, false, false, false, false, false, false, false, false] rfl rfl (any_of HT_.out (by kernel_rfl)) (fun _ _ _ h => h) (Or.inl ⟨by rfl, ?_⟩) ?_ ?_
             rotate_left
             ·intro w'
              go_simp
              with_reducible rfl
             rotate_left
             ·simp only [Act.put, List.setIfInBounds_toArray, List.set_cons_zero, List.set_cons_succ, i64_w, i32_w]
              rfl
             refine pure_ (i := 8) (N := some 25) (v := ?_) (a' := ?_) #[true, true, true, true, true, true, true, false, true, false, false, false, false, false, false, false, false, false, false, false, false, false, false, false, false, false, false, false, false, false, false, false, false] rfl rfl (any_of HT_.out (by kernel_rfl)) (fun _ _ _ h => h) (Or.inl ⟨by rfl, ?_⟩) ?_ ?_
             rotate_left
             ·intro w'
              go_simp
              with_reducible rfl
             rotate_left
             ·simp only [Act.put, List.setIfInBounds_toArray, List.set_cons_zero, List.set_cons_succ, i64_w, i32_w]
              rfl
             refine take_ (i := 7) (N := some 24) (v := ?_) (a' := ?_) #[true, true, true, true, true, true, true, true, true, false, false, false, false, false, false, false, false, false, false, false, false, false, false, false, false, false, false, false, false, false, false, false, false] rfl rfl (take_ofW HT_.out HW_.out (by kernel_rfl)) (fun _ _ _ h => h) (Or.inl ⟨by rfl, ?_⟩) hHeld ?_ ?_
             rotate_left
             ·rintro w' ⟨s0, s1, s2, s3, s4, s5, s6, s7, s8, s9, s10, s11, s12, s13, s14, s15, s16, s17⟩
              go_simp
              with_reducible rfl
             rotate_left
             ·simp only [Act.put, List.setIfInBounds_toArray, List.set_cons_zero, List.set_cons_succ, i64_w, i32_w]
              rfl
             refine take_ (i := 9) (N := some 26) (v := ?_) (a' := ?_) #[true, true, true, true, true, true, true, true, true, true, false, false, false, false, false, false, false, false, false, false, false, false, false, false, false, false, false, false, false, false, false, false, false] rfl rfl (take_ofW HT_.out HW_.out (by kernel_rfl)) (fun _ _ _ h => h) (Or.inl ⟨by rfl, ?_⟩) hHeld ?_ ?_
             rotate_left
             ·rintro w' ⟨s0, s1, s2, s3, s4, s5, s6, s7, s8, s9, s10, s11, s12, s13, s14, s15, s16, s17⟩
              go_simp
              with_reducible rfl
             rotate_left
             ·simp only [Act.put, List.setIfInBounds_toArray, List.set_cons_zero, List.set_cons_succ, i64_w, i32_w]
              rfl
             refine pure_ (i := 10) (N := some 27) (v := ?_) (a' := ?_) #[true, true, true, true, true, true, true, true, true, true, true, false, false, false, false, false, false, false, false, false, false, false, false, false, false, false, false, false, false, false, false, false, false] rfl rfl (any_of HT_.out (by kernel_rfl)) (fun _ _ _ h => h) (Or.inl ⟨by rfl, ?_⟩) ?_ ?_
             rotate_left
             ·intro w'
              go_simp
              with_reducible rfl
             rotate_left
             ·simp only [Act.put, List.setIfInBounds_toArray, List.set_cons_zero, List.set_cons_succ, i64_w, i32_w]
              rfl
             refine pure_ (i := 11) (N := some 28) (v := ?_) (a' := ?_) #[true, true, true, true, true, true, true, true, true, true, true, true, false, false, false, false, false, false, false, false, false, false, false, false, false, false, false, false, false, false, false, false, false] rfl rfl (any_of HT_.out (by kernel_rfl)) (fun _ _ _ h => h) (Or.inl ⟨by rfl, ?_⟩) ?_ ?_
             rotate_left
             ·intro w'
              go_simp
              with_reducible rfl
             rotate_left
             ·simp only [Act.put, List.setIfInBounds_toArray, List.set_cons_zero, List.set_cons_succ, i64_w, i32_w]
              rfl
             refine pure_ (i := 12) (N := some 29) (v := ?_) (a' := ?_) #[true, true, true, true, true, true, true, true, true, true, true, true, true, false, false, false, false, false, false, false, false, false, false, false, false, false, false, false, false, false, false, false, false] rfl rfl (any_of HT_.out (by kernel_rfl)) (fun _ _ _ h => h) (Or.inl ⟨by rfl, ?_⟩) ?_ ?_
             rotate_left
             ·intro w'
              go_simp
              with_reducible rfl
             rotate_left
             ·simp only [Act.put, List.setIfInBounds_toArray, List.set_cons_zero, List.set_cons_succ, i64_w, i32_w]
              rfl
             refine pure_ (i := 13) (N := some 30) (v := ?_) (a' := ?_) #[true, true, true, true, true, true, true, true, true, true, true, true, true, true, false, false, false, false, false, false, false, false, false, false, false, false, false, false, false, false, false, false, false] rfl rfl (any_of HT_.out (by kernel_rfl)) (fun _ _ _ h => h) (Or.inl ⟨by rfl, ?_⟩) ?_ ?_
             rotate_left
             ·intro w'
              go_simp
              with_reducible rfl
             rotate_left
             ·simp only [Act.put, List.setIfInBounds_toArray, List.set_cons_zero, List.set_cons_succ, i64_w, i32_w]
              rfl
             refine pure_ (i := 14) (N := some 31) (v := ?_) (a' := ?_) #[true, true, true, true, true, true, true, true, true, true, true, true, true, true, true, false, false, false, false, false, false, false, false, false, false, false, false, false, false, false, false, false, false] rfl rfl (any_of HT_.out (by kernel_rfl)) (fun _ _ _ h => h) (Or.inl ⟨by rfl, ?_⟩) ?_ ?_
             rotate_left
             ·intro w'
              go_simp
              with_reducible rfl
             rotate_left
             ·simp only [Act.put, List.setIfInBounds_toArray, List.set_cons_zero, List.set_cons_succ, i64_w, i32_w]
              rfl
             refine pure_ (i := 15) (N := some 32) (v := ?_) (a' := ?_) #[true, true, true, true, true, true, true, true, true, true, true, true, true, true, true, true, false, false, false, false, false, false, false, false, false, false, false, false, false, false, false, false, false] rfl rfl (any_of HT_.out (by kernel_rfl)) (fun _ _ _ h => h) (Or.inl ⟨by rfl, ?_⟩) ?_ ?_
             rotate_left
             ·intro w'
              go_simp
              with_reducible rfl
             rotate_left
             ·simp only [Act.put, List.setIfInBounds_toArray, List.set_cons_zero, List.set_cons_succ, i64_w, i32_w]
              rfl
             refine take_ (i := 16) (N := some 33) (v := ?_) (a' := ?_) #[true, true, true, true, true, true, true, true, true, true, true, true, true, true, true, true, true, false, false, false, false, false, false, false, false, false, false, false, false, false, false, false, false] rfl rfl (take_ofW HT_.out HW_.out (by kernel_rfl)) (fun _ _ _ h => h) (Or.inl ⟨by rfl, ?_⟩) hHeld ?_ ?_
             rotate_left
             ·rintro w' ⟨s0, s1, s2, s3, s4, s5, s6, s7, s8, s9, s10, s11, s12, s13, s14, s15, s16, s17⟩
              go_simp
              with_reducible rfl
             rotate_left
             ·simp only [Act.put, List.setIfInBounds_toArray, List.set_cons_zero, List.set_cons_succ, i64_w, i32_w]
              rfl
             refine take_ (i := 18) (N := some 35) (v := ?_) (a' := ?_) #[true, true, true, true, true, true, true, true, true, true, true, true, true, true, true, true, true, false, true, false, false, false, false, false, false, false, false, false, false, false, false, false, false] rfl rfl (take_ofW HT_.out HW_.out (by kernel_rfl)) (fun _ _ _ h => h) (Or.inl ⟨by rfl, ?_⟩) hHeld ?_ ?_
             rotate_left
             ·rintro w' ⟨s0, s1, s2, s3, s4, s5, s6, s7, s8, s9, s10, s11, s12, s13, s14, s15, s16, s17⟩
              go_simp
              with_reducible rfl
             rotate_left
             ·simp only [Act.put, List.setIfInBounds_toArray, List.set_cons_zero, List.set_cons_succ, i64_w, i32_w]
              rfl
             refine one_ (i := 17) (N := some 34) #[true, true, true, true, true, true, true, true, true, true, true, true, true, true, true, true, true, true, true, false, false, false, false, false, false, false, false, false, false, false, false, false, false] rfl rfl (one_of HT_.out (by kernel_rfl)) (by decide) (fun K hK => ?_)
             refine goes_ Try.func23 (by kernel_rfl) rfl #[.agg #[.int .i64 ((rd_T33 x3_1 (ji10)).f0), .int .i64 ((rd_T33 x3_1 (ji10)).f1), .int .i64 ((rd_T33 x3_1 (ji10)).f2), .bool ((rd_T33 x3_1 (ji10)).f3), .string ((rd_T33 x3_1 (ji10)).f4), .int .u64 ((rd_T33 x3_1 (ji10)).f5)]] (by rfl) rfl rfl (by (try simp only [List.map_toArray, List.map_cons, List.map_nil]); first | done | (simp only [hji10]; rfl) | rfl | (simp only [List.length_drop, List.length_take]; rfl)) ?_
             with_reducible refine (span_bare.calls ((rd_T33 x3_1 (ji10)).f0) ((rd_T33 x3_1 (ji10)).f1) ((rd_T33 x3_1 (ji10)).f2) ((rd_T33 x3_1 (ji10)).f3) ((rd_T33 x3_1 (ji10)).f4) ((rd_T33 x3_1 (ji10)).f5) t114 t115 t116 t117 t118 t119 _ (by first | exact A14.out | (rw [Nbq17.out]; exact A14.out))).mono ?_
             rintro e w25 ⟨rfl, hb⟩
             have HS6_ := (hb.cell (World.block_lt_of_cell? _ _ (hHeld.2.2.2.2.2.2.1))).trans (hHeld.2.2.2.2.2.2.1)
             have HS7_ := (hb.cell (World.block_lt_of_cell? _ _ (hHeld.2.2.2.2.2.2.2.1))).trans (hHeld.2.2.2.2.2.2.2.1)
             have HS8_ := (hb.cell (World.block_lt_of_cell? _ _ (hHeld.2.2.2.2.2.2.2.2.1))).trans (hHeld.2.2.2.2.2.2.2.2.1)
             have HS9_ := (hb.cell (World.block_lt_of_cell? _ _ (hHeld.2.2.2.2.2.2.2.2.2.1))).trans (hHeld.2.2.2.2.2.2.2.2.2.1)
             have HS10_ := (hb.cell (World.block_lt_of_cell? _ _ (hHeld.2.2.2.2.2.2.2.2.2.2.1))).trans (hHeld.2.2.2.2.2.2.2.2.2.2.1)
             have HS11_ := (hb.cell (World.block_lt_of_cell? _ _ (hHeld.2.2.2.2.2.2.2.2.2.2.2.1))).trans (hHeld.2.2.2.2.2.2.2.2.2.2.2.1)
             have HS12_ := (hb.cell (World.block_lt_of_cell? _ _ (hHeld.2.2.2.2.2.2.2.2.2.2.2.2.1))).trans (hHeld.2.2.2.2.2.2.2.2.2.2.2.2.1)
             have HS13_ := (hb.cell (World.block_lt_of_cell? _ _ (hHeld.2.2.2.2.2.2.2.2.2.2.2.2.2.1))).trans (hHeld.2.2.2.2.2.2.2.2.2.2.2.2.2.1)
             have HS14_ := (hb.cell (World.block_lt_of_cell? _ _ (hHeld.2.2.2.2.2.2.2.2.2.2.2.2.2.2.1))).trans (hHeld.2.2.2.2.2.2.2.2.2.2.2.2.2.2.1)
             have HS15_ := (hb.cell (World.block_lt_of_cell? _ _ (hHeld.2.2.2.2.2.2.2.2.2.2.2.2.2.2.2.1))).trans (hHeld.2.2.2.2.2.2.2.2.2.2.2.2.2.2.2.1)
             have HS16_ := (hb.cell (World.block_lt_of_cell? _ _ (hHeld.2.2.2.2.2.2.2.2.2.2.2.2.2.2.2.2.1))).trans (hHeld.2.2.2.2.2.2.2.2.2.2.2.2.2.2.2.2.1)
             have HS17_ := (hb.cell (World.block_lt_of_cell? _ _ (hHeld.2.2.2.2.2.2.2.2.2.2.2.2.2.2.2.2.2))).trans (hHeld.2.2.2.2.2.2.2.2.2.2.2.2.2.2.2.2.2)
             refine ⟨_, rfl, ?_⟩
             have n0_ := Aside0.mk (Kd.R_below (by (with_reducible repeat (first | apply Kd.R_alloc | apply Kd.R_drewN | apply Kd.R_drew)); exact HO_3.out) hb)
             have n1_ := Aside0.mk (blk_below (g := gb111) (o := .cells #[.int .i64 ((rd_T33 l0 x10_1).f0), .int .i64 ((rd_T33 l0 x10_1).f1), .int .i64 ((rd_T33 l0 x10_1).f2), .bool false, .string ((rd_T33 l0 x10_1).f4), .int .u64 ((rd_T33 l0 x10_1).f5)] 33 (0, 0)) (by (with_reducible repeat (first | refine blk_drewN ?_ _ | refine blk_drew ?_ | refine blk_alloc ?_ _)); exact BK111.out) hb)
             have n2_ := Aside0.mk (below_step (by repeat (first | (with_reducible first | exact HB.out | apply below_alloc | apply pw_below_drewN | apply below_drew1 | refine below_set ?_ GE111.out) | exact HB.out)) hb)
             clear HO_3
             clear BK111
             clear HB
             have HO_3 := n0_
             have BK111 := n1_
             have HB := n2_
             clear n0_ n1_ n2_
             (try clear hb)
             (try clear hb2)
             (try clear hk)
             (try clear hi)
             refine hK.out _ _ ⟨(blk_cell BK111.out 0).trans rfl, (blk_cell BK111.out 1).trans rfl, (blk_cell BK111.out 2).trans rfl, (blk_cell BK111.out 3).trans rfl, (blk_cell BK111.out 4).trans rfl, (blk_cell BK111.out 5).trans rfl, HS6_, HS7_, HS8_, HS9_, HS10_, HS11_, HS12_, HS13_, HS14_, HS15_, HS16_, HS17_⟩ (fun hHeld => ?_)
             clear hK K
             refine norm_ (a' := ?_) ?_ ?_
             rotate_left
             ·show Act.put _ (some 34) _ = _
              simp only [Act.put, List.setIfInBounds_toArray, List.set_cons_zero, List.set_cons_succ, i64_w, i32_w]
              rfl
             refine one_ (i := 19) (N := some 36) #[true, true, true, true, true, true, true, true, true, true, true, true, true, true, true, true, true, true, true, true, false, false, false, false, false, false, false, false, false, false, false, false, false] rfl rfl (one_of HT_.out (by kernel_rfl)) (by decide) (fun K hK => ?_)
             refine goes_ Try.func23 (by kernel_rfl) rfl #[.agg #[.int .i64 ((rd_T33 l0 x10_1).f0), .int .i64 ((rd_T33 l0 x10_1).f1), .int .i64 ((rd_T33 l0 x10_1).f2), .bool false, .string ((rd_T33 l0 x10_1).f4), .int .u64 ((rd_T33 l0 x10_1).f5)]] (by rfl) rfl rfl (by (try simp only [List.map_toArray, List.map_cons, List.map_nil]); first | done | rfl | (simp only [List.length_drop, List.length_take]; rfl)) ?_
             with_reducible refine (span_bare.calls ((rd_T33 l0 x10_1).f0) ((rd_T33 l0 x10_1).f1) ((rd_T33 l0 x10_1).f2) false ((rd_T33 l0 x10_1).f4) ((rd_T33 l0 x10_1).f5) t120 t121 t122 t123 t124 t125 _ (by first | exact A15.out | (rw [Nbq17.out]; exact A15.out))).mono ?_
             rintro e w26 ⟨rfl, hb⟩
             have HS6_ := (hb.cell (World.block_lt_of_cell? _ _ (hHeld.2.2.2.2.2.2.1))).trans (hHeld.2.2.2.2.2.2.1)
             have HS7_ := (hb.cell (World.block_lt_of_cell? _ _ (hHeld.2.2.2.2.2.2.2.1))).trans (hHeld.2.2.2.2.2.2.2.1)
             have HS8_ := (hb.cell (World.block_lt_of_cell? _ _ (hHeld.2.2.2.2.2.2.2.2.1))).trans (hHeld.2.2.2.2.2.2.2.2.1)
             have HS9_ := (hb.cell (World.block_lt_of_cell? _ _ (hHeld.2.2.2.2.2.2.2.2.2.1))).trans (hHeld.2.2.2.2.2.2.2.2.2.1)
             have HS10_ := (hb.cell (World.block_lt_of_cell? _ _ (hHeld.2.2.2.2.2.2.2.2.2.2.1))).trans (hHeld.2.2.2.2.2.2.2.2.2.2.1)
             have HS11_ := (hb.cell (World.block_lt_of_cell? _ _ (hHeld.2.2.2.2.2.2.2.2.2.2.2.1))).trans (hHeld.2.2.2.2.2.2.2.2.2.2.2.1)
             have HS12_ := (hb.cell (World.block_lt_of_cell? _ _ (hHeld.2.2.2.2.2.2.2.2.2.2.2.2.1))).trans (hHeld.2.2.2.2.2.2.2.2.2.2.2.2.1)
             have HS13_ := (hb.cell (World.block_lt_of_cell? _ _ (hHeld.2.2.2.2.2.2.2.2.2.2.2.2.2.1))).trans (hHeld.2.2.2.2.2.2.2.2.2.2.2.2.2.1)
             have HS14_ := (hb.cell (World.block_lt_of_cell? _ _ (hHeld.2.2.2.2.2.2.2.2.2.2.2.2.2.2.1))).trans (hHeld.2.2.2.2.2.2.2.2.2.2.2.2.2.2.1)
             have HS15_ := (hb.cell (World.block_lt_of_cell? _ _ (hHeld.2.2.2.2.2.2.2.2.2.2.2.2.2.2.2.1))).trans (hHeld.2.2.2.2.2.2.2.2.2.2.2.2.2.2.2.1)
             have HS16_ := (hb.cell (World.block_lt_of_cell? _ _ (hHeld.2.2.2.2.2.2.2.2.2.2.2.2.2.2.2.2.1))).trans (hHeld.2.2.2.2.2.2.2.2.2.2.2.2.2.2.2.2.1)
             have HS17_ := (hb.cell (World.block_lt_of_cell? _ _ (hHeld.2.2.2.2.2.2.2.2.2.2.2.2.2.2.2.2.2))).trans (hHeld.2.2.2.2.2.2.2.2.2.2.2.2.2.2.2.2.2)
             refine ⟨_, rfl, ?_⟩
             have n0_ := Aside0.mk (Kd.R_below (by (with_reducible repeat (first | apply Kd.R_alloc | apply Kd.R_drewN | apply Kd.R_drew)); exact HO_3.out) hb)
             have n1_ := Aside0.mk (blk_below (g := gb111) (o := .cells #[.int .i64 ((rd_T33 l0 x10_1).f0), .int .i64 ((rd_T33 l0 x10_1).f1), .int .i64 ((rd_T33 l0 x10_1).f2), .bool false, .string ((rd_T33 l0 x10_1).f4), .int .u64 ((rd_T33 l0 x10_1).f5)] 33 (0, 0)) (by (with_reducible repeat (first | refine blk_drewN ?_ _ | refine blk_drew ?_ | refine blk_alloc ?_ _)); exact BK111.out) hb)
             have n2_ := Aside0.mk (below_step (by repeat (first | (with_reducible first | exact HB.out | apply below_alloc | apply pw_below_drewN | apply below_drew1 | refine below_set ?_ GE111.out) | exact HB.out)) hb)
             clear HO_3
             clear BK111
             clear HB
             have HO_3 := n0_
             have BK111 := n1_
             have HB := n2_
             clear n0_ n1_ n2_
             (try clear hb)
             (try clear hb2)
             (try clear hk)
             (try clear hi)
             refine hK.out _ _ ⟨(blk_cell BK111.out 0).trans rfl, (blk_cell BK111.out 1).trans rfl, (blk_cell BK111.out 2).trans rfl, (blk_cell BK111.out 3).trans rfl, (blk_cell BK111.out 4).trans rfl, (blk_cell BK111.out 5).trans rfl, HS6_, HS7_, HS8_, HS9_, HS10_, HS11_, HS12_, HS13_, HS14_, HS15_, HS16_, HS17_⟩ (fun hHeld => ?_)
             clear hK K
             refine norm_ (a' := ?_) ?_ ?_
             rotate_left
             ·show Act.put _ (some 36) _ = _
              simp only [Act.put, List.setIfInBounds_toArray, List.set_cons_zero, List.set_cons_succ, i64_w, i32_w]
              rfl
             refine pure_ (i := 20) (N := some 37) (v := ?_) (a' := ?_) #[true, true, true, true, true, true, true, true, true, true, true, true, true, true, true, true, true, true, true, true, true, false, false, false, false, false, false, false, false, false, false, false, false] rfl rfl (any_of HT_.out (by kernel_rfl)) (fun _ _ _ h => h) (Or.inl ⟨by rfl, ?_⟩) ?_ ?_
             rotate_left
             ·intro w'
              go_simp
              with_reducible rfl
             rotate_left
             ·simp only [Act.put, List.setIfInBounds_toArray, List.set_cons_zero, List.set_cons_succ, i64_w, i32_w]
              rfl
             refine pure_ (i := 21) (N := some 38) (v := ?_) (a' := ?_) #[true, true, true, true, true, true, true, true, true, true, true, true, true, true, true, true, true, true, true, true, true, true, false, false, false, false, false, false, false, false, false, false, false] rfl rfl (any_of HT_.out (by kernel_rfl)) (fun _ _ _ h => h) (Or.inl ⟨by rfl, ?_⟩) ?_ ?_
             rotate_left
             ·intro w'
              go_simp
              with_reducible rfl
             rotate_left
             ·simp only [Act.put, List.setIfInBounds_toArray, List.set_cons_zero, List.set_cons_succ, i64_w, i32_w]
              rfl
             refine pure_ (i := 22) (N := some 39) (v := ?_) (a' := ?_) #[true, true, true, true, true, true, true, true, true, true, true, true, true, true, true, true, true, true, true, true, true, true, true, false, false, false, false, false, false, false, false, false, false] rfl rfl (any_of HT_.out (by kernel_rfl)) (fun _ _ _ h => h) (Or.inl ⟨by rfl, ?_⟩) ?_ ?_
             rotate_left
             ·intro w'
              go_simp
              with_reducible rfl
             rotate_left
             ·simp only [Act.put, List.setIfInBounds_toArray, List.set_cons_zero, List.set_cons_succ, i64_w, i32_w]
              rfl
             refine pure_ (i := 23) (N := some 40) (v := ?_) (a' := ?_) #[true, true, true, true, true, true, true, true, true, true, true, true, true, true, true, true, true, true, true, true, true, true, true, true, false, false, false, false, false, false, false, false, false] rfl rfl (any_of HT_.out (by kernel_rfl)) (fun _ _ _ h => h) (Or.inl ⟨by rfl, ?_⟩) ?_ ?_
             rotate_left
             ·intro w'
              go_simp
              with_reducible rfl
             rotate_left
             ·simp only [Act.put, List.setIfInBounds_toArray, List.set_cons_zero, List.set_cons_succ, i64_w, i32_w]
              rfl
             refine take_ (i := 24) (N := some 41) (v := ?_) (a' := ?_) #[true, true, true, true, true, true, true, true, true, true, true, true, true, true, true, true, true, true, true, true, true, true, true, true, true, false, false, false, false, false, false, false, false] rfl rfl (take_ofW HT_.out HW_.out (by kernel_rfl)) (fun _ _ _ h => h) (Or.inl ⟨by rfl, ?_⟩) hHeld ?_ ?_
             rotate_left
             ·rintro w' ⟨s0, s1, s2, s3, s4, s5, s6, s7, s8, s9, s10, s11, s12, s13, s14, s15, s16, s17⟩
              go_simp
              with_reducible rfl
             rotate_left
             ·simp only [Act.put, List.setIfInBounds_toArray, List.set_cons_zero, List.set_cons_succ, i64_w, i32_w]
              rfl
             refine pure_ (i := 25) (N := some 42) (v := ?_) (a' := ?_) #[true, true, true, true, true, true, true, true, true, true, true, true, true, true, true, true, true, true, true, true, true, true, true, true, true, true, false, false, false, false, false, false, false] rfl rfl (any_of HT_.out (by kernel_rfl)) (fun _ _ _ h => h) (Or.inl ⟨by rfl, ?_⟩) ?_ ?_
             rotate_left
             ·intro w'
              go_simp
              with_reducible rfl
             rotate_left
             ·simp only [Act.put, List.setIfInBounds_toArray, List.set_cons_zero, List.set_cons_succ, i64_w, i32_w]
              rfl
             refine pure_ (i := 26) (N := some 43) (v := ?_) (a' := ?_) #[true, true, true, true, true, true, true, true, true, true, true, true, true, true, true, true, true, true, true, true, true, true, true, true, true, true, true, false, false, false, false, false, false] rfl rfl (any_of HT_.out (by kernel_rfl)) (fun _ _ _ h => h) (Or.inl ⟨by rfl, ?_⟩) ?_ ?_
             rotate_left
             ·intro w'
              go_simp
              with_reducible rfl
             rotate_left
             ·simp only [Act.put, List.setIfInBounds_toArray, List.set_cons_zero, List.set_cons_succ, i64_w, i32_w]
              rfl
             refine pure_ (i := 27) (N := some 44) (v := ?_) (a' := ?_) #[true, true, true, true, true, true, true, true, true, true, true, true, true, true, true, true, true, true, true, true, true, true, true, true, true, true, true, true, false, false, false, false, false] rfl rfl (any_of HT_.out (by kernel_rfl)) (fun _ _ _ h => h) (Or.inl ⟨by rfl, ?_⟩) ?_ ?_
             rotate_left
             ·intro w'
              go_simp
              with_reducible rfl
             rotate_left
             ·simp only [Act.put, List.setIfInBounds_toArray, List.set_cons_zero, List.set_cons_succ, i64_w, i32_w]
              rfl
             refine pure_ (i := 28) (N := some 45) (v := ?_) (a' := ?_) #[true, true, true, true, true, true, true, true, true, true, true, true, true, true, true, true, true, true, true, true, true, true, true, true, true, true, true, true, true, false, false, false, false] rfl rfl (any_of HT_.out (by kernel_rfl)) (fun _ _ _ h => h) (Or.inl ⟨by rfl, ?_⟩) ?_ ?_
             rotate_left
             ·intro w'
              go_simp
              with_reducible rfl
             rotate_left
             ·simp only [Act.put, List.setIfInBounds_toArray, List.set_cons_zero, List.set_cons_succ, i64_w, i32_w]
              rfl
             refine take_ (i := 29) (N := some 46) (v := ?_) (a' := ?_) #[true, true, true, true, true, true, true, true, true, true, true, true, true, true, true, true, true, true, true, true, true, true, true, true, true, true, true, true, true, true, false, false, false] rfl rfl (take_ofW HT_.out HW_.out (by kernel_rfl)) (fun _ _ _ h => h) (Or.inl ⟨by rfl, ?_⟩) hHeld ?_ ?_
             rotate_left
             ·rintro w' ⟨s0, s1, s2, s3, s4, s5, s6, s7, s8, s9, s10, s11, s12, s13, s14, s15, s16, s17⟩
              go_simp
              with_reducible rfl
             rotate_left
             ·simp only [Act.put, List.setIfInBounds_toArray, List.set_cons_zero, List.set_cons_succ, i64_w, i32_w]
              rfl
             refine pure_ (i := 30) (N := some 47) (v := ?_) (a' := ?_) #[true, true, true, true, true, true, true, true, true, true, true, true, true, true, true, true, true, true, true, true, true, true, true, true, true, true, true, true, true, true, true, false, false] rfl rfl (any_of HT_.out (by kernel_rfl)) (fun _ _ _ h => h) (Or.inl ⟨by rfl, ?_⟩) ?_ ?_
             rotate_left
             ·intro w'
              go_simp
              with_reducible rfl
             rotate_left
             ·simp only [Act.put, List.setIfInBounds_toArray, List.set_cons_zero, List.set_cons_succ, i64_w, i32_w]
              rfl
             refine pure_ (i := 31) (N := some 48) (v := ?_) (a' := ?_) #[true, true, true, true, true, true, true, true, true, true, true, true, true, true, true, true, true, true, true, true, true, true, true, true, true, true, true, true, true, true, true, true, false] rfl rfl (any_of HT_.out (by kernel_rfl)) (fun _ _ _ h => h) (Or.inl ⟨by rfl, ?_⟩) ?_ ?_
             rotate_left
             ·intro w'
              go_simp
              with_reducible rfl
             rotate_left
             ·simp only [Act.put, List.setIfInBounds_toArray, List.set_cons_zero, List.set_cons_succ, i64_w, i32_w]
              rfl
             refine pure_ (i := 32) (N := some 7) (v := ?_) (a' := ?_) #[true, true, true, true, true, true, true, true, true, true, true, true, true, true, true, true, true, true, true, true, true, true, true, true, true, true, true, true, true, true, true, true, true] rfl rfl (any_of HT_.out (by kernel_rfl)) (fun _ _ _ h => h) (Or.inl ⟨by rfl, ?_⟩) ?_ ?_
             rotate_left
             ·intro w'
              go_simp
              with_reducible rfl
             rotate_left
             ·simp only [Act.put, List.setIfInBounds_toArray, List.set_cons_zero, List.set_cons_succ, i64_w, i32_w]
              rfl
             refine done_ (done_of HT_.out (by kernel_rfl)) ?_
             try go_wp2
             (try subst hji10)
             go_meet
             case rel => exact ⟨_, ((((rd_T33 l0 x10_1).f4).toList == ([] : List UInt8))), (by first | rfl | (simp; done) | (simp [*]; done)), (by first | exact H' | (rw [← Nbq17.out]; exact H')), ⟨by have := HK1.out; first | omega | exact Nat.le_refl _⟩, ⟨by (with_reducible repeat (first | apply Kd.R_alloc | apply Kd.R_drewN | apply Kd.R_drew)); exact HO_3.out⟩, ⟨by (with_reducible repeat (first | refine blk_drewN ?_ _ | refine blk_drew ?_ | refine blk_alloc ?_ _)); first | exact BK111.out | (rw [← Nbq17.out]; exact BK111.out)⟩, ⟨by repeat (first | (with_reducible first | exact HB.out | apply below_alloc | apply pw_below_drewN | apply below_drew1 | refine below_set ?_ GE111.out) | exact HB.out)⟩⟩
           ·rw [if_neg c16] at H
            have c16b0 : (t114 == t120 && (t115 == t121 && (t116 == t122 && (t117 == t123 && (t118.toList == t124.toList && (t119 == t125)))))) = false := by simpa using c16
            (try (have c16b1 : decide (t114 = t120 && (t115 == t121 && (t116 == t122 && (t117 == t123 && (t118.toList == t124.toList && (t119 == t125)))))) = false := by simpa using c16))
            (try (have c16b2 : (t114 == t120 && (t115 == t121 && (t116 == t122 && (t117 == t123 && (t118.toList == t124.toList && (t119 == t125)))))) = false := by simpa using c16))
            (try (have c16b3 : ¬ (t114 = t120 && (t115 == t121 && (t116 == t122 && (t117 == t123 && (t118.toList == t124.toList && (t119 == t125)))))) := by simpa using c16))
            clear c16
            have H' := Aside0.mk H
            clear H
            try go_wp2
            have n0_ : Aside0 (Kd.R k33 33 ((((((w6.setCell ⟨gb111, 0, none⟩ (.int .i64 ((rd_T33 l0 x10_1).f0))).setCell ⟨gb111, 1, none⟩ (.int .i64 ((rd_T33 l0 x10_1).f1))).setCell ⟨gb111, 2, none⟩ (.int .i64 ((rd_T33 l0 x10_1).f2))).setCell ⟨gb111, 3, none⟩ (.bool ((rd_T33 l0 x10_1).f3))).setCell ⟨gb111, 4, none⟩ (.string ((rd_T33 l0 x10_1).f4))).setCell ⟨gb111, 5, none⟩ (.int .u64 ((rd_T33 l0 x10_1).f5))) w.heap.size (fun k_ => k_ ≠ gb111) (.slice Ao8 x3_1.length co8) x3_1) := ⟨by (with_reducible repeat (first | apply Kd.R_alloc | apply Kd.R_drewN | apply Kd.R_drew)); exact Kd.R_mono (Kd.R_far (p := ⟨gb111, 5, none⟩) (Kd.R_far (p := ⟨gb111, 4, none⟩) (Kd.R_far (p := ⟨gb111, 3, none⟩) (Kd.R_far (p := ⟨gb111, 2, none⟩) (Kd.R_far (p := ⟨gb111, 1, none⟩) (Kd.R_far (p := ⟨gb111, 0, none⟩) (Kd.R_mono HO_3.out (fun k_ hk => (⟨hk, hk.2⟩ : _ ∧ k_ ≠ gb111))) (fun _ hk => hk.2) (.int .i64 ((rd_T33 l0 x10_1).f0))) (fun _ hk => hk.2) (.int .i64 ((rd_T33 l0 x10_1).f1))) (fun _ hk => hk.2) (.int .i64 ((rd_T33 l0 x10_1).f2))) (fun _ hk => hk.2) (.bool ((rd_T33 l0 x10_1).f3))) (fun _ hk => hk.2) (.string ((rd_T33 l0 x10_1).f4))) (fun _ hk => hk.2) (.int .u64 ((rd_T33 l0 x10_1).f5))) (fun _ hk => hk.1.2)⟩
            have n1_ : Aside0 (((((((w6.setCell ⟨gb111, 0, none⟩ (.int .i64 ((rd_T33 l0 x10_1).f0))).setCell ⟨gb111, 1, none⟩ (.int .i64 ((rd_T33 l0 x10_1).f1))).setCell ⟨gb111, 2, none⟩ (.int .i64 ((rd_T33 l0 x10_1).f2))).setCell ⟨gb111, 3, none⟩ (.bool ((rd_T33 l0 x10_1).f3))).setCell ⟨gb111, 4, none⟩ (.string ((rd_T33 l0 x10_1).f4))).setCell ⟨gb111, 5, none⟩ (.int .u64 ((rd_T33 l0 x10_1).f5))).heap[gb111]? = some (.cells #[.int .i64 ((rd_T33 l0 x10_1).f0), .int .i64 ((rd_T33 l0 x10_1).f1), .int .i64 ((rd_T33 l0 x10_1).f2), .bool ((rd_T33 l0 x10_1).f3), .string ((rd_T33 l0 x10_1).f4), .int .u64 ((rd_T33 l0 x10_1).f5)] 33 (0, 0))) := ⟨by (with_reducible repeat (first | refine blk_drewN ?_ _ | refine blk_drew ?_ | refine blk_alloc ?_ _)); refine blk_put (cs := #[.int .i64 ((rd_T33 l0 x10_1).f0), .int .i64 ((rd_T33 l0 x10_1).f1), .int .i64 ((rd_T33 l0 x10_1).f2), .bool ((rd_T33 l0 x10_1).f3), .string ((rd_T33 l0 x10_1).f4), .int .u64 0]) ?_ 5 _ rfl; (with_reducible repeat (first | refine blk_drewN ?_ _ | refine blk_drew ?_ | refine blk_alloc ?_ _)); refine blk_put (cs := #[.int .i64 ((rd_T33 l0 x10_1).f0), .int .i64 ((rd_T33 l0 x10_1).f1), .int .i64 ((rd_T33 l0 x10_1).f2), .bool ((rd_T33 l0 x10_1).f3), .string (⟨#[]⟩ : ByteArray), .int .u64 0]) ?_ 4 _ rfl; (with_reducible repeat (first | refine blk_drewN ?_ _ | refine blk_drew ?_ | refine blk_alloc ?_ _)); refine blk_put (cs := #[.int .i64 ((rd_T33 l0 x10_1).f0), .int .i64 ((rd_T33 l0 x10_1).f1), .int .i64 ((rd_T33 l0 x10_1).f2), .bool false, .string (⟨#[]⟩ : ByteArray), .int .u64 0]) ?_ 3 _ rfl; (with_reducible repeat (first | refine blk_drewN ?_ _ | refine blk_drew ?_ | refine blk_alloc ?_ _)); refine blk_put (cs := #[.int .i64 ((rd_T33 l0 x10_1).f0), .int .i64 ((rd_T33 l0 x10_1).f1), .int .i64 0, .bool false, .string (⟨#[]⟩ : ByteArray), .int .u64 0]) ?_ 2 _ rfl; (with_reducible repeat (first | refine blk_drewN ?_ _ | refine blk_drew ?_ | refine blk_alloc ?_ _)); refine blk_put (cs := #[.int .i64 ((rd_T33 l0 x10_1).f0), .int .i64 0, .int .i64 0, .bool false, .string (⟨#[]⟩ : ByteArray), .int .u64 0]) ?_ 1 _ rfl; (with_reducible repeat (first | refine blk_drewN ?_ _ | refine blk_drew ?_ | refine blk_alloc ?_ _)); refine blk_put (cs := #[.int .i64 0, .int .i64 0, .int .i64 0, .bool false, .string (⟨#[]⟩ : ByteArray), .int .u64 0]) ?_ 0 _ rfl; (with_reducible repeat (first | refine blk_drewN ?_ _ | refine blk_drew ?_ | refine blk_alloc ?_ _)); exact BK111.out⟩
            have n2_ : Aside0 (Below w.heap.size w ((((((w6.setCell ⟨gb111, 0, none⟩ (.int .i64 ((rd_T33 l0 x10_1).f0))).setCell ⟨gb111, 1, none⟩ (.int .i64 ((rd_T33 l0 x10_1).f1))).setCell ⟨gb111, 2, none⟩ (.int .i64 ((rd_T33 l0 x10_1).f2))).setCell ⟨gb111, 3, none⟩ (.bool ((rd_T33 l0 x10_1).f3))).setCell ⟨gb111, 4, none⟩ (.string ((rd_T33 l0 x10_1).f4))).setCell ⟨gb111, 5, none⟩ (.int .u64 ((rd_T33 l0 x10_1).f5)))) := ⟨by repeat (first | (with_reducible first | exact HB.out | apply below_alloc | apply pw_below_drewN | apply below_drew1 | refine below_set ?_ GE111.out) | exact HB.out)⟩
            (try clear HO_3)
            (try clear BK111)
            (try clear HB)
            generalize ((((((w6.setCell ⟨gb111, 0, none⟩ (.int .i64 ((rd_T33 l0 x10_1).f0))).setCell ⟨gb111, 1, none⟩ (.int .i64 ((rd_T33 l0 x10_1).f1))).setCell ⟨gb111, 2, none⟩ (.int .i64 ((rd_T33 l0 x10_1).f2))).setCell ⟨gb111, 3, none⟩ (.bool ((rd_T33 l0 x10_1).f3))).setCell ⟨gb111, 4, none⟩ (.string ((rd_T33 l0 x10_1).f4))).setCell ⟨gb111, 5, none⟩ (.int .u64 ((rd_T33 l0 x10_1).f5))) = w27 at n0_ n1_ n2_ ⊢
            have HO_3 := n0_
            have BK111 := n1_
            have HB := n2_
            clear n0_ n1_ n2_
            have n0_ := Aside0.mk (Kd.R_drew HO_3.out)
            have n1_ := Aside0.mk (blk_drew BK111.out)
            have n2_ := Aside0.mk (below_drew1 HB.out)
            clear HO_3
            clear BK111
            clear HB
            have HO_3 := n0_
            have BK111 := n1_
            have HB := n2_
            clear n0_ n1_ n2_
            have p112 : 0 ≤ ((ji10) : Int) := of_decide_eq_true (by first | (with_reducible assumption) | assumption)
            have q112 : (ji10) < (x3_1.length : Int) := of_decide_eq_true (by first | (with_reducible assumption) | assumption)
            obtain ⟨ad112, e112, hx112_0, hx112_1, hx112_2, hx112_3, hx112_4, hx112_5⟩ := at_T33 (Kd.R_reads' HO_3.out).2.2 (ji10) p112 q112
            cases e112
            replace p112 := eq_true p112
            replace q112 := eq_true q112
            have p113 : 0 ≤ ((ji10) : Int) := of_decide_eq_true (by first | (with_reducible assumption) | assumption)
            have q113 : (ji10) < (x3_1.length : Int) := of_decide_eq_true (by first | (with_reducible assumption) | assumption)
            obtain ⟨ad113, e113, hx113_0, hx113_1, hx113_2, hx113_3, hx113_4, hx113_5⟩ := at_T33 (Kd.R_reads' HO_3.out).2.2 (ji10) p113 q113
            obtain rfl : ad112 = ad113 := (by injection e113)
            replace p113 := eq_true p113
            replace q113 := eq_true q113
            refine start_ (n := 33) (S := fun w' => w'.cell? ⟨gb111, 0, none⟩ = some (.int .i64 ((rd_T33 l0 x10_1).f0)) ∧ w'.cell? ⟨gb111, 1, none⟩ = some (.int .i64 ((rd_T33 l0 x10_1).f1)) ∧ w'.cell? ⟨gb111, 2, none⟩ = some (.int .i64 ((rd_T33 l0 x10_1).f2)) ∧ w'.cell? ⟨gb111, 3, none⟩ = some (.bool ((rd_T33 l0 x10_1).f3)) ∧ w'.cell? ⟨gb111, 4, none⟩ = some (.string ((rd_T33 l0 x10_1).f4)) ∧ w'.cell? ⟨gb111, 5, none⟩ = some (.int .u64 ((rd_T33 l0 x10_1).f5)) ∧ w'.cell? (ad112.add (((ji10)).toNat * 6)) = some (.int .i64 ((rd_T33 x3_1 (ji10)).f0)) ∧ w'.cell? ⟨(ad112.add (((ji10)).toNat * 6)).block, (ad112.add (((ji10)).toNat * 6)).off + 1, none⟩ = some (.int .i64 ((rd_T33 x3_1 (ji10)).f1)) ∧ w'.cell? ⟨(ad112.add (((ji10)).toNat * 6)).block, (ad112.add (((ji10)).toNat * 6)).off + 2, none⟩ = some (.int .i64 ((rd_T33 x3_1 (ji10)).f2)) ∧ w'.cell? ⟨(ad112.add (((ji10)).toNat * 6)).block, (ad112.add (((ji10)).toNat * 6)).off + 3, none⟩ = some (.bool ((rd_T33 x3_1 (ji10)).f3)) ∧ w'.cell? ⟨(ad112.add (((ji10)).toNat * 6)).block, (ad112.add (((ji10)).toNat * 6)).off + 4, none⟩ = some (.string ((rd_T33 x3_1 (ji10)).f4)) ∧ w'.cell? ⟨(ad112.add (((ji10)).toNat * 6)).block, (ad112.add (((ji10)).toNat * 6)).off + 5, none⟩ = some (.int .u64 ((rd_T33 x3_1 (ji10)).f5)) ∧ w'.cell? (ad112.add (((ji10)).toNat * 6)) = some (.int .i64 ((rd_T33 x3_1 (ji10)).f0)) ∧ w'.cell? ⟨(ad112.add (((ji10)).toNat * 6)).block, (ad112.add (((ji10)).toNat * 6)).off + 1, none⟩ = some (.int .i64 ((rd_T33 x3_1 (ji10)).f1)) ∧ w'.cell? ⟨(ad112.add (((ji10)).toNat * 6)).block, (ad112.add (((ji10)).toNat * 6)).off + 2, none⟩ = some (.int .i64 ((rd_T33 x3_1 (ji10)).f2)) ∧ w'.cell? ⟨(ad112.add (((ji10)).toNat * 6)).block, (ad112.add (((ji10)).toNat * 6)).off + 3, none⟩ = some (.bool ((rd_T33 x3_1 (ji10)).f3)) ∧ w'.cell? ⟨(ad112.add (((ji10)).toNat * 6)).block, (ad112.add (((ji10)).toNat * 6)).off + 4, none⟩ = some (.string ((rd_T33 x3_1 (ji10)).f4)) ∧ w'.cell? ⟨(ad112.add (((ji10)).toNat * 6)).block, (ad112.add (((ji10)).toNat * 6)).off + 5, none⟩ = some (.int .u64 ((rd_T33 x3_1 (ji10)).f5))) (ds := []) #[false, false, false, false, false, false, false, false, false, false, false, false, false, false, false, false, false, false, false, false, false, false, false, false, false, false, false, false, false, false, false, false, false] (by kernel_rfl) rfl rfl ⟨(blk_cell BK111.out 0).trans rfl, (blk_cell BK111.out 1).trans rfl, (blk_cell BK111.out 2).trans rfl, (blk_cell BK111.out 3).trans rfl, (blk_cell BK111.out 4).trans rfl, (blk_cell BK111.out 5).trans rfl, hx112_0, hx112_1, hx112_2, hx112_3, hx112_4, hx112_5, hx113_0, hx113_1, hx113_2, hx113_3, hx113_4, hx113_5⟩ (fun hHeld => ?_); refine with_tabW span_Normal.tab6 span_Normal.bits6 (fun HT_ HW_ => ?_)
            generalize w27.drew = w28 at HO_3 BK111 HB hx112_0 hx112_1 hx112_2 hx112_3 hx112_4 hx112_5 hx113_0 hx113_1 hx113_2 hx113_3 hx113_4 hx113_5 hHeld ⊢
            refine pure_ (i := 0) (N := some 17) (v := ?_) (a' := ?_) #[true, false, false, false, false, false, false, false, false, false, false, false, false, false, false, false, false, false, false, false, false, false, false, false, false, false, false, false, false, false, false, false, false] rfl rfl (any_of HT_.out (by kernel_rfl)) (fun _ _ _ h => h) (Or.inl ⟨by rfl, ?_⟩) ?_ ?_
            rotate_left
            ·intro w'
             go_simp
             with_reducible rfl
            rotate_left
            ·simp only [Act.put, List.setIfInBounds_toArray, List.set_cons_zero, List.set_cons_succ, i64_w, i32_w]
             rfl
            refine pure_ (i := 1) (N := some 18) (v := ?_) (a' := ?_) #[true, true, false, false, false, false, false, false, false, false, false, false, false, false, false, false, false, false, false, false, false, false, false, false, false, false, false, false, false, false, false, false, false] rfl rfl (any_of HT_.out (by kernel_rfl)) (fun _ _ _ h => h) (Or.inl ⟨by rfl, ?_⟩) ?_ ?_
            rotate_left
            ·intro w'
             go_simp
             with_reducible rfl
            rotate_left
            ·simp only [Act.put, List.setIfInBounds_toArray, List.set_cons_zero, List.set_cons_succ, i64_w, i32_w]
             rfl
            refine pure_ (i := 2) (N := some 19) (v := ?_) (a' := ?_) #[true, true, true, false, false, false, false, false, false, false, false, false, false, false, false, false, false, false, false, false, false, false, false, false, false, false, false, false, false, false, false, false, false] rfl rfl (any_of HT_.out (by kernel_rfl)) (fun _ _ _ h => h) (Or.inl ⟨by rfl, ?_⟩) ?_ ?_
            rotate_left
            ·intro w'
             go_simp
             with_reducible rfl
            rotate_left
            ·simp only [Act.put, List.setIfInBounds_toArray, List.set_cons_zero, List.set_cons_succ, i64_w, i32_w]
             rfl
            refine pure_ (i := 3) (N := some 20) (v := ?_) (a' := ?_) #[true, true, true, true, false, false, false, false, false, false, false, false, false, false, false, false, false, false, false, false, false, false, false, false, false, false, false, false, false, false, false, false, false] rfl rfl (any_of HT_.out (by kernel_rfl)) (fun _ _ _ h => h) (Or.inl ⟨by rfl, ?_⟩) ?_ ?_
            rotate_left
            ·intro w'
             go_simp
             with_reducible rfl
            rotate_left
            ·simp only [Act.put, List.setIfInBounds_toArray, List.set_cons_zero, List.set_cons_succ, i64_w, i32_w]
             rfl
            refine pure_ (i := 4) (N := some 21) (v := ?_) (a' := ?_) #[true, true, true, true, true, false, false, false, false, false, false, false, false, false, false, false, false, false, false, false, false, false, false, false, false, false, false, false, false, false, false, false, false] rfl rfl (any_of HT_.out (by kernel_rfl)) (fun _ _ _ h => h) (Or.inl ⟨by rfl, ?_⟩) ?_ ?_
            rotate_left
            ·intro w'
             go_simp
             with_reducible rfl
            rotate_left
            ·simp only [Act.put, List.setIfInBounds_toArray, List.set_cons_zero, List.set_cons_succ, i64_w, i32_w]
             rfl
            refine pure_ (i := 5) (N := some 22) (v := ?_) (a' := ?_) #[true, true, true, true, true, true, false, false, false, false, false, false, false, false, false, false, false, false, false, false, false, false, false, false, false, false, false, false, false, false, false, false, false] rfl rfl (any_of HT_.out (by kernel_rfl)) (fun _ _ _ h => h) (Or.inl ⟨by rfl, ?_⟩) ?_ ?_
            rotate_left
            ·intro w'
             go_simp
             with_reducible rfl
            rotate_left
            ·simp only [Act.put, List.setIfInBounds_toArray, List.set_cons_zero, List.set_cons_succ, i64_w, i32_w]
             rfl
            refine pure_ (i := 6) (N := some 23) (v := ?_) (a' := ?_) #[true, true, true, true, true, true, true, false, false, false, false, false, false, false, false, false, false, false, false, false, false, false, false, false, false, false, false, false, false, false, false, false, false] rfl rfl (any_of HT_.out (by kernel_rfl)) (fun _ _ _ h => h) (Or.inl ⟨by rfl, ?_⟩) ?_ ?_
            rotate_left
            ·intro w'
             go_simp
             with_reducible rfl
            rotate_left
            ·simp only [Act.put, List.setIfInBounds_toArray, List.set_cons_zero, List.set_cons_succ, i64_w, i32_w]
             rfl
            refine pure_ (i := 8) (N := some 25) (v := ?_) (a' := ?_) #[true, true, true, true, true, true, true, false, true, false, false, false, false, false, false, false, false, false, false, false, false, false, false, false, false, false, false, false, false, false, false, false, false] rfl rfl (any_of HT_.out (by kernel_rfl)) (fun _ _ _ h => h) (Or.inl ⟨by rfl, ?_⟩) ?_ ?_
            rotate_left
            ·intro w'
             go_simp
             with_reducible rfl
            rotate_left
            ·simp only [Act.put, List.setIfInBounds_toArray, List.set_cons_zero, List.set_cons_succ, i64_w, i32_w]
             rfl
            refine take_ (i := 7) (N := some 24) (v := ?_) (a' := ?_) #[true, true, true, true, true, true, true, true, true, false, false, false, false, false, false, false, false, false, false, false, false, false, false, false, false, false, false, false, false, false, false, false, false] rfl rfl (take_ofW HT_.out HW_.out (by kernel_rfl)) (fun _ _ _ h => h) (Or.inl ⟨by rfl, ?_⟩) hHeld ?_ ?_
            rotate_left
            ·rintro w' ⟨s0, s1, s2, s3, s4, s5, s6, s7, s8, s9, s10, s11, s12, s13, s14, s15, s16, s17⟩
             go_simp
             with_reducible rfl
            rotate_left
            ·simp only [Act.put, List.setIfInBounds_toArray, List.set_cons_zero, List.set_cons_succ, i64_w, i32_w]
             rfl
            refine take_ (i := 9) (N := some 26) (v := ?_) (a' := ?_) #[true, true, true, true, true, true, true, true, true, true, false, false, false, false, false, false, false, false, false, false, false, false, false, false, false, false, false, false, false, false, false, false, false] rfl rfl (take_ofW HT_.out HW_.out (by kernel_rfl)) (fun _ _ _ h => h) (Or.inl ⟨by rfl, ?_⟩) hHeld ?_ ?_
            rotate_left
            ·rintro w' ⟨s0, s1, s2, s3, s4, s5, s6, s7, s8, s9, s10, s11, s12, s13, s14, s15, s16, s17⟩
             go_simp
             with_reducible rfl
            rotate_left
            ·simp only [Act.put, List.setIfInBounds_toArray, List.set_cons_zero, List.set_cons_succ, i64_w, i32_w]
             rfl
            refine pure_ (i := 10) (N := some 27) (v := ?_) (a' := ?_) #[true, true, true, true, true, true, true, true, true, true, true, false, false, false, false, false, false, false, false, false, false, false, false, false, false, false, false, false, false, false, false, false, false] rfl rfl (any_of HT_.out (by kernel_rfl)) (fun _ _ _ h => h) (Or.inl ⟨by rfl, ?_⟩) ?_ ?_
            rotate_left
            ·intro w'
             go_simp
             with_reducible rfl
            rotate_left
            ·simp only [Act.put, List.setIfInBounds_toArray, List.set_cons_zero, List.set_cons_succ, i64_w, i32_w]
             rfl
            refine pure_ (i := 11) (N := some 28) (v := ?_) (a' := ?_) #[true, true, true, true, true, true, true, true, true, true, true, true, false, false, false, false, false, false, false, false, false, false, false, false, false, false, false, false, false, false, false, false, false] rfl rfl (any_of HT_.out (by kernel_rfl)) (fun _ _ _ h => h) (Or.inl ⟨by rfl, ?_⟩) ?_ ?_
            rotate_left
            ·intro w'
             go_simp
             with_reducible rfl
            rotate_left
            ·simp only [Act.put, List.setIfInBounds_toArray, List.set_cons_zero, List.set_cons_succ, i64_w, i32_w]
             rfl
            refine pure_ (i := 12) (N := some 29) (v := ?_) (a' := ?_) #[true, true, true, true, true, true, true, true, true, true, true, true, true, false, false, false, false, false, false, false, false, false, false, false, false, false, false, false, false, false, false, false, false] rfl rfl (any_of HT_.out (by kernel_rfl)) (fun _ _ _ h => h) (Or.inl ⟨by rfl, ?_⟩) ?_ ?_
            rotate_left
            ·intro w'
             go_simp
             with_reducible rfl
            rotate_left
            ·simp only [Act.put, List.setIfInBounds_toArray, List.set_cons_zero, List.set_cons_succ, i64_w, i32_w]
             rfl
            refine pure_ (i := 13) (N := some 30) (v := ?_) (a' := ?_) #[true, true, true, true, true, true, true, true, true, true, true, true, true, true, false, false, false, false, false, false, false, false, false, false, false, false, false, false, false, false, false, false, false] rfl rfl (any_of HT_.out (by kernel_rfl)) (fun _ _ _ h => h) (Or.inl ⟨by rfl, ?_⟩) ?_ ?_
            rotate_left
            ·intro w'
             go_simp
             with_reducible rfl
            rotate_left
            ·simp only [Act.put, List.setIfInBounds_toArray, List.set_cons_zero, List.set_cons_succ, i64_w, i32_w]
             rfl
            refine pure_ (i := 14) (N := some 31) (v := ?_) (a' := ?_) #[true, true, true, true, true, true, true, true, true, true, true, true, true, true, true, false, false, false, false, false, false, false, false, false, false, false, false, false, false, false, false, false, false] rfl rfl (any_of HT_.out (by kernel_rfl)) (fun _ _ _ h => h) (Or.inl ⟨by rfl, ?_⟩) ?_ ?_
            rotate_left
            ·intro w'
             go_simp
             with_reducible rfl
            rotate_left
            ·simp only [Act.put, List.setIfInBounds_toArray, List.set_cons_zero, List.set_cons_succ, i64_w, i32_w]
             rfl
            refine pure_ (i := 15) (N := some 32) (v := ?_) (a' := ?_) #[true, true, true, true, true, true, true, true, true, true, true, true, true, true, true, true, false, false, false, false, false, false, false, false, false, false, false, false, false, false, false, false, false] rfl rfl (any_of HT_.out (by kernel_rfl)) (fun _ _ _ h => h) (Or.inl ⟨by rfl, ?_⟩) ?_ ?_
            rotate_left
            ·intro w'
             go_simp
             with_reducible rfl
            rotate_left
            ·simp only [Act.put, List.setIfInBounds_toArray, List.set_cons_zero, List.set_cons_succ, i64_w, i32_w]
             rfl
            refine take_ (i := 16) (N := some 33) (v := ?_) (a' := ?_) #[true, true, true, true, true, true, true, true, true, true, true, true, true, true, true, true, true, false, false, false, false, false, false, false, false, false, false, false, false, false, false, false, false] rfl rfl (take_ofW HT_.out HW_.out (by kernel_rfl)) (fun _ _ _ h => h) (Or.inl ⟨by rfl, ?_⟩) hHeld ?_ ?_
            rotate_left
            ·rintro w' ⟨s0, s1, s2, s3, s4, s5, s6, s7, s8, s9, s10, s11, s12, s13, s14, s15, s16, s17⟩
             go_simp
             with_reducible rfl
            rotate_left
            ·simp only [Act.put, List.setIfInBounds_toArray, List.set_cons_zero, List.set_cons_succ, i64_w, i32_w]
             rfl
            refine take_ (i := 18) (N := some 35) (v := ?_) (a' := ?_) #[true, true, true, true, true, true, true, true, true, true, true, true, true, true, true, true, true, false, true, false, false, false, false, false, false, false, false, false, false, false, false, false, false] rfl rfl (take_ofW HT_.out HW_.out (by kernel_rfl)) (fun _ _ _ h => h) (Or.inl ⟨by rfl, ?_⟩) hHeld ?_ ?_
            rotate_left
            ·rintro w' ⟨s0, s1, s2, s3, s4, s5, s6, s7, s8, s9, s10, s11, s12, s13, s14, s15, s16, s17⟩
             go_simp
             with_reducible rfl
            rotate_left
            ·simp only [Act.put, List.setIfInBounds_toArray, List.set_cons_zero, List.set_cons_succ, i64_w, i32_w]
             rfl
            refine one_ (i := 17) (N := some 34) #[true, true, true, true, true, true, true, true, true, true, true, true, true, true, true, true, true, true, true, false, false, false, false, false, false, false, false, false, false, false, false, false, false] rfl rfl (one_of HT_.out (by kernel_rfl)) (by decide) (fun K hK => ?_)
            refine goes_ Try.func23 (by kernel_rfl) rfl #[.agg #[.int .i64 ((rd_T33 x3_1 (ji10)).f0), .int .i64 ((rd_T33 x3_1 (ji10)).f1), .int .i64 ((rd_T33 x3_1 (ji10)).f2), .bool ((rd_T33 x3_1 (ji10)).f3), .string ((rd_T33 x3_1 (ji10)).f4), .int .u64 ((rd_T33 x3_1 (ji10)).f5)]] (by rfl) rfl rfl (by (try simp only [List.map_toArray, List.map_cons, List.map_nil]); first | done | (simp only [hji10]; rfl) | rfl | (simp only [List.length_drop, List.length_take]; rfl)) ?_
            with_reducible refine (span_bare.calls ((rd_T33 x3_1 (ji10)).f0) ((rd_T33 x3_1 (ji10)).f1) ((rd_T33 x3_1 (ji10)).f2) ((rd_T33 x3_1 (ji10)).f3) ((rd_T33 x3_1 (ji10)).f4) ((rd_T33 x3_1 (ji10)).f5) t114 t115 t116 t117 t118 t119 _ A14.out).mono ?_
            rintro e w29 ⟨rfl, hb⟩
            have HS6_ := (hb.cell (World.block_lt_of_cell? _ _ (hHeld.2.2.2.2.2.2.1))).trans (hHeld.2.2.2.2.2.2.1)
            have HS7_ := (hb.cell (World.block_lt_of_cell? _ _ (hHeld.2.2.2.2.2.2.2.1))).trans (hHeld.2.2.2.2.2.2.2.1)
            have HS8_ := (hb.cell (World.block_lt_of_cell? _ _ (hHeld.2.2.2.2.2.2.2.2.1))).trans (hHeld.2.2.2.2.2.2.2.2.1)
            have HS9_ := (hb.cell (World.block_lt_of_cell? _ _ (hHeld.2.2.2.2.2.2.2.2.2.1))).trans (hHeld.2.2.2.2.2.2.2.2.2.1)
            have HS10_ := (hb.cell (World.block_lt_of_cell? _ _ (hHeld.2.2.2.2.2.2.2.2.2.2.1))).trans (hHeld.2.2.2.2.2.2.2.2.2.2.1)
            have HS11_ := (hb.cell (World.block_lt_of_cell? _ _ (hHeld.2.2.2.2.2.2.2.2.2.2.2.1))).trans (hHeld.2.2.2.2.2.2.2.2.2.2.2.1)
            have HS12_ := (hb.cell (World.block_lt_of_cell? _ _ (hHeld.2.2.2.2.2.2.2.2.2.2.2.2.1))).trans (hHeld.2.2.2.2.2.2.2.2.2.2.2.2.1)
            have HS13_ := (hb.cell (World.block_lt_of_cell? _ _ (hHeld.2.2.2.2.2.2.2.2.2.2.2.2.2.1))).trans (hHeld.2.2.2.2.2.2.2.2.2.2.2.2.2.1)
            have HS14_ := (hb.cell (World.block_lt_of_cell? _ _ (hHeld.2.2.2.2.2.2.2.2.2.2.2.2.2.2.1))).trans (hHeld.2.2.2.2.2.2.2.2.2.2.2.2.2.2.1)
            have HS15_ := (hb.cell (World.block_lt_of_cell? _ _ (hHeld.2.2.2.2.2.2.2.2.2.2.2.2.2.2.2.1))).trans (hHeld.2.2.2.2.2.2.2.2.2.2.2.2.2.2.2.1)
            have HS16_ := (hb.cell (World.block_lt_of_cell? _ _ (hHeld.2.2.2.2.2.2.2.2.2.2.2.2.2.2.2.2.1))).trans (hHeld.2.2.2.2.2.2.2.2.2.2.2.2.2.2.2.2.1)
            have HS17_ := (hb.cell (World.block_lt_of_cell? _ _ (hHeld.2.2.2.2.2.2.2.2.2.2.2.2.2.2.2.2.2))).trans (hHeld.2.2.2.2.2.2.2.2.2.2.2.2.2.2.2.2.2)
            refine ⟨_, rfl, ?_⟩
            have n0_ := Aside0.mk (Kd.R_below (by (with_reducible repeat (first | apply Kd.R_alloc | apply Kd.R_drewN | apply Kd.R_drew)); exact HO_3.out) hb)
            have n1_ := Aside0.mk (blk_below (g := gb111) (o := .cells #[.int .i64 ((rd_T33 l0 x10_1).f0), .int .i64 ((rd_T33 l0 x10_1).f1), .int .i64 ((rd_T33 l0 x10_1).f2), .bool ((rd_T33 l0 x10_1).f3), .string ((rd_T33 l0 x10_1).f4), .int .u64 ((rd_T33 l0 x10_1).f5)] 33 (0, 0)) (by (with_reducible repeat (first | refine blk_drewN ?_ _ | refine blk_drew ?_ | refine blk_alloc ?_ _)); exact BK111.out) hb)
            have n2_ := Aside0.mk (below_step (by repeat (first | (with_reducible first | exact HB.out | apply below_alloc | apply pw_below_drewN | apply below_drew1 | refine below_set ?_ GE111.out) | exact HB.out)) hb)
            clear HO_3
            clear BK111
            clear HB
            have HO_3 := n0_
            have BK111 := n1_
            have HB := n2_
            clear n0_ n1_ n2_
            (try clear hb)
            (try clear hb2)
            (try clear hk)
            (try clear hi)
            refine hK.out _ _ ⟨(blk_cell BK111.out 0).trans rfl, (blk_cell BK111.out 1).trans rfl, (blk_cell BK111.out 2).trans rfl, (blk_cell BK111.out 3).trans rfl, (blk_cell BK111.out 4).trans rfl, (blk_cell BK111.out 5).trans rfl, HS6_, HS7_, HS8_, HS9_, HS10_, HS11_, HS12_, HS13_, HS14_, HS15_, HS16_, HS17_⟩ (fun hHeld => ?_)
            clear hK K
            refine norm_ (a' := ?_) ?_ ?_
            rotate_left
            ·show Act.put _ (some 34) _ = _
             simp only [Act.put, List.setIfInBounds_toArray, List.set_cons_zero, List.set_cons_succ, i64_w, i32_w]
             rfl
            refine one_ (i := 19) (N := some 36) #[true, true, true, true, true, true, true, true, true, true, true, true, true, true, true, true, true, true, true, true, false, false, false, false, false, false, false, false, false, false, false, false, false] rfl rfl (one_of HT_.out (by kernel_rfl)) (by decide) (fun K hK => ?_)
            refine goes_ Try.func23 (by kernel_rfl) rfl #[.agg #[.int .i64 ((rd_T33 l0 x10_1).f0), .int .i64 ((rd_T33 l0 x10_1).f1), .int .i64 ((rd_T33 l0 x10_1).f2), .bool ((rd_T33 l0 x10_1).f3), .string ((rd_T33 l0 x10_1).f4), .int .u64 ((rd_T33 l0 x10_1).f5)]] (by rfl) rfl rfl (by (try simp only [List.map_toArray, List.map_cons, List.map_nil]); first | done | rfl | (simp only [List.length_drop, List.length_take]; rfl)) ?_
            with_reducible refine (span_bare.calls ((rd_T33 l0 x10_1).f0) ((rd_T33 l0 x10_1).f1) ((rd_T33 l0 x10_1).f2) ((rd_T33 l0 x10_1).f3) ((rd_T33 l0 x10_1).f4) ((rd_T33 l0 x10_1).f5) t120 t121 t122 t123 t124 t125 _ A15.out).mono ?_
            rintro e w30 ⟨rfl, hb⟩
            have HS6_ := (hb.cell (World.block_lt_of_cell? _ _ (hHeld.2.2.2.2.2.2.1))).trans (hHeld.2.2.2.2.2.2.1)
            have HS7_ := (hb.cell (World.block_lt_of_cell? _ _ (hHeld.2.2.2.2.2.2.2.1))).trans (hHeld.2.2.2.2.2.2.2.1)
            have HS8_ := (hb.cell (World.block_lt_of_cell? _ _ (hHeld.2.2.2.2.2.2.2.2.1))).trans (hHeld.2.2.2.2.2.2.2.2.1)
            have HS9_ := (hb.cell (World.block_lt_of_cell? _ _ (hHeld.2.2.2.2.2.2.2.2.2.1))).trans (hHeld.2.2.2.2.2.2.2.2.2.1)
            have HS10_ := (hb.cell (World.block_lt_of_cell? _ _ (hHeld.2.2.2.2.2.2.2.2.2.2.1))).trans (hHeld.2.2.2.2.2.2.2.2.2.2.1)
            have HS11_ := (hb.cell (World.block_lt_of_cell? _ _ (hHeld.2.2.2.2.2.2.2.2.2.2.2.1))).trans (hHeld.2.2.2.2.2.2.2.2.2.2.2.1)
            have HS12_ := (hb.cell (World.block_lt_of_cell? _ _ (hHeld.2.2.2.2.2.2.2.2.2.2.2.2.1))).trans (hHeld.2.2.2.2.2.2.2.2.2.2.2.2.1)
            have HS13_ := (hb.cell (World.block_lt_of_cell? _ _ (hHeld.2.2.2.2.2.2.2.2.2.2.2.2.2.1))).trans (hHeld.2.2.2.2.2.2.2.2.2.2.2.2.2.1)
            have HS14_ := (hb.cell (World.block_lt_of_cell? _ _ (hHeld.2.2.2.2.2.2.2.2.2.2.2.2.2.2.1))).trans (hHeld.2.2.2.2.2.2.2.2.2.2.2.2.2.2.1)
            have HS15_ := (hb.cell (World.block_lt_of_cell? _ _ (hHeld.2.2.2.2.2.2.2.2.2.2.2.2.2.2.2.1))).trans (hHeld.2.2.2.2.2.2.2.2.2.2.2.2.2.2.2.1)
            have HS16_ := (hb.cell (World.block_lt_of_cell? _ _ (hHeld.2.2.2.2.2.2.2.2.2.2.2.2.2.2.2.2.1))).trans (hHeld.2.2.2.2.2.2.2.2.2.2.2.2.2.2.2.2.1)
            have HS17_ := (hb.cell (World.block_lt_of_cell? _ _ (hHeld.2.2.2.2.2.2.2.2.2.2.2.2.2.2.2.2.2))).trans (hHeld.2.2.2.2.2.2.2.2.2.2.2.2.2.2.2.2.2)
            refine ⟨_, rfl, ?_⟩
            have n0_ := Aside0.mk (Kd.R_below (by (with_reducible repeat (first | apply Kd.R_alloc | apply Kd.R_drewN | apply Kd.R_drew)); exact HO_3.out) hb)
            have n1_ := Aside0.mk (blk_below (g := gb111) (o := .cells #[.int .i64 ((rd_T33 l0 x10_1).f0), .int .i64 ((rd_T33 l0 x10_1).f1), .int .i64 ((rd_T33 l0 x10_1).f2), .bool ((rd_T33 l0 x10_1).f3), .string ((rd_T33 l0 x10_1).f4), .int .u64 ((rd_T33 l0 x10_1).f5)] 33 (0, 0)) (by (with_reducible repeat (first | refine blk_drewN ?_ _ | refine blk_drew ?_ | refine blk_alloc ?_ _)); exact BK111.out) hb)
            have n2_ := Aside0.mk (below_step (by repeat (first | (with_reducible first | exact HB.out | apply below_alloc | apply pw_below_drewN | apply below_drew1 | refine below_set ?_ GE111.out) | exact HB.out)) hb)
            clear HO_3
            clear BK111
            clear HB
            have HO_3 := n0_
            have BK111 := n1_
            have HB := n2_
            clear n0_ n1_ n2_
            (try clear hb)
            (try clear hb2)
            (try clear hk)
            (try clear hi)
            refine hK.out _ _ ⟨(blk_cell BK111.out 0).trans rfl, (blk_cell BK111.out 1).trans rfl, (blk_cell BK111.out 2).trans rfl, (blk_cell BK111.out 3).trans rfl, (blk_cell BK111.out 4).trans rfl, (blk_cell BK111.out 5).trans rfl, HS6_, HS7_, HS8_, HS9_, HS10_, HS11_, HS12_, HS13_, HS14_, HS15_, HS16_, HS17_⟩ (fun hHeld => ?_)
            clear hK K
            refine norm_ (a' := ?_) ?_ ?_
            rotate_left
            ·show Act.put _ (some 36) _ = _
             simp only [Act.put, List.setIfInBounds_toArray, List.set_cons_zero, List.set_cons_succ, i64_w, i32_w]
             rfl
            refine pure_ (i := 20) (N := some 37) (v := ?_) (a' := ?_) #[true, true, true, true, true, true, true, true, true, true, true, true, true, true, true, true, true, true, true, true, true, false, false, false, false, false, false, false, false, false, false, false, false] rfl rfl (any_of HT_.out (by kernel_rfl)) (fun _ _ _ h => h) (Or.inl ⟨by rfl, ?_⟩) ?_ ?_
            rotate_left
            ·intro w'
             go_simp
             with_reducible rfl
            rotate_left
            ·simp only [Act.put, List.setIfInBounds_toArray, List.set_cons_zero, List.set_cons_succ, i64_w, i32_w]
             rfl
            refine pure_ (i := 21) (N := some 38) (v := ?_) (a' := ?_) #[true, true, true, true, true, true, true, true, true, true, true, true, true, true, true, true, true, true, true, true, true, true, false, false, false, false, false, false, false, false, false, false, false] rfl rfl (any_of HT_.out (by kernel_rfl)) (fun _ _ _ h => h) (Or.inl ⟨by rfl, ?_⟩) ?_ ?_
            rotate_left
            ·intro w'
             go_simp
             with_reducible rfl
            rotate_left
            ·simp only [Act.put, List.setIfInBounds_toArray, List.set_cons_zero, List.set_cons_succ, i64_w, i32_w]
             rfl
            refine pure_ (i := 22) (N := some 39) (v := ?_) (a' := ?_) #[true, true, true, true, true, true, true, true, true, true, true, true, true, true, true, true, true, true, true, true, true, true, true, false, false, false, false, false, false, false, false, false, false] rfl rfl (any_of HT_.out (by kernel_rfl)) (fun _ _ _ h => h) (Or.inl ⟨by rfl, ?_⟩) ?_ ?_
            rotate_left
            ·intro w'
             go_simp
             with_reducible rfl
            rotate_left
            ·simp only [Act.put, List.setIfInBounds_toArray, List.set_cons_zero, List.set_cons_succ, i64_w, i32_w]
             rfl
            refine pure_ (i := 23) (N := some 40) (v := undef) (a' := ?_) #[true, true, true, true, true, true, true, true, true, true, true, true, true, true, true, true, true, true, true, true, true, true, true, true, false, false, false, false, false, false, false, false, false] rfl rfl (any_of HT_.out (by kernel_rfl)) (fun _ _ _ h => h) (Or.inr ⟨by rfl, rfl⟩) ?_ ?_
            rotate_left
            ·simp only [Act.put, List.setIfInBounds_toArray, List.set_cons_zero, List.set_cons_succ, i64_w, i32_w]
             rfl
            refine pure_ (i := 24) (N := some 41) (v := undef) (a' := ?_) #[true, true, true, true, true, true, true, true, true, true, true, true, true, true, true, true, true, true, true, true, true, true, true, true, true, false, false, false, false, false, false, false, false] rfl rfl (any_of HT_.out (by kernel_rfl)) (fun _ _ _ h => h) (Or.inr ⟨by rfl, rfl⟩) ?_ ?_
            rotate_left
            ·simp only [Act.put, List.setIfInBounds_toArray, List.set_cons_zero, List.set_cons_succ, i64_w, i32_w]
             rfl
            refine pure_ (i := 25) (N := some 42) (v := undef) (a' := ?_) #[true, true, true, true, true, true, true, true, true, true, true, true, true, true, true, true, true, true, true, true, true, true, true, true, true, true, false, false, false, false, false, false, false] rfl rfl (any_of HT_.out (by kernel_rfl)) (fun _ _ _ h => h) (Or.inr ⟨by rfl, rfl⟩) ?_ ?_
            rotate_left
            ·simp only [Act.put, List.setIfInBounds_toArray, List.set_cons_zero, List.set_cons_succ, i64_w, i32_w]
             rfl
            refine pure_ (i := 26) (N := some 43) (v := ?_) (a' := ?_) #[true, true, true, true, true, true, true, true, true, true, true, true, true, true, true, true, true, true, true, true, true, true, true, true, true, true, true, false, false, false, false, false, false] rfl rfl (any_of HT_.out (by kernel_rfl)) (fun _ _ _ h => h) (Or.inl ⟨by rfl, ?_⟩) ?_ ?_
            rotate_left
            ·intro w'
             go_simp
             with_reducible rfl
            rotate_left
            ·simp only [Act.put, List.setIfInBounds_toArray, List.set_cons_zero, List.set_cons_succ, i64_w, i32_w]
             rfl
            refine pure_ (i := 27) (N := some 44) (v := ?_) (a' := ?_) #[true, true, true, true, true, true, true, true, true, true, true, true, true, true, true, true, true, true, true, true, true, true, true, true, true, true, true, true, false, false, false, false, false] rfl rfl (any_of HT_.out (by kernel_rfl)) (fun _ _ _ h => h) (Or.inl ⟨by rfl, ?_⟩) ?_ ?_
            rotate_left
            ·intro w'
             go_simp
             with_reducible rfl
            rotate_left
            ·simp only [Act.put, List.setIfInBounds_toArray, List.set_cons_zero, List.set_cons_succ, i64_w, i32_w]
             rfl
            refine pure_ (i := 28) (N := some 45) (v := undef) (a' := ?_) #[true, true, true, true, true, true, true, true, true, true, true, true, true, true, true, true, true, true, true, true, true, true, true, true, true, true, true, true, true, false, false, false, false] rfl rfl (any_of HT_.out (by kernel_rfl)) (fun _ _ _ h => h) (Or.inr ⟨by rfl, rfl⟩) ?_ ?_
            rotate_left
            ·simp only [Act.put, List.setIfInBounds_toArray, List.set_cons_zero, List.set_cons_succ, i64_w, i32_w]
             rfl
            refine pure_ (i := 29) (N := some 46) (v := undef) (a' := ?_) #[true, true, true, true, true, true, true, true, true, true, true, true, true, true, true, true, true, true, true, true, true, true, true, true, true, true, true, true, true, true, false, false, false] rfl rfl (any_of HT_.out (by kernel_rfl)) (fun _ _ _ h => h) (Or.inr ⟨by rfl, rfl⟩) ?_ ?_
            rotate_left
            ·simp only [Act.put, List.setIfInBounds_toArray, List.set_cons_zero, List.set_cons_succ, i64_w, i32_w]
             rfl
            refine pure_ (i := 30) (N := some 47) (v := undef) (a' := ?_) #[true, true, true, true, true, true, true, true, true, true, true, true, true, true, true, true, true, true, true, true, true, true, true, true, true, true, true, true, true, true, true, false, false] rfl rfl (any_of HT_.out (by kernel_rfl)) (fun _ _ _ h => h) (Or.inr ⟨by rfl, rfl⟩) ?_ ?_
            rotate_left
            ·simp only [Act.put, List.setIfInBounds_toArray, List.set_cons_zero, List.set_cons_succ, i64_w, i32_w]
             rfl
            refine pure_ (i := 31) (N := some 48) (v := ?_) (a' := ?_) #[true, true, true, true, true, true, true, true, true, true, true, true, true, true, true, true, true, true, true, true, true, true, true, true, true, true, true, true, true, true, true, true, false] rfl rfl (any_of HT_.out (by kernel_rfl)) (fun _ _ _ h => h) (Or.inl ⟨by rfl, ?_⟩) ?_ ?_
            rotate_left
            ·intro w'
             go_simp
             with_reducible rfl
            rotate_left
            ·simp only [Act.put, List.setIfInBounds_toArray, List.set_cons_zero, List.set_cons_succ, i64_w, i32_w]
             rfl
            refine pure_ (i := 32) (N := some 7) (v := ?_) (a' := ?_) #[true, true, true, true, true, true, true, true, true, true, true, true, true, true, true, true, true, true, true, true, true, true, true, true, true, true, true, true, true, true, true, true, true] rfl rfl (any_of HT_.out (by kernel_rfl)) (fun _ _ _ h => h) (Or.inl ⟨by rfl, ?_⟩) ?_ ?_
            rotate_left
            ·intro w'
             go_simp
             with_reducible rfl
            rotate_left
            ·simp only [Act.put, List.setIfInBounds_toArray, List.set_cons_zero, List.set_cons_succ, i64_w, i32_w]
             rfl
            refine done_ (done_of HT_.out (by kernel_rfl)) ?_
            try go_wp2
            (try subst hji10)
            go_meet
            case rel => exact ⟨_, (false), (by first | rfl | (simp; done) | (simp [*]; done)), H', ⟨by have := HK1.out; first | omega | exact Nat.le_refl _⟩, ⟨by (with_reducible repeat (first | apply Kd.R_alloc | apply Kd.R_drewN | apply Kd.R_drew)); exact HO_3.out⟩, ⟨by (with_reducible repeat (first | refine blk_drewN ?_ _ | refine blk_drew ?_ | refine blk_alloc ?_ _)); exact BK111.out⟩, ⟨by repeat (first | (with_reducible first | exact HB.out | apply below_alloc | apply pw_below_drewN | apply below_drew1 | refine below_set ?_ GE111.out) | exact HB.out)⟩⟩
          ·rw [if_neg c13] at H
           have c13b0 : (((rd_T33 x3_1 (ji10)).f1) == ((rd_T33 l0 x10_1).f0)) = false := beq_eq_false_iff_ne.mpr c13
           have c13b1 : (((rd_T33 x3_1 (ji10)).f1) != ((rd_T33 l0 x10_1).f0)) = true := bne_iff_ne.mpr c13
           have H' := Aside0.mk H
           clear H
           try go_wp2
           have n0_ : Aside0 (Kd.R k33 33 ((((((w6.setCell ⟨gb111, 0, none⟩ (.int .i64 ((rd_T33 l0 x10_1).f0))).setCell ⟨gb111, 1, none⟩ (.int .i64 ((rd_T33 l0 x10_1).f1))).setCell ⟨gb111, 2, none⟩ (.int .i64 ((rd_T33 l0 x10_1).f2))).setCell ⟨gb111, 3, none⟩ (.bool ((rd_T33 l0 x10_1).f3))).setCell ⟨gb111, 4, none⟩ (.string ((rd_T33 l0 x10_1).f4))).setCell ⟨gb111, 5, none⟩ (.int .u64 ((rd_T33 l0 x10_1).f5))) w.heap.size (fun k_ => k_ ≠ gb111) (.slice Ao8 x3_1.length co8) x3_1) := ⟨by (with_reducible repeat (first | apply Kd.R_alloc | apply Kd.R_drewN | apply Kd.R_drew)); exact Kd.R_mono (Kd.R_far (p := ⟨gb111, 5, none⟩) (Kd.R_far (p := ⟨gb111, 4, none⟩) (Kd.R_far (p := ⟨gb111, 3, none⟩) (Kd.R_far (p := ⟨gb111, 2, none⟩) (Kd.R_far (p := ⟨gb111, 1, none⟩) (Kd.R_far (p := ⟨gb111, 0, none⟩) (Kd.R_mono HO_3.out (fun k_ hk => (⟨hk, hk.2⟩ : _ ∧ k_ ≠ gb111))) (fun _ hk => hk.2) (.int .i64 ((rd_T33 l0 x10_1).f0))) (fun _ hk => hk.2) (.int .i64 ((rd_T33 l0 x10_1).f1))) (fun _ hk => hk.2) (.int .i64 ((rd_T33 l0 x10_1).f2))) (fun _ hk => hk.2) (.bool ((rd_T33 l0 x10_1).f3))) (fun _ hk => hk.2) (.string ((rd_T33 l0 x10_1).f4))) (fun _ hk => hk.2) (.int .u64 ((rd_T33 l0 x10_1).f5))) (fun _ hk => hk.1.2)⟩
           have n1_ : Aside0 (((((((w6.setCell ⟨gb111, 0, none⟩ (.int .i64 ((rd_T33 l0 x10_1).f0))).setCell ⟨gb111, 1, none⟩ (.int .i64 ((rd_T33 l0 x10_1).f1))).setCell ⟨gb111, 2, none⟩ (.int .i64 ((rd_T33 l0 x10_1).f2))).setCell ⟨gb111, 3, none⟩ (.bool ((rd_T33 l0 x10_1).f3))).setCell ⟨gb111, 4, none⟩ (.string ((rd_T33 l0 x10_1).f4))).setCell ⟨gb111, 5, none⟩ (.int .u64 ((rd_T33 l0 x10_1).f5))).heap[gb111]? = some (.cells #[.int .i64 ((rd_T33 l0 x10_1).f0), .int .i64 ((rd_T33 l0 x10_1).f1), .int .i64 ((rd_T33 l0 x10_1).f2), .bool ((rd_T33 l0 x10_1).f3), .string ((rd_T33 l0 x10_1).f4), .int .u64 ((rd_T33 l0 x10_1).f5)] 33 (0, 0))) := ⟨by (with_reducible repeat (first | refine blk_drewN ?_ _ | refine blk_drew ?_ | refine blk_alloc ?_ _)); refine blk_put (cs := #[.int .i64 ((rd_T33 l0 x10_1).f0), .int .i64 ((rd_T33 l0 x10_1).f1), .int .i64 ((rd_T33 l0 x10_1).f2), .bool ((rd_T33 l0 x10_1).f3), .string ((rd_T33 l0 x10_1).f4), .int .u64 0]) ?_ 5 _ rfl; (with_reducible repeat (first | refine blk_drewN ?_ _ | refine blk_drew ?_ | refine blk_alloc ?_ _)); refine blk_put (cs := #[.int .i64 ((rd_T33 l0 x10_1).f0), .int .i64 ((rd_T33 l0 x10_1).f1), .int .i64 ((rd_T33 l0 x10_1).f2), .bool ((rd_T33 l0 x10_1).f3), .string (⟨#[]⟩ : ByteArray), .int .u64 0]) ?_ 4 _ rfl; (with_reducible repeat (first | refine blk_drewN ?_ _ | refine blk_drew ?_ | refine blk_alloc ?_ _)); refine blk_put (cs := #[.int .i64 ((rd_T33 l0 x10_1).f0), .int .i64 ((rd_T33 l0 x10_1).f1), .int .i64 ((rd_T33 l0 x10_1).f2), .bool false, .string (⟨#[]⟩ : ByteArray), .int .u64 0]) ?_ 3 _ rfl; (with_reducible repeat (first | refine blk_drewN ?_ _ | refine blk_drew ?_ | refine blk_alloc ?_ _)); refine blk_put (cs := #[.int .i64 ((rd_T33 l0 x10_1).f0), .int .i64 ((rd_T33 l0 x10_1).f1), .int .i64 0, .bool false, .string (⟨#[]⟩ : ByteArray), .int .u64 0]) ?_ 2 _ rfl; (with_reducible repeat (first | refine blk_drewN ?_ _ | refine blk_drew ?_ | refine blk_alloc ?_ _)); refine blk_put (cs := #[.int .i64 ((rd_T33 l0 x10_1).f0), .int .i64 0, .int .i64 0, .bool false, .string (⟨#[]⟩ : ByteArray), .int .u64 0]) ?_ 1 _ rfl; (with_reducible repeat (first | refine blk_drewN ?_ _ | refine blk_drew ?_ | refine blk_alloc ?_ _)); refine blk_put (cs := #[.int .i64 0, .int .i64 0, .int .i64 0, .bool false, .string (⟨#[]⟩ : ByteArray), .int .u64 0]) ?_ 0 _ rfl; (with_reducible repeat (first | refine blk_drewN ?_ _ | refine blk_drew ?_ | refine blk_alloc ?_ _)); exact BK111.out⟩
           have n2_ : Aside0 (Below w.heap.size w ((((((w6.setCell ⟨gb111, 0, none⟩ (.int .i64 ((rd_T33 l0 x10_1).f0))).setCell ⟨gb111, 1, none⟩ (.int .i64 ((rd_T33 l0 x10_1).f1))).setCell ⟨gb111, 2, none⟩ (.int .i64 ((rd_T33 l0 x10_1).f2))).setCell ⟨gb111, 3, none⟩ (.bool ((rd_T33 l0 x10_1).f3))).setCell ⟨gb111, 4, none⟩ (.string ((rd_T33 l0 x10_1).f4))).setCell ⟨gb111, 5, none⟩ (.int .u64 ((rd_T33 l0 x10_1).f5)))) := ⟨by repeat (first | (with_reducible first | exact HB.out | apply below_alloc | apply pw_below_drewN | apply below_drew1 | refine below_set ?_ GE111.out) | exact HB.out)⟩
           (try clear HO_3)
           (try clear BK111)
           (try clear HB)
           generalize ((((((w6.setCell ⟨gb111, 0, none⟩ (.int .i64 ((rd_T33 l0 x10_1).f0))).setCell ⟨gb111, 1, none⟩ (.int .i64 ((rd_T33 l0 x10_1).f1))).setCell ⟨gb111, 2, none⟩ (.int .i64 ((rd_T33 l0 x10_1).f2))).setCell ⟨gb111, 3, none⟩ (.bool ((rd_T33 l0 x10_1).f3))).setCell ⟨gb111, 4, none⟩ (.string ((rd_T33 l0 x10_1).f4))).setCell ⟨gb111, 5, none⟩ (.int .u64 ((rd_T33 l0 x10_1).f5))) = w31 at n0_ n1_ n2_ ⊢
           have HO_3 := n0_
           have BK111 := n1_
           have HB := n2_
           clear n0_ n1_ n2_
           have n0_ := Aside0.mk (Kd.R_drew HO_3.out)
           have n1_ := Aside0.mk (blk_drew BK111.out)
           have n2_ := Aside0.mk (below_drew1 HB.out)
           clear HO_3
           clear BK111
           clear HB
           have HO_3 := n0_
           have BK111 := n1_
           have HB := n2_
           clear n0_ n1_ n2_
           have p112 : 0 ≤ ((ji10) : Int) := of_decide_eq_true (by first | (with_reducible assumption) | assumption)
           have q112 : (ji10) < (x3_1.length : Int) := of_decide_eq_true (by first | (with_reducible assumption) | assumption)
           obtain ⟨ad112, e112, hx112_0, hx112_1, hx112_2, hx112_3, hx112_4, hx112_5⟩ := at_T33 (Kd.R_reads' HO_3.out).2.2 (ji10) p112 q112
           cases e112
           replace p112 := eq_true p112
           replace q112 := eq_true q112
           refine start_ (n := 33) (S := fun w' => w'.cell? ⟨gb111, 0, none⟩ = some (.int .i64 ((rd_T33 l0 x10_1).f0)) ∧ w'.cell? ⟨gb111, 1, none⟩ = some (.int .i64 ((rd_T33 l0 x10_1).f1)) ∧ w'.cell? ⟨gb111, 2, none⟩ = some (.int .i64 ((rd_T33 l0 x10_1).f2)) ∧ w'.cell? ⟨gb111, 3, none⟩ = some (.bool ((rd_T33 l0 x10_1).f3)) ∧ w'.cell? ⟨gb111, 4, none⟩ = some (.string ((rd_T33 l0 x10_1).f4)) ∧ w'.cell? ⟨gb111, 5, none⟩ = some (.int .u64 ((rd_T33 l0 x10_1).f5)) ∧ w'.cell? (ad112.add (((ji10)).toNat * 6)) = some (.int .i64 ((rd_T33 x3_1 (ji10)).f0)) ∧ w'.cell? ⟨(ad112.add (((ji10)).toNat * 6)).block, (ad112.add (((ji10)).toNat * 6)).off + 1, none⟩ = some (.int .i64 ((rd_T33 x3_1 (ji10)).f1)) ∧ w'.cell? ⟨(ad112.add (((ji10)).toNat * 6)).block, (ad112.add (((ji10)).toNat * 6)).off + 2, none⟩ = some (.int .i64 ((rd_T33 x3_1 (ji10)).f2)) ∧ w'.cell? ⟨(ad112.add (((ji10)).toNat * 6)).block, (ad112.add (((ji10)).toNat * 6)).off + 3, none⟩ = some (.bool ((rd_T33 x3_1 (ji10)).f3)) ∧ w'.cell? ⟨(ad112.add (((ji10)).toNat * 6)).block, (ad112.add (((ji10)).toNat * 6)).off + 4, none⟩ = some (.string ((rd_T33 x3_1 (ji10)).f4)) ∧ w'.cell? ⟨(ad112.add (((ji10)).toNat * 6)).block, (ad112.add (((ji10)).toNat * 6)).off + 5, none⟩ = some (.int .u64 ((rd_T33 x3_1 (ji10)).f5))) (ds := []) #[false, false, false, false, false, false, false, false, false, false, false, false, false, false, false, false, false, false, false, false, false, false, false, false, false, false, false, false, false, false, false, false, false] (by kernel_rfl) rfl rfl ⟨(blk_cell BK111.out 0).trans rfl, (blk_cell BK111.out 1).trans rfl, (blk_cell BK111.out 2).trans rfl, (blk_cell BK111.out 3).trans rfl, (blk_cell BK111.out 4).trans rfl, (blk_cell BK111.out 5).trans rfl, hx112_0, hx112_1, hx112_2, hx112_3, hx112_4, hx112_5⟩ (fun hHeld => ?_); refine with_tabW span_Normal.tab6 span_Normal.bits6 (fun HT_ HW_ => ?_)
           generalize w31.drew = w32 at HO_3 BK111 HB hx112_0 hx112_1 hx112_2 hx112_3 hx112_4 hx112_5 hHeld ⊢
           refine pure_ (i := 0) (N := some 17) (v := ?_) (a' := ?_) #[true, false, false, false, false, false, false, false, false, false, false, false, false, false, false, false, false, false, false, false, false, false, false, false, false, false, false, false, false, false, false, false, false] rfl rfl (any_of HT_.out (by kernel_rfl)) (fun _ _ _ h => h) (Or.inl ⟨by rfl, ?_⟩) ?_ ?_
           rotate_left
           ·intro w'
            go_simp
            with_reducible rfl
           rotate_left
           ·simp only [Act.put, List.setIfInBounds_toArray, List.set_cons_zero, List.set_cons_succ, i64_w, i32_w]
            rfl
           refine pure_ (i := 1) (N := some 18) (v := ?_) (a' := ?_) #[true, true, false, false, false, false, false, false, false, false, false, false, false, false, false, false, false, false, false, false, false, false, false, false, false, false, false, false, false, false, false, false, false] rfl rfl (any_of HT_.out (by kernel_rfl)) (fun _ _ _ h => h) (Or.inl ⟨by rfl, ?_⟩) ?_ ?_
           rotate_left
           ·intro w'
            go_simp
            with_reducible rfl
           rotate_left
           ·simp only [Act.put, List.setIfInBounds_toArray, List.set_cons_zero, List.set_cons_succ, i64_w, i32_w]
            rfl
           refine pure_ (i := 2) (N := some 19) (v := ?_) (a' := ?_) #[true, true, true, false, false, false, false, false, false, false, false, false, false, false, false, false, false, false, false, false, false, false, false, false, false, false, false, false, false, false, false, false, false] rfl rfl (any_of HT_.out (by kernel_rfl)) (fun _ _ _ h => h) (Or.inl ⟨by rfl, ?_⟩) ?_ ?_
           rotate_left
           ·intro w'
            go_simp
            with_reducible rfl
           rotate_left
           ·simp only [Act.put, List.setIfInBounds_toArray, List.set_cons_zero, List.set_cons_succ, i64_w, i32_w]
            rfl
           refine pure_ (i := 3) (N := some 20) (v := ?_) (a' := ?_) #[true, true, true, true, false, false, false, false, false, false, false, false, false, false, false, false, false, false, false, false, false, false, false, false, false, false, false, false, false, false, false, false, false] rfl rfl (any_of HT_.out (by kernel_rfl)) (fun _ _ _ h => h) (Or.inl ⟨by rfl, ?_⟩) ?_ ?_
           rotate_left
           ·intro w'
            go_simp
            with_reducible rfl
           rotate_left
           ·simp only [Act.put, List.setIfInBounds_toArray, List.set_cons_zero, List.set_cons_succ, i64_w, i32_w]
            rfl
           refine pure_ (i := 4) (N := some 21) (v := ?_) (a' := ?_) #[true, true, true, true, true, false, false, false, false, false, false, false, false, false, false, false, false, false, false, false, false, false, false, false, false, false, false, false, false, false, false, false, false] rfl rfl (any_of HT_.out (by kernel_rfl)) (fun _ _ _ h => h) (Or.inl ⟨by rfl, ?_⟩) ?_ ?_
           rotate_left
           ·intro w'
            go_simp
            with_reducible rfl
           rotate_left
           ·simp only [Act.put, List.setIfInBounds_toArray, List.set_cons_zero, List.set_cons_succ, i64_w, i32_w]
            rfl
           refine pure_ (i := 5) (N := some 22) (v := ?_) (a' := ?_) #[true, true, true, true, true, true, false, false, false, false, false, false, false, false, false, false, false, false, false, false, false, false, false, false, false, false, false, false, false, false, false, false, false] rfl rfl (any_of HT_.out (by kernel_rfl)) (fun _ _ _ h => h) (Or.inl ⟨by rfl, ?_⟩) ?_ ?_
           rotate_left
           ·intro w'
            go_simp
            with_reducible rfl
           rotate_left
           ·simp only [Act.put, List.setIfInBounds_toArray, List.set_cons_zero, List.set_cons_succ, i64_w, i32_w]
            rfl
           refine pure_ (i := 6) (N := some 23) (v := ?_) (a' := ?_) #[true, true, true, true, true, true, true, false, false, false, false, false, false, false, false, false, false, false, false, false, false, false, false, false, false, false, false, false, false, false, false, false, false] rfl rfl (any_of HT_.out (by kernel_rfl)) (fun _ _ _ h => h) (Or.inl ⟨by rfl, ?_⟩) ?_ ?_
           rotate_left
           ·intro w'
            go_simp
            with_reducible rfl
           rotate_left
           ·simp only [Act.put, List.setIfInBounds_toArray, List.set_cons_zero, List.set_cons_succ, i64_w, i32_w]
            rfl
           refine pure_ (i := 8) (N := some 25) (v := ?_) (a' := ?_) #[true, true, true, true, true, true, true, false, true, false, false, false, false, false, false, false, false, false, false, false, false, false, false, false, false, false, false, false, false, false, false, false, false] rfl rfl (any_of HT_.out (by kernel_rfl)) (fun _ _ _ h => h) (Or.inl ⟨by rfl, ?_⟩) ?_ ?_
           rotate_left
           ·intro w'
            go_simp
            with_reducible rfl
           rotate_left
           ·simp only [Act.put, List.setIfInBounds_toArray, List.set_cons_zero, List.set_cons_succ, i64_w, i32_w]
            rfl
           refine take_ (i := 7) (N := some 24) (v := ?_) (a' := ?_) #[true, true, true, true, true, true, true, true, true, false, false, false, false, false, false, false, false, false, false, false, false, false, false, false, false, false, false, false, false, false, false, false, false] rfl rfl (take_ofW HT_.out HW_.out (by kernel_rfl)) (fun _ _ _ h => h) (Or.inl ⟨by rfl, ?_⟩) hHeld ?_ ?_
           rotate_left
           ·rintro w' ⟨s0, s1, s2, s3, s4, s5, s6, s7, s8, s9, s10, s11⟩
            go_simp
            with_reducible rfl
           rotate_left
           ·simp only [Act.put, List.setIfInBounds_toArray, List.set_cons_zero, List.set_cons_succ, i64_w, i32_w]
            rfl
           refine take_ (i := 9) (N := some 26) (v := ?_) (a' := ?_) #[true, true, true, true, true, true, true, true, true, true, false, false, false, false, false, false, false, false, false, false, false, false, false, false, false, false, false, false, false, false, false, false, false] rfl rfl (take_ofW HT_.out HW_.out (by kernel_rfl)) (fun _ _ _ h => h) (Or.inl ⟨by rfl, ?_⟩) hHeld ?_ ?_
           rotate_left
           ·rintro w' ⟨s0, s1, s2, s3, s4, s5, s6, s7, s8, s9, s10, s11⟩
            go_simp
            with_reducible rfl
           rotate_left
           ·simp only [Act.put, List.setIfInBounds_toArray, List.set_cons_zero, List.set_cons_succ, i64_w, i32_w]
            rfl
           refine pure_ (i := 10) (N := some 27) (v := ?_) (a' := ?_) #[true, true, true, true, true, true, true, true, true, true, true, false, false, false, false, false, false, false, false, false, false, false, false, false, false, false, false, false, false, false, false, false, false] rfl rfl (any_of HT_.out (by kernel_rfl)) (fun _ _ _ h => h) (Or.inl ⟨by rfl, ?_⟩) ?_ ?_
           rotate_left
           ·intro w'
            go_simp
            with_reducible rfl
           rotate_left
           ·simp only [Act.put, List.setIfInBounds_toArray, List.set_cons_zero, List.set_cons_succ, i64_w, i32_w]
            rfl
           refine pure_ (i := 11) (N := some 28) (v := ?_) (a' := ?_) #[true, true, true, true, true, true, true, true, true, true, true, true, false, false, false, false, false, false, false, false, false, false, false, false, false, false, false, false, false, false, false, false, false] rfl rfl (any_of HT_.out (by kernel_rfl)) (fun _ _ _ h => h) (Or.inl ⟨by rfl, ?_⟩) ?_ ?_
           rotate_left
           ·intro w'
            go_simp
            with_reducible rfl
           rotate_left
           ·simp only [Act.put, List.setIfInBounds_toArray, List.set_cons_zero, List.set_cons_succ, i64_w, i32_w]
            rfl
           refine pure_ (i := 12) (N := some 29) (v := ?_) (a' := ?_) #[true, true, true, true, true, true, true, true, true, true, true, true, true, false, false, false, false, false, false, false, false, false, false, false, false, false, false, false, false, false, false, false, false] rfl rfl (any_of HT_.out (by kernel_rfl)) (fun _ _ _ h => h) (Or.inl ⟨by rfl, ?_⟩) ?_ ?_
           rotate_left
           ·intro w'
            go_simp
            with_reducible rfl
           rotate_left
           ·simp only [Act.put, List.setIfInBounds_toArray, List.set_cons_zero, List.set_cons_succ, i64_w, i32_w]
            rfl
           refine pure_ (i := 13) (N := some 30) (v := undef) (a' := ?_) #[true, true, true, true, true, true, true, true, true, true, true, true, true, true, false, false, false, false, false, false, false, false, false, false, false, false, false, false, false, false, false, false, false] rfl rfl (any_of HT_.out (by kernel_rfl)) (fun _ _ _ h => h) (Or.inr ⟨by rfl, rfl⟩) ?_ ?_
           rotate_left
           ·simp only [Act.put, List.setIfInBounds_toArray, List.set_cons_zero, List.set_cons_succ, i64_w, i32_w]
            rfl
           refine pure_ (i := 14) (N := some 31) (v := undef) (a' := ?_) #[true, true, true, true, true, true, true, true, true, true, true, true, true, true, true, false, false, false, false, false, false, false, false, false, false, false, false, false, false, false, false, false, false] rfl rfl (any_of HT_.out (by kernel_rfl)) (fun _ _ _ h => h) (Or.inr ⟨by rfl, rfl⟩) ?_ ?_
           rotate_left
           ·simp only [Act.put, List.setIfInBounds_toArray, List.set_cons_zero, List.set_cons_succ, i64_w, i32_w]
            rfl
           refine pure_ (i := 15) (N := some 32) (v := undef) (a' := ?_) #[true, true, true, true, true, true, true, true, true, true, true, true, true, true, true, true, false, false, false, false, false, false, false, false, false, false, false, false, false, false, false, false, false] rfl rfl (any_of HT_.out (by kernel_rfl)) (fun _ _ _ h => h) (Or.inr ⟨by rfl, rfl⟩) ?_ ?_
           rotate_left
           ·simp only [Act.put, List.setIfInBounds_toArray, List.set_cons_zero, List.set_cons_succ, i64_w, i32_w]
            rfl
           refine pure_ (i := 16) (N := some 33) (v := undef) (a' := ?_) #[true, true, true, true, true, true, true, true, true, true, true, true, true, true, true, true, true, false, false, false, false, false, false, false, false, false, false, false, false, false, false, false, false] rfl rfl (any_of HT_.out (by kernel_rfl)) (fun _ _ _ h => h) (Or.inr ⟨by rfl, rfl⟩) ?_ ?_
           rotate_left
           ·simp only [Act.put, List.setIfInBounds_toArray, List.set_cons_zero, List.set_cons_succ, i64_w, i32_w]
            rfl
           refine pure_ (i := 17) (N := some 34) (v := undef) (a' := ?_) #[true, true, true, true, true, true, true, true, true, true, true, true, true, true, true, true, true, true, false, false, false, false, false, false, false, false, false, false, false, false, false, false, false] rfl rfl (any_of HT_.out (by kernel_rfl)) (fun _ _ _ h => h) (Or.inr ⟨by rfl, rfl⟩) ?_ ?_
           rotate_left
           ·simp only [Act.put, List.setIfInBounds_toArray, List.set_cons_zero, List.set_cons_succ, i64_w, i32_w]
            rfl
           refine pure_ (i := 18) (N := some 35) (v := undef) (a' := ?_) #[true, true, true, true, true, true, true, true, true, true, true, true, true, true, true, true, true, true, true, false, false, false, false, false, false, false, false, false, false, false, false, false, false] rfl rfl (any_of HT_.out (by kernel_rfl)) (fun _ _ _ h => h) (Or.inr ⟨by rfl, rfl⟩) ?_ ?_
           rotate_left
           ·simp only [Act.put, List.setIfInBounds_toArray, List.set_cons_zero, List.set_cons_succ, i64_w, i32_w]
            rfl
           refine pure_ (i := 19) (N := some 36) (v := undef) (a' := ?_) #[true, true, true, true, true, true, true, true, true, true, true, true, true, true, true, true, true, true, true, true, false, false, false, false, false, false, false, false, false, false, false, false, false] rfl rfl (any_of HT_.out (by kernel_rfl)) (fun _ _ _ h => h) (Or.inr ⟨by rfl, rfl⟩) ?_ ?_
           rotate_left
           ·simp only [Act.put, List.setIfInBounds_toArray, List.set_cons_zero, List.set_cons_succ, i64_w, i32_w]
            rfl
           refine pure_ (i := 20) (N := some 37) (v := undef) (a' := ?_) #[true, true, true, true, true, true, true, true, true, true, true, true, true, true, true, true, true, true, true, true, true, false, false, false, false, false, false, false, false, false, false, false, false] rfl rfl (any_of HT_.out (by kernel_rfl)) (fun _ _ _ h => h) (Or.inr ⟨by rfl, rfl⟩) ?_ ?_
           rotate_left
           ·simp only [Act.put, List.setIfInBounds_toArray, List.set_cons_zero, List.set_cons_succ, i64_w, i32_w]
            rfl
           refine pure_ (i := 21) (N := some 38) (v := ?_) (a' := ?_) #[true, true, true, true, true, true, true, true, true, true, true, true, true, true, true, true, true, true, true, true, true, true, false, false, false, false, false, false, false, false, false, false, false] rfl rfl (any_of HT_.out (by kernel_rfl)) (fun _ _ _ h => h) (Or.inl ⟨by rfl, ?_⟩) ?_ ?_
           rotate_left
           ·intro w'
            go_simp
            with_reducible rfl
           rotate_left
           ·simp only [Act.put, List.setIfInBounds_toArray, List.set_cons_zero, List.set_cons_succ, i64_w, i32_w]
            rfl
           refine pure_ (i := 22) (N := some 39) (v := ?_) (a' := ?_) #[true, true, true, true, true, true, true, true, true, true, true, true, true, true, true, true, true, true, true, true, true, true, true, false, false, false, false, false, false, false, false, false, false] rfl rfl (any_of HT_.out (by kernel_rfl)) (fun _ _ _ h => h) (Or.inl ⟨by rfl, ?_⟩) ?_ ?_
           rotate_left
           ·intro w'
            go_simp
            with_reducible rfl
           rotate_left
           ·simp only [Act.put, List.setIfInBounds_toArray, List.set_cons_zero, List.set_cons_succ, i64_w, i32_w]
            rfl
           refine pure_ (i := 23) (N := some 40) (v := undef) (a' := ?_) #[true, true, true, true, true, true, true, true, true, true, true, true, true, true, true, true, true, true, true, true, true, true, true, true, false, false, false, false, false, false, false, false, false] rfl rfl (any_of HT_.out (by kernel_rfl)) (fun _ _ _ h => h) (Or.inr ⟨by rfl, rfl⟩) ?_ ?_
           rotate_left
           ·simp only [Act.put, List.setIfInBounds_toArray, List.set_cons_zero, List.set_cons_succ, i64_w, i32_w]
            rfl
           refine pure_ (i := 24) (N := some 41) (v := undef) (a' := ?_) #[true, true, true, true, true, true, true, true, true, true, true, true, true, true, true, true, true, true, true, true, true, true, true, true, true, false, false, false, false, false, false, false, false] rfl rfl (any_of HT_.out (by kernel_rfl)) (fun _ _ _ h => h) (Or.inr ⟨by rfl, rfl⟩) ?_ ?_
           rotate_left
           ·simp only [Act.put, List.setIfInBounds_toArray, List.set_cons_zero, List.set_cons_succ, i64_w, i32_w]
            rfl
           refine pure_ (i := 25) (N := some 42) (v := undef) (a' := ?_) #[true, true, true, true, true, true, true, true, true, true, true, true, true, true, true, true, true, true, true, true, true, true, true, true, true, true, false, false, false, false, false, false, false] rfl rfl (any_of HT_.out (by kernel_rfl)) (fun _ _ _ h => h) (Or.inr ⟨by rfl, rfl⟩) ?_ ?_
           rotate_left
           ·simp only [Act.put, List.setIfInBounds_toArray, List.set_cons_zero, List.set_cons_succ, i64_w, i32_w]
            rfl
           refine pure_ (i := 26) (N := some 43) (v := ?_) (a' := ?_) #[true, true, true, true, true, true, true, true, true, true, true, true, true, true, true, true, true, true, true, true, true, true, true, true, true, true, true, false, false, false, false, false, false] rfl rfl (any_of HT_.out (by kernel_rfl)) (fun _ _ _ h => h) (Or.inl ⟨by rfl, ?_⟩) ?_ ?_
           rotate_left
           ·intro w'
            go_simp
            with_reducible rfl
           rotate_left
           ·simp only [Act.put, List.setIfInBounds_toArray, List.set_cons_zero, List.set_cons_succ, i64_w, i32_w]
            rfl
           refine pure_ (i := 27) (N := some 44) (v := ?_) (a' := ?_) #[true, true, true, true, true, true, true, true, true, true, true, true, true, true, true, true, true, true, true, true, true, true, true, true, true, true, true, true, false, false, false, false, false] rfl rfl (any_of HT_.out (by kernel_rfl)) (fun _ _ _ h => h) (Or.inl ⟨by rfl, ?_⟩) ?_ ?_
           rotate_left
           ·intro w'
            go_simp
            with_reducible rfl
           rotate_left
           ·simp only [Act.put, List.setIfInBounds_toArray, List.set_cons_zero, List.set_cons_succ, i64_w, i32_w]
            rfl
           refine pure_ (i := 28) (N := some 45) (v := undef) (a' := ?_) #[true, true, true, true, true, true, true, true, true, true, true, true, true, true, true, true, true, true, true, true, true, true, true, true, true, true, true, true, true, false, false, false, false] rfl rfl (any_of HT_.out (by kernel_rfl)) (fun _ _ _ h => h) (Or.inr ⟨by rfl, rfl⟩) ?_ ?_
           rotate_left
           ·simp only [Act.put, List.setIfInBounds_toArray, List.set_cons_zero, List.set_cons_succ, i64_w, i32_w]
            rfl
           refine pure_ (i := 29) (N := some 46) (v := undef) (a' := ?_) #[true, true, true, true, true, true, true, true, true, true, true, true, true, true, true, true, true, true, true, true, true, true, true, true, true, true, true, true, true, true, false, false, false] rfl rfl (any_of HT_.out (by kernel_rfl)) (fun _ _ _ h => h) (Or.inr ⟨by rfl, rfl⟩) ?_ ?_
           rotate_left
           ·simp only [Act.put, List.setIfInBounds_toArray, List.set_cons_zero, List.set_cons_succ, i64_w, i32_w]
            rfl
           refine pure_ (i := 30) (N := some 47) (v := undef) (a' := ?_) #[true, true, true, true, true, true, true, true, true, true, true, true, true, true, true, true, true, true, true, true, true, true, true, true, true, true, true, true, true, true, true, false, false] rfl rfl (any_of HT_.out (by kernel_rfl)) (fun _ _ _ h => h) (Or.inr ⟨by rfl, rfl⟩) ?_ ?_
           rotate_left
           ·simp only [Act.put, List.setIfInBounds_toArray, List.set_cons_zero, List.set_cons_succ, i64_w, i32_w]
            rfl
           refine pure_ (i := 31) (N := some 48) (v := ?_) (a' := ?_) #[true, true, true, true, true, true, true, true, true, true, true, true, true, true, true, true, true, true, true, true, true, true, true, true, true, true, true, true, true, true, true, true, false] rfl rfl (any_of HT_.out (by kernel_rfl)) (fun _ _ _ h => h) (Or.inl ⟨by rfl, ?_⟩) ?_ ?_
           rotate_left
           ·intro w'
            go_simp
            with_reducible rfl
           rotate_left
           ·simp only [Act.put, List.setIfInBounds_toArray, List.set_cons_zero, List.set_cons_succ, i64_w, i32_w]
            rfl
           refine pure_ (i := 32) (N := some 7) (v := ?_) (a' := ?_) #[true, true, true, true, true, true, true, true, true, true, true, true, true, true, true, true, true, true, true, true, true, true, true, true, true, true, true, true, true, true, true, true, true] rfl rfl (any_of HT_.out (by kernel_rfl)) (fun _ _ _ h => h) (Or.inl ⟨by rfl, ?_⟩) ?_ ?_
           rotate_left
           ·intro w'
            go_simp
            with_reducible rfl
           rotate_left
           ·simp only [Act.put, List.setIfInBounds_toArray, List.set_cons_zero, List.set_cons_succ, i64_w, i32_w]
            rfl
           refine done_ (done_of HT_.out (by kernel_rfl)) ?_
           try go_wp2
           (try subst hji10)
           go_meet
           case rel => exact ⟨_, (false), (by first | rfl | (simp; done) | (simp [*]; done)), H', ⟨by have := HK1.out; first | omega | exact Nat.le_refl _⟩, ⟨by (with_reducible repeat (first | apply Kd.R_alloc | apply Kd.R_drewN | apply Kd.R_drew)); exact HO_3.out⟩, ⟨by (with_reducible repeat (first | refine blk_drewN ?_ _ | refine blk_drew ?_ | refine blk_alloc ?_ _)); exact BK111.out⟩, ⟨by repeat (first | (with_reducible first | exact HB.out | apply below_alloc | apply pw_below_drewN | apply below_drew1 | refine below_set ?_ GE111.out) | exact HB.out)⟩⟩
         ·rw [if_neg c12] at H
          exact absurd H (by simp)
        ·rw [if_neg c11] at H
         exact absurd H (by simp)
       ·rw [if_neg c9] at H
        have c9b0 : decide (0 ≤ (wrap64 ((x3_1.length : Int) - 1))) = false := decide_eq_false c9
        clear c9
        (first | rw [c9b0] | (simp only [i64_w, i32_w]; rw [c9b0]) | skip)
        have H' := Aside0.mk H
        clear H
        try go_wp2
        have n0_ : Aside0 (Kd.R k33 33 ((((((w6.setCell ⟨gb111, 0, none⟩ (.int .i64 ((rd_T33 l0 x10_1).f0))).setCell ⟨gb111, 1, none⟩ (.int .i64 ((rd_T33 l0 x10_1).f1))).setCell ⟨gb111, 2, none⟩ (.int .i64 ((rd_T33 l0 x10_1).f2))).setCell ⟨gb111, 3, none⟩ (.bool ((rd_T33 l0 x10_1).f3))).setCell ⟨gb111, 4, none⟩ (.string ((rd_T33 l0 x10_1).f4))).setCell ⟨gb111, 5, none⟩ (.int .u64 ((rd_T33 l0 x10_1).f5))) w.heap.size (fun k_ => k_ ≠ gb111) (.slice Ao8 x3_1.length co8) x3_1) := ⟨by (with_reducible repeat (first | apply Kd.R_alloc | apply Kd.R_drewN | apply Kd.R_drew)); exact Kd.R_mono (Kd.R_far (p := ⟨gb111, 5, none⟩) (Kd.R_far (p := ⟨gb111, 4, none⟩) (Kd.R_far (p := ⟨gb111, 3, none⟩) (Kd.R_far (p := ⟨gb111, 2, none⟩) (Kd.R_far (p := ⟨gb111, 1, none⟩) (Kd.R_far (p := ⟨gb111, 0, none⟩) (Kd.R_mono HO_3.out (fun k_ hk => (⟨hk, hk.2⟩ : _ ∧ k_ ≠ gb111))) (fun _ hk => hk.2) (.int .i64 ((rd_T33 l0 x10_1).f0))) (fun _ hk => hk.2) (.int .i64 ((rd_T33 l0 x10_1).f1))) (fun _ hk => hk.2) (.int .i64 ((rd_T33 l0 x10_1).f2))) (fun _ hk => hk.2) (.bool ((rd_T33 l0 x10_1).f3))) (fun _ hk => hk.2) (.string ((rd_T33 l0 x10_1).f4))) (fun _ hk => hk.2) (.int .u64 ((rd_T33 l0 x10_1).f5))) (fun _ hk => hk.1.2)⟩
        have n1_ : Aside0 (((((((w6.setCell ⟨gb111, 0, none⟩ (.int .i64 ((rd_T33 l0 x10_1).f0))).setCell ⟨gb111, 1, none⟩ (.int .i64 ((rd_T33 l0 x10_1).f1))).setCell ⟨gb111, 2, none⟩ (.int .i64 ((rd_T33 l0 x10_1).f2))).setCell ⟨gb111, 3, none⟩ (.bool ((rd_T33 l0 x10_1).f3))).setCell ⟨gb111, 4, none⟩ (.string ((rd_T33 l0 x10_1).f4))).setCell ⟨gb111, 5, none⟩ (.int .u64 ((rd_T33 l0 x10_1).f5))).heap[gb111]? = some (.cells #[.int .i64 ((rd_T33 l0 x10_1).f0), .int .i64 ((rd_T33 l0 x10_1).f1), .int .i64 ((rd_T33 l0 x10_1).f2), .bool ((rd_T33 l0 x10_1).f3), .string ((rd_T33 l0 x10_1).f4), .int .u64 ((rd_T33 l0 x10_1).f5)] 33 (0, 0))) := ⟨by (with_reducible repeat (first | refine blk_drewN ?_ _ | refine blk_drew ?_ | refine blk_alloc ?_ _)); refine blk_put (cs := #[.int .i64 ((rd_T33 l0 x10_1).f0), .int .i64 ((rd_T33 l0 x10_1).f1), .int .i64 ((rd_T33 l0 x10_1).f2), .bool ((rd_T33 l0 x10_1).f3), .string ((rd_T33 l0 x10_1).f4), .int .u64 0]) ?_ 5 _ rfl; (with_reducible repeat (first | refine blk_drewN ?_ _ | refine blk_drew ?_ | refine blk_alloc ?_ _)); refine blk_put (cs := #[.int .i64 ((rd_T33 l0 x10_1).f0), .int .i64 ((rd_T33 l0 x10_1).f1), .int .i64 ((rd_T33 l0 x10_1).f2), .bool ((rd_T33 l0 x10_1).f3), .string (⟨#[]⟩ : ByteArray), .int .u64 0]) ?_ 4 _ rfl; (with_reducible repeat (first | refine blk_drewN ?_ _ | refine blk_drew ?_ | refine blk_alloc ?_ _)); refine blk_put (cs := #[.int .i64 ((rd_T33 l0 x10_1).f0), .int .i64 ((rd_T33 l0 x10_1).f1), .int .i64 ((rd_T33 l0 x10_1).f2), .bool false, .string (⟨#[]⟩ : ByteArray), .int .u64 0]) ?_ 3 _ rfl; (with_reducible repeat (first | refine blk_drewN ?_ _ | refine blk_drew ?_ | refine blk_alloc ?_ _)); refine blk_put (cs := #[.int .i64 ((rd_T33 l0 x10_1).f0), .int .i64 ((rd_T33 l0 x10_1).f1), .int .i64 0, .bool false, .string (⟨#[]⟩ : ByteArray), .int .u64 0]) ?_ 2 _ rfl; (with_reducible repeat (first | refine blk_drewN ?_ _ | refine blk_drew ?_ | refine blk_alloc ?_ _)); refine blk_put (cs := #[.int .i64 ((rd_T33 l0 x10_1).f0), .int .i64 0, .int .i64 0, .bool false, .string (⟨#[]⟩ : ByteArray), .int .u64 0]) ?_ 1 _ rfl; (with_reducible repeat (first | refine blk_drewN ?_ _ | refine blk_drew ?_ | refine blk_alloc ?_ _)); refine blk_put (cs := #[.int .i64 0, .int .i64 0, .int .i64 0, .bool false, .string (⟨#[]⟩ : ByteArray), .int .u64 0]) ?_ 0 _ rfl; (with_reducible repeat (first | refine blk_drewN ?_ _ | refine blk_drew ?_ | refine blk_alloc ?_ _)); exact BK111.out⟩
        have n2_ : Aside0 (Below w.heap.size w ((((((w6.setCell ⟨gb111, 0, none⟩ (.int .i64 ((rd_T33 l0 x10_1).f0))).setCell ⟨gb111, 1, none⟩ (.int .i64 ((rd_T33 l0 x10_1).f1))).setCell ⟨gb111, 2, none⟩ (.int .i64 ((rd_T33 l0 x10_1).f2))).setCell ⟨gb111, 3, none⟩ (.bool ((rd_T33 l0 x10_1).f3))).setCell ⟨gb111, 4, none⟩ (.string ((rd_T33 l0 x10_1).f4))).setCell ⟨gb111, 5, none⟩ (.int .u64 ((rd_T33 l0 x10_1).f5)))) := ⟨by repeat (first | (with_reducible first | exact HB.out | apply below_alloc | apply pw_below_drewN | apply below_drew1 | refine below_set ?_ GE111.out) | exact HB.out)⟩
        (try clear HO_3)
        (try clear BK111)
        (try clear HB)
        generalize ((((((w6.setCell ⟨gb111, 0, none⟩ (.int .i64 ((rd_T33 l0 x10_1).f0))).setCell ⟨gb111, 1, none⟩ (.int .i64 ((rd_T33 l0 x10_1).f1))).setCell ⟨gb111, 2, none⟩ (.int .i64 ((rd_T33 l0 x10_1).f2))).setCell ⟨gb111, 3, none⟩ (.bool ((rd_T33 l0 x10_1).f3))).setCell ⟨gb111, 4, none⟩ (.string ((rd_T33 l0 x10_1).f4))).setCell ⟨gb111, 5, none⟩ (.int .u64 ((rd_T33 l0 x10_1).f5))) = w33 at n0_ n1_ n2_ ⊢
        have HO_3 := n0_
        have BK111 := n1_
        have HB := n2_
        clear n0_ n1_ n2_
        have n0_ := Aside0.mk (Kd.R_drew HO_3.out)
        have n1_ := Aside0.mk (blk_drew BK111.out)
        have n2_ := Aside0.mk (below_drew1 HB.out)
        clear HO_3
        clear BK111
        clear HB
        have HO_3 := n0_
        have BK111 := n1_
        have HB := n2_
        clear n0_ n1_ n2_
        refine start_ (n := 33) (S := fun w' => True) (ds := []) #[false, false, false, false, false, false, false, false, false, false, false, false, false, false, false, false, false, false, false, false, false, false, false, false, false, false, false, false, false, false, false, false, false] (by kernel_rfl) rfl rfl trivial (fun hHeld => ?_); refine with_tabW span_Normal.tab6 span_Normal.bits6 (fun HT_ HW_ => ?_)
        generalize w33.drew = w34 at HO_3 BK111 HB hHeld ⊢
        refine pure_ (i := 0) (N := some 17) (v := ?_) (a' := ?_) #[true, false, false, false, false, false, false, false, false, false, false, false, false, false, false, false, false, false, false, false, false, false, false, false, false, false, false, false, false, false, false, false, false] rfl rfl (any_of HT_.out (by kernel_rfl)) (fun _ _ _ h => h) (Or.inl ⟨by rfl, ?_⟩) ?_ ?_
        rotate_left
        ·intro w'
         go_simp
         with_reducible rfl
        rotate_left
        ·simp only [Act.put, List.setIfInBounds_toArray, List.set_cons_zero, List.set_cons_succ, i64_w, i32_w]
         rfl
        refine pure_ (i := 1) (N := some 18) (v := ?_) (a' := ?_) #[true, true, false, false, false, false, false, false, false, false, false, false, false, false, false, false, false, false, false, false, false, false, false, false, false, false, false, false, false, false, false, false, false] rfl rfl (any_of HT_.out (by kernel_rfl)) (fun _ _ _ h => h) (Or.inl ⟨by rfl, ?_⟩) ?_ ?_
        rotate_left
        ·intro w'
         go_simp
         with_reducible rfl
        rotate_left
        ·simp only [Act.put, List.setIfInBounds_toArray, List.set_cons_zero, List.set_cons_succ, i64_w, i32_w]
         rfl
        refine pure_ (i := 2) (N := some 19) (v := ?_) (a' := ?_) #[true, true, true, false, false, false, false, false, false, false, false, false, false, false, false, false, false, false, false, false, false, false, false, false, false, false, false, false, false, false, false, false, false] rfl rfl (any_of HT_.out (by kernel_rfl)) (fun _ _ _ h => h) (Or.inl ⟨by rfl, ?_⟩) ?_ ?_
        rotate_left
        ·intro w'
         go_simp
         with_reducible rfl
        rotate_left
        ·simp only [Act.put, List.setIfInBounds_toArray, List.set_cons_zero, List.set_cons_succ, i64_w, i32_w]
         rfl
        refine pure_ (i := 3) (N := some 20) (v := undef) (a' := ?_) #[true, true, true, true, false, false, false, false, false, false, false, false, false, false, false, false, false, false, false, false, false, false, false, false, false, false, false, false, false, false, false, false, false] rfl rfl (any_of HT_.out (by kernel_rfl)) (fun _ _ _ h => h) (Or.inr ⟨by rfl, rfl⟩) ?_ ?_
        rotate_left
        ·simp only [Act.put, List.setIfInBounds_toArray, List.set_cons_zero, List.set_cons_succ, i64_w, i32_w]
         rfl
        refine pure_ (i := 4) (N := some 21) (v := undef) (a' := ?_) #[true, true, true, true, true, false, false, false, false, false, false, false, false, false, false, false, false, false, false, false, false, false, false, false, false, false, false, false, false, false, false, false, false] rfl rfl (any_of HT_.out (by kernel_rfl)) (fun _ _ _ h => h) (Or.inr ⟨by rfl, rfl⟩) ?_ ?_
        rotate_left
        ·simp only [Act.put, List.setIfInBounds_toArray, List.set_cons_zero, List.set_cons_succ, i64_w, i32_w]
         rfl
        refine pure_ (i := 5) (N := some 22) (v := undef) (a' := ?_) #[true, true, true, true, true, true, false, false, false, false, false, false, false, false, false, false, false, false, false, false, false, false, false, false, false, false, false, false, false, false, false, false, false] rfl rfl (any_of HT_.out (by kernel_rfl)) (fun _ _ _ h => h) (Or.inr ⟨by rfl, rfl⟩) ?_ ?_
        rotate_left
        ·simp only [Act.put, List.setIfInBounds_toArray, List.set_cons_zero, List.set_cons_succ, i64_w, i32_w]
         rfl
        refine pure_ (i := 6) (N := some 23) (v := undef) (a' := ?_) #[true, true, true, true, true, true, true, false, false, false, false, false, false, false, false, false, false, false, false, false, false, false, false, false, false, false, false, false, false, false, false, false, false] rfl rfl (any_of HT_.out (by kernel_rfl)) (fun _ _ _ h => h) (Or.inr ⟨by rfl, rfl⟩) ?_ ?_
        rotate_left
        ·simp only [Act.put, List.setIfInBounds_toArray, List.set_cons_zero, List.set_cons_succ, i64_w, i32_w]
         rfl
        refine pure_ (i := 7) (N := some 24) (v := undef) (a' := ?_) #[true, true, true, true, true, true, true, true, false, false, false, false, false, false, false, false, false, false, false, false, false, false, false, false, false, false, false, false, false, false, false, false, false] rfl rfl (any_of HT_.out (by kernel_rfl)) (fun _ _ _ h => h) (Or.inr ⟨by rfl, rfl⟩) ?_ ?_
        rotate_left
        ·simp only [Act.put, List.setIfInBounds_toArray, List.set_cons_zero, List.set_cons_succ, i64_w, i32_w]
         rfl
        refine pure_ (i := 8) (N := some 25) (v := undef) (a' := ?_) #[true, true, true, true, true, true, true, true, true, false, false, false, false, false, false, false, false, false, false, false, false, false, false, false, false, false, false, false, false, false, false, false, false] rfl rfl (any_of HT_.out (by kernel_rfl)) (fun _ _ _ h => h) (Or.inr ⟨by rfl, rfl⟩) ?_ ?_
        rotate_left
        ·simp only [Act.put, List.setIfInBounds_toArray, List.set_cons_zero, List.set_cons_succ, i64_w, i32_w]
         rfl
        refine pure_ (i := 9) (N := some 26) (v := undef) (a' := ?_) #[true, true, true, true, true, true, true, true, true, true, false, false, false, false, false, false, false, false, false, false, false, false, false, false, false, false, false, false, false, false, false, false, false] rfl rfl (any_of HT_.out (by kernel_rfl)) (fun _ _ _ h => h) (Or.inr ⟨by rfl, rfl⟩) ?_ ?_
        rotate_left
        ·simp only [Act.put, List.setIfInBounds_toArray, List.set_cons_zero, List.set_cons_succ, i64_w, i32_w]
         rfl
        refine pure_ (i := 10) (N := some 27) (v := undef) (a' := ?_) #[true, true, true, true, true, true, true, true, true, true, true, false, false, false, false, false, false, false, false, false, false, false, false, false, false, false, false, false, false, false, false, false, false] rfl rfl (any_of HT_.out (by kernel_rfl)) (fun _ _ _ h => h) (Or.inr ⟨by rfl, rfl⟩) ?_ ?_
        rotate_left
        ·simp only [Act.put, List.setIfInBounds_toArray, List.set_cons_zero, List.set_cons_succ, i64_w, i32_w]
         rfl
        refine pure_ (i := 11) (N := some 28) (v := ?_) (a' := ?_) #[true, true, true, true, true, true, true, true, true, true, true, true, false, false, false, false, false, false, false, false, false, false, false, false, false, false, false, false, false, false, false, false, false] rfl rfl (any_of HT_.out (by kernel_rfl)) (fun _ _ _ h => h) (Or.inl ⟨by rfl, ?_⟩) ?_ ?_
        rotate_left
        ·intro w'
         go_simp
         with_reducible rfl
        rotate_left
        ·simp only [Act.put, List.setIfInBounds_toArray, List.set_cons_zero, List.set_cons_succ, i64_w, i32_w]
         rfl
        refine pure_ (i := 12) (N := some 29) (v := ?_) (a' := ?_) #[true, true, true, true, true, true, true, true, true, true, true, true, true, false, false, false, false, false, false, false, false, false, false, false, false, false, false, false, false, false, false, false, false] rfl rfl (any_of HT_.out (by kernel_rfl)) (fun _ _ _ h => h) (Or.inl ⟨by rfl, ?_⟩) ?_ ?_
        rotate_left
        ·intro w'
         go_simp
         with_reducible rfl
        rotate_left
        ·simp only [Act.put, List.setIfInBounds_toArray, List.set_cons_zero, List.set_cons_succ, i64_w, i32_w]
         rfl
        refine pure_ (i := 13) (N := some 30) (v := undef) (a' := ?_) #[true, true, true, true, true, true, true, true, true, true, true, true, true, true, false, false, false, false, false, false, false, false, false, false, false, false, false, false, false, false, false, false, false] rfl rfl (any_of HT_.out (by kernel_rfl)) (fun _ _ _ h => h) (Or.inr ⟨by rfl, rfl⟩) ?_ ?_
        rotate_left
        ·simp only [Act.put, List.setIfInBounds_toArray, List.set_cons_zero, List.set_cons_succ, i64_w, i32_w]
         rfl
        refine pure_ (i := 14) (N := some 31) (v := undef) (a' := ?_) #[true, true, true, true, true, true, true, true, true, true, true, true, true, true, true, false, false, false, false, false, false, false, false, false, false, false, false, false, false, false, false, false, false] rfl rfl (any_of HT_.out (by kernel_rfl)) (fun _ _ _ h => h) (Or.inr ⟨by rfl, rfl⟩) ?_ ?_
        rotate_left
        ·simp only [Act.put, List.setIfInBounds_toArray, List.set_cons_zero, List.set_cons_succ, i64_w, i32_w]
         rfl
        refine pure_ (i := 15) (N := some 32) (v := undef) (a' := ?_) #[true, true, true, true, true, true, true, true, true, true, true, true, true, true, true, true, false, false, false, false, false, false, false, false, false, false, false, false, false, false, false, false, false] rfl rfl (any_of HT_.out (by kernel_rfl)) (fun _ _ _ h => h) (Or.inr ⟨by rfl, rfl⟩) ?_ ?_
        rotate_left
        ·simp only [Act.put, List.setIfInBounds_toArray, List.set_cons_zero, List.set_cons_succ, i64_w, i32_w]
         rfl
        refine pure_ (i := 16) (N := some 33) (v := undef) (a' := ?_) #[true, true, true, true, true, true, true, true, true, true, true, true, true, true, true, true, true, false, false, false, false, false, false, false, false, false, false, false, false, false, false, false, false] rfl rfl (any_of HT_.out (by kernel_rfl)) (fun _ _ _ h => h) (Or.inr ⟨by rfl, rfl⟩) ?_ ?_
        rotate_left
        ·simp only [Act.put, List.setIfInBounds_toArray, List.set_cons_zero, List.set_cons_succ, i64_w, i32_w]
         rfl
        refine pure_ (i := 17) (N := some 34) (v := undef) (a' := ?_) #[true, true, true, true, true, true, true, true, true, true, true, true, true, true, true, true, true, true, false, false, false, false, false, false, false, false, false, false, false, false, false, false, false] rfl rfl (any_of HT_.out (by kernel_rfl)) (fun _ _ _ h => h) (Or.inr ⟨by rfl, rfl⟩) ?_ ?_
        rotate_left
        ·simp only [Act.put, List.setIfInBounds_toArray, List.set_cons_zero, List.set_cons_succ, i64_w, i32_w]
         rfl
        refine pure_ (i := 18) (N := some 35) (v := undef) (a' := ?_) #[true, true, true, true, true, true, true, true, true, true, true, true, true, true, true, true, true, true, true, false, false, false, false, false, false, false, false, false, false, false, false, false, false] rfl rfl (any_of HT_.out (by kernel_rfl)) (fun _ _ _ h => h) (Or.inr ⟨by rfl, rfl⟩) ?_ ?_
        rotate_left
        ·simp only [Act.put, List.setIfInBounds_toArray, List.set_cons_zero, List.set_cons_succ, i64_w, i32_w]
         rfl
        refine pure_ (i := 19) (N := some 36) (v := undef) (a' := ?_) #[true, true, true, true, true, true, true, true, true, true, true, true, true, true, true, true, true, true, true, true, false, false, false, false, false, false, false, false, false, false, false, false, false] rfl rfl (any_of HT_.out (by kernel_rfl)) (fun _ _ _ h => h) (Or.inr ⟨by rfl, rfl⟩) ?_ ?_
        rotate_left
        ·simp only [Act.put, List.setIfInBounds_toArray, List.set_cons_zero, List.set_cons_succ, i64_w, i32_w]
         rfl
        refine pure_ (i := 20) (N := some 37) (v := undef) (a' := ?_) #[true, true, true, true, true, true, true, true, true, true, true, true, true, true, true, true, true, true, true, true, true, false, false, false, false, false, false, false, false, false, false, false, false] rfl rfl (any_of HT_.out (by kernel_rfl)) (fun _ _ _ h => h) (Or.inr ⟨by rfl, rfl⟩) ?_ ?_
        rotate_left
        ·simp only [Act.put, List.setIfInBounds_toArray, List.set_cons_zero, List.set_cons_succ, i64_w, i32_w]
         rfl
        refine pure_ (i := 21) (N := some 38) (v := ?_) (a' := ?_) #[true, true, true, true, true, true, true, true, true, true, true, true, true, true, true, true, true, true, true, true, true, true, false, false, false, false, false, false, false, false, false, false, false] rfl rfl (any_of HT_.out (by kernel_rfl)) (fun _ _ _ h => h) (Or.inl ⟨by rfl, ?_⟩) ?_ ?_
        rotate_left
        ·intro w'
         go_simp
         with_reducible rfl
        rotate_left
        ·simp only [Act.put, List.setIfInBounds_toArray, List.set_cons_zero, List.set_cons_succ, i64_w, i32_w]
         rfl
        refine pure_ (i := 22) (N := some 39) (v := ?_) (a' := ?_) #[true, true, true, true, true, true, true, true, true, true, true, true, true, true, true, true, true, true, true, true, true, true, true, false, false, false, false, false, false, false, false, false, false] rfl rfl (any_of HT_.out (by kernel_rfl)) (fun _ _ _ h => h) (Or.inl ⟨by rfl, ?_⟩) ?_ ?_
        rotate_left
        ·intro w'
         go_simp
         with_reducible rfl
        rotate_left
        ·simp only [Act.put, List.setIfInBounds_toArray, List.set_cons_zero, List.set_cons_succ, i64_w, i32_w]
         rfl
        refine pure_ (i := 23) (N := some 40) (v := undef) (a' := ?_) #[true, true, true, true, true, true, true, true, true, true, true, true, true, true, true, true, true, true, true, true, true, true, true, true, false, false, false, false, false, false, false, false, false] rfl rfl (any_of HT_.out (by kernel_rfl)) (fun _ _ _ h => h) (Or.inr ⟨by rfl, rfl⟩) ?_ ?_
        rotate_left
        ·simp only [Act.put, List.setIfInBounds_toArray, List.set_cons_zero, List.set_cons_succ, i64_w, i32_w]
         rfl
        refine pure_ (i := 24) (N := some 41) (v := undef) (a' := ?_) #[true, true, true, true, true, true, true, true, true, true, true, true, true, true, true, true, true, true, true, true, true, true, true, true, true, false, false, false, false, false, false, false, false] rfl rfl (any_of HT_.out (by kernel_rfl)) (fun _ _ _ h => h) (Or.inr ⟨by rfl, rfl⟩) ?_ ?_
        rotate_left
        ·simp only [Act.put, List.setIfInBounds_toArray, List.set_cons_zero, List.set_cons_succ, i64_w, i32_w]
         rfl
        refine pure_ (i := 25) (N := some 42) (v := undef) (a' := ?_) #[true, true, true, true, true, true, true, true, true, true, true, true, true, true, true, true, true, true, true, true, true, true, true, true, true, true, false, false, false, false, false, false, false] rfl rfl (any_of HT_.out (by kernel_rfl)) (fun _ _ _ h => h) (Or.inr ⟨by rfl, rfl⟩) ?_ ?_
        rotate_left
        ·simp only [Act.put, List.setIfInBounds_toArray, List.set_cons_zero, List.set_cons_succ, i64_w, i32_w]
         rfl
        refine pure_ (i := 26) (N := some 43) (v := ?_) (a' := ?_) #[true, true, true, true, true, true, true, true, true, true, true, true, true, true, true, true, true, true, true, true, true, true, true, true, true, true, true, false, false, false, false, false, false] rfl rfl (any_of HT_.out (by kernel_rfl)) (fun _ _ _ h => h) (Or.inl ⟨by rfl, ?_⟩) ?_ ?_
        rotate_left
        ·intro w'
         go_simp
         with_reducible rfl
        rotate_left
        ·simp only [Act.put, List.setIfInBounds_toArray, List.set_cons_zero, List.set_cons_succ, i64_w, i32_w]
         rfl
        refine pure_ (i := 27) (N := some 44) (v := ?_) (a' := ?_) #[true, true, true, true, true, true, true, true, true, true, true, true, true, true, true, true, true, true, true, true, true, true, true, true, true, true, true, true, false, false, false, false, false] rfl rfl (any_of HT_.out (by kernel_rfl)) (fun _ _ _ h => h) (Or.inl ⟨by rfl, ?_⟩) ?_ ?_
        rotate_left
        ·intro w'
         go_simp
         with_reducible rfl
        rotate_left
        ·simp only [Act.put, List.setIfInBounds_toArray, List.set_cons_zero, List.set_cons_succ, i64_w, i32_w]
         rfl
        refine pure_ (i := 28) (N := some 45) (v := undef) (a' := ?_) #[true, true, true, true, true, true, true, true, true, true, true, true, true, true, true, true, true, true, true, true, true, true, true, true, true, true, true, true, true, false, false, false, false] rfl rfl (any_of HT_.out (by kernel_rfl)) (fun _ _ _ h => h) (Or.inr ⟨by rfl, rfl⟩) ?_ ?_
        rotate_left
        ·simp only [Act.put, List.setIfInBounds_toArray, List.set_cons_zero, List.set_cons_succ, i64_w, i32_w]
         rfl
        refine pure_ (i := 29) (N := some 46) (v := undef) (a' := ?_) #[true, true, true, true, true, true, true, true, true, true, true, true, true, true, true, true, true, true, true, true, true, true, true, true, true, true, true, true, true, true, false, false, false] rfl rfl (any_of HT_.out (by kernel_rfl)) (fun _ _ _ h => h) (Or.inr ⟨by rfl, rfl⟩) ?_ ?_
        rotate_left
        ·simp only [Act.put, List.setIfInBounds_toArray, List.set_cons_zero, List.set_cons_succ, i64_w, i32_w]
         rfl
        refine pure_ (i := 30) (N := some 47) (v := undef) (a' := ?_) #[true, true, true, true, true, true, true, true, true, true, true, true, true, true, true, true, true, true, true, true, true, true, true, true, true, true, true, true, true, true, true, false, false] rfl rfl (any_of HT_.out (by kernel_rfl)) (fun _ _ _ h => h) (Or.inr ⟨by rfl, rfl⟩) ?_ ?_
        rotate_left
        ·simp only [Act.put, List.setIfInBounds_toArray, List.set_cons_zero, List.set_cons_succ, i64_w, i32_w]
         rfl
        refine pure_ (i := 31) (N := some 48) (v := ?_) (a' := ?_) #[true, true, true, true, true, true, true, true, true, true, true, true, true, true, true, true, true, true, true, true, true, true, true, true, true, true, true, true, true, true, true, true, false] rfl rfl (any_of HT_.out (by kernel_rfl)) (fun _ _ _ h => h) (Or.inl ⟨by rfl, ?_⟩) ?_ ?_
        rotate_left
        ·intro w'
         go_simp
         with_reducible rfl
        rotate_left
        ·simp only [Act.put, List.setIfInBounds_toArray, List.set_cons_zero, List.set_cons_succ, i64_w, i32_w]
         rfl
        refine pure_ (i := 32) (N := some 7) (v := ?_) (a' := ?_) #[true, true, true, true, true, true, true, true, true, true, true, true, true, true, true, true, true, true, true, true, true, true, true, true, true, true, true, true, true, true, true, true, true] rfl rfl (any_of HT_.out (by kernel_rfl)) (fun _ _ _ h => h) (Or.inl ⟨by rfl, ?_⟩) ?_ ?_
        rotate_left
        ·intro w'
         go_simp
         with_reducible rfl
        rotate_left
        ·simp only [Act.put, List.setIfInBounds_toArray, List.set_cons_zero, List.set_cons_succ, i64_w, i32_w]
         rfl
        refine done_ (done_of HT_.out (by kernel_rfl)) ?_
        try go_wp2
        go_meet
        case rel => exact ⟨_, (false), (by first | rfl | (simp; done) | (simp [*]; done)), H', ⟨by have := HK1.out; first | omega | exact Nat.le_refl _⟩, ⟨by (with_reducible repeat (first | apply Kd.R_alloc | apply Kd.R_drewN | apply Kd.R_drew)); exact HO_3.out⟩, ⟨by (with_reducible repeat (first | refine blk_drewN ?_ _ | refine blk_drew ?_ | refine blk_alloc ?_ _)); exact BK111.out⟩, ⟨by repeat (first | (with_reducible first | exact HB.out | apply below_alloc | apply pw_below_drewN | apply below_drew1 | refine below_set ?_ GE111.out) | exact HB.out)⟩⟩
      case rest =>
       clear HC5
       try clear c1
       try clear p1
       try clear q1
       try clear hx1
       try clear c2
       try clear p2
       try clear p6
       try clear c9
       try clear c9b0
       try clear c11
       try clear p11
       try clear q11
       try clear hx11
       try clear c12
       try clear c13
       try clear c13b0
       try clear c13b1
       try clear c23
       try clear hx112_0
       try clear hx112_1
       try clear hx112_2
       try clear hx112_3
       try clear hx112_4
       try clear hx112_5
       try clear p112
       try clear q112
       obtain ⟨kq, x7_4, rfl, HA, HJ4, HO_3, BK111, HB⟩ := hcut
       cases kq with
       | zero => exact absurd HA.out (by simp [span_Normal.j1])
       | succ kj4 =>
        have H := HA.out
        clear HA
        simp only [span_Normal.j1] at H
        replace H := Option.bind_eq_some_iff.mp H
        obtain ⟨⟨t126, t127, t128, t129, t130, t131⟩, A350, H⟩ := H
        replace H : (if (t126 == 0 && (t127 == 0 && (t128 == 0 && (!t129 && (t130.toList == ([] : List UInt8) && (t131 == 0)))))) = true then (span_Normal.l0 kj4 x3_1 l0 (l0.length : Int) (wrap64 (x10_1 + 1))) else (if x7_4 = true then (if 0 ≤ (wrap64 ((x3_1.length : Int) - 1)) then (if (wrap64 ((x3_1.length : Int) - 1)) < (x3_1.length : Int) then (span_Normal.l0 kj4 (x3_1.set ((wrap64 ((x3_1.length : Int) - 1)) : Int).toNat (⟨(rd_T33 x3_1 (wrap64 ((x3_1.length : Int) - 1))).f0, ((rd_T33 l0 x10_1).f1), (rd_T33 x3_1 (wrap64 ((x3_1.length : Int) - 1))).f2, (rd_T33 x3_1 (wrap64 ((x3_1.length : Int) - 1))).f3, (rd_T33 x3_1 (wrap64 ((x3_1.length : Int) - 1))).f4, (rd_T33 x3_1 (wrap64 ((x3_1.length : Int) - 1))).f5⟩ : S33)) l0 (l0.length : Int) (wrap64 (x10_1 + 1))) else (none)) else (none)) else (if x3_1.length < 2513169434916 then (span_Normal.l0 kj4 (x3_1 ++ [(⟨((rd_T33 l0 x10_1).f0), ((rd_T33 l0 x10_1).f1), ((rd_T33 l0 x10_1).f2), ((rd_T33 l0 x10_1).f3), ((rd_T33 l0 x10_1).f4), ((rd_T33 l0 x10_1).f5)⟩ : S33)]) l0 (l0.length : Int) (wrap64 (x10_1 + 1))) else (none)))) = some r := H
        have A35 := Aside0.mk A350
        clear A350
        by_cases c36 : (t126 == 0 && (t127 == 0 && (t128 == 0 && (!t129 && (t130.toList == ([] : List UInt8) && (t131 == 0)))))) = true
        ·rw [if_pos c36] at H
         have c36b0 : (t126 == 0 && (t127 == 0 && (t128 == 0 && (!t129 && (t130.toList == ([] : List UInt8) && (t131 == 0)))))) = true := c36
         have c36b3 : (t126 == 0 && (t127 == 0 && (t128 == 0 && (!t129 && (t130.toList.isEmpty && (t131 == 0)))))) = true := by rw [show (t130.toList.isEmpty) = (t130.toList == ([] : List UInt8)) from by cases t130.toList <;> rfl]; exact c36b0
         (try (have c36b1 : decide (t126 = 0 && (t127 == 0 && (t128 == 0 && (!t129 && (t130.toList == ([] : List UInt8) && (t131 == 0)))))) = true := by simpa using c36))
         (try (have c36b2 : (t126 == 0 && (t127 == 0 && (t128 == 0 && (!t129 && (t130.toList == ([] : List UInt8) && (t131 == 0)))))) = true := by simpa using c36))
         clear c36
         have H' := Aside0.mk H
         clear H
         have hcz37_0 : wc.cell? ⟨gb111, 0, none⟩ = some (.int .i64 ((rd_T33 l0 x10_1).f0)) := (blk_cell BK111.out 0).trans rfl
         have hcz37_1 : wc.cell? ⟨gb111, 1, none⟩ = some (.int .i64 ((rd_T33 l0 x10_1).f1)) := (blk_cell BK111.out 1).trans rfl
         have hcz37_2 : wc.cell? ⟨gb111, 2, none⟩ = some (.int .i64 ((rd_T33 l0 x10_1).f2)) := (blk_cell BK111.out 2).trans rfl
         have hcz37_3 : wc.cell? ⟨gb111, 3, none⟩ = some (.bool ((rd_T33 l0 x10_1).f3)) := (blk_cell BK111.out 3).trans rfl
         have hcz37_4 : wc.cell? ⟨gb111, 4, none⟩ = some (.string ((rd_T33 l0 x10_1).f4)) := (blk_cell BK111.out 4).trans rfl
         have hcz37_5 : wc.cell? ⟨gb111, 5, none⟩ = some (.int .u64 ((rd_T33 l0 x10_1).f5)) := (blk_cell BK111.out 5).trans rfl
         have hfz37_0 := blk_frozen BK111.out 0
         have hfz37_1 := blk_frozen BK111.out 1
         have hfz37_2 := blk_frozen BK111.out 2
         have hfz37_3 := blk_frozen BK111.out 3
         have hfz37_4 := blk_frozen BK111.out 4
         have hfz37_5 := blk_frozen BK111.out 5
         go_wp2_with (first | ((with_reducible refine gate_callee (f := 23) rfl ?_); refine goesL_ (some 55) rfl rfl Try.func23 (by kernel_rfl) rfl #[.agg #[.int .i64 ((rd_T33 l0 x10_1).f0), .int .i64 ((rd_T33 l0 x10_1).f1), .int .i64 ((rd_T33 l0 x10_1).f2), .bool ((rd_T33 l0 x10_1).f3), .string ((rd_T33 l0 x10_1).f4), .int .u64 ((rd_T33 l0 x10_1).f5)]] rfl (by (try simp only [List.map_toArray, List.map_cons, List.map_nil]); first | done | rfl | (simp only [List.length_drop, List.length_take]; rfl)) ?_; (with_reducible refine (span_bare.calls ((rd_T33 l0 x10_1).f0) ((rd_T33 l0 x10_1).f1) ((rd_T33 l0 x10_1).f2) ((rd_T33 l0 x10_1).f3) ((rd_T33 l0 x10_1).f4) ((rd_T33 l0 x10_1).f5) t126 t127 t128 t129 t130 t131 _ A35.out).mono ?_); rintro e w38 ⟨rfl, hb⟩; refine ⟨_, rfl, ?_⟩; have n0_ := Aside0.mk (Kd.R_below (by (with_reducible repeat (first | apply Kd.R_alloc | apply Kd.R_drewN | apply Kd.R_drew)); exact HO_3.out) hb); have n1_ := Aside0.mk (blk_below (g := gb111) (o := .cells #[.int .i64 ((rd_T33 l0 x10_1).f0), .int .i64 ((rd_T33 l0 x10_1).f1), .int .i64 ((rd_T33 l0 x10_1).f2), .bool ((rd_T33 l0 x10_1).f3), .string ((rd_T33 l0 x10_1).f4), .int .u64 ((rd_T33 l0 x10_1).f5)] 33 (0, 0)) (by (with_reducible repeat (first | refine blk_drewN ?_ _ | refine blk_drew ?_ | refine blk_alloc ?_ _)); exact BK111.out) hb); have n2_ := Aside0.mk (below_step (by repeat (first | (with_reducible first | exact HB.out | apply below_alloc | apply pw_below_drewN | apply below_drew1 | refine below_set ?_ GE111.out) | exact HB.out)) hb); clear HO_3; clear BK111; clear HB; have HO_3 := n0_; have BK111 := n1_; have HB := n2_; clear n0_ n1_ n2_; (try clear hb); (try clear hb2); (try clear hk); (try clear hi)))
         go_roundg kj4
         case measure => have := HK1.out; have := HJ4.out; omega
         case rel => exact ⟨(x3_1), (wrap64 (x10_1 + 1)), (by first | rfl | (simp; done) | (simp [*]; done)), H', ⟨by have := HK1.out; have := HJ4.out; omega⟩, ⟨by (with_reducible repeat (first | apply Kd.R_alloc | apply Kd.R_drewN | apply Kd.R_drew)); exact Kd.R_mono HO_3.out (fun _ hk => trivial)⟩, ⟨by repeat (first | (with_reducible first | exact HB.out | apply below_alloc | apply pw_below_drewN | apply below_drew1 | refine below_set ?_ GE111.out) | exact HB.out)⟩⟩
        ·rw [if_neg c36] at H
         have c36b0 : (t126 == 0 && (t127 == 0 && (t128 == 0 && (!t129 && (t130.toList == ([] : List UInt8) && (t131 == 0)))))) = false := by simpa using c36
         have c36b3 : (t126 == 0 && (t127 == 0 && (t128 == 0 && (!t129 && (t130.toList.isEmpty && (t131 == 0)))))) = false := by rw [show (t130.toList.isEmpty) = (t130.toList == ([] : List UInt8)) from by cases t130.toList <;> rfl]; exact c36b0
         (try (have c36b1 : decide (t126 = 0 && (t127 == 0 && (t128 == 0 && (!t129 && (t130.toList == ([] : List UInt8) && (t131 == 0)))))) = false := by simpa using c36))
         (try (have c36b2 : (t126 == 0 && (t127 == 0 && (t128 == 0 && (!t129 && (t130.toList == ([] : List UInt8) && (t131 == 0)))))) = false := by simpa using c36))
         (try (have c36b3 : ¬ (t126 = 0 && (t127 == 0 && (t128 == 0 && (!t129 && (t130.toList == ([] : List UInt8) && (t131 == 0)))))) := by simpa using c36))
         clear c36
         by_cases c39 : x7_4 = true
         ·subst c39
          have H1 : (if 0 ≤ (wrap64 ((x3_1.length : Int) - 1)) then (if (wrap64 ((x3_1.length : Int) - 1)) < (x3_1.length : Int) then (span_Normal.l0 kj4 (x3_1.set ((wrap64 ((x3_1.length : Int) - 1)) : Int).toNat (⟨(rd_T33 x3_1 (wrap64 ((x3_1.length : Int) - 1))).f0, ((rd_T33 l0 x10_1).f1), (rd_T33 x3_1 (wrap64 ((x3_1.length : Int) - 1))).f2, (rd_T33 x3_1 (wrap64 ((x3_1.length : Int) - 1))).f3, (rd_T33 x3_1 (wrap64 ((x3_1.length : Int) - 1))).f4, (rd_T33 x3_1 (wrap64 ((x3_1.length : Int) - 1))).f5⟩ : S33)) l0 (l0.length : Int) (wrap64 (x10_1 + 1))) else (none)) else (none)) = some r := by rw [if_pos rfl] at H; exact H
          clear H
          have H := H1
          clear H1
          obtain ⟨ji40, hji40⟩ : ∃ j_ : Int, (wrap64 ((x3_1.length : Int) - 1)) = j_ := ⟨_, rfl⟩
          replace H : (if 0 ≤ (ji40) then (if (ji40) < (x3_1.length : Int) then (span_Normal.l0 kj4 (x3_1.set ((ji40) : Int).toNat (⟨(rd_T33 x3_1 (ji40)).f0, ((rd_T33 l0 x10_1).f1), (rd_T33 x3_1 (ji40)).f2, (rd_T33 x3_1 (ji40)).f3, (rd_T33 x3_1 (ji40)).f4, (rd_T33 x3_1 (ji40)).f5⟩ : S33)) l0 (l0.length : Int) (wrap64 (x10_1 + 1))) else (none)) else (none)) = some r := by first | (rw [hji40] at H; exact H) | (simp only [hji40] at H ⊢; exact H)
          (try rw [hji40] at A35)
          have hji40w : (IntKind.i64.wrap ((x3_1.length : Int) - 1)) = ji40 := (i64_w _).trans hji40
          by_cases c41 : 0 ≤ (ji40)
          ·rw [if_pos c41] at H
           have c41b0 : decide (0 ≤ (ji40)) = true := decide_eq_true c41
           clear c41
           by_cases c42 : (ji40) < (x3_1.length : Int)
           ·rw [if_pos c42] at H
            have c42b0 : decide ((ji40) < (x3_1.length : Int)) = true := decide_eq_true c42
            clear c42
            obtain ⟨y132, hy132⟩ : ∃ y_ : List (S33), y_ = (x3_1.set ((ji40) : Int).toNat (⟨(rd_T33 x3_1 (ji40)).f0, ((rd_T33 l0 x10_1).f1), (rd_T33 x3_1 (ji40)).f2, (rd_T33 x3_1 (ji40)).f3, (rd_T33 x3_1 (ji40)).f4, (rd_T33 x3_1 (ji40)).f5⟩ : S33)) := ⟨_, rfl⟩
            replace H : (span_Normal.l0 kj4 y132 l0 (l0.length : Int) (wrap64 (x10_1 + 1))) = some r := by first | (rw [hy132]; with_reducible exact H) | (have H2_ := (Option.bind_some _ _).symm.trans H; rw [hy132]; with_reducible exact H2_) | (have H2_ := (Option.bind_some _ _).symm.trans H; with_reducible exact H2_) | with_reducible exact H | (rw [hy132]; exact H) | exact H
            have Ny132 := Aside0.mk hy132
            clear hy132
            have H' := Aside0.mk H
            clear H
            have hcz44_0 : wc.cell? ⟨gb111, 0, none⟩ = some (.int .i64 ((rd_T33 l0 x10_1).f0)) := (blk_cell BK111.out 0).trans rfl
            have hcz44_1 : wc.cell? ⟨gb111, 1, none⟩ = some (.int .i64 ((rd_T33 l0 x10_1).f1)) := (blk_cell BK111.out 1).trans rfl
            have hcz44_2 : wc.cell? ⟨gb111, 2, none⟩ = some (.int .i64 ((rd_T33 l0 x10_1).f2)) := (blk_cell BK111.out 2).trans rfl
            have hcz44_3 : wc.cell? ⟨gb111, 3, none⟩ = some (.bool ((rd_T33 l0 x10_1).f3)) := (blk_cell BK111.out 3).trans rfl
            have hcz44_4 : wc.cell? ⟨gb111, 4, none⟩ = some (.string ((rd_T33 l0 x10_1).f4)) := (blk_cell BK111.out 4).trans rfl
            have hcz44_5 : wc.cell? ⟨gb111, 5, none⟩ = some (.int .u64 ((rd_T33 l0 x10_1).f5)) := (blk_cell BK111.out 5).trans rfl
            have hfz44_0 := blk_frozen BK111.out 0
            have hfz44_1 := blk_frozen BK111.out 1
            have hfz44_2 := blk_frozen BK111.out 2
            have hfz44_3 := blk_frozen BK111.out 3
            have hfz44_4 := blk_frozen BK111.out 4
            have hfz44_5 := blk_frozen BK111.out 5
            go_wp2_with (first | ((with_reducible refine gate_callee (f := 23) rfl ?_); refine goesL_ (some 55) rfl rfl Try.func23 (by kernel_rfl) rfl #[.agg #[.int .i64 ((rd_T33 l0 x10_1).f0), .int .i64 ((rd_T33 l0 x10_1).f1), .int .i64 ((rd_T33 l0 x10_1).f2), .bool ((rd_T33 l0 x10_1).f3), .string ((rd_T33 l0 x10_1).f4), .int .u64 ((rd_T33 l0 x10_1).f5)]] rfl (by (try simp only [List.map_toArray, List.map_cons, List.map_nil]); first | done | rfl | (simp only [List.length_drop, List.length_take]; rfl)) ?_; (with_reducible refine (span_bare.calls ((rd_T33 l0 x10_1).f0) ((rd_T33 l0 x10_1).f1) ((rd_T33 l0 x10_1).f2) ((rd_T33 l0 x10_1).f3) ((rd_T33 l0 x10_1).f4) ((rd_T33 l0 x10_1).f5) t126 t127 t128 t129 t130 t131 _ A35.out).mono ?_); rintro e w45 ⟨rfl, hb⟩; refine ⟨_, rfl, ?_⟩; have n0_ := Aside0.mk (Kd.R_below (by (with_reducible repeat (first | apply Kd.R_alloc | apply Kd.R_drewN | apply Kd.R_drew)); exact HO_3.out) hb); have n1_ := Aside0.mk (blk_below (g := gb111) (o := .cells #[.int .i64 ((rd_T33 l0 x10_1).f0), .int .i64 ((rd_T33 l0 x10_1).f1), .int .i64 ((rd_T33 l0 x10_1).f2), .bool ((rd_T33 l0 x10_1).f3), .string ((rd_T33 l0 x10_1).f4), .int .u64 ((rd_T33 l0 x10_1).f5)] 33 (0, 0)) (by (with_reducible repeat (first | refine blk_drewN ?_ _ | refine blk_drew ?_ | refine blk_alloc ?_ _)); exact BK111.out) hb); have n2_ := Aside0.mk (below_step (by repeat (first | (with_reducible first | exact HB.out | apply below_alloc | apply pw_below_drewN | apply below_drew1 | refine below_set ?_ GE111.out) | exact HB.out)) hb); clear HO_3; clear BK111; clear HB; have HO_3 := n0_; have BK111 := n1_; have HB := n2_; clear n0_ n1_ n2_; (try clear hb); (try clear hb2); (try clear hk); (try clear hi); have hcz46_0 : w45.cell? ⟨gb111, 0, none⟩ = some (.int .i64 ((rd_T33 l0 x10_1).f0)) := (blk_cell BK111.out 0).trans rfl; have hcz46_1 : w45.cell? ⟨gb111, 1, none⟩ = some (.int .i64 ((rd_T33 l0 x10_1).f1)) := (blk_cell BK111.out 1).trans rfl; have hcz46_2 : w45.cell? ⟨gb111, 2, none⟩ = some (.int .i64 ((rd_T33 l0 x10_1).f2)) := (blk_cell BK111.out 2).trans rfl; have hcz46_3 : w45.cell? ⟨gb111, 3, none⟩ = some (.bool ((rd_T33 l0 x10_1).f3)) := (blk_cell BK111.out 3).trans rfl; have hcz46_4 : w45.cell? ⟨gb111, 4, none⟩ = some (.string ((rd_T33 l0 x10_1).f4)) := (blk_cell BK111.out 4).trans rfl; have hcz46_5 : w45.cell? ⟨gb111, 5, none⟩ = some (.int .u64 ((rd_T33 l0 x10_1).f5)) := (blk_cell BK111.out 5).trans rfl; have hfz46_0 := blk_frozen BK111.out 0; have hfz46_1 := blk_frozen BK111.out 1; have hfz46_2 := blk_frozen BK111.out 2; have hfz46_3 := blk_frozen BK111.out 3; have hfz46_4 := blk_frozen BK111.out 4; have hfz46_5 := blk_frozen BK111.out 5; have p43 : 0 ≤ ((ji40) : Int) := of_decide_eq_true (by first | (with_reducible assumption) | assumption); have q43 : ((ji40) : Int) < ((x3_1.length : Int) : Int) := of_decide_eq_true (by first | (with_reducible assumption) | assumption); obtain ⟨go43, co43, eo43, gb43, gl43, cl43, HG43⟩ := Kd.R_form HO_3.out (by omega); (first | cases eo43 | (injection eo43 with ea_ en_ ec_; (first | subst ea_ | (injection ea_ with ea_; subst ea_)); subst ec_; clear en_)); have GB43 := Aside0.mk gb43; have GG43 := Aside0.mk HG43; clear gb43 gl43 HG43; obtain ⟨ce43, hcl43, hM43, hcc43, hfr43⟩ := Kd.R_elem HO_3.out z33 ((ji40) : Int) p43 q43; obtain rfl := k33_openM hM43; have hx43_0 : w45.cell? ⟨go43, ((ji40) : Int).toNat * 6, none⟩ = some (.int .i64 ((rd_T33 x3_1 (ji40)).f0)) := hcc43 0 _ rfl; have hx43_1 : w45.cell? ⟨go43, ((ji40) : Int).toNat * 6 + 1, none⟩ = some (.int .i64 ((rd_T33 x3_1 (ji40)).f1)) := hcc43 1 _ rfl; have hx43_2 : w45.cell? ⟨go43, ((ji40) : Int).toNat * 6 + 2, none⟩ = some (.int .i64 ((rd_T33 x3_1 (ji40)).f2)) := hcc43 2 _ rfl; have hx43_3 : w45.cell? ⟨go43, ((ji40) : Int).toNat * 6 + 3, none⟩ = some (.bool ((rd_T33 x3_1 (ji40)).f3)) := hcc43 3 _ rfl; have hx43_4 : w45.cell? ⟨go43, ((ji40) : Int).toNat * 6 + 4, none⟩ = some (.string ((rd_T33 x3_1 (ji40)).f4)) := hcc43 4 _ rfl; have hx43_5 : w45.cell? ⟨go43, ((ji40) : Int).toNat * 6 + 5, none⟩ = some (.int .u64 ((rd_T33 x3_1 (ji40)).f5)) := hcc43 5 _ rfl; have hf43_0 : w45.frozen? ⟨go43, ((ji40) : Int).toNat * 6, none⟩ = false := hfr43 0; have hf43_1 : w45.frozen? ⟨go43, ((ji40) : Int).toNat * 6 + 1, none⟩ = false := hfr43 1; have hf43_2 : w45.frozen? ⟨go43, ((ji40) : Int).toNat * 6 + 2, none⟩ = false := hfr43 2; have hf43_3 : w45.frozen? ⟨go43, ((ji40) : Int).toNat * 6 + 3, none⟩ = false := hfr43 3; have hf43_4 : w45.frozen? ⟨go43, ((ji40) : Int).toNat * 6 + 4, none⟩ = false := hfr43 4; have hf43_5 : w45.frozen? ⟨go43, ((ji40) : Int).toNat * 6 + 5, none⟩ = false := hfr43 5; clear hcl43 hcc43 hfr43 hM43; replace p43 := eq_true p43; replace q43 := eq_true q43; have HX47 := Aside0.mk (show Kd.R k33 33 w45 w.heap.size (fun k_ => k_ ≠ gb111) (.slice (some ⟨go43, 0, none⟩) x3_1.length co8) x3_1 from (by (with_reducible repeat (first | apply Kd.R_alloc | apply Kd.R_drewN | apply Kd.R_drew)); exact HO_3.out)); obtain ⟨ce47, hcl47, hM47, hcc47, hfr47⟩ := Kd.R_elem HX47.out z33 ((ji40) : Int) (of_decide_eq_true (by first | (with_reducible assumption) | assumption)) (by have h_ : ((ji40) : Int) < ((x3_1.length : Int) : Int) := of_decide_eq_true (by first | (with_reducible assumption) | assumption); first | exact h_ | (have e_ := (Kd.R_reads' HO_3.out).1; omega) | simpa using h_); obtain rfl := k33_openM hM47; have HP47 := Kd.R_seg HX47.out ((ji40) : Int) (of_decide_eq_true (by first | (with_reducible assumption) | assumption)) (by have h_ : ((ji40) : Int) < ((x3_1.length : Int) : Int) := of_decide_eq_true (by first | (with_reducible assumption) | assumption); first | exact h_ | (have e_ := (Kd.R_reads' HO_3.out).1; omega) | simpa using h_) (seg := [.int .i64 ((rd_T33 l0 x10_1).f1)]) (j := 1) hcl47 hcc47 (show 2 ≤ 6 from by decide) (x' := (⟨(rd_T33 x3_1 (ji40)).f0, ((rd_T33 l0 x10_1).f1), (rd_T33 x3_1 (ji40)).f2, (rd_T33 x3_1 (ji40)).f3, (rd_T33 x3_1 (ji40)).f4, (rd_T33 x3_1 (ji40)).f5⟩ : S33)) (k33_mkM _ _ _ (⟨(rd_T33 x3_1 (ji40)).f0, ((rd_T33 l0 x10_1).f1), (rd_T33 x3_1 (ji40)).f2, (rd_T33 x3_1 (ji40)).f3, (rd_T33 x3_1 (ji40)).f4, (rd_T33 x3_1 (ji40)).f5⟩ : S33) ) (fun _ hk => hk); have hx47_1 := hcc47 1 _ rfl; (try simp only [show (k33).sz = 6 from rfl, Nat.mul_one, Nat.add_zero] at hx47_1); have hf47_1 := hfr47 1; (try simp only [show (k33).sz = 6 from rfl, Nat.mul_one, Nat.add_zero] at hf47_1); clear hcl47 hcc47 hfr47 hM47) | ((with_reducible refine gate_store (t := 3) (p := 65) rfl ?_); refine store_event (t := 3) (p := 65) (v := ?vo_w48) (w1 := (w45.setCell ⟨go43, ((ji40) : Int).toNat * 6 + 1, none⟩ (.int .i64 ((rd_T33 l0 x10_1).f1)))) ?hg ?ho ?hn ?hr ?_; (case ho => rfl); (case hg => rfl); (case hn => rfl); (case hr => first | (go_simp; done) | (go_simp; rfl)); intro w48 hw; have hg : w45.grownBy w48 (some go43) := (by rw [hw]; exact HP47.2); have hp_ : Kd.R k33 33 w48 w.heap.size (fun k_ => k_ ≠ gb111) (.slice (some ⟨go43, 0, none⟩) x3_1.length co8) y132 := (by rw [hw, Ny132.out]; exact HP47.1); clear HP47; have n0_ := Aside0.mk (hp_); have n1_ := Aside0.mk (blk_grown (g := gb111) (o := .cells #[.int .i64 ((rd_T33 l0 x10_1).f0), .int .i64 ((rd_T33 l0 x10_1).f1), .int .i64 ((rd_T33 l0 x10_1).f2), .bool ((rd_T33 l0 x10_1).f3), .string ((rd_T33 l0 x10_1).f4), .int .u64 ((rd_T33 l0 x10_1).f5)] 33 (0, 0)) (by (with_reducible repeat (first | refine blk_drewN ?_ _ | refine blk_drew ?_ | refine blk_alloc ?_ _)); exact BK111.out) hg (Kd.R_away HO_3.out (fun _ hk => hk))); have n2_ := Aside0.mk ((by rw [hw]; exact below_set (HB.out) GB43.out : Below w.heap.size w w48)); clear HO_3; clear BK111; clear HB; have HO_3 := n0_; have BK111 := n1_; have HB := n2_; clear n0_ n1_ n2_; clear hg hw hp_))
            go_roundg kj4
            case measure => have := HK1.out; have := HJ4.out; omega
            case rel => exact ⟨(y132), (wrap64 (x10_1 + 1)), (by first | rfl | (simp; done) | (simp [*]; done)), H', ⟨by have := HK1.out; have := HJ4.out; omega⟩, ⟨by (with_reducible repeat (first | apply Kd.R_alloc | apply Kd.R_drewN | apply Kd.R_drew)); exact Kd.R_mono HO_3.out (fun _ hk => trivial)⟩, ⟨by repeat (first | (with_reducible first | exact HB.out | apply below_alloc | apply pw_below_drewN | apply below_drew1 | refine below_set ?_ GE111.out) | exact HB.out)⟩⟩
           ·rw [if_neg c42] at H
            exact absurd H (by simp)
          ·rw [if_neg c41] at H
           exact absurd H (by simp)
         ·replace c39 := Bool.eq_false_iff.mpr c39
          subst c39
          have H1 : (if x3_1.length < 2513169434916 then (span_Normal.l0 kj4 (x3_1 ++ [(⟨((rd_T33 l0 x10_1).f0), ((rd_T33 l0 x10_1).f1), ((rd_T33 l0 x10_1).f2), ((rd_T33 l0 x10_1).f3), ((rd_T33 l0 x10_1).f4), ((rd_T33 l0 x10_1).f5)⟩ : S33)]) l0 (l0.length : Int) (wrap64 (x10_1 + 1))) else (none)) = some r := by rw [if_neg (show ¬ (false = true) by decide)] at H; exact H
          clear H
          have H := H1
          clear H1
          by_cases c49 : x3_1.length < 2513169434916
          ·rw [if_pos c49] at H
           have LMc49 := Aside0.mk c49
           clear c49
           obtain ⟨y133, hy133⟩ : ∃ y_ : List (S33), y_ = (x3_1 ++ [(⟨((rd_T33 l0 x10_1).f0), ((rd_T33 l0 x10_1).f1), ((rd_T33 l0 x10_1).f2), ((rd_T33 l0 x10_1).f3), ((rd_T33 l0 x10_1).f4), ((rd_T33 l0 x10_1).f5)⟩ : S33)]) := ⟨_, rfl⟩
           replace H : (span_Normal.l0 kj4 y133 l0 (l0.length : Int) (wrap64 (x10_1 + 1))) = some r := by first | (rw [hy133]; with_reducible exact H) | (have H2_ := (Option.bind_some _ _).symm.trans H; rw [hy133]; with_reducible exact H2_) | (have H2_ := (Option.bind_some _ _).symm.trans H; with_reducible exact H2_) | with_reducible exact H | (rw [hy133]; exact H) | exact H
           have Ny133 := Aside0.mk hy133
           clear hy133
           have H' := Aside0.mk H
           clear H
           have hcz50_0 : wc.cell? ⟨gb111, 0, none⟩ = some (.int .i64 ((rd_T33 l0 x10_1).f0)) := (blk_cell BK111.out 0).trans rfl
           have hcz50_1 : wc.cell? ⟨gb111, 1, none⟩ = some (.int .i64 ((rd_T33 l0 x10_1).f1)) := (blk_cell BK111.out 1).trans rfl
           have hcz50_2 : wc.cell? ⟨gb111, 2, none⟩ = some (.int .i64 ((rd_T33 l0 x10_1).f2)) := (blk_cell BK111.out 2).trans rfl
           have hcz50_3 : wc.cell? ⟨gb111, 3, none⟩ = some (.bool ((rd_T33 l0 x10_1).f3)) := (blk_cell BK111.out 3).trans rfl
           have hcz50_4 : wc.cell? ⟨gb111, 4, none⟩ = some (.string ((rd_T33 l0 x10_1).f4)) := (blk_cell BK111.out 4).trans rfl
           have hcz50_5 : wc.cell? ⟨gb111, 5, none⟩ = some (.int .u64 ((rd_T33 l0 x10_1).f5)) := (blk_cell BK111.out 5).trans rfl
           have hfz50_0 := blk_frozen BK111.out 0
           have hfz50_1 := blk_frozen BK111.out 1
           have hfz50_2 := blk_frozen BK111.out 2
           have hfz50_3 := blk_frozen BK111.out 3
           have hfz50_4 := blk_frozen BK111.out 4
           have hfz50_5 := blk_frozen BK111.out 5
           go_wp2_with (first | ((with_reducible refine gate_callee (f := 23) rfl ?_); refine goesL_ (some 55) rfl rfl Try.func23 (by kernel_rfl) rfl #[.agg #[.int .i64 ((rd_T33 l0 x10_1).f0), .int .i64 ((rd_T33 l0 x10_1).f1), .int .i64 ((rd_T33 l0 x10_1).f2), .bool ((rd_T33 l0 x10_1).f3), .string ((rd_T33 l0 x10_1).f4), .int .u64 ((rd_T33 l0 x10_1).f5)]] rfl (by (try simp only [List.map_toArray, List.map_cons, List.map_nil]); first | done | rfl | (simp only [List.length_drop, List.length_take]; rfl)) ?_; (with_reducible refine (span_bare.calls ((rd_T33 l0 x10_1).f0) ((rd_T33 l0 x10_1).f1) ((rd_T33 l0 x10_1).f2) ((rd_T33 l0 x10_1).f3) ((rd_T33 l0 x10_1).f4) ((rd_T33 l0 x10_1).f5) t126 t127 t128 t129 t130 t131 _ A35.out).mono ?_); rintro e w51 ⟨rfl, hb⟩; refine ⟨_, rfl, ?_⟩; have n0_ := Aside0.mk (Kd.R_below (by (with_reducible repeat (first | apply Kd.R_alloc | apply Kd.R_drewN | apply Kd.R_drew)); exact HO_3.out) hb); have n1_ := Aside0.mk (blk_below (g := gb111) (o := .cells #[.int .i64 ((rd_T33 l0 x10_1).f0), .int .i64 ((rd_T33 l0 x10_1).f1), .int .i64 ((rd_T33 l0 x10_1).f2), .bool ((rd_T33 l0 x10_1).f3), .string ((rd_T33 l0 x10_1).f4), .int .u64 ((rd_T33 l0 x10_1).f5)] 33 (0, 0)) (by (with_reducible repeat (first | refine blk_drewN ?_ _ | refine blk_drew ?_ | refine blk_alloc ?_ _)); exact BK111.out) hb); have n2_ := Aside0.mk (below_step (by repeat (first | (with_reducible first | exact HB.out | apply below_alloc | apply pw_below_drewN | apply below_drew1 | refine below_set ?_ GE111.out) | exact HB.out)) hb); clear HO_3; clear BK111; clear HB; have HO_3 := n0_; have BK111 := n1_; have HB := n2_; clear n0_ n1_ n2_; (try clear hb); (try clear hb2); (try clear hk); (try clear hi); have hcz52_0 : w51.cell? ⟨gb111, 0, none⟩ = some (.int .i64 ((rd_T33 l0 x10_1).f0)) := (blk_cell BK111.out 0).trans rfl; have hcz52_1 : w51.cell? ⟨gb111, 1, none⟩ = some (.int .i64 ((rd_T33 l0 x10_1).f1)) := (blk_cell BK111.out 1).trans rfl; have hcz52_2 : w51.cell? ⟨gb111, 2, none⟩ = some (.int .i64 ((rd_T33 l0 x10_1).f2)) := (blk_cell BK111.out 2).trans rfl; have hcz52_3 : w51.cell? ⟨gb111, 3, none⟩ = some (.bool ((rd_T33 l0 x10_1).f3)) := (blk_cell BK111.out 3).trans rfl; have hcz52_4 : w51.cell? ⟨gb111, 4, none⟩ = some (.string ((rd_T33 l0 x10_1).f4)) := (blk_cell BK111.out 4).trans rfl; have hcz52_5 : w51.cell? ⟨gb111, 5, none⟩ = some (.int .u64 ((rd_T33 l0 x10_1).f5)) := (blk_cell BK111.out 5).trans rfl; have hfz52_0 := blk_frozen BK111.out 0; have hfz52_1 := blk_frozen BK111.out 1; have hfz52_2 := blk_frozen BK111.out 2; have hfz52_3 := blk_frozen BK111.out 3; have hfz52_4 := blk_frozen BK111.out 4; have hfz52_5 := blk_frozen BK111.out 5) | ((with_reducible refine gate_builtin (b := .append) (xs := #[.tmp 49, .tmp 51]) rfl ?_); at_builtin; refine Kd.R_append k33 (w0 := w) w.heap.size rfl (.tmp 49) (.tmp 51) 22 33 (.agg #[(.int .i64 0), (.int .i64 0), (.int .i64 0), (.bool false), (.string ⟨#[]⟩), (.int .u64 0)]) 56 rfl Try.underlying22 info33 rfl (by decide) (by omega) (.slice Ao8 x3_1.length co8) x3_1 (⟨((rd_T33 l0 x10_1).f0), ((rd_T33 l0 x10_1).f1), ((rd_T33 l0 x10_1).f2), ((rd_T33 l0 x10_1).f3), ((rd_T33 l0 x10_1).f4), ((rd_T33 l0 x10_1).f5)⟩ : S33) [.int .i64 ((rd_T33 l0 x10_1).f0), .int .i64 ((rd_T33 l0 x10_1).f1), .int .i64 ((rd_T33 l0 x10_1).f2), .bool ((rd_T33 l0 x10_1).f3), .string ((rd_T33 l0 x10_1).f4), .int .u64 ((rd_T33 l0 x10_1).f5)] (fun k_ => k_ ≠ gb111) (fun _ => False) rfl rfl ?aP (fun _ hk => hk.elim) ?aF ?aO ?aB ?aS ?aL ?_; (case aP => exact k33_mkM _ _ _ (⟨((rd_T33 l0 x10_1).f0), ((rd_T33 l0 x10_1).f1), ((rd_T33 l0 x10_1).f2), ((rd_T33 l0 x10_1).f3), ((rd_T33 l0 x10_1).f4), ((rd_T33 l0 x10_1).f5)⟩ : S33)); (case aB => exact (by repeat (first | (with_reducible first | exact HB.out | apply below_alloc | apply pw_below_drewN | apply below_drew1 | refine below_set ?_ GE111.out) | exact HB.out))); (case aF => exact (fun k_ hk => Kd.freshB (g := gb111) (o := .cells #[.int .i64 ((rd_T33 l0 x10_1).f0), .int .i64 ((rd_T33 l0 x10_1).f1), .int .i64 ((rd_T33 l0 x10_1).f2), .bool ((rd_T33 l0 x10_1).f3), .string ((rd_T33 l0 x10_1).f4), .int .u64 ((rd_T33 l0 x10_1).f5)] 33 (0, 0)) (by (with_reducible repeat (first | refine blk_drewN ?_ _ | refine blk_drew ?_ | refine blk_alloc ?_ _)); exact BK111.out) k_ hk)); (case aO => exact (by (with_reducible repeat (first | apply Kd.R_alloc | apply Kd.R_drewN | apply Kd.R_drew)); exact HO_3.out)); (case aS => exact (below_size (by repeat (first | (with_reducible first | exact HB.out | apply below_alloc | apply pw_below_drewN | apply below_drew1 | refine below_set ?_ GE111.out) | exact HB.out)))); (case aL => have := LMc49.out; omega); intro v134 w53 ho hb hg hat; rw [← Ny133.out] at ho; have n0_ := Aside0.mk (blk_grown (g := gb111) (o := .cells #[.int .i64 ((rd_T33 l0 x10_1).f0), .int .i64 ((rd_T33 l0 x10_1).f1), .int .i64 ((rd_T33 l0 x10_1).f2), .bool ((rd_T33 l0 x10_1).f3), .string ((rd_T33 l0 x10_1).f4), .int .u64 ((rd_T33 l0 x10_1).f5)] 33 (0, 0)) (by (with_reducible repeat (first | refine blk_drewN ?_ _ | refine blk_drew ?_ | refine blk_alloc ?_ _)); exact BK111.out) hg (Kd.R_away HO_3.out (fun _ hk => hk))); have n1_ := Aside0.mk (hb); have n2_ := Aside0.mk (ho); clear BK111; clear HB; clear HO_3; have BK111 := n0_; have HB := n1_; have HO135 := n2_; clear n0_ n1_ n2_; clear ho hb hg hat))
           go_roundg kj4
           case measure => have := HK1.out; have := HJ4.out; omega
           case rel => exact ⟨(y133), (wrap64 (x10_1 + 1)), (by first | rfl | (simp; done) | (simp [*]; done)), H', ⟨by have := HK1.out; have := HJ4.out; omega⟩, ⟨by (with_reducible repeat (first | apply Kd.R_alloc | apply Kd.R_drewN | apply Kd.R_drew)); exact Kd.R_mono HO135.out (fun _ hk => trivial)⟩, ⟨by repeat (first | (with_reducible first | exact HB.out | apply below_alloc | apply pw_below_drewN | apply below_drew1 | refine below_set ?_ GE111.out) | exact HB.out)⟩⟩
          ·rw [if_neg c49] at H
           exact absurd H (by simp)
     ·rw [if_neg c4] at H
      exact absurd H (by simp)
    ·rw [if_neg c3] at H
     exact absurd H (by simp)
   ·rw [if_neg c2] at H
    have c2b0 : decide (x10_1 < (l0.length : Int)) = false := decide_eq_false c2
    clear c2
    obtain rfl := Option.some.inj H
    go_wp2
    go_ret
    exact ⟨_, by first | rfl | (simp [errW_none, errW_some] <;> rfl) | (simp [*, errW_none, errW_some] <;> rfl), by (with_reducible repeat (first | apply Kd.R_alloc | apply Kd.R_drewN | apply Kd.R_drew)); exact HO_3.out, by repeat (first | (with_reducible first | exact HB.out | apply below_alloc | apply pw_below_drewN | apply below_drew1) | exact HB.out)⟩

end Go.Proofs.Ytdkblhfcndafaaa.X
