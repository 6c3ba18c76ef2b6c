-- Printed by xprint.py (mine, in wip/tools) through the kit's print. Not trusted: Lean checks it.
import Derived.Test.YtdkblhfcndafaaaX0
import Derived.Test.YtdkblhfcndafaaaXe33
import Derived.Test.YtdkblhfcndafaaaXf14
import Derived.Test.YtdkblhfcndafaaaXf15
import Derived.Test.YtdkblhfcndafaaaXf16
import Derived.Test.YtdkblhfcndafaaaXf7
import Derived.Test.YtdkblhfcndafaaaXf8
import Derived.Test.YtdkblhfcndafaaaXf9
namespace Go.Proofs.Ytdkblhfcndafaaa.X
open Go.RowKit Go.Proofs.YtdkblhfcndafaaaW.PrintWords Go.Proofs.YtdkblhfcndafaaaW.PrintLast Go.Proofs.YtdkblhfcndafaaaW.PrintMore
attribute [local go_sem] max2_int min2_int max_two min_two
set_option linter.unusedVariables false
set_option linter.unusedSimpArgs false

attribute [local go_sem high] eqA33
/-! ### frisketlaw07_SpanNormal: function 4 -/
mutual
def frisketlaw07_SpanNormal.j0 : Nat → List (S33) → Int → List (S33) → Bool → Option (Bool)
 | 0, _, _, _, _ => none
 | k + 1, x0, x2, x8, x35 => if x35 = true then (some false) else (frisketlaw07_SpanNormal.l0 k x0 x2 x8 0)
def frisketlaw07_SpanNormal.l0 : Nat → List (S33) → Int → List (S33) → Int → Option (Bool)
 | 0, _, _, _, _ => none
 | k + 1, x0, x2, x8, x9 => if x9 < (x0.length : Int) then (if 0 ≤ x9 then ((span_Style.f x8 ((rd_T33 x0 x9).f0)).bind fun bt259 => ((span_Style.f x0 ((rd_T33 x0 x9).f0)).bind fun bt266 => (if (!(bt259.1 == bt266.1) || (!(bt259.2.1 == bt266.2.1) || (!(bt259.2.2.1 == bt266.2.2.1) || (!(bt259.2.2.2.1 == bt266.2.2.2.1) || (!(bt259.2.2.2.2.1.toList == bt266.2.2.2.2.1.toList) || (!(bt259.2.2.2.2.2 == bt266.2.2.2.2.2))))))) = true then (some false) else ((span_Style.f x8 (wrap64 (((rd_T33 x0 x9).f1) - 1))).bind fun bt273 => ((span_Style.f x0 (wrap64 (((rd_T33 x0 x9).f1) - 1))).bind fun bt280 => (if (!(bt273.1 == bt280.1) || (!(bt273.2.1 == bt280.2.1) || (!(bt273.2.2.1 == bt280.2.2.1) || (!(bt273.2.2.2.1 == bt280.2.2.2.1) || (!(bt273.2.2.2.2.1.toList == bt280.2.2.2.2.1.toList) || (!(bt273.2.2.2.2.2 == bt280.2.2.2.2.2))))))) = true then (some false) else ((span_Style.f x8 ((rd_T33 x0 x9).f1)).bind fun bt287 => ((span_Style.f x0 ((rd_T33 x0 x9).f1)).bind fun bt294 => (if (!(bt287.1 == bt294.1) || (!(bt287.2.1 == bt294.2.1) || (!(bt287.2.2.1 == bt294.2.2.1) || (!(bt287.2.2.2.1 == bt294.2.2.2.1) || (!(bt287.2.2.2.2.1.toList == bt294.2.2.2.2.1.toList) || (!(bt287.2.2.2.2.2 == bt294.2.2.2.2.2))))))) = true then (some false) else (frisketlaw07_SpanNormal.l0 k x0 x2 x8 (wrap64 (x9 + 1)))))))))))) else (none)) else ((frisketlaw07_alive.f k).bind fun t245 => (if t245 = true then ((span_Style.f x8 x2).bind fun bt246 => ((span_Style.f x0 x2).bind fun bt252 => (some (bt246.1 == bt252.1 && (bt246.2.1 == bt252.2.1 && (bt246.2.2.1 == bt252.2.2.1 && (bt246.2.2.2.1 == bt252.2.2.2.1 && (bt246.2.2.2.2.1.toList == bt252.2.2.2.2.1.toList && (bt246.2.2.2.2.2 == bt252.2.2.2.2.2))))))))) else (some false)))
end
def frisketlaw07_SpanNormal.f (k : Nat) (l0 : List (S33)) (a1 : Int) (a2 : Int) : Option (Bool) := (frisketlaw07_Fits.f k l0 a1).bind fun t235 => (if t235 = true then ((span_Normal.f k l0).bind fun t237 => ((span_Right.f k t237 a1).bind fun t240 => (if t240 = true then (if (t237.length : Int) > (l0.length : Int) then (frisketlaw07_SpanNormal.j0 k l0 a2 t237 true) else ((span_Normal.f k t237).bind fun t241 => ((frisketref07_Same.f k t241 t237).bind fun t244 => (frisketlaw07_SpanNormal.j0 k l0 a2 t237 (!t244))))) else (frisketlaw07_SpanNormal.j0 k l0 a2 t237 true)))) else ((frisketlaw07_alive.f k).bind fun t236 => (some t236)))
abbrev Y' : Bool := true
abbrev N' : Bool := false
theorem frisketlaw07_SpanNormal.mono_l : ∀ k, (∀ y0 y1 y2 y3, LeO (frisketlaw07_SpanNormal.j0 k y0 y1 y2 y3) (frisketlaw07_SpanNormal.j0 (k + 1) y0 y1 y2 y3)) ∧ (∀ y0 y1 y2 y3, LeO (frisketlaw07_SpanNormal.l0 k y0 y1 y2 y3) (frisketlaw07_SpanNormal.l0 (k + 1) y0 y1 y2 y3))
 | 0 => ⟨fun _ _ _ _ r h => by simp [frisketlaw07_SpanNormal.j0] at h, fun _ _ _ _ r h => by simp [frisketlaw07_SpanNormal.l0] at h⟩
 | k + 1 => by
  obtain ⟨ih0, ih1⟩ := frisketlaw07_SpanNormal.mono_l k
  refine ⟨?_, ?_⟩
  ·intro y0 y1 y2 y3
   unfold frisketlaw07_SpanNormal.j0
   repeat' first
   | (with_reducible exact ih0 _ _ _ _)
   | (with_reducible exact ih1 _ _ _ _)
   | (with_reducible exact frisketlaw07_Fits.mono _ _ _)
   | (with_reducible exact frisketlaw07_alive.mono _)
   | (with_reducible exact frisketref07_Same.mono _ _ _)
   | (with_reducible exact span_Normal.mono _ _)
   | (with_reducible exact span_Right.mono _ _ _)
   | (with_reducible exact LeO.refl _)
   | (with_reducible exact LeO.none _)
   | (with_reducible refine LeO.ite ?_ ?_)
   | (with_reducible refine LeO.bind ?_ (fun _ => ?_))
   | exact ih0 _ _ _ _
   | exact ih1 _ _ _ _
   | exact frisketlaw07_Fits.mono _ _ _
   | exact frisketlaw07_alive.mono _
   | exact frisketref07_Same.mono _ _ _
   | exact span_Normal.mono _ _
   | exact span_Right.mono _ _ _
   | exact LeO.none _
   | refine LeO.ite ?_ ?_
   | refine LeO.bind ?_ (fun _ => ?_)
  ·intro y0 y1 y2 y3
   unfold frisketlaw07_SpanNormal.l0
   repeat' first
   | (with_reducible exact ih0 _ _ _ _)
   | (with_reducible exact ih1 _ _ _ _)
   | (with_reducible exact frisketlaw07_Fits.mono _ _ _)
   | (with_reducible exact frisketlaw07_alive.mono _)
   | (with_reducible exact frisketref07_Same.mono _ _ _)
   | (with_reducible exact span_Normal.mono _ _)
   | (with_reducible exact span_Right.mono _ _ _)
   | (with_reducible exact LeO.refl _)
   | (with_reducible exact LeO.none _)
   | (with_reducible refine LeO.ite ?_ ?_)
   | (with_reducible refine LeO.bind ?_ (fun _ => ?_))
   | exact ih0 _ _ _ _
   | exact ih1 _ _ _ _
   | exact frisketlaw07_Fits.mono _ _ _
   | exact frisketlaw07_alive.mono _
   | exact frisketref07_Same.mono _ _ _
   | exact span_Normal.mono _ _
   | exact span_Right.mono _ _ _
   | exact LeO.none _
   | refine LeO.ite ?_ ?_
   | refine LeO.bind ?_ (fun _ => ?_)
theorem frisketlaw07_SpanNormal.mono : ∀ a0 a1 a2 k, LeO (frisketlaw07_SpanNormal.f k a0 a1 a2) (frisketlaw07_SpanNormal.f (k + 1) a0 a1 a2) := by
 intro a0 a1 a2 k
 obtain ⟨ih0, ih1⟩ := frisketlaw07_SpanNormal.mono_l k
 unfold frisketlaw07_SpanNormal.f
 repeat' first
   | (with_reducible exact ih0 _ _ _ _)
   | (with_reducible exact ih1 _ _ _ _)
   | (with_reducible exact frisketlaw07_Fits.mono _ _ _)
   | (with_reducible exact frisketlaw07_alive.mono _)
   | (with_reducible exact frisketref07_Same.mono _ _ _)
   | (with_reducible exact span_Normal.mono _ _)
   | (with_reducible exact span_Right.mono _ _ _)
   | (with_reducible exact LeO.refl _)
   | (with_reducible exact LeO.none _)
   | (with_reducible refine LeO.ite ?_ ?_)
   | (with_reducible refine LeO.bind ?_ (fun _ => ?_))
   | exact ih0 _ _ _ _
   | exact ih1 _ _ _ _
   | exact frisketlaw07_Fits.mono _ _ _
   | exact frisketlaw07_alive.mono _
   | exact frisketref07_Same.mono _ _ _
   | exact span_Normal.mono _ _
   | exact span_Right.mono _ _ _
   | exact LeO.none _
   | refine LeO.ite ?_ ?_
   | refine LeO.bind ?_ (fun _ => ?_)
def frisketlaw07_SpanNormal.T10 : Bool × List (List Nat × List Nat) := (true, [([], []), ([], []), ([], []), ([1, 2], [1, 2]), ([3], [3]), ([4], [4]), ([0, 5], [0, 5]), ([], []), ([], []), ([], []), ([8, 9], [8, 9]), ([10], [10]), ([11], [11]), ([7, 12, 6], [7, 12]), ([6, 13], [6, 13]), ([14, 13], [14]), ([15], [15]), ([15], [15]), ([15], [15]), ([17, 18, 15], [15, 17, 18]), ([19, 15], [15, 19]), ([20, 15], [15, 20]), ([21, 15], [15, 21]), ([16, 22, 15, 15], [15, 16, 22]), ([15], [15]), ([15], [15]), ([15], [15]), ([25, 26, 15], [15, 25, 26]), ([27, 15], [15, 27]), ([28, 15], [15, 28]), ([29, 15], [15, 29]), ([24, 30, 23, 15], [15, 24, 30]), ([23, 31, 15], [15, 23, 31]), ([15, 32], [15, 32]), ([33, 31], [33]), ([34], [34]), ([34], [34]), ([34], [34]), ([36, 37, 34], [34, 36, 37]), ([38, 34], [34, 38]), ([39, 34], [34, 39]), ([35, 40, 34, 34], [34, 35, 40]), ([34], [34]), ([34], [34]), ([34], [34]), ([43, 44, 34], [34, 43, 44]), ([45, 34], [34, 45]), ([46, 34], [34, 46]), ([42, 47, 41, 34], [34, 42, 47]), ([41, 48, 34], [34, 41, 48]), ([34, 49], [34, 49])])
def frisketlaw07_SpanNormal.B10 : List Nat := [0, 0, 0, 6, 14, 30, 63, 0, 0, 0, 768, 1792, 3840, 8191, 16383, 32767, 65535, 65535, 65535, 458751, 983039, 2031615, 4128767, 8388607, 65535, 65535, 65535, 100728831, 234946559, 503382015, 1040252927, 2147483647, 4294967295, 8589934591, 17179869183, 34359738367, 34359738367, 34359738367, 240518168575, 515396075519, 1065151889407, 2199023255551, 34359738367, 34359738367, 34359738367, 26422638804991, 61607010893823, 131975755071487, 281474976710655, 562949953421311, 1125899906842623]
theorem frisketlaw07_SpanNormal.tab10 : rtab .any (opsOf Try.f4 10) = frisketlaw07_SpanNormal.T10 := by kernel_rfl
theorem frisketlaw07_SpanNormal.bits10 : waitsOk frisketlaw07_SpanNormal.T10.2 frisketlaw07_SpanNormal.B10 = true := by kernel_rfl
set_option maxHeartbeats 8000000 in
set_option maxRecDepth 100000 in
theorem frisketlaw07_SpanNormal.calls (k : Nat) (A0 : Option Addr) (c0 : Nat) (l0 : List (S33)) (a1 : Int) (a2 : Int) (r : Bool) (w : World) (hr0 : Kd.C k33 w A0 l0.length l0) (hc0 : l0.length ≤ c0) (h : frisketlaw07_SpanNormal.f k l0 a1 a2 = some r) :
  Calls Try.prog 4 #[.slice A0 l0.length c0, .int .i64 a1, .int .i64 a2] w fun e w' => e = .returned (.bool r) ∧ Below w.heap.size w w' := by
 have HR0 := Aside0.mk hr0
 have HC0 := Aside0.mk hc0
 clear hr0 hc0
 have HB := Aside0.mk (Below.refl w.heap.size w)
 have H : ((frisketlaw07_Fits.f k l0 a1).bind fun t235 => (if t235 = true then ((span_Normal.f k l0).bind fun t237 => ((span_Right.f k t237 a1).bind fun t240 => (if t240 = true then (if (t237.length : Int) > (l0.length : Int) then (frisketlaw07_SpanNormal.j0 k l0 a2 t237 true) else ((span_Normal.f k t237).bind fun t241 => ((frisketref07_Same.f k t241 t237).bind fun t244 => (frisketlaw07_SpanNormal.j0 k l0 a2 t237 (!t244))))) else (frisketlaw07_SpanNormal.j0 k l0 a2 t237 true)))) else ((frisketlaw07_alive.f k).bind fun t236 => (some t236)))) = some r := h
 clear h
 replace H := Option.bind_eq_some_iff.mp H
 obtain ⟨t235, A40, H⟩ := H
 replace H : (if t235 = true then ((span_Normal.f k l0).bind fun t237 => ((span_Right.f k t237 a1).bind fun t240 => (if t240 = true then (if (t237.length : Int) > (l0.length : Int) then (frisketlaw07_SpanNormal.j0 k l0 a2 t237 true) else ((span_Normal.f k t237).bind fun t241 => ((frisketref07_Same.f k t241 t237).bind fun t244 => (frisketlaw07_SpanNormal.j0 k l0 a2 t237 (!t244))))) else (frisketlaw07_SpanNormal.j0 k l0 a2 t237 true)))) else ((frisketlaw07_alive.f k).bind fun t236 => (some t236))) = some r := H
 have A4 := Aside0.mk A40
 clear A40
 by_cases c5 : t235 = true
 ·subst c5
  have H1 : ((span_Normal.f k l0).bind fun t237 => ((span_Right.f k t237 a1).bind fun t240 => (if t240 = true then (if (t237.length : Int) > (l0.length : Int) then (frisketlaw07_SpanNormal.j0 k l0 a2 t237 true) else ((span_Normal.f k t237).bind fun t241 => ((frisketref07_Same.f k t241 t237).bind fun t244 => (frisketlaw07_SpanNormal.j0 k l0 a2 t237 (!t244))))) else (frisketlaw07_SpanNormal.j0 k l0 a2 t237 true)))) = some r := by rw [if_pos rfl] at H; exact H
  clear H
  have H := H1
  clear H1
  replace H := Option.bind_eq_some_iff.mp H
  obtain ⟨t237, A60, H⟩ := H
  replace H : ((span_Right.f k t237 a1).bind fun t240 => (if t240 = true then (if (t237.length : Int) > (l0.length : Int) then (frisketlaw07_SpanNormal.j0 k l0 a2 t237 true) else ((span_Normal.f k t237).bind fun t241 => ((frisketref07_Same.f k t241 t237).bind fun t244 => (frisketlaw07_SpanNormal.j0 k l0 a2 t237 (!t244))))) else (frisketlaw07_SpanNormal.j0 k l0 a2 t237 true))) = some r := H
  have A6 := Aside0.mk A60
  clear A60
  have HC7 := Aside0.mk H
  clear H
  go_enter Try.func4, Try.ntmps4
  go_upto_region 5 with (first | ((with_reducible refine gate_callee (f := 7) rfl ?_); refine goesL_ (some 12) rfl rfl Try.func7 (by kernel_rfl) rfl #[.slice A0 l0.length c0, .int .i64 a1] rfl (by (try simp only [List.map_toArray, List.map_cons, List.map_nil]); first | done | rfl | (simp only [List.length_drop, List.length_take]; rfl)) ?_; (with_reducible refine (frisketlaw07_Fits.calls k _ _ l0 a1 true _ ?side1 ?side2 A4.out).mono ?_); (case side1 => repeat (first | exact HR0.out | (with_reducible refine Kd.C_alloc ?_ _) | (with_reducible refine Kd.C_drewN ?_ _) | (with_reducible refine Kd.C_drew ?_))); (case side2 => exact HC0.out); rintro e w8 ⟨rfl, hb⟩; refine ⟨_, rfl, ?_⟩; have n0_ := Aside0.mk (below_step (by repeat (first | (with_reducible first | exact HB.out | apply below_alloc | apply pw_below_drewN | apply below_drew1) | exact HB.out)) hb); clear HB; have HB := n0_; clear n0_; (try clear hb); (try clear hb2); (try clear hk); (try clear hi)) | ((with_reducible refine gate_callee (f := 14) rfl ?_); refine goesL_ (some 17) rfl rfl Try.func14 (by kernel_rfl) rfl #[.slice A0 l0.length c0] rfl (by (try simp only [List.map_toArray, List.map_cons, List.map_nil]); first | done | rfl | (simp only [List.length_drop, List.length_take]; rfl)) ?_; (with_reducible refine (span_Normal.calls k _ _ l0 t237 _ ?side1 ?side2 A6.out).mono ?_); (case side1 => repeat (first | exact (Kd.C_below HR0.out HB.out) | (with_reducible refine Kd.C_alloc ?_ _) | (with_reducible refine Kd.C_drewN ?_ _) | (with_reducible refine Kd.C_drew ?_))); (case side2 => exact HC0.out); rintro e w9 ⟨v238, rfl, ho0, hb⟩; refine ⟨_, rfl, ?_⟩; have n0_ := Aside0.mk (Kd.R_lower ho0 (below_size (by repeat (first | (with_reducible first | exact HB.out | apply below_alloc | apply pw_below_drewN | apply below_drew1) | exact HB.out)))); have n1_ := Aside0.mk (below_step (by repeat (first | (with_reducible first | exact HB.out | apply below_alloc | apply pw_below_drewN | apply below_drew1) | exact HB.out)) hb); clear HB; have HO239 := n0_; have HB := n1_; clear n0_ n1_; (try clear hb); (try clear hb2); (try clear hk); (try clear hi); (try clear ho0)))
  (try simp only [Act.put, List.setIfInBounds_toArray, List.set_cons_zero, List.set_cons_succ])
  go_cut [35] (fun v35 wc => ∃ (kq : Nat) (x35_6 : Bool), v35 = .bool x35_6 ∧ Aside0 (frisketlaw07_SpanNormal.j0 kq l0 a2 t237 x35_6 = some r) ∧ Aside0 (kq ≤ k) ∧ Aside0 (Kd.R k33 33 wc w.heap.size (fun _ => True) v238 t237) ∧ Aside0 (Below w.heap.size w wc))
  case first =>
   have H := HC7.out
   clear HC7
   replace H := Option.bind_eq_some_iff.mp H
   obtain ⟨t240, A100, H⟩ := H
   replace H : (if t240 = true then (if (t237.length : Int) > (l0.length : Int) then (frisketlaw07_SpanNormal.j0 k l0 a2 t237 true) else ((span_Normal.f k t237).bind fun t241 => ((frisketref07_Same.f k t241 t237).bind fun t244 => (frisketlaw07_SpanNormal.j0 k l0 a2 t237 (!t244))))) else (frisketlaw07_SpanNormal.j0 k l0 a2 t237 true)) = some r := H
   have A10 := Aside0.mk A100
   clear A100
   by_cases c11 : t240 = true
   ·subst c11
    have H1 : (if (t237.length : Int) > (l0.length : Int) then (frisketlaw07_SpanNormal.j0 k l0 a2 t237 true) else ((span_Normal.f k t237).bind fun t241 => ((frisketref07_Same.f k t241 t237).bind fun t244 => (frisketlaw07_SpanNormal.j0 k l0 a2 t237 (!t244))))) = some r := by rw [if_pos rfl] at H; exact H
    clear H
    have H := H1
    clear H1
    by_cases c12 : (t237.length : Int) > (l0.length : Int)
    ·rw [if_pos c12] at H
     have c12b0 : decide ((l0.length : Int) < (t237.length : Int)) = true := decide_eq_true c12
     have c12b1 : decide (l0.length < t237.length) = true := decide_eq_true (Int.ofNat_lt.mp c12)
     clear c12
     (first | rw [c12b0] | (simp only [i64_w, i32_w]; rw [c12b0]) | skip)
     have H' := Aside0.mk H
     clear H
     obtain ⟨Ao13, co13, eo13⟩ := Kd.R_slice HO239.out
     subst eo13
     go_wp2_with (first | ((with_reducible refine gate_callee (f := 15) rfl ?_); refine goesL_ (some 20) rfl rfl Try.func15 (by kernel_rfl) rfl #[.slice Ao13 t237.length co13, .int .i64 a1] rfl (by (try simp only [List.map_toArray, List.map_cons, List.map_nil]); first | done | rfl | (simp only [List.length_drop, List.length_take]; rfl)) ?_; (with_reducible refine (span_Right.calls k _ _ t237 a1 true _ ?side1 ?side2 A10.out).mono ?_); (case side1 => repeat (first | exact (Kd.R_reads' HO239.out).2.2 | (with_reducible refine Kd.C_alloc ?_ _) | (with_reducible refine Kd.C_drewN ?_ _) | (with_reducible refine Kd.C_drew ?_))); (case side2 => exact (Kd.R_reads' HO239.out).2.1); rintro e w14 ⟨rfl, hb⟩; refine ⟨_, rfl, ?_⟩; have n0_ := Aside0.mk (Kd.R_below (by (with_reducible repeat (first | apply Kd.R_alloc | apply Kd.R_drewN | apply Kd.R_drew)); exact HO239.out) hb); have n1_ := Aside0.mk (below_step (by repeat (first | (with_reducible first | exact HB.out | apply below_alloc | apply pw_below_drewN | apply below_drew1) | exact HB.out)) hb); clear HO239; clear HB; have HO239 := n0_; have HB := n1_; clear n0_ n1_; (try clear hb); (try clear hb2); (try clear hk); (try clear hi)))
     go_meet
     case rel => exact ⟨_, (true), (by first | rfl | (simp; done) | (simp [*]; done)), H', ⟨by first | omega | exact Nat.le_refl _⟩, ⟨by (with_reducible repeat (first | apply Kd.R_alloc | apply Kd.R_drewN | apply Kd.R_drew)); exact HO239.out⟩, ⟨by repeat (first | (with_reducible first | exact HB.out | apply below_alloc | apply pw_below_drewN | apply below_drew1) | exact HB.out)⟩⟩
    ·rw [if_neg c12] at H
     have c12b0 : decide ((l0.length : Int) < (t237.length : Int)) = false := decide_eq_false c12
     have c12b1 : decide (l0.length < t237.length) = false := decide_eq_false (fun h => c12 (Int.ofNat_lt.mpr h))
     clear c12
     (first | rw [c12b0] | (simp only [i64_w, i32_w]; rw [c12b0]) | skip)
     replace H := Option.bind_eq_some_iff.mp H
     obtain ⟨t241, A150, H⟩ := H
     replace H : ((frisketref07_Same.f k t241 t237).bind fun t244 => (frisketlaw07_SpanNormal.j0 k l0 a2 t237 (!t244))) = some r := H
     have A15 := Aside0.mk A150
     clear A150
     replace H := Option.bind_eq_some_iff.mp H
     obtain ⟨t244, A160, H⟩ := H
     replace H : (frisketlaw07_SpanNormal.j0 k l0 a2 t237 (!t244)) = some r := H
     have A16 := Aside0.mk A160
     clear A160
     have H' := Aside0.mk H
     clear H
     obtain ⟨Ao17, co17, eo17⟩ := Kd.R_slice HO239.out
     subst eo17
     go_wp2_with (first | ((with_reducible refine gate_callee (f := 15) rfl ?_); refine goesL_ (some 20) rfl rfl Try.func15 (by kernel_rfl) rfl #[.slice Ao17 t237.length co17, .int .i64 a1] rfl (by (try simp only [List.map_toArray, List.map_cons, List.map_nil]); first | done | rfl | (simp only [List.length_drop, List.length_take]; rfl)) ?_; (with_reducible refine (span_Right.calls k _ _ t237 a1 true _ ?side1 ?side2 A10.out).mono ?_); (case side1 => repeat (first | exact (Kd.R_reads' HO239.out).2.2 | (with_reducible refine Kd.C_alloc ?_ _) | (with_reducible refine Kd.C_drewN ?_ _) | (with_reducible refine Kd.C_drew ?_))); (case side2 => exact (Kd.R_reads' HO239.out).2.1); rintro e w18 ⟨rfl, hb⟩; refine ⟨_, rfl, ?_⟩; have n0_ := Aside0.mk (Kd.R_below (by (with_reducible repeat (first | apply Kd.R_alloc | apply Kd.R_drewN | apply Kd.R_drew)); exact HO239.out) hb); have n1_ := Aside0.mk (below_step (by repeat (first | (with_reducible first | exact HB.out | apply below_alloc | apply pw_below_drewN | apply below_drew1) | exact HB.out)) hb); clear HO239; clear HB; have HO239 := n0_; have HB := n1_; clear n0_ n1_; (try clear hb); (try clear hb2); (try clear hk); (try clear hi)) | (go_at_call 14; (with_reducible refine (span_Normal.calls k _ _ t237 t241 _ ?side1 ?side2 A15.out).mono ?_); (case side1 => repeat (first | exact (Kd.R_reads' HO239.out).2.2 | (with_reducible refine Kd.C_alloc ?_ _) | (with_reducible refine Kd.C_drewN ?_ _) | (with_reducible refine Kd.C_drew ?_))); (case side2 => exact (Kd.R_reads' HO239.out).2.1); rintro e w19 ⟨v242, rfl, ho0, hb⟩; have n0_ := Aside0.mk (Kd.R_elder' (by (with_reducible repeat (first | apply Kd.R_alloc | apply Kd.R_drewN | apply Kd.R_drew)); exact HO239.out) (Kd.R_base ho0) hb); have n1_ := Aside0.mk (Kd.R_lower (Kd.R_new' ho0 (Kd.R_lt (by (with_reducible repeat (first | apply Kd.R_alloc | apply Kd.R_drewN | apply Kd.R_drew)); exact HO239.out))) (below_size (by repeat (first | (with_reducible first | exact HB.out | apply below_alloc | apply pw_below_drewN | apply below_drew1) | exact HB.out)))); have n2_ := Aside0.mk (below_step (by repeat (first | (with_reducible first | exact HB.out | apply below_alloc | apply pw_below_drewN | apply below_drew1) | exact HB.out)) hb); clear HO239; clear HB; have HO239 := n0_; have HO243 := n1_; have HB := n2_; clear n0_ n1_ n2_; (try clear hb); (try clear hb2); (try clear hk); (try clear hi); (try clear ho0); obtain ⟨Ao20, co20, eo20⟩ := Kd.R_slice HO243.out; subst eo20) | (go_at_call 9; (with_reducible refine (frisketref07_Same.calls k _ _ t241 _ _ t237 t244 _ ?side1 ?side2 ?side3 ?side4 A16.out).mono ?_); (case side1 => repeat (first | exact (Kd.R_reads' HO243.out).2.2 | (with_reducible refine Kd.C_alloc ?_ _) | (with_reducible refine Kd.C_drewN ?_ _) | (with_reducible refine Kd.C_drew ?_))); (case side2 => exact (Kd.R_reads' HO243.out).2.1); (case side3 => repeat (first | exact (Kd.R_reads' HO239.out).2.2 | (with_reducible refine Kd.C_alloc ?_ _) | (with_reducible refine Kd.C_drewN ?_ _) | (with_reducible refine Kd.C_drew ?_))); (case side4 => exact (Kd.R_reads' HO239.out).2.1); rintro e w' ⟨rfl, ⟨nd, rfl⟩⟩))
     go_meet
     case rel => exact ⟨_, (!t244), (by first | rfl | (simp; done) | (simp [*]; done)), H', ⟨by first | omega | exact Nat.le_refl _⟩, ⟨by (with_reducible repeat (first | apply Kd.R_alloc | apply Kd.R_drewN | apply Kd.R_drew)); exact Kd.R_mono HO239.out (fun _ hk => trivial)⟩, ⟨by repeat (first | (with_reducible first | exact HB.out | apply below_alloc | apply pw_below_drewN | apply below_drew1) | exact HB.out)⟩⟩
   ·replace c11 := Bool.eq_false_iff.mpr c11
    subst c11
    have H1 : (frisketlaw07_SpanNormal.j0 k l0 a2 t237 true) = some r := by rw [if_neg (show ¬ (false = true) by decide)] at H; exact H
    clear H
    have H := H1
    clear H1
    have H' := Aside0.mk H
    clear H
    obtain ⟨Ao21, co21, eo21⟩ := Kd.R_slice HO239.out
    subst eo21
    go_wp2_with (first | ((with_reducible refine gate_callee (f := 15) rfl ?_); refine goesL_ (some 20) rfl rfl Try.func15 (by kernel_rfl) rfl #[.slice Ao21 t237.length co21, .int .i64 a1] rfl (by (try simp only [List.map_toArray, List.map_cons, List.map_nil]); first | done | rfl | (simp only [List.length_drop, List.length_take]; rfl)) ?_; (with_reducible refine (span_Right.calls k _ _ t237 a1 false _ ?side1 ?side2 A10.out).mono ?_); (case side1 => repeat (first | exact (Kd.R_reads' HO239.out).2.2 | (with_reducible refine Kd.C_alloc ?_ _) | (with_reducible refine Kd.C_drewN ?_ _) | (with_reducible refine Kd.C_drew ?_))); (case side2 => exact (Kd.R_reads' HO239.out).2.1); rintro e w22 ⟨rfl, hb⟩; refine ⟨_, rfl, ?_⟩; have n0_ := Aside0.mk (Kd.R_below (by (with_reducible repeat (first | apply Kd.R_alloc | apply Kd.R_drewN | apply Kd.R_drew)); exact HO239.out) hb); have n1_ := Aside0.mk (below_step (by repeat (first | (with_reducible first | exact HB.out | apply below_alloc | apply pw_below_drewN | apply below_drew1) | exact HB.out)) hb); clear HO239; clear HB; have HO239 := n0_; have HB := n1_; clear n0_ n1_; (try clear hb); (try clear hb2); (try clear hk); (try clear hi)))
    go_meet
    case rel => exact ⟨_, (true), (by first | rfl | (simp; done) | (simp [*]; done)), H', ⟨by first | omega | exact Nat.le_refl _⟩, ⟨by (with_reducible repeat (first | apply Kd.R_alloc | apply Kd.R_drewN | apply Kd.R_drew)); exact HO239.out⟩, ⟨by repeat (first | (with_reducible first | exact HB.out | apply below_alloc | apply pw_below_drewN | apply below_drew1) | exact HB.out)⟩⟩
  case rest =>
   clear HC7
   try clear c1
   try clear p2
   try clear c4
   try clear c5
   try clear c7
   try clear c11
   try clear c12
   try clear c12b0
   try clear c12b1
   try clear c14
   try clear c15
   obtain ⟨kq, x35_6, rfl, HA, HJ6, HO_8, HB⟩ := hcut
   cases kq with
   | zero => exact absurd HA.out (by simp [frisketlaw07_SpanNormal.j0])
   | succ kj6 =>
    have H := HA.out
    clear HA
    simp only [frisketlaw07_SpanNormal.j0] at H
    by_cases c23 : x35_6 = true
    ·subst c23
     have H1 : (some false) = some r := by rw [if_pos rfl] at H; exact H
     clear H
     have H := H1
     clear H1
     obtain rfl := Option.some.inj H
     go_wp2
     go_ret
     exact ⟨by first | rfl | (simp [errW_none, errW_some] <;> rfl) | (simp [*, errW_none, errW_some] <;> rfl), by repeat (first | (with_reducible first | exact HB.out | apply below_alloc | apply pw_below_drewN | apply below_drew1) | exact HB.out)⟩
    ·replace c23 := Bool.eq_false_iff.mpr c23
     subst c23
     have H1 : (frisketlaw07_SpanNormal.l0 kj6 l0 a2 t237 0) = some r := by rw [if_neg (show ¬ (false = true) by decide)] at H; exact H
     clear H
     have H := H1
     clear H1
     have H' := Aside0.mk H
     clear H
     go_wp2
     go_loopg [9] kj6 (fun kq v9 w' => ∃ (x9_2 : Int), v9 = .int .i64 x9_2 ∧ Aside0 (frisketlaw07_SpanNormal.l0 kq l0 a2 t237 x9_2 = some r) ∧ Aside0 (kq ≤ kj6) ∧ Aside0 (Kd.R k33 33 w' w.heap.size (fun _ => True) v238 t237) ∧ Aside0 (Below w.heap.size w w'))
     case atStart => exact ⟨(0), (by first | rfl | (simp; done) | (simp [*]; done)), H', ⟨Nat.le_refl _⟩, ⟨by (with_reducible repeat (first | apply Kd.R_alloc | apply Kd.R_drewN | apply Kd.R_drew)); exact HO_8.out⟩, ⟨by repeat (first | (with_reducible first | exact HB.out | apply below_alloc | apply pw_below_drewN | apply below_drew1) | exact HB.out)⟩⟩
     case round =>
      clear H'
      try clear c1
      try clear c2
      try clear p2
      try clear c4
      try clear c5
      try clear c7
      try clear c11
      try clear c12
      try clear c12b0
      try clear c12b1
      try clear c14
      try clear c15
      try clear c23
      try clear p2
      obtain ⟨x9_2, rfl, HA, HK2, HO_8, HB⟩ := hrel
      cases gk with
      | zero => exact absurd HA.out (by simp [frisketlaw07_SpanNormal.l0])
      | succ k2 =>
       have H := HA.out
       clear HA
       simp only [frisketlaw07_SpanNormal.l0] at H
       by_cases c24 : x9_2 < (l0.length : Int)
       ·rw [if_pos c24] at H
        have c24b0 : decide (x9_2 < (l0.length : Int)) = true := decide_eq_true c24
        clear c24
        by_cases c25 : 0 ≤ x9_2
        ·rw [if_pos c25] at H
         have c25b0 : decide (0 ≤ x9_2) = true := decide_eq_true c25
         clear c25
         replace H := Option.bind_eq_some_iff.mp H
         obtain ⟨⟨t259, t260, t261, t262, t263, t264⟩, A260, H⟩ := H
         replace H : ((span_Style.f l0 ((rd_T33 l0 x9_2).f0)).bind fun bt266 => (if (!(t259 == bt266.1) || (!(t260 == bt266.2.1) || (!(t261 == bt266.2.2.1) || (!(t262 == bt266.2.2.2.1) || (!(t263.toList == bt266.2.2.2.2.1.toList) || (!(t264 == bt266.2.2.2.2.2))))))) = true then (some false) else ((span_Style.f t237 (wrap64 (((rd_T33 l0 x9_2).f1) - 1))).bind fun bt273 => ((span_Style.f l0 (wrap64 (((rd_T33 l0 x9_2).f1) - 1))).bind fun bt280 => (if (!(bt273.1 == bt280.1) || (!(bt273.2.1 == bt280.2.1) || (!(bt273.2.2.1 == bt280.2.2.1) || (!(bt273.2.2.2.1 == bt280.2.2.2.1) || (!(bt273.2.2.2.2.1.toList == bt280.2.2.2.2.1.toList) || (!(bt273.2.2.2.2.2 == bt280.2.2.2.2.2))))))) = true then (some false) else ((span_Style.f t237 ((rd_T33 l0 x9_2).f1)).bind fun bt287 => ((span_Style.f l0 ((rd_T33 l0 x9_2).f1)).bind fun bt294 => (if (!(bt287.1 == bt294.1) || (!(bt287.2.1 == bt294.2.1) || (!(bt287.2.2.1 == bt294.2.2.1) || (!(bt287.2.2.2.1 == bt294.2.2.2.1) || (!(bt287.2.2.2.2.1.toList == bt294.2.2.2.2.1.toList) || (!(bt287.2.2.2.2.2 == bt294.2.2.2.2.2))))))) = true then (some false) else (frisketlaw07_SpanNormal.l0 k2 l0 a2 t237 (wrap64 (x9_2 + 1))))))))))) = some r := H
         have A26 := Aside0.mk A260
         clear A260
         replace H := Option.bind_eq_some_iff.mp H
         obtain ⟨⟨t266, t267, t268, t269, t270, t271⟩, A270, H⟩ := H
         replace H : (if (!(t259 == t266) || (!(t260 == t267) || (!(t261 == t268) || (!(t262 == t269) || (!(t263.toList == t270.toList) || (!(t264 == t271))))))) = true then (some false) else ((span_Style.f t237 (wrap64 (((rd_T33 l0 x9_2).f1) - 1))).bind fun bt273 => ((span_Style.f l0 (wrap64 (((rd_T33 l0 x9_2).f1) - 1))).bind fun bt280 => (if (!(bt273.1 == bt280.1) || (!(bt273.2.1 == bt280.2.1) || (!(bt273.2.2.1 == bt280.2.2.1) || (!(bt273.2.2.2.1 == bt280.2.2.2.1) || (!(bt273.2.2.2.2.1.toList == bt280.2.2.2.2.1.toList) || (!(bt273.2.2.2.2.2 == bt280.2.2.2.2.2))))))) = true then (some false) else ((span_Style.f t237 ((rd_T33 l0 x9_2).f1)).bind fun bt287 => ((span_Style.f l0 ((rd_T33 l0 x9_2).f1)).bind fun bt294 => (if (!(bt287.1 == bt294.1) || (!(bt287.2.1 == bt294.2.1) || (!(bt287.2.2.1 == bt294.2.2.1) || (!(bt287.2.2.2.1 == bt294.2.2.2.1) || (!(bt287.2.2.2.2.1.toList == bt294.2.2.2.2.1.toList) || (!(bt287.2.2.2.2.2 == bt294.2.2.2.2.2))))))) = true then (some false) else (frisketlaw07_SpanNormal.l0 k2 l0 a2 t237 (wrap64 (x9_2 + 1)))))))))) = some r := H
         have A27 := Aside0.mk A270
         clear A270
         by_cases c28 : (!(t259 == t266) || (!(t260 == t267) || (!(t261 == t268) || (!(t262 == t269) || (!(t263.toList == t270.toList) || (!(t264 == t271))))))) = true
         ·rw [if_pos c28] at H
          have c28b0 : (!(t259 == t266) || (!(t260 == t267) || (!(t261 == t268) || (!(t262 == t269) || (!(t263.toList == t270.toList) || (!(t264 == t271))))))) = true := c28
          clear c28
          obtain rfl := Option.some.inj H
          try go_wp2
          have n0_ := Aside0.mk (Kd.R_drew HO_8.out)
          have n1_ := Aside0.mk (below_drew1 HB.out)
          clear HO_8
          clear HB
          have HO_8 := n0_
          have HB := n1_
          clear n0_ n1_
          have p258 : 0 ≤ (x9_2 : Int) := of_decide_eq_true (by first | (with_reducible assumption) | assumption)
          have q258 : x9_2 < (l0.length : Int) := of_decide_eq_true (by first | (with_reducible assumption) | assumption)
          obtain ⟨ad258, e258, hx258_0, hx258_1, hx258_2, hx258_3, hx258_4, hx258_5⟩ := at_T33 HR0.out x9_2 p258 q258
          have hw258_5 := hx258_5
          have hw258_4 := hx258_4
          have hw258_3 := hx258_3
          have hw258_2 := hx258_2
          have hw258_1 := hx258_1
          have hw258_0 := hx258_0
          cases e258
          replace hx258_0 := (HB.out.cell (World.block_lt_of_cell? w _ hx258_0)).trans hx258_0
          replace hx258_1 := (HB.out.cell (World.block_lt_of_cell? w _ hx258_1)).trans hx258_1
          replace hx258_2 := (HB.out.cell (World.block_lt_of_cell? w _ hx258_2)).trans hx258_2
          replace hx258_3 := (HB.out.cell (World.block_lt_of_cell? w _ hx258_3)).trans hx258_3
          replace hx258_4 := (HB.out.cell (World.block_lt_of_cell? w _ hx258_4)).trans hx258_4
          replace hx258_5 := (HB.out.cell (World.block_lt_of_cell? w _ hx258_5)).trans hx258_5
          replace p258 := eq_true p258
          replace q258 := eq_true q258
          have p265 : 0 ≤ (x9_2 : Int) := of_decide_eq_true (by first | (with_reducible assumption) | assumption)
          have q265 : x9_2 < (l0.length : Int) := of_decide_eq_true (by first | (with_reducible assumption) | assumption)
          obtain ⟨ad265, e265, hx265_0, hx265_1, hx265_2, hx265_3, hx265_4, hx265_5⟩ := at_T33 HR0.out x9_2 p265 q265
          have hw265_5 := hx265_5
          have hw265_4 := hx265_4
          have hw265_3 := hx265_3
          have hw265_2 := hx265_2
          have hw265_1 := hx265_1
          have hw265_0 := hx265_0
          obtain rfl : ad258 = ad265 := (by injection e265)
          replace hx265_0 := (HB.out.cell (World.block_lt_of_cell? w _ hx265_0)).trans hx265_0
          replace hx265_1 := (HB.out.cell (World.block_lt_of_cell? w _ hx265_1)).trans hx265_1
          replace hx265_2 := (HB.out.cell (World.block_lt_of_cell? w _ hx265_2)).trans hx265_2
          replace hx265_3 := (HB.out.cell (World.block_lt_of_cell? w _ hx265_3)).trans hx265_3
          replace hx265_4 := (HB.out.cell (World.block_lt_of_cell? w _ hx265_4)).trans hx265_4
          replace hx265_5 := (HB.out.cell (World.block_lt_of_cell? w _ hx265_5)).trans hx265_5
          replace p265 := eq_true p265
          replace q265 := eq_true q265
          obtain ⟨Ao30, co30, eo30⟩ := Kd.R_slice HO_8.out
          (first | subst eo30 | (injection eo30 with f1_ f2_ f3_; have f4_ := f1_.symm; have f5_ := f3_.symm; clear f1_ f2_ f3_; subst f4_; subst f5_))
          refine start_ (n := 51) (S := fun w' => w'.cell? (ad258.add ((x9_2).toNat * 6)) = some (.int .i64 ((rd_T33 l0 x9_2).f0)) ∧ w'.cell? ⟨(ad258.add ((x9_2).toNat * 6)).block, (ad258.add ((x9_2).toNat * 6)).off + 1, none⟩ = some (.int .i64 ((rd_T33 l0 x9_2).f1)) ∧ w'.cell? ⟨(ad258.add ((x9_2).toNat * 6)).block, (ad258.add ((x9_2).toNat * 6)).off + 2, none⟩ = some (.int .i64 ((rd_T33 l0 x9_2).f2)) ∧ w'.cell? ⟨(ad258.add ((x9_2).toNat * 6)).block, (ad258.add ((x9_2).toNat * 6)).off + 3, none⟩ = some (.bool ((rd_T33 l0 x9_2).f3)) ∧ w'.cell? ⟨(ad258.add ((x9_2).toNat * 6)).block, (ad258.add ((x9_2).toNat * 6)).off + 4, none⟩ = some (.string ((rd_T33 l0 x9_2).f4)) ∧ w'.cell? ⟨(ad258.add ((x9_2).toNat * 6)).block, (ad258.add ((x9_2).toNat * 6)).off + 5, none⟩ = some (.int .u64 ((rd_T33 l0 x9_2).f5)) ∧ w'.cell? (ad258.add ((x9_2).toNat * 6)) = some (.int .i64 ((rd_T33 l0 x9_2).f0)) ∧ w'.cell? ⟨(ad258.add ((x9_2).toNat * 6)).block, (ad258.add ((x9_2).toNat * 6)).off + 1, none⟩ = some (.int .i64 ((rd_T33 l0 x9_2).f1)) ∧ w'.cell? ⟨(ad258.add ((x9_2).toNat * 6)).block, (ad258.add ((x9_2).toNat * 6)).off + 2, none⟩ = some (.int .i64 ((rd_T33 l0 x9_2).f2)) ∧ w'.cell? ⟨(ad258.add ((x9_2).toNat * 6)).block, (ad258.add ((x9_2).toNat * 6)).off + 3, none⟩ = some (.bool ((rd_T33 l0 x9_2).f3)) ∧ w'.cell? ⟨(ad258.add ((x9_2).toNat * 6)).block, (ad258.add ((x9_2).toNat * 6)).off + 4, none⟩ = some (.string ((rd_T33 l0 x9_2).f4)) ∧ w'.cell? ⟨(ad258.add ((x9_2).toNat * 6)).block, (ad258.add ((x9_2).toNat * 6)).off + 5, none⟩ = some (.int .u64 ((rd_T33 l0 x9_2).f5))) (ds := []) #[N',N',N',N',N',N',N',N',N',N',N',N',N',N',N',N',N',N',N',N',N',N',N',N',N',N',N',N',N',N',N',N',N',N',N',N',N',N',N',N',N',N',N',N',N',N',N',N',N',N',N'] (by kernel_rfl) rfl rfl ⟨((HB.out.cell (World.block_lt_of_cell? w _ hw258_0)).trans hw258_0), ((HB.out.cell (World.block_lt_of_cell? w _ hw258_1)).trans hw258_1), ((HB.out.cell (World.block_lt_of_cell? w _ hw258_2)).trans hw258_2), ((HB.out.cell (World.block_lt_of_cell? w _ hw258_3)).trans hw258_3), ((HB.out.cell (World.block_lt_of_cell? w _ hw258_4)).trans hw258_4), ((HB.out.cell (World.block_lt_of_cell? w _ hw258_5)).trans hw258_5), ((HB.out.cell (World.block_lt_of_cell? w _ hw265_0)).trans hw265_0), ((HB.out.cell (World.block_lt_of_cell? w _ hw265_1)).trans hw265_1), ((HB.out.cell (World.block_lt_of_cell? w _ hw265_2)).trans hw265_2), ((HB.out.cell (World.block_lt_of_cell? w _ hw265_3)).trans hw265_3), ((HB.out.cell (World.block_lt_of_cell? w _ hw265_4)).trans hw265_4), ((HB.out.cell (World.block_lt_of_cell? w _ hw265_5)).trans hw265_5)⟩ (fun hHeld => ?_); refine with_tabW frisketlaw07_SpanNormal.tab10 frisketlaw07_SpanNormal.bits10 (fun HT_ HW_ => ?_)
          generalize wr.drew = w29 at HO_8 HB hx258_0 hx258_1 hx258_2 hx258_3 hx258_4 hx258_5 hx265_0 hx265_1 hx265_2 hx265_3 hx265_4 hx265_5 hHeld ⊢
          refine pure_ (i := 0) (N := some 42) (v := ?_) (a' := ?_) #[Y',N',N',N',N',N',N',N',N',N',N',N',N',N',N',N',N',N',N',N',N',N',N',N',N',N',N',N',N',N',N',N',N',N',N',N',N',N',N',N',N',N',N',N',N',N',N',N',N',N',N'] rfl rfl (any_of HT_.out (by kernel_rfl)) (fun _ _ _ h => h) (Or.inl ⟨by rfl, ?_⟩) ?_ ?_
          rotate_left
          ·intro w'
           go_simp
           with_reducible rfl
          rotate_left
          ·simp only [Act.put, List.setIfInBounds_toArray, List.set_cons_zero, List.set_cons_succ, i64_w, i32_w]
           rfl
          refine pure_ (i := 1) (N := some 43) (v := ?_) (a' := ?_) #[Y',Y',N',N',N',N',N',N',N',N',N',N',N',N',N',N',N',N',N',N',N',N',N',N',N',N',N',N',N',N',N',N',N',N',N',N',N',N',N',N',N',N',N',N',N',N',N',N',N',N',N'] rfl rfl (any_of HT_.out (by kernel_rfl)) (fun _ _ _ h => h) (Or.inl ⟨by rfl, ?_⟩) ?_ ?_
          rotate_left
          ·intro w'
           go_simp
           with_reducible rfl
          rotate_left
          ·simp only [Act.put, List.setIfInBounds_toArray, List.set_cons_zero, List.set_cons_succ, i64_w, i32_w]
           rfl
          refine pure_ (i := 2) (N := some 44) (v := ?_) (a' := ?_) #[Y',Y',Y',N',N',N',N',N',N',N',N',N',N',N',N',N',N',N',N',N',N',N',N',N',N',N',N',N',N',N',N',N',N',N',N',N',N',N',N',N',N',N',N',N',N',N',N',N',N',N',N'] rfl rfl (any_of HT_.out (by kernel_rfl)) (fun _ _ _ h => h) (Or.inl ⟨by rfl, ?_⟩) ?_ ?_
          rotate_left
          ·intro w'
           go_simp
           with_reducible rfl
          rotate_left
          ·simp only [Act.put, List.setIfInBounds_toArray, List.set_cons_zero, List.set_cons_succ, i64_w, i32_w]
           rfl
          refine pure_ (i := 3) (N := some 45) (v := ?_) (a' := ?_) #[Y',Y',Y',Y',N',N',N',N',N',N',N',N',N',N',N',N',N',N',N',N',N',N',N',N',N',N',N',N',N',N',N',N',N',N',N',N',N',N',N',N',N',N',N',N',N',N',N',N',N',N',N'] rfl rfl (any_of HT_.out (by kernel_rfl)) (fun _ _ _ h => h) (Or.inl ⟨by rfl, ?_⟩) ?_ ?_
          rotate_left
          ·intro w'
           go_simp
           with_reducible rfl
          rotate_left
          ·simp only [Act.put, List.setIfInBounds_toArray, List.set_cons_zero, List.set_cons_succ, i64_w, i32_w]
           rfl
          refine pure_ (i := 4) (N := some 46) (v := ?_) (a' := ?_) #[Y',Y',Y',Y',Y',N',N',N',N',N',N',N',N',N',N',N',N',N',N',N',N',N',N',N',N',N',N',N',N',N',N',N',N',N',N',N',N',N',N',N',N',N',N',N',N',N',N',N',N',N',N'] rfl rfl (any_of HT_.out (by kernel_rfl)) (fun _ _ _ h => h) (Or.inl ⟨by rfl, ?_⟩) ?_ ?_
          rotate_left
          ·intro w'
           go_simp
           with_reducible rfl
          rotate_left
          ·simp only [Act.put, List.setIfInBounds_toArray, List.set_cons_zero, List.set_cons_succ, i64_w, i32_w]
           rfl
          refine pure_ (i := 7) (N := some 49) (v := ?_) (a' := ?_) #[Y',Y',Y',Y',Y',N',N',Y',N',N',N',N',N',N',N',N',N',N',N',N',N',N',N',N',N',N',N',N',N',N',N',N',N',N',N',N',N',N',N',N',N',N',N',N',N',N',N',N',N',N',N'] rfl rfl (any_of HT_.out (by kernel_rfl)) (fun _ _ _ h => h) (Or.inl ⟨by rfl, ?_⟩) ?_ ?_
          rotate_left
          ·intro w'
           go_simp
           with_reducible rfl
          rotate_left
          ·simp only [Act.put, List.setIfInBounds_toArray, List.set_cons_zero, List.set_cons_succ, i64_w, i32_w]
           rfl
          refine pure_ (i := 8) (N := some 50) (v := ?_) (a' := ?_) #[Y',Y',Y',Y',Y',N',N',Y',Y',N',N',N',N',N',N',N',N',N',N',N',N',N',N',N',N',N',N',N',N',N',N',N',N',N',N',N',N',N',N',N',N',N',N',N',N',N',N',N',N',N',N'] rfl rfl (any_of HT_.out (by kernel_rfl)) (fun _ _ _ h => h) (Or.inl ⟨by rfl, ?_⟩) ?_ ?_
          rotate_left
          ·intro w'
           go_simp
           with_reducible rfl
          rotate_left
          ·simp only [Act.put, List.setIfInBounds_toArray, List.set_cons_zero, List.set_cons_succ, i64_w, i32_w]
           rfl
          refine pure_ (i := 9) (N := some 51) (v := ?_) (a' := ?_) #[Y',Y',Y',Y',Y',N',N',Y',Y',Y',N',N',N',N',N',N',N',N',N',N',N',N',N',N',N',N',N',N',N',N',N',N',N',N',N',N',N',N',N',N',N',N',N',N',N',N',N',N',N',N',N'] rfl rfl (any_of HT_.out (by kernel_rfl)) (fun _ _ _ h => h) (Or.inl ⟨by rfl, ?_⟩) ?_ ?_
          rotate_left
          ·intro w'
           go_simp
           with_reducible rfl
          rotate_left
          ·simp only [Act.put, List.setIfInBounds_toArray, List.set_cons_zero, List.set_cons_succ, i64_w, i32_w]
           rfl
          refine pure_ (i := 10) (N := some 52) (v := ?_) (a' := ?_) #[Y',Y',Y',Y',Y',N',N',Y',Y',Y',Y',N',N',N',N',N',N',N',N',N',N',N',N',N',N',N',N',N',N',N',N',N',N',N',N',N',N',N',N',N',N',N',N',N',N',N',N',N',N',N',N'] rfl rfl (any_of HT_.out (by kernel_rfl)) (fun _ _ _ h => h) (Or.inl ⟨by rfl, ?_⟩) ?_ ?_
          rotate_left
          ·intro w'
           go_simp
           with_reducible rfl
          rotate_left
          ·simp only [Act.put, List.setIfInBounds_toArray, List.set_cons_zero, List.set_cons_succ, i64_w, i32_w]
           rfl
          refine pure_ (i := 11) (N := some 53) (v := ?_) (a' := ?_) #[Y',Y',Y',Y',Y',N',N',Y',Y',Y',Y',Y',N',N',N',N',N',N',N',N',N',N',N',N',N',N',N',N',N',N',N',N',N',N',N',N',N',N',N',N',N',N',N',N',N',N',N',N',N',N',N'] rfl rfl (any_of HT_.out (by kernel_rfl)) (fun _ _ _ h => h) (Or.inl ⟨by rfl, ?_⟩) ?_ ?_
          rotate_left
          ·intro w'
           go_simp
           with_reducible rfl
          rotate_left
          ·simp only [Act.put, List.setIfInBounds_toArray, List.set_cons_zero, List.set_cons_succ, i64_w, i32_w]
           rfl
          refine take_ (i := 5) (N := some 47) (v := ?_) (a' := ?_) #[Y',Y',Y',Y',Y',Y',N',Y',Y',Y',Y',Y',N',N',N',N',N',N',N',N',N',N',N',N',N',N',N',N',N',N',N',N',N',N',N',N',N',N',N',N',N',N',N',N',N',N',N',N',N',N',N'] rfl rfl (take_ofW HT_.out HW_.out (by kernel_rfl)) (fun _ _ _ h => h) (Or.inl ⟨by rfl, ?_⟩) hHeld ?_ ?_
          rotate_left
          ·rintro w' ⟨s0, s1, s2, s3, s4, s5, s6, s7, s8, s9, s10, s11⟩
           go_simp
           with_reducible rfl
          rotate_left
          ·simp only [Act.put, List.setIfInBounds_toArray, List.set_cons_zero, List.set_cons_succ, i64_w, i32_w]
           rfl
          refine take_ (i := 12) (N := some 54) (v := ?_) (a' := ?_) #[Y',Y',Y',Y',Y',Y',N',Y',Y',Y',Y',Y',Y',N',N',N',N',N',N',N',N',N',N',N',N',N',N',N',N',N',N',N',N',N',N',N',N',N',N',N',N',N',N',N',N',N',N',N',N',N',N'] rfl rfl (take_ofW HT_.out HW_.out (by kernel_rfl)) (fun _ _ _ h => h) (Or.inl ⟨by rfl, ?_⟩) hHeld ?_ ?_
          rotate_left
          ·rintro w' ⟨s0, s1, s2, s3, s4, s5, s6, s7, s8, s9, s10, s11⟩
           go_simp
           with_reducible rfl
          rotate_left
          ·simp only [Act.put, List.setIfInBounds_toArray, List.set_cons_zero, List.set_cons_succ, i64_w, i32_w]
           rfl
          refine one_ (i := 6) (N := some 48) #[Y',Y',Y',Y',Y',Y',Y',Y',Y',Y',Y',Y',Y',N',N',N',N',N',N',N',N',N',N',N',N',N',N',N',N',N',N',N',N',N',N',N',N',N',N',N',N',N',N',N',N',N',N',N',N',N',N'] rfl rfl (one_of HT_.out (by kernel_rfl)) (by decide) (fun K hK => ?_)
          refine goes_ Try.func16 (by kernel_rfl) rfl #[.slice Ao30 t237.length co30, .int .i64 ((rd_T33 l0 x9_2).f0)] (by rfl) rfl rfl (by (try simp only [List.map_toArray, List.map_cons, List.map_nil]); first | done | rfl | (simp only [List.length_drop, List.length_take]; rfl)) ?_
          with_reducible refine (span_Style.calls _ _ t237 ((rd_T33 l0 x9_2).f0) t259 t260 t261 t262 t263 t264 _ ?side1 ?side2 A26.out).mono ?_
          (case side1 => repeat (first | exact (Kd.R_reads' HO_8.out).2.2 | (with_reducible refine Kd.C_alloc ?_ _) | (with_reducible refine Kd.C_drewN ?_ _) | (with_reducible refine Kd.C_drew ?_)))
          (case side2 => exact (Kd.R_reads' HO_8.out).2.1)
          rintro e w31 ⟨rfl, hb⟩
          refine ⟨_, rfl, ?_⟩
          have n0_ := Aside0.mk (Kd.R_below (by (with_reducible repeat (first | apply Kd.R_alloc | apply Kd.R_drewN | apply Kd.R_drew)); exact HO_8.out) hb)
          have n1_ := Aside0.mk (below_step (by repeat (first | (with_reducible first | exact HB.out | apply below_alloc | apply pw_below_drewN | apply below_drew1) | exact HB.out)) hb)
          clear HO_8
          clear HB
          have HO_8 := n0_
          have HB := n1_
          clear n0_ n1_
          (try clear hb)
          (try clear hb2)
          (try clear hk)
          (try clear hi)
          refine hK.out _ _ ⟨((HB.out.cell (World.block_lt_of_cell? w _ hw258_0)).trans hw258_0), ((HB.out.cell (World.block_lt_of_cell? w _ hw258_1)).trans hw258_1), ((HB.out.cell (World.block_lt_of_cell? w _ hw258_2)).trans hw258_2), ((HB.out.cell (World.block_lt_of_cell? w _ hw258_3)).trans hw258_3), ((HB.out.cell (World.block_lt_of_cell? w _ hw258_4)).trans hw258_4), ((HB.out.cell (World.block_lt_of_cell? w _ hw258_5)).trans hw258_5), ((HB.out.cell (World.block_lt_of_cell? w _ hw265_0)).trans hw265_0), ((HB.out.cell (World.block_lt_of_cell? w _ hw265_1)).trans hw265_1), ((HB.out.cell (World.block_lt_of_cell? w _ hw265_2)).trans hw265_2), ((HB.out.cell (World.block_lt_of_cell? w _ hw265_3)).trans hw265_3), ((HB.out.cell (World.block_lt_of_cell? w _ hw265_4)).trans hw265_4), ((HB.out.cell (World.block_lt_of_cell? w _ hw265_5)).trans hw265_5)⟩ (fun hHeld => ?_)
          clear hK K
          refine norm_ (a' := ?_) ?_ ?_
          rotate_left
          ·show Act.put _ (some 48) _ = _
           simp only [Act.put, List.setIfInBounds_toArray, List.set_cons_zero, List.set_cons_succ, i64_w, i32_w]
           rfl
          refine one_ (i := 13) (N := some 55) #[Y',Y',Y',Y',Y',Y',Y',Y',Y',Y',Y',Y',Y',Y',N',N',N',N',N',N',N',N',N',N',N',N',N',N',N',N',N',N',N',N',N',N',N',N',N',N',N',N',N',N',N',N',N',N',N',N',N'] rfl rfl (one_of HT_.out (by kernel_rfl)) (by decide) (fun K hK => ?_)
          refine goes_ Try.func16 (by kernel_rfl) rfl #[.slice (some ad258) l0.length c0, .int .i64 ((rd_T33 l0 x9_2).f0)] (by rfl) rfl rfl (by (try simp only [List.map_toArray, List.map_cons, List.map_nil]); first | done | rfl | (simp only [List.length_drop, List.length_take]; rfl)) ?_
          with_reducible refine (span_Style.calls _ _ l0 ((rd_T33 l0 x9_2).f0) t266 t267 t268 t269 t270 t271 _ ?side1 ?side2 A27.out).mono ?_
          (case side1 => repeat (first | exact (Kd.C_below HR0.out HB.out) | (with_reducible refine Kd.C_alloc ?_ _) | (with_reducible refine Kd.C_drewN ?_ _) | (with_reducible refine Kd.C_drew ?_)))
          (case side2 => exact HC0.out)
          rintro e w32 ⟨rfl, hb⟩
          refine ⟨_, rfl, ?_⟩
          have n0_ := Aside0.mk (Kd.R_below (by (with_reducible repeat (first | apply Kd.R_alloc | apply Kd.R_drewN | apply Kd.R_drew)); exact HO_8.out) hb)
          have n1_ := Aside0.mk (below_step (by repeat (first | (with_reducible first | exact HB.out | apply below_alloc | apply pw_below_drewN | apply below_drew1) | exact HB.out)) hb)
          clear HO_8
          clear HB
          have HO_8 := n0_
          have HB := n1_
          clear n0_ n1_
          (try clear hb)
          (try clear hb2)
          (try clear hk)
          (try clear hi)
          refine hK.out _ _ ⟨((HB.out.cell (World.block_lt_of_cell? w _ hw258_0)).trans hw258_0), ((HB.out.cell (World.block_lt_of_cell? w _ hw258_1)).trans hw258_1), ((HB.out.cell (World.block_lt_of_cell? w _ hw258_2)).trans hw258_2), ((HB.out.cell (World.block_lt_of_cell? w _ hw258_3)).trans hw258_3), ((HB.out.cell (World.block_lt_of_cell? w _ hw258_4)).trans hw258_4), ((HB.out.cell (World.block_lt_of_cell? w _ hw258_5)).trans hw258_5), ((HB.out.cell (World.block_lt_of_cell? w _ hw265_0)).trans hw265_0), ((HB.out.cell (World.block_lt_of_cell? w _ hw265_1)).trans hw265_1), ((HB.out.cell (World.block_lt_of_cell? w _ hw265_2)).trans hw265_2), ((HB.out.cell (World.block_lt_of_cell? w _ hw265_3)).trans hw265_3), ((HB.out.cell (World.block_lt_of_cell? w _ hw265_4)).trans hw265_4), ((HB.out.cell (World.block_lt_of_cell? w _ hw265_5)).trans hw265_5)⟩ (fun hHeld => ?_)
          clear hK K
          refine norm_ (a' := ?_) ?_ ?_
          rotate_left
          ·show Act.put _ (some 55) _ = _
           simp only [Act.put, List.setIfInBounds_toArray, List.set_cons_zero, List.set_cons_succ, i64_w, i32_w]
           rfl
          refine pure_ (i := 14) (N := some 56) (v := ?_) (a' := ?_) #[Y',Y',Y',Y',Y',Y',Y',Y',Y',Y',Y',Y',Y',Y',Y',N',N',N',N',N',N',N',N',N',N',N',N',N',N',N',N',N',N',N',N',N',N',N',N',N',N',N',N',N',N',N',N',N',N',N',N'] rfl rfl (any_of HT_.out (by kernel_rfl)) (fun _ _ _ h => h) (Or.inl ⟨by rfl, ?_⟩) ?_ ?_
          rotate_left
          ·intro w'
           go_simp
           with_reducible rfl
          rotate_left
          ·simp only [Act.put, List.setIfInBounds_toArray, List.set_cons_zero, List.set_cons_succ, i64_w, i32_w]
           rfl
          refine pure_ (i := 15) (N := some 57) (v := ?_) (a' := ?_) #[Y',Y',Y',Y',Y',Y',Y',Y',Y',Y',Y',Y',Y',Y',Y',Y',N',N',N',N',N',N',N',N',N',N',N',N',N',N',N',N',N',N',N',N',N',N',N',N',N',N',N',N',N',N',N',N',N',N',N'] rfl rfl (any_of HT_.out (by kernel_rfl)) (fun _ _ _ h => h) (Or.inl ⟨by rfl, ?_⟩) ?_ ?_
          rotate_left
          ·intro w'
           go_simp
           with_reducible rfl
          rotate_left
          ·simp only [Act.put, List.setIfInBounds_toArray, List.set_cons_zero, List.set_cons_succ, i64_w, i32_w]
           rfl
          refine pure_ (i := 16) (N := some 58) (v := undef) (a' := ?_) #[Y',Y',Y',Y',Y',Y',Y',Y',Y',Y',Y',Y',Y',Y',Y',Y',Y',N',N',N',N',N',N',N',N',N',N',N',N',N',N',N',N',N',N',N',N',N',N',N',N',N',N',N',N',N',N',N',N',N',N'] rfl rfl (any_of HT_.out (by kernel_rfl)) (fun _ _ _ h => h) (Or.inr ⟨by rfl, rfl⟩) ?_ ?_
          rotate_left
          ·simp only [Act.put, List.setIfInBounds_toArray, List.set_cons_zero, List.set_cons_succ, i64_w, i32_w]
           rfl
          refine pure_ (i := 17) (N := some 59) (v := undef) (a' := ?_) #[Y',Y',Y',Y',Y',Y',Y',Y',Y',Y',Y',Y',Y',Y',Y',Y',Y',Y',N',N',N',N',N',N',N',N',N',N',N',N',N',N',N',N',N',N',N',N',N',N',N',N',N',N',N',N',N',N',N',N',N'] rfl rfl (any_of HT_.out (by kernel_rfl)) (fun _ _ _ h => h) (Or.inr ⟨by rfl, rfl⟩) ?_ ?_
          rotate_left
          ·simp only [Act.put, List.setIfInBounds_toArray, List.set_cons_zero, List.set_cons_succ, i64_w, i32_w]
           rfl
          refine pure_ (i := 18) (N := some 60) (v := undef) (a' := ?_) #[Y',Y',Y',Y',Y',Y',Y',Y',Y',Y',Y',Y',Y',Y',Y',Y',Y',Y',Y',N',N',N',N',N',N',N',N',N',N',N',N',N',N',N',N',N',N',N',N',N',N',N',N',N',N',N',N',N',N',N',N'] rfl rfl (any_of HT_.out (by kernel_rfl)) (fun _ _ _ h => h) (Or.inr ⟨by rfl, rfl⟩) ?_ ?_
          rotate_left
          ·simp only [Act.put, List.setIfInBounds_toArray, List.set_cons_zero, List.set_cons_succ, i64_w, i32_w]
           rfl
          refine pure_ (i := 19) (N := some 61) (v := undef) (a' := ?_) #[Y',Y',Y',Y',Y',Y',Y',Y',Y',Y',Y',Y',Y',Y',Y',Y',Y',Y',Y',Y',N',N',N',N',N',N',N',N',N',N',N',N',N',N',N',N',N',N',N',N',N',N',N',N',N',N',N',N',N',N',N'] rfl rfl (any_of HT_.out (by kernel_rfl)) (fun _ _ _ h => h) (Or.inr ⟨by rfl, rfl⟩) ?_ ?_
          rotate_left
          ·simp only [Act.put, List.setIfInBounds_toArray, List.set_cons_zero, List.set_cons_succ, i64_w, i32_w]
           rfl
          refine pure_ (i := 20) (N := some 62) (v := undef) (a' := ?_) #[Y',Y',Y',Y',Y',Y',Y',Y',Y',Y',Y',Y',Y',Y',Y',Y',Y',Y',Y',Y',Y',N',N',N',N',N',N',N',N',N',N',N',N',N',N',N',N',N',N',N',N',N',N',N',N',N',N',N',N',N',N'] rfl rfl (any_of HT_.out (by kernel_rfl)) (fun _ _ _ h => h) (Or.inr ⟨by rfl, rfl⟩) ?_ ?_
          rotate_left
          ·simp only [Act.put, List.setIfInBounds_toArray, List.set_cons_zero, List.set_cons_succ, i64_w, i32_w]
           rfl
          refine pure_ (i := 21) (N := some 63) (v := undef) (a' := ?_) #[Y',Y',Y',Y',Y',Y',Y',Y',Y',Y',Y',Y',Y',Y',Y',Y',Y',Y',Y',Y',Y',Y',N',N',N',N',N',N',N',N',N',N',N',N',N',N',N',N',N',N',N',N',N',N',N',N',N',N',N',N',N'] rfl rfl (any_of HT_.out (by kernel_rfl)) (fun _ _ _ h => h) (Or.inr ⟨by rfl, rfl⟩) ?_ ?_
          rotate_left
          ·simp only [Act.put, List.setIfInBounds_toArray, List.set_cons_zero, List.set_cons_succ, i64_w, i32_w]
           rfl
          refine pure_ (i := 22) (N := some 64) (v := undef) (a' := ?_) #[Y',Y',Y',Y',Y',Y',Y',Y',Y',Y',Y',Y',Y',Y',Y',Y',Y',Y',Y',Y',Y',Y',Y',N',N',N',N',N',N',N',N',N',N',N',N',N',N',N',N',N',N',N',N',N',N',N',N',N',N',N',N'] rfl rfl (any_of HT_.out (by kernel_rfl)) (fun _ _ _ h => h) (Or.inr ⟨by rfl, rfl⟩) ?_ ?_
          rotate_left
          ·simp only [Act.put, List.setIfInBounds_toArray, List.set_cons_zero, List.set_cons_succ, i64_w, i32_w]
           rfl
          refine pure_ (i := 23) (N := some 65) (v := undef) (a' := ?_) #[Y',Y',Y',Y',Y',Y',Y',Y',Y',Y',Y',Y',Y',Y',Y',Y',Y',Y',Y',Y',Y',Y',Y',Y',N',N',N',N',N',N',N',N',N',N',N',N',N',N',N',N',N',N',N',N',N',N',N',N',N',N',N'] rfl rfl (any_of HT_.out (by kernel_rfl)) (fun _ _ _ h => h) (Or.inr ⟨by rfl, rfl⟩) ?_ ?_
          rotate_left
          ·simp only [Act.put, List.setIfInBounds_toArray, List.set_cons_zero, List.set_cons_succ, i64_w, i32_w]
           rfl
          refine pure_ (i := 24) (N := some 66) (v := undef) (a' := ?_) #[Y',Y',Y',Y',Y',Y',Y',Y',Y',Y',Y',Y',Y',Y',Y',Y',Y',Y',Y',Y',Y',Y',Y',Y',Y',N',N',N',N',N',N',N',N',N',N',N',N',N',N',N',N',N',N',N',N',N',N',N',N',N',N'] rfl rfl (any_of HT_.out (by kernel_rfl)) (fun _ _ _ h => h) (Or.inr ⟨by rfl, rfl⟩) ?_ ?_
          rotate_left
          ·simp only [Act.put, List.setIfInBounds_toArray, List.set_cons_zero, List.set_cons_succ, i64_w, i32_w]
           rfl
          refine pure_ (i := 25) (N := some 67) (v := undef) (a' := ?_) #[Y',Y',Y',Y',Y',Y',Y',Y',Y',Y',Y',Y',Y',Y',Y',Y',Y',Y',Y',Y',Y',Y',Y',Y',Y',Y',N',N',N',N',N',N',N',N',N',N',N',N',N',N',N',N',N',N',N',N',N',N',N',N',N'] rfl rfl (any_of HT_.out (by kernel_rfl)) (fun _ _ _ h => h) (Or.inr ⟨by rfl, rfl⟩) ?_ ?_
          rotate_left
          ·simp only [Act.put, List.setIfInBounds_toArray, List.set_cons_zero, List.set_cons_succ, i64_w, i32_w]
           rfl
          refine pure_ (i := 26) (N := some 68) (v := undef) (a' := ?_) #[Y',Y',Y',Y',Y',Y',Y',Y',Y',Y',Y',Y',Y',Y',Y',Y',Y',Y',Y',Y',Y',Y',Y',Y',Y',Y',Y',N',N',N',N',N',N',N',N',N',N',N',N',N',N',N',N',N',N',N',N',N',N',N',N'] rfl rfl (any_of HT_.out (by kernel_rfl)) (fun _ _ _ h => h) (Or.inr ⟨by rfl, rfl⟩) ?_ ?_
          rotate_left
          ·simp only [Act.put, List.setIfInBounds_toArray, List.set_cons_zero, List.set_cons_succ, i64_w, i32_w]
           rfl
          refine pure_ (i := 27) (N := some 69) (v := undef) (a' := ?_) #[Y',Y',Y',Y',Y',Y',Y',Y',Y',Y',Y',Y',Y',Y',Y',Y',Y',Y',Y',Y',Y',Y',Y',Y',Y',Y',Y',Y',N',N',N',N',N',N',N',N',N',N',N',N',N',N',N',N',N',N',N',N',N',N',N'] rfl rfl (any_of HT_.out (by kernel_rfl)) (fun _ _ _ h => h) (Or.inr ⟨by rfl, rfl⟩) ?_ ?_
          rotate_left
          ·simp only [Act.put, List.setIfInBounds_toArray, List.set_cons_zero, List.set_cons_succ, i64_w, i32_w]
           rfl
          refine pure_ (i := 28) (N := some 70) (v := undef) (a' := ?_) #[Y',Y',Y',Y',Y',Y',Y',Y',Y',Y',Y',Y',Y',Y',Y',Y',Y',Y',Y',Y',Y',Y',Y',Y',Y',Y',Y',Y',Y',N',N',N',N',N',N',N',N',N',N',N',N',N',N',N',N',N',N',N',N',N',N'] rfl rfl (any_of HT_.out (by kernel_rfl)) (fun _ _ _ h => h) (Or.inr ⟨by rfl, rfl⟩) ?_ ?_
          rotate_left
          ·simp only [Act.put, List.setIfInBounds_toArray, List.set_cons_zero, List.set_cons_succ, i64_w, i32_w]
           rfl
          refine pure_ (i := 29) (N := some 71) (v := undef) (a' := ?_) #[Y',Y',Y',Y',Y',Y',Y',Y',Y',Y',Y',Y',Y',Y',Y',Y',Y',Y',Y',Y',Y',Y',Y',Y',Y',Y',Y',Y',Y',Y',N',N',N',N',N',N',N',N',N',N',N',N',N',N',N',N',N',N',N',N',N'] rfl rfl (any_of HT_.out (by kernel_rfl)) (fun _ _ _ h => h) (Or.inr ⟨by rfl, rfl⟩) ?_ ?_
          rotate_left
          ·simp only [Act.put, List.setIfInBounds_toArray, List.set_cons_zero, List.set_cons_succ, i64_w, i32_w]
           rfl
          refine pure_ (i := 30) (N := some 72) (v := undef) (a' := ?_) #[Y',Y',Y',Y',Y',Y',Y',Y',Y',Y',Y',Y',Y',Y',Y',Y',Y',Y',Y',Y',Y',Y',Y',Y',Y',Y',Y',Y',Y',Y',Y',N',N',N',N',N',N',N',N',N',N',N',N',N',N',N',N',N',N',N',N'] rfl rfl (any_of HT_.out (by kernel_rfl)) (fun _ _ _ h => h) (Or.inr ⟨by rfl, rfl⟩) ?_ ?_
          rotate_left
          ·simp only [Act.put, List.setIfInBounds_toArray, List.set_cons_zero, List.set_cons_succ, i64_w, i32_w]
           rfl
          refine pure_ (i := 31) (N := some 73) (v := undef) (a' := ?_) #[Y',Y',Y',Y',Y',Y',Y',Y',Y',Y',Y',Y',Y',Y',Y',Y',Y',Y',Y',Y',Y',Y',Y',Y',Y',Y',Y',Y',Y',Y',Y',Y',N',N',N',N',N',N',N',N',N',N',N',N',N',N',N',N',N',N',N'] rfl rfl (any_of HT_.out (by kernel_rfl)) (fun _ _ _ h => h) (Or.inr ⟨by rfl, rfl⟩) ?_ ?_
          rotate_left
          ·simp only [Act.put, List.setIfInBounds_toArray, List.set_cons_zero, List.set_cons_succ, i64_w, i32_w]
           rfl
          refine pure_ (i := 32) (N := some 74) (v := undef) (a' := ?_) #[Y',Y',Y',Y',Y',Y',Y',Y',Y',Y',Y',Y',Y',Y',Y',Y',Y',Y',Y',Y',Y',Y',Y',Y',Y',Y',Y',Y',Y',Y',Y',Y',Y',N',N',N',N',N',N',N',N',N',N',N',N',N',N',N',N',N',N'] rfl rfl (any_of HT_.out (by kernel_rfl)) (fun _ _ _ h => h) (Or.inr ⟨by rfl, rfl⟩) ?_ ?_
          rotate_left
          ·simp only [Act.put, List.setIfInBounds_toArray, List.set_cons_zero, List.set_cons_succ, i64_w, i32_w]
           rfl
          refine pure_ (i := 33) (N := some 75) (v := ?_) (a' := ?_) #[Y',Y',Y',Y',Y',Y',Y',Y',Y',Y',Y',Y',Y',Y',Y',Y',Y',Y',Y',Y',Y',Y',Y',Y',Y',Y',Y',Y',Y',Y',Y',Y',Y',Y',N',N',N',N',N',N',N',N',N',N',N',N',N',N',N',N',N'] rfl rfl (any_of HT_.out (by kernel_rfl)) (fun _ _ _ h => h) (Or.inl ⟨by rfl, ?_⟩) ?_ ?_
          rotate_left
          ·intro w'
           go_simp
           with_reducible rfl
          rotate_left
          ·simp only [Act.put, List.setIfInBounds_toArray, List.set_cons_zero, List.set_cons_succ, i64_w, i32_w]
           rfl
          refine pure_ (i := 34) (N := some 76) (v := ?_) (a' := ?_) #[Y',Y',Y',Y',Y',Y',Y',Y',Y',Y',Y',Y',Y',Y',Y',Y',Y',Y',Y',Y',Y',Y',Y',Y',Y',Y',Y',Y',Y',Y',Y',Y',Y',Y',Y',N',N',N',N',N',N',N',N',N',N',N',N',N',N',N',N'] rfl rfl (any_of HT_.out (by kernel_rfl)) (fun _ _ _ h => h) (Or.inl ⟨by rfl, ?_⟩) ?_ ?_
          rotate_left
          ·intro w'
           go_simp
           with_reducible rfl
          rotate_left
          ·simp only [Act.put, List.setIfInBounds_toArray, List.set_cons_zero, List.set_cons_succ, i64_w, i32_w]
           rfl
          refine pure_ (i := 35) (N := some 77) (v := undef) (a' := ?_) #[Y',Y',Y',Y',Y',Y',Y',Y',Y',Y',Y',Y',Y',Y',Y',Y',Y',Y',Y',Y',Y',Y',Y',Y',Y',Y',Y',Y',Y',Y',Y',Y',Y',Y',Y',Y',N',N',N',N',N',N',N',N',N',N',N',N',N',N',N'] rfl rfl (any_of HT_.out (by kernel_rfl)) (fun _ _ _ h => h) (Or.inr ⟨by rfl, rfl⟩) ?_ ?_
          rotate_left
          ·simp only [Act.put, List.setIfInBounds_toArray, List.set_cons_zero, List.set_cons_succ, i64_w, i32_w]
           rfl
          refine pure_ (i := 36) (N := some 78) (v := undef) (a' := ?_) #[Y',Y',Y',Y',Y',Y',Y',Y',Y',Y',Y',Y',Y',Y',Y',Y',Y',Y',Y',Y',Y',Y',Y',Y',Y',Y',Y',Y',Y',Y',Y',Y',Y',Y',Y',Y',Y',N',N',N',N',N',N',N',N',N',N',N',N',N',N'] rfl rfl (any_of HT_.out (by kernel_rfl)) (fun _ _ _ h => h) (Or.inr ⟨by rfl, rfl⟩) ?_ ?_
          rotate_left
          ·simp only [Act.put, List.setIfInBounds_toArray, List.set_cons_zero, List.set_cons_succ, i64_w, i32_w]
           rfl
          refine pure_ (i := 37) (N := some 79) (v := undef) (a' := ?_) #[Y',Y',Y',Y',Y',Y',Y',Y',Y',Y',Y',Y',Y',Y',Y',Y',Y',Y',Y',Y',Y',Y',Y',Y',Y',Y',Y',Y',Y',Y',Y',Y',Y',Y',Y',Y',Y',Y',N',N',N',N',N',N',N',N',N',N',N',N',N'] rfl rfl (any_of HT_.out (by kernel_rfl)) (fun _ _ _ h => h) (Or.inr ⟨by rfl, rfl⟩) ?_ ?_
          rotate_left
          ·simp only [Act.put, List.setIfInBounds_toArray, List.set_cons_zero, List.set_cons_succ, i64_w, i32_w]
           rfl
          refine pure_ (i := 38) (N := some 80) (v := undef) (a' := ?_) #[Y',Y',Y',Y',Y',Y',Y',Y',Y',Y',Y',Y',Y',Y',Y',Y',Y',Y',Y',Y',Y',Y',Y',Y',Y',Y',Y',Y',Y',Y',Y',Y',Y',Y',Y',Y',Y',Y',Y',N',N',N',N',N',N',N',N',N',N',N',N'] rfl rfl (any_of HT_.out (by kernel_rfl)) (fun _ _ _ h => h) (Or.inr ⟨by rfl, rfl⟩) ?_ ?_
          rotate_left
          ·simp only [Act.put, List.setIfInBounds_toArray, List.set_cons_zero, List.set_cons_succ, i64_w, i32_w]
           rfl
          refine pure_ (i := 39) (N := some 81) (v := undef) (a' := ?_) #[Y',Y',Y',Y',Y',Y',Y',Y',Y',Y',Y',Y',Y',Y',Y',Y',Y',Y',Y',Y',Y',Y',Y',Y',Y',Y',Y',Y',Y',Y',Y',Y',Y',Y',Y',Y',Y',Y',Y',Y',N',N',N',N',N',N',N',N',N',N',N'] rfl rfl (any_of HT_.out (by kernel_rfl)) (fun _ _ _ h => h) (Or.inr ⟨by rfl, rfl⟩) ?_ ?_
          rotate_left
          ·simp only [Act.put, List.setIfInBounds_toArray, List.set_cons_zero, List.set_cons_succ, i64_w, i32_w]
           rfl
          refine pure_ (i := 40) (N := some 82) (v := undef) (a' := ?_) #[Y',Y',Y',Y',Y',Y',Y',Y',Y',Y',Y',Y',Y',Y',Y',Y',Y',Y',Y',Y',Y',Y',Y',Y',Y',Y',Y',Y',Y',Y',Y',Y',Y',Y',Y',Y',Y',Y',Y',Y',Y',N',N',N',N',N',N',N',N',N',N'] rfl rfl (any_of HT_.out (by kernel_rfl)) (fun _ _ _ h => h) (Or.inr ⟨by rfl, rfl⟩) ?_ ?_
          rotate_left
          ·simp only [Act.put, List.setIfInBounds_toArray, List.set_cons_zero, List.set_cons_succ, i64_w, i32_w]
           rfl
          refine pure_ (i := 41) (N := some 83) (v := undef) (a' := ?_) #[Y',Y',Y',Y',Y',Y',Y',Y',Y',Y',Y',Y',Y',Y',Y',Y',Y',Y',Y',Y',Y',Y',Y',Y',Y',Y',Y',Y',Y',Y',Y',Y',Y',Y',Y',Y',Y',Y',Y',Y',Y',Y',N',N',N',N',N',N',N',N',N'] rfl rfl (any_of HT_.out (by kernel_rfl)) (fun _ _ _ h => h) (Or.inr ⟨by rfl, rfl⟩) ?_ ?_
          rotate_left
          ·simp only [Act.put, List.setIfInBounds_toArray, List.set_cons_zero, List.set_cons_succ, i64_w, i32_w]
           rfl
          refine pure_ (i := 42) (N := some 84) (v := undef) (a' := ?_) #[Y',Y',Y',Y',Y',Y',Y',Y',Y',Y',Y',Y',Y',Y',Y',Y',Y',Y',Y',Y',Y',Y',Y',Y',Y',Y',Y',Y',Y',Y',Y',Y',Y',Y',Y',Y',Y',Y',Y',Y',Y',Y',Y',N',N',N',N',N',N',N',N'] rfl rfl (any_of HT_.out (by kernel_rfl)) (fun _ _ _ h => h) (Or.inr ⟨by rfl, rfl⟩) ?_ ?_
          rotate_left
          ·simp only [Act.put, List.setIfInBounds_toArray, List.set_cons_zero, List.set_cons_succ, i64_w, i32_w]
           rfl
          refine pure_ (i := 43) (N := some 85) (v := undef) (a' := ?_) #[Y',Y',Y',Y',Y',Y',Y',Y',Y',Y',Y',Y',Y',Y',Y',Y',Y',Y',Y',Y',Y',Y',Y',Y',Y',Y',Y',Y',Y',Y',Y',Y',Y',Y',Y',Y',Y',Y',Y',Y',Y',Y',Y',Y',N',N',N',N',N',N',N'] rfl rfl (any_of HT_.out (by kernel_rfl)) (fun _ _ _ h => h) (Or.inr ⟨by rfl, rfl⟩) ?_ ?_
          rotate_left
          ·simp only [Act.put, List.setIfInBounds_toArray, List.set_cons_zero, List.set_cons_succ, i64_w, i32_w]
           rfl
          refine pure_ (i := 44) (N := some 86) (v := undef) (a' := ?_) #[Y',Y',Y',Y',Y',Y',Y',Y',Y',Y',Y',Y',Y',Y',Y',Y',Y',Y',Y',Y',Y',Y',Y',Y',Y',Y',Y',Y',Y',Y',Y',Y',Y',Y',Y',Y',Y',Y',Y',Y',Y',Y',Y',Y',Y',N',N',N',N',N',N'] rfl rfl (any_of HT_.out (by kernel_rfl)) (fun _ _ _ h => h) (Or.inr ⟨by rfl, rfl⟩) ?_ ?_
          rotate_left
          ·simp only [Act.put, List.setIfInBounds_toArray, List.set_cons_zero, List.set_cons_succ, i64_w, i32_w]
           rfl
          refine pure_ (i := 45) (N := some 87) (v := undef) (a' := ?_) #[Y',Y',Y',Y',Y',Y',Y',Y',Y',Y',Y',Y',Y',Y',Y',Y',Y',Y',Y',Y',Y',Y',Y',Y',Y',Y',Y',Y',Y',Y',Y',Y',Y',Y',Y',Y',Y',Y',Y',Y',Y',Y',Y',Y',Y',Y',N',N',N',N',N'] rfl rfl (any_of HT_.out (by kernel_rfl)) (fun _ _ _ h => h) (Or.inr ⟨by rfl, rfl⟩) ?_ ?_
          rotate_left
          ·simp only [Act.put, List.setIfInBounds_toArray, List.set_cons_zero, List.set_cons_succ, i64_w, i32_w]
           rfl
          refine pure_ (i := 46) (N := some 88) (v := undef) (a' := ?_) #[Y',Y',Y',Y',Y',Y',Y',Y',Y',Y',Y',Y',Y',Y',Y',Y',Y',Y',Y',Y',Y',Y',Y',Y',Y',Y',Y',Y',Y',Y',Y',Y',Y',Y',Y',Y',Y',Y',Y',Y',Y',Y',Y',Y',Y',Y',Y',N',N',N',N'] rfl rfl (any_of HT_.out (by kernel_rfl)) (fun _ _ _ h => h) (Or.inr ⟨by rfl, rfl⟩) ?_ ?_
          rotate_left
          ·simp only [Act.put, List.setIfInBounds_toArray, List.set_cons_zero, List.set_cons_succ, i64_w, i32_w]
           rfl
          refine pure_ (i := 47) (N := some 89) (v := undef) (a' := ?_) #[Y',Y',Y',Y',Y',Y',Y',Y',Y',Y',Y',Y',Y',Y',Y',Y',Y',Y',Y',Y',Y',Y',Y',Y',Y',Y',Y',Y',Y',Y',Y',Y',Y',Y',Y',Y',Y',Y',Y',Y',Y',Y',Y',Y',Y',Y',Y',Y',N',N',N'] rfl rfl (any_of HT_.out (by kernel_rfl)) (fun _ _ _ h => h) (Or.inr ⟨by rfl, rfl⟩) ?_ ?_
          rotate_left
          ·simp only [Act.put, List.setIfInBounds_toArray, List.set_cons_zero, List.set_cons_succ, i64_w, i32_w]
           rfl
          refine pure_ (i := 48) (N := some 90) (v := undef) (a' := ?_) #[Y',Y',Y',Y',Y',Y',Y',Y',Y',Y',Y',Y',Y',Y',Y',Y',Y',Y',Y',Y',Y',Y',Y',Y',Y',Y',Y',Y',Y',Y',Y',Y',Y',Y',Y',Y',Y',Y',Y',Y',Y',Y',Y',Y',Y',Y',Y',Y',Y',N',N'] rfl rfl (any_of HT_.out (by kernel_rfl)) (fun _ _ _ h => h) (Or.inr ⟨by rfl, rfl⟩) ?_ ?_
          rotate_left
          ·simp only [Act.put, List.setIfInBounds_toArray, List.set_cons_zero, List.set_cons_succ, i64_w, i32_w]
           rfl
          refine pure_ (i := 49) (N := some 91) (v := undef) (a' := ?_) #[Y',Y',Y',Y',Y',Y',Y',Y',Y',Y',Y',Y',Y',Y',Y',Y',Y',Y',Y',Y',Y',Y',Y',Y',Y',Y',Y',Y',Y',Y',Y',Y',Y',Y',Y',Y',Y',Y',Y',Y',Y',Y',Y',Y',Y',Y',Y',Y',Y',Y',N'] rfl rfl (any_of HT_.out (by kernel_rfl)) (fun _ _ _ h => h) (Or.inr ⟨by rfl, rfl⟩) ?_ ?_
          rotate_left
          ·simp only [Act.put, List.setIfInBounds_toArray, List.set_cons_zero, List.set_cons_succ, i64_w, i32_w]
           rfl
          refine pure_ (i := 50) (N := some 92) (v := ?_) (a' := ?_) #[Y',Y',Y',Y',Y',Y',Y',Y',Y',Y',Y',Y',Y',Y',Y',Y',Y',Y',Y',Y',Y',Y',Y',Y',Y',Y',Y',Y',Y',Y',Y',Y',Y',Y',Y',Y',Y',Y',Y',Y',Y',Y',Y',Y',Y',Y',Y',Y',Y',Y',Y'] rfl rfl (any_of HT_.out (by kernel_rfl)) (fun _ _ _ h => h) (Or.inl ⟨by rfl, ?_⟩) ?_ ?_
          rotate_left
          ·intro w'
           go_simp
           with_reducible rfl
          rotate_left
          ·simp only [Act.put, List.setIfInBounds_toArray, List.set_cons_zero, List.set_cons_succ, i64_w, i32_w]
           rfl
          refine done_ (done_of HT_.out (by kernel_rfl)) ?_
          try go_wp2
          go_ret
          exact ⟨by first | rfl | (simp [errW_none, errW_some] <;> rfl) | (simp [*, errW_none, errW_some] <;> rfl), by repeat (first | (with_reducible first | exact HB.out | apply below_alloc | apply pw_below_drewN | apply below_drew1) | exact HB.out)⟩
         ·rw [if_neg c28] at H
          have c28b0 : (!(t259 == t266) || (!(t260 == t267) || (!(t261 == t268) || (!(t262 == t269) || (!(t263.toList == t270.toList) || (!(t264 == t271))))))) = false := by simpa using c28
          clear c28
          replace H := Option.bind_eq_some_iff.mp H
          obtain ⟨⟨t273, t274, t275, t276, t277, t278⟩, A330, H⟩ := H
          replace H : ((span_Style.f l0 (wrap64 (((rd_T33 l0 x9_2).f1) - 1))).bind fun bt280 => (if (!(t273 == bt280.1) || (!(t274 == bt280.2.1) || (!(t275 == bt280.2.2.1) || (!(t276 == bt280.2.2.2.1) || (!(t277.toList == bt280.2.2.2.2.1.toList) || (!(t278 == bt280.2.2.2.2.2))))))) = true then (some false) else ((span_Style.f t237 ((rd_T33 l0 x9_2).f1)).bind fun bt287 => ((span_Style.f l0 ((rd_T33 l0 x9_2).f1)).bind fun bt294 => (if (!(bt287.1 == bt294.1) || (!(bt287.2.1 == bt294.2.1) || (!(bt287.2.2.1 == bt294.2.2.1) || (!(bt287.2.2.2.1 == bt294.2.2.2.1) || (!(bt287.2.2.2.2.1.toList == bt294.2.2.2.2.1.toList) || (!(bt287.2.2.2.2.2 == bt294.2.2.2.2.2))))))) = true then (some false) else (frisketlaw07_SpanNormal.l0 k2 l0 a2 t237 (wrap64 (x9_2 + 1)))))))) = some r := H
          have A33 := Aside0.mk A330
          clear A330
          replace H := Option.bind_eq_some_iff.mp H
          obtain ⟨⟨t280, t281, t282, t283, t284, t285⟩, A340, H⟩ := H
          replace H : (if (!(t273 == t280) || (!(t274 == t281) || (!(t275 == t282) || (!(t276 == t283) || (!(t277.toList == t284.toList) || (!(t278 == t285))))))) = true then (some false) else ((span_Style.f t237 ((rd_T33 l0 x9_2).f1)).bind fun bt287 => ((span_Style.f l0 ((rd_T33 l0 x9_2).f1)).bind fun bt294 => (if (!(bt287.1 == bt294.1) || (!(bt287.2.1 == bt294.2.1) || (!(bt287.2.2.1 == bt294.2.2.1) || (!(bt287.2.2.2.1 == bt294.2.2.2.1) || (!(bt287.2.2.2.2.1.toList == bt294.2.2.2.2.1.toList) || (!(bt287.2.2.2.2.2 == bt294.2.2.2.2.2))))))) = true then (some false) else (frisketlaw07_SpanNormal.l0 k2 l0 a2 t237 (wrap64 (x9_2 + 1))))))) = some r := H
          have A34 := Aside0.mk A340
          clear A340
          by_cases c35 : (!(t273 == t280) || (!(t274 == t281) || (!(t275 == t282) || (!(t276 == t283) || (!(t277.toList == t284.toList) || (!(t278 == t285))))))) = true
          ·rw [if_pos c35] at H
           have c35b0 : (!(t273 == t280) || (!(t274 == t281) || (!(t275 == t282) || (!(t276 == t283) || (!(t277.toList == t284.toList) || (!(t278 == t285))))))) = true := c35
           clear c35
           obtain rfl := Option.some.inj H
           try go_wp2
           have n0_ := Aside0.mk (Kd.R_drew HO_8.out)
           have n1_ := Aside0.mk (below_drew1 HB.out)
           clear HO_8
           clear HB
           have HO_8 := n0_
           have HB := n1_
           clear n0_ n1_
           have p258 : 0 ≤ (x9_2 : Int) := of_decide_eq_true (by first | (with_reducible assumption) | assumption)
           have q258 : x9_2 < (l0.length : Int) := of_decide_eq_true (by first | (with_reducible assumption) | assumption)
           obtain ⟨ad258, e258, hx258_0, hx258_1, hx258_2, hx258_3, hx258_4, hx258_5⟩ := at_T33 HR0.out x9_2 p258 q258
           have hw258_5 := hx258_5
           have hw258_4 := hx258_4
           have hw258_3 := hx258_3
           have hw258_2 := hx258_2
           have hw258_1 := hx258_1
           have hw258_0 := hx258_0
           cases e258
           replace hx258_0 := (HB.out.cell (World.block_lt_of_cell? w _ hx258_0)).trans hx258_0
           replace hx258_1 := (HB.out.cell (World.block_lt_of_cell? w _ hx258_1)).trans hx258_1
           replace hx258_2 := (HB.out.cell (World.block_lt_of_cell? w _ hx258_2)).trans hx258_2
           replace hx258_3 := (HB.out.cell (World.block_lt_of_cell? w _ hx258_3)).trans hx258_3
           replace hx258_4 := (HB.out.cell (World.block_lt_of_cell? w _ hx258_4)).trans hx258_4
           replace hx258_5 := (HB.out.cell (World.block_lt_of_cell? w _ hx258_5)).trans hx258_5
           replace p258 := eq_true p258
           replace q258 := eq_true q258
           have p265 : 0 ≤ (x9_2 : Int) := of_decide_eq_true (by first | (with_reducible assumption) | assumption)
           have q265 : x9_2 < (l0.length : Int) := of_decide_eq_true (by first | (with_reducible assumption) | assumption)
           obtain ⟨ad265, e265, hx265_0, hx265_1, hx265_2, hx265_3, hx265_4, hx265_5⟩ := at_T33 HR0.out x9_2 p265 q265
           have hw265_5 := hx265_5
           have hw265_4 := hx265_4
           have hw265_3 := hx265_3
           have hw265_2 := hx265_2
           have hw265_1 := hx265_1
           have hw265_0 := hx265_0
           obtain rfl : ad258 = ad265 := (by injection e265)
           replace hx265_0 := (HB.out.cell (World.block_lt_of_cell? w _ hx265_0)).trans hx265_0
           replace hx265_1 := (HB.out.cell (World.block_lt_of_cell? w _ hx265_1)).trans hx265_1
           replace hx265_2 := (HB.out.cell (World.block_lt_of_cell? w _ hx265_2)).trans hx265_2
           replace hx265_3 := (HB.out.cell (World.block_lt_of_cell? w _ hx265_3)).trans hx265_3
           replace hx265_4 := (HB.out.cell (World.block_lt_of_cell? w _ hx265_4)).trans hx265_4
           replace hx265_5 := (HB.out.cell (World.block_lt_of_cell? w _ hx265_5)).trans hx265_5
           replace p265 := eq_true p265
           replace q265 := eq_true q265
           obtain ⟨Ao37, co37, eo37⟩ := Kd.R_slice HO_8.out
           (first | subst eo37 | (injection eo37 with f1_ f2_ f3_; have f4_ := f1_.symm; have f5_ := f3_.symm; clear f1_ f2_ f3_; subst f4_; subst f5_))
           have p272 : 0 ≤ (x9_2 : Int) := of_decide_eq_true (by first | (with_reducible assumption) | assumption)
           have q272 : x9_2 < (l0.length : Int) := of_decide_eq_true (by first | (with_reducible assumption) | assumption)
           obtain ⟨ad272, e272, hx272_0, hx272_1, hx272_2, hx272_3, hx272_4, hx272_5⟩ := at_T33 HR0.out x9_2 p272 q272
           have hw272_5 := hx272_5
           have hw272_4 := hx272_4
           have hw272_3 := hx272_3
           have hw272_2 := hx272_2
           have hw272_1 := hx272_1
           have hw272_0 := hx272_0
           obtain rfl : ad258 = ad272 := (by injection e272)
           replace hx272_0 := (HB.out.cell (World.block_lt_of_cell? w _ hx272_0)).trans hx272_0
           replace hx272_1 := (HB.out.cell (World.block_lt_of_cell? w _ hx272_1)).trans hx272_1
           replace hx272_2 := (HB.out.cell (World.block_lt_of_cell? w _ hx272_2)).trans hx272_2
           replace hx272_3 := (HB.out.cell (World.block_lt_of_cell? w _ hx272_3)).trans hx272_3
           replace hx272_4 := (HB.out.cell (World.block_lt_of_cell? w _ hx272_4)).trans hx272_4
           replace hx272_5 := (HB.out.cell (World.block_lt_of_cell? w _ hx272_5)).trans hx272_5
           replace p272 := eq_true p272
           replace q272 := eq_true q272
           have p279 : 0 ≤ (x9_2 : Int) := of_decide_eq_true (by first | (with_reducible assumption) | assumption)
           have q279 : x9_2 < (l0.length : Int) := of_decide_eq_true (by first | (with_reducible assumption) | assumption)
           obtain ⟨ad279, e279, hx279_0, hx279_1, hx279_2, hx279_3, hx279_4, hx279_5⟩ := at_T33 HR0.out x9_2 p279 q279
           have hw279_5 := hx279_5
           have hw279_4 := hx279_4
           have hw279_3 := hx279_3
           have hw279_2 := hx279_2
           have hw279_1 := hx279_1
           have hw279_0 := hx279_0
           obtain rfl : ad258 = ad279 := (by injection e279)
           replace hx279_0 := (HB.out.cell (World.block_lt_of_cell? w _ hx279_0)).trans hx279_0
           replace hx279_1 := (HB.out.cell (World.block_lt_of_cell? w _ hx279_1)).trans hx279_1
           replace hx279_2 := (HB.out.cell (World.block_lt_of_cell? w _ hx279_2)).trans hx279_2
           replace hx279_3 := (HB.out.cell (World.block_lt_of_cell? w _ hx279_3)).trans hx279_3
           replace hx279_4 := (HB.out.cell (World.block_lt_of_cell? w _ hx279_4)).trans hx279_4
           replace hx279_5 := (HB.out.cell (World.block_lt_of_cell? w _ hx279_5)).trans hx279_5
           replace p279 := eq_true p279
           replace q279 := eq_true q279
           refine start_ (n := 51) (S := fun w' => w'.cell? (ad258.add ((x9_2).toNat * 6)) = some (.int .i64 ((rd_T33 l0 x9_2).f0)) ∧ w'.cell? ⟨(ad258.add ((x9_2).toNat * 6)).block, (ad258.add ((x9_2).toNat * 6)).off + 1, none⟩ = some (.int .i64 ((rd_T33 l0 x9_2).f1)) ∧ w'.cell? ⟨(ad258.add ((x9_2).toNat * 6)).block, (ad258.add ((x9_2).toNat * 6)).off + 2, none⟩ = some (.int .i64 ((rd_T33 l0 x9_2).f2)) ∧ w'.cell? ⟨(ad258.add ((x9_2).toNat * 6)).block, (ad258.add ((x9_2).toNat * 6)).off + 3, none⟩ = some (.bool ((rd_T33 l0 x9_2).f3)) ∧ w'.cell? ⟨(ad258.add ((x9_2).toNat * 6)).block, (ad258.add ((x9_2).toNat * 6)).off + 4, none⟩ = some (.string ((rd_T33 l0 x9_2).f4)) ∧ w'.cell? ⟨(ad258.add ((x9_2).toNat * 6)).block, (ad258.add ((x9_2).toNat * 6)).off + 5, none⟩ = some (.int .u64 ((rd_T33 l0 x9_2).f5)) ∧ w'.cell? (ad258.add ((x9_2).toNat * 6)) = some (.int .i64 ((rd_T33 l0 x9_2).f0)) ∧ w'.cell? ⟨(ad258.add ((x9_2).toNat * 6)).block, (ad258.add ((x9_2).toNat * 6)).off + 1, none⟩ = some (.int .i64 ((rd_T33 l0 x9_2).f1)) ∧ w'.cell? ⟨(ad258.add ((x9_2).toNat * 6)).block, (ad258.add ((x9_2).toNat * 6)).off + 2, none⟩ = some (.int .i64 ((rd_T33 l0 x9_2).f2)) ∧ w'.cell? ⟨(ad258.add ((x9_2).toNat * 6)).block, (ad258.add ((x9_2).toNat * 6)).off + 3, none⟩ = some (.bool ((rd_T33 l0 x9_2).f3)) ∧ w'.cell? ⟨(ad258.add ((x9_2).toNat * 6)).block, (ad258.add ((x9_2).toNat * 6)).off + 4, none⟩ = some (.string ((rd_T33 l0 x9_2).f4)) ∧ w'.cell? ⟨(ad258.add ((x9_2).toNat * 6)).block, (ad258.add ((x9_2).toNat * 6)).off + 5, none⟩ = some (.int .u64 ((rd_T33 l0 x9_2).f5)) ∧ w'.cell? (ad258.add ((x9_2).toNat * 6)) = some (.int .i64 ((rd_T33 l0 x9_2).f0)) ∧ w'.cell? ⟨(ad258.add ((x9_2).toNat * 6)).block, (ad258.add ((x9_2).toNat * 6)).off + 1, none⟩ = some (.int .i64 ((rd_T33 l0 x9_2).f1)) ∧ w'.cell? ⟨(ad258.add ((x9_2).toNat * 6)).block, (ad258.add ((x9_2).toNat * 6)).off + 2, none⟩ = some (.int .i64 ((rd_T33 l0 x9_2).f2)) ∧ w'.cell? ⟨(ad258.add ((x9_2).toNat * 6)).block, (ad258.add ((x9_2).toNat * 6)).off + 3, none⟩ = some (.bool ((rd_T33 l0 x9_2).f3)) ∧ w'.cell? ⟨(ad258.add ((x9_2).toNat * 6)).block, (ad258.add ((x9_2).toNat * 6)).off + 4, none⟩ = some (.string ((rd_T33 l0 x9_2).f4)) ∧ w'.cell? ⟨(ad258.add ((x9_2).toNat * 6)).block, (ad258.add ((x9_2).toNat * 6)).off + 5, none⟩ = some (.int .u64 ((rd_T33 l0 x9_2).f5)) ∧ w'.cell? (ad258.add ((x9_2).toNat * 6)) = some (.int .i64 ((rd_T33 l0 x9_2).f0)) ∧ w'.cell? ⟨(ad258.add ((x9_2).toNat * 6)).block, (ad258.add ((x9_2).toNat * 6)).off + 1, none⟩ = some (.int .i64 ((rd_T33 l0 x9_2).f1)) ∧ w'.cell? ⟨(ad258.add ((x9_2).toNat * 6)).block, (ad258.add ((x9_2).toNat * 6)).off + 2, none⟩ = some (.int .i64 ((rd_T33 l0 x9_2).f2)) ∧ w'.cell? ⟨(ad258.add ((x9_2).toNat * 6)).block, (ad258.add ((x9_2).toNat * 6)).off + 3, none⟩ = some (.bool ((rd_T33 l0 x9_2).f3)) ∧ w'.cell? ⟨(ad258.add ((x9_2).toNat * 6)).block, (ad258.add ((x9_2).toNat * 6)).off + 4, none⟩ = some (.string ((rd_T33 l0 x9_2).f4)) ∧ w'.cell? ⟨(ad258.add ((x9_2).toNat * 6)).block, (ad258.add ((x9_2).toNat * 6)).off + 5, none⟩ = some (.int .u64 ((rd_T33 l0 x9_2).f5))) (ds := []) #[N',N',N',N',N',N',N',N',N',N',N',N',N',N',N',N',N',N',N',N',N',N',N',N',N',N',N',N',N',N',N',N',N',N',N',N',N',N',N',N',N',N',N',N',N',N',N',N',N',N',N'] (by kernel_rfl) rfl rfl ⟨((HB.out.cell (World.block_lt_of_cell? w _ hw258_0)).trans hw258_0), ((HB.out.cell (World.block_lt_of_cell? w _ hw258_1)).trans hw258_1), ((HB.out.cell (World.block_lt_of_cell? w _ hw258_2)).trans hw258_2), ((HB.out.cell (World.block_lt_of_cell? w _ hw258_3)).trans hw258_3), ((HB.out.cell (World.block_lt_of_cell? w _ hw258_4)).trans hw258_4), ((HB.out.cell (World.block_lt_of_cell? w _ hw258_5)).trans hw258_5), ((HB.out.cell (World.block_lt_of_cell? w _ hw265_0)).trans hw265_0), ((HB.out.cell (World.block_lt_of_cell? w _ hw265_1)).trans hw265_1), ((HB.out.cell (World.block_lt_of_cell? w _ hw265_2)).trans hw265_2), ((HB.out.cell (World.block_lt_of_cell? w _ hw265_3)).trans hw265_3), ((HB.out.cell (World.block_lt_of_cell? w _ hw265_4)).trans hw265_4), ((HB.out.cell (World.block_lt_of_cell? w _ hw265_5)).trans hw265_5), ((HB.out.cell (World.block_lt_of_cell? w _ hw272_0)).trans hw272_0), ((HB.out.cell (World.block_lt_of_cell? w _ hw272_1)).trans hw272_1), ((HB.out.cell (World.block_lt_of_cell? w _ hw272_2)).trans hw272_2), ((HB.out.cell (World.block_lt_of_cell? w _ hw272_3)).trans hw272_3), ((HB.out.cell (World.block_lt_of_cell? w _ hw272_4)).trans hw272_4), ((HB.out.cell (World.block_lt_of_cell? w _ hw272_5)).trans hw272_5), ((HB.out.cell (World.block_lt_of_cell? w _ hw279_0)).trans hw279_0), ((HB.out.cell (World.block_lt_of_cell? w _ hw279_1)).trans hw279_1), ((HB.out.cell (World.block_lt_of_cell? w _ hw279_2)).trans hw279_2), ((HB.out.cell (World.block_lt_of_cell? w _ hw279_3)).trans hw279_3), ((HB.out.cell (World.block_lt_of_cell? w _ hw279_4)).trans hw279_4), ((HB.out.cell (World.block_lt_of_cell? w _ hw279_5)).trans hw279_5)⟩ (fun hHeld => ?_); refine with_tabW frisketlaw07_SpanNormal.tab10 frisketlaw07_SpanNormal.bits10 (fun HT_ HW_ => ?_)
           generalize wr.drew = w36 at HO_8 HB hx258_0 hx258_1 hx258_2 hx258_3 hx258_4 hx258_5 hx265_0 hx265_1 hx265_2 hx265_3 hx265_4 hx265_5 hx272_0 hx272_1 hx272_2 hx272_3 hx272_4 hx272_5 hx279_0 hx279_1 hx279_2 hx279_3 hx279_4 hx279_5 hHeld ⊢
           refine pure_ (i := 0) (N := some 42) (v := ?_) (a' := ?_) #[Y',N',N',N',N',N',N',N',N',N',N',N',N',N',N',N',N',N',N',N',N',N',N',N',N',N',N',N',N',N',N',N',N',N',N',N',N',N',N',N',N',N',N',N',N',N',N',N',N',N',N'] rfl rfl (any_of HT_.out (by kernel_rfl)) (fun _ _ _ h => h) (Or.inl ⟨by rfl, ?_⟩) ?_ ?_
           rotate_left
           ·intro w'
            go_simp
            with_reducible rfl
           rotate_left
           ·simp only [Act.put, List.setIfInBounds_toArray, List.set_cons_zero, List.set_cons_succ, i64_w, i32_w]
            rfl
           refine pure_ (i := 1) (N := some 43) (v := ?_) (a' := ?_) #[Y',Y',N',N',N',N',N',N',N',N',N',N',N',N',N',N',N',N',N',N',N',N',N',N',N',N',N',N',N',N',N',N',N',N',N',N',N',N',N',N',N',N',N',N',N',N',N',N',N',N',N'] rfl rfl (any_of HT_.out (by kernel_rfl)) (fun _ _ _ h => h) (Or.inl ⟨by rfl, ?_⟩) ?_ ?_
           rotate_left
           ·intro w'
            go_simp
            with_reducible rfl
           rotate_left
           ·simp only [Act.put, List.setIfInBounds_toArray, List.set_cons_zero, List.set_cons_succ, i64_w, i32_w]
            rfl
           refine pure_ (i := 2) (N := some 44) (v := ?_) (a' := ?_) #[Y',Y',Y',N',N',N',N',N',N',N',N',N',N',N',N',N',N',N',N',N',N',N',N',N',N',N',N',N',N',N',N',N',N',N',N',N',N',N',N',N',N',N',N',N',N',N',N',N',N',N',N'] rfl rfl (any_of HT_.out (by kernel_rfl)) (fun _ _ _ h => h) (Or.inl ⟨by rfl, ?_⟩) ?_ ?_
           rotate_left
           ·intro w'
            go_simp
            with_reducible rfl
           rotate_left
           ·simp only [Act.put, List.setIfInBounds_toArray, List.set_cons_zero, List.set_cons_succ, i64_w, i32_w]
            rfl
           refine pure_ (i := 3) (N := some 45) (v := ?_) (a' := ?_) #[Y',Y',Y',Y',N',N',N',N',N',N',N',N',N',N',N',N',N',N',N',N',N',N',N',N',N',N',N',N',N',N',N',N',N',N',N',N',N',N',N',N',N',N',N',N',N',N',N',N',N',N',N'] rfl rfl (any_of HT_.out (by kernel_rfl)) (fun _ _ _ h => h) (Or.inl ⟨by rfl, ?_⟩) ?_ ?_
           rotate_left
           ·intro w'
            go_simp
            with_reducible rfl
           rotate_left
           ·simp only [Act.put, List.setIfInBounds_toArray, List.set_cons_zero, List.set_cons_succ, i64_w, i32_w]
            rfl
           refine pure_ (i := 4) (N := some 46) (v := ?_) (a' := ?_) #[Y',Y',Y',Y',Y',N',N',N',N',N',N',N',N',N',N',N',N',N',N',N',N',N',N',N',N',N',N',N',N',N',N',N',N',N',N',N',N',N',N',N',N',N',N',N',N',N',N',N',N',N',N'] rfl rfl (any_of HT_.out (by kernel_rfl)) (fun _ _ _ h => h) (Or.inl ⟨by rfl, ?_⟩) ?_ ?_
           rotate_left
           ·intro w'
            go_simp
            with_reducible rfl
           rotate_left
           ·simp only [Act.put, List.setIfInBounds_toArray, List.set_cons_zero, List.set_cons_succ, i64_w, i32_w]
            rfl
           refine pure_ (i := 7) (N := some 49) (v := ?_) (a' := ?_) #[Y',Y',Y',Y',Y',N',N',Y',N',N',N',N',N',N',N',N',N',N',N',N',N',N',N',N',N',N',N',N',N',N',N',N',N',N',N',N',N',N',N',N',N',N',N',N',N',N',N',N',N',N',N'] rfl rfl (any_of HT_.out (by kernel_rfl)) (fun _ _ _ h => h) (Or.inl ⟨by rfl, ?_⟩) ?_ ?_
           rotate_left
           ·intro w'
            go_simp
            with_reducible rfl
           rotate_left
           ·simp only [Act.put, List.setIfInBounds_toArray, List.set_cons_zero, List.set_cons_succ, i64_w, i32_w]
            rfl
           refine pure_ (i := 8) (N := some 50) (v := ?_) (a' := ?_) #[Y',Y',Y',Y',Y',N',N',Y',Y',N',N',N',N',N',N',N',N',N',N',N',N',N',N',N',N',N',N',N',N',N',N',N',N',N',N',N',N',N',N',N',N',N',N',N',N',N',N',N',N',N',N'] rfl rfl (any_of HT_.out (by kernel_rfl)) (fun _ _ _ h => h) (Or.inl ⟨by rfl, ?_⟩) ?_ ?_
           rotate_left
           ·intro w'
            go_simp
            with_reducible rfl
           rotate_left
           ·simp only [Act.put, List.setIfInBounds_toArray, List.set_cons_zero, List.set_cons_succ, i64_w, i32_w]
            rfl
           refine pure_ (i := 9) (N := some 51) (v := ?_) (a' := ?_) #[Y',Y',Y',Y',Y',N',N',Y',Y',Y',N',N',N',N',N',N',N',N',N',N',N',N',N',N',N',N',N',N',N',N',N',N',N',N',N',N',N',N',N',N',N',N',N',N',N',N',N',N',N',N',N'] rfl rfl (any_of HT_.out (by kernel_rfl)) (fun _ _ _ h => h) (Or.inl ⟨by rfl, ?_⟩) ?_ ?_
           rotate_left
           ·intro w'
            go_simp
            with_reducible rfl
           rotate_left
           ·simp only [Act.put, List.setIfInBounds_toArray, List.set_cons_zero, List.set_cons_succ, i64_w, i32_w]
            rfl
           refine pure_ (i := 10) (N := some 52) (v := ?_) (a' := ?_) #[Y',Y',Y',Y',Y',N',N',Y',Y',Y',Y',N',N',N',N',N',N',N',N',N',N',N',N',N',N',N',N',N',N',N',N',N',N',N',N',N',N',N',N',N',N',N',N',N',N',N',N',N',N',N',N'] rfl rfl (any_of HT_.out (by kernel_rfl)) (fun _ _ _ h => h) (Or.inl ⟨by rfl, ?_⟩) ?_ ?_
           rotate_left
           ·intro w'
            go_simp
            with_reducible rfl
           rotate_left
           ·simp only [Act.put, List.setIfInBounds_toArray, List.set_cons_zero, List.set_cons_succ, i64_w, i32_w]
            rfl
           refine pure_ (i := 11) (N := some 53) (v := ?_) (a' := ?_) #[Y',Y',Y',Y',Y',N',N',Y',Y',Y',Y',Y',N',N',N',N',N',N',N',N',N',N',N',N',N',N',N',N',N',N',N',N',N',N',N',N',N',N',N',N',N',N',N',N',N',N',N',N',N',N',N'] rfl rfl (any_of HT_.out (by kernel_rfl)) (fun _ _ _ h => h) (Or.inl ⟨by rfl, ?_⟩) ?_ ?_
           rotate_left
           ·intro w'
            go_simp
            with_reducible rfl
           rotate_left
           ·simp only [Act.put, List.setIfInBounds_toArray, List.set_cons_zero, List.set_cons_succ, i64_w, i32_w]
            rfl
           refine take_ (i := 5) (N := some 47) (v := ?_) (a' := ?_) #[Y',Y',Y',Y',Y',Y',N',Y',Y',Y',Y',Y',N',N',N',N',N',N',N',N',N',N',N',N',N',N',N',N',N',N',N',N',N',N',N',N',N',N',N',N',N',N',N',N',N',N',N',N',N',N',N'] rfl rfl (take_ofW HT_.out HW_.out (by kernel_rfl)) (fun _ _ _ h => h) (Or.inl ⟨by rfl, ?_⟩) hHeld ?_ ?_
           rotate_left
           ·rintro w' ⟨s0, s1, s2, s3, s4, s5, s6, s7, s8, s9, s10, s11, s12, s13, s14, s15, s16, s17, s18, s19, s20, s21, s22, s23⟩
            go_simp
            with_reducible rfl
           rotate_left
           ·simp only [Act.put, List.setIfInBounds_toArray, List.set_cons_zero, List.set_cons_succ, i64_w, i32_w]
            rfl
           refine take_ (i := 12) (N := some 54) (v := ?_) (a' := ?_) #[Y',Y',Y',Y',Y',Y',N',Y',Y',Y',Y',Y',Y',N',N',N',N',N',N',N',N',N',N',N',N',N',N',N',N',N',N',N',N',N',N',N',N',N',N',N',N',N',N',N',N',N',N',N',N',N',N'] rfl rfl (take_ofW HT_.out HW_.out (by kernel_rfl)) (fun _ _ _ h => h) (Or.inl ⟨by rfl, ?_⟩) hHeld ?_ ?_
           rotate_left
           ·rintro w' ⟨s0, s1, s2, s3, s4, s5, s6, s7, s8, s9, s10, s11, s12, s13, s14, s15, s16, s17, s18, s19, s20, s21, s22, s23⟩
            go_simp
            with_reducible rfl
           rotate_left
           ·simp only [Act.put, List.setIfInBounds_toArray, List.set_cons_zero, List.set_cons_succ, i64_w, i32_w]
            rfl
           refine one_ (i := 6) (N := some 48) #[Y',Y',Y',Y',Y',Y',Y',Y',Y',Y',Y',Y',Y',N',N',N',N',N',N',N',N',N',N',N',N',N',N',N',N',N',N',N',N',N',N',N',N',N',N',N',N',N',N',N',N',N',N',N',N',N',N'] rfl rfl (one_of HT_.out (by kernel_rfl)) (by decide) (fun K hK => ?_)
           refine goes_ Try.func16 (by kernel_rfl) rfl #[.slice Ao37 t237.length co37, .int .i64 ((rd_T33 l0 x9_2).f0)] (by rfl) rfl rfl (by (try simp only [List.map_toArray, List.map_cons, List.map_nil]); first | done | rfl | (simp only [List.length_drop, List.length_take]; rfl)) ?_
           with_reducible refine (span_Style.calls _ _ t237 ((rd_T33 l0 x9_2).f0) t259 t260 t261 t262 t263 t264 _ ?side1 ?side2 A26.out).mono ?_
           (case side1 => repeat (first | exact (Kd.R_reads' HO_8.out).2.2 | (with_reducible refine Kd.C_alloc ?_ _) | (with_reducible refine Kd.C_drewN ?_ _) | (with_reducible refine Kd.C_drew ?_)))
           (case side2 => exact (Kd.R_reads' HO_8.out).2.1)
           rintro e w38 ⟨rfl, hb⟩
           refine ⟨_, rfl, ?_⟩
           have n0_ := Aside0.mk (Kd.R_below (by (with_reducible repeat (first | apply Kd.R_alloc | apply Kd.R_drewN | apply Kd.R_drew)); exact HO_8.out) hb)
           have n1_ := Aside0.mk (below_step (by repeat (first | (with_reducible first | exact HB.out | apply below_alloc | apply pw_below_drewN | apply below_drew1) | exact HB.out)) hb)
           clear HO_8
           clear HB
           have HO_8 := n0_
           have HB := n1_
           clear n0_ n1_
           (try clear hb)
           (try clear hb2)
           (try clear hk)
           (try clear hi)
           refine hK.out _ _ ⟨((HB.out.cell (World.block_lt_of_cell? w _ hw258_0)).trans hw258_0), ((HB.out.cell (World.block_lt_of_cell? w _ hw258_1)).trans hw258_1), ((HB.out.cell (World.block_lt_of_cell? w _ hw258_2)).trans hw258_2), ((HB.out.cell (World.block_lt_of_cell? w _ hw258_3)).trans hw258_3), ((HB.out.cell (World.block_lt_of_cell? w _ hw258_4)).trans hw258_4), ((HB.out.cell (World.block_lt_of_cell? w _ hw258_5)).trans hw258_5), ((HB.out.cell (World.block_lt_of_cell? w _ hw265_0)).trans hw265_0), ((HB.out.cell (World.block_lt_of_cell? w _ hw265_1)).trans hw265_1), ((HB.out.cell (World.block_lt_of_cell? w _ hw265_2)).trans hw265_2), ((HB.out.cell (World.block_lt_of_cell? w _ hw265_3)).trans hw265_3), ((HB.out.cell (World.block_lt_of_cell? w _ hw265_4)).trans hw265_4), ((HB.out.cell (World.block_lt_of_cell? w _ hw265_5)).trans hw265_5), ((HB.out.cell (World.block_lt_of_cell? w _ hw272_0)).trans hw272_0), ((HB.out.cell (World.block_lt_of_cell? w _ hw272_1)).trans hw272_1), ((HB.out.cell (World.block_lt_of_cell? w _ hw272_2)).trans hw272_2), ((HB.out.cell (World.block_lt_of_cell? w _ hw272_3)).trans hw272_3), ((HB.out.cell (World.block_lt_of_cell? w _ hw272_4)).trans hw272_4), ((HB.out.cell (World.block_lt_of_cell? w _ hw272_5)).trans hw272_5), ((HB.out.cell (World.block_lt_of_cell? w _ hw279_0)).trans hw279_0), ((HB.out.cell (World.block_lt_of_cell? w _ hw279_1)).trans hw279_1), ((HB.out.cell (World.block_lt_of_cell? w _ hw279_2)).trans hw279_2), ((HB.out.cell (World.block_lt_of_cell? w _ hw279_3)).trans hw279_3), ((HB.out.cell (World.block_lt_of_cell? w _ hw279_4)).trans hw279_4), ((HB.out.cell (World.block_lt_of_cell? w _ hw279_5)).trans hw279_5)⟩ (fun hHeld => ?_)
           clear hK K
           refine norm_ (a' := ?_) ?_ ?_
           rotate_left
           ·show Act.put _ (some 48) _ = _
            simp only [Act.put, List.setIfInBounds_toArray, List.set_cons_zero, List.set_cons_succ, i64_w, i32_w]
            rfl
           refine one_ (i := 13) (N := some 55) #[Y',Y',Y',Y',Y',Y',Y',Y',Y',Y',Y',Y',Y',Y',N',N',N',N',N',N',N',N',N',N',N',N',N',N',N',N',N',N',N',N',N',N',N',N',N',N',N',N',N',N',N',N',N',N',N',N',N'] rfl rfl (one_of HT_.out (by kernel_rfl)) (by decide) (fun K hK => ?_)
           refine goes_ Try.func16 (by kernel_rfl) rfl #[.slice (some ad258) l0.length c0, .int .i64 ((rd_T33 l0 x9_2).f0)] (by rfl) rfl rfl (by (try simp only [List.map_toArray, List.map_cons, List.map_nil]); first | done | rfl | (simp only [List.length_drop, List.length_take]; rfl)) ?_
           with_reducible refine (span_Style.calls _ _ l0 ((rd_T33 l0 x9_2).f0) t266 t267 t268 t269 t270 t271 _ ?side1 ?side2 A27.out).mono ?_
           (case side1 => repeat (first | exact (Kd.C_below HR0.out HB.out) | (with_reducible refine Kd.C_alloc ?_ _) | (with_reducible refine Kd.C_drewN ?_ _) | (with_reducible refine Kd.C_drew ?_)))
           (case side2 => exact HC0.out)
           rintro e w39 ⟨rfl, hb⟩
           refine ⟨_, rfl, ?_⟩
           have n0_ := Aside0.mk (Kd.R_below (by (with_reducible repeat (first | apply Kd.R_alloc | apply Kd.R_drewN | apply Kd.R_drew)); exact HO_8.out) hb)
           have n1_ := Aside0.mk (below_step (by repeat (first | (with_reducible first | exact HB.out | apply below_alloc | apply pw_below_drewN | apply below_drew1) | exact HB.out)) hb)
           clear HO_8
           clear HB
           have HO_8 := n0_
           have HB := n1_
           clear n0_ n1_
           (try clear hb)
           (try clear hb2)
           (try clear hk)
           (try clear hi)
           refine hK.out _ _ ⟨((HB.out.cell (World.block_lt_of_cell? w _ hw258_0)).trans hw258_0), ((HB.out.cell (World.block_lt_of_cell? w _ hw258_1)).trans hw258_1), ((HB.out.cell (World.block_lt_of_cell? w _ hw258_2)).trans hw258_2), ((HB.out.cell (World.block_lt_of_cell? w _ hw258_3)).trans hw258_3), ((HB.out.cell (World.block_lt_of_cell? w _ hw258_4)).trans hw258_4), ((HB.out.cell (World.block_lt_of_cell? w _ hw258_5)).trans hw258_5), ((HB.out.cell (World.block_lt_of_cell? w _ hw265_0)).trans hw265_0), ((HB.out.cell (World.block_lt_of_cell? w _ hw265_1)).trans hw265_1), ((HB.out.cell (World.block_lt_of_cell? w _ hw265_2)).trans hw265_2), ((HB.out.cell (World.block_lt_of_cell? w _ hw265_3)).trans hw265_3), ((HB.out.cell (World.block_lt_of_cell? w _ hw265_4)).trans hw265_4), ((HB.out.cell (World.block_lt_of_cell? w _ hw265_5)).trans hw265_5), ((HB.out.cell (World.block_lt_of_cell? w _ hw272_0)).trans hw272_0), ((HB.out.cell (World.block_lt_of_cell? w _ hw272_1)).trans hw272_1), ((HB.out.cell (World.block_lt_of_cell? w _ hw272_2)).trans hw272_2), ((HB.out.cell (World.block_lt_of_cell? w _ hw272_3)).trans hw272_3), ((HB.out.cell (World.block_lt_of_cell? w _ hw272_4)).trans hw272_4), ((HB.out.cell (World.block_lt_of_cell? w _ hw272_5)).trans hw272_5), ((HB.out.cell (World.block_lt_of_cell? w _ hw279_0)).trans hw279_0), ((HB.out.cell (World.block_lt_of_cell? w _ hw279_1)).trans hw279_1), ((HB.out.cell (World.block_lt_of_cell? w _ hw279_2)).trans hw279_2), ((HB.out.cell (World.block_lt_of_cell? w _ hw279_3)).trans hw279_3), ((HB.out.cell (World.block_lt_of_cell? w _ hw279_4)).trans hw279_4), ((HB.out.cell (World.block_lt_of_cell? w _ hw279_5)).trans hw279_5)⟩ (fun hHeld => ?_)
           clear hK K
           refine norm_ (a' := ?_) ?_ ?_
           rotate_left
           ·show Act.put _ (some 55) _ = _
            simp only [Act.put, List.setIfInBounds_toArray, List.set_cons_zero, List.set_cons_succ, i64_w, i32_w]
            rfl
           refine pure_ (i := 14) (N := some 56) (v := ?_) (a' := ?_) #[Y',Y',Y',Y',Y',Y',Y',Y',Y',Y',Y',Y',Y',Y',Y',N',N',N',N',N',N',N',N',N',N',N',N',N',N',N',N',N',N',N',N',N',N',N',N',N',N',N',N',N',N',N',N',N',N',N',N'] rfl rfl (any_of HT_.out (by kernel_rfl)) (fun _ _ _ h => h) (Or.inl ⟨by rfl, ?_⟩) ?_ ?_
           rotate_left
           ·intro w'
            go_simp
            with_reducible rfl
           rotate_left
           ·simp only [Act.put, List.setIfInBounds_toArray, List.set_cons_zero, List.set_cons_succ, i64_w, i32_w]
            rfl
           refine pure_ (i := 15) (N := some 57) (v := ?_) (a' := ?_) #[Y',Y',Y',Y',Y',Y',Y',Y',Y',Y',Y',Y',Y',Y',Y',Y',N',N',N',N',N',N',N',N',N',N',N',N',N',N',N',N',N',N',N',N',N',N',N',N',N',N',N',N',N',N',N',N',N',N',N'] rfl rfl (any_of HT_.out (by kernel_rfl)) (fun _ _ _ h => h) (Or.inl ⟨by rfl, ?_⟩) ?_ ?_
           rotate_left
           ·intro w'
            go_simp
            with_reducible rfl
           rotate_left
           ·simp only [Act.put, List.setIfInBounds_toArray, List.set_cons_zero, List.set_cons_succ, i64_w, i32_w]
            rfl
           refine pure_ (i := 16) (N := some 58) (v := ?_) (a' := ?_) #[Y',Y',Y',Y',Y',Y',Y',Y',Y',Y',Y',Y',Y',Y',Y',Y',Y',N',N',N',N',N',N',N',N',N',N',N',N',N',N',N',N',N',N',N',N',N',N',N',N',N',N',N',N',N',N',N',N',N',N'] rfl rfl (any_of HT_.out (by kernel_rfl)) (fun _ _ _ h => h) (Or.inl ⟨by rfl, ?_⟩) ?_ ?_
           rotate_left
           ·intro w'
            go_simp
            with_reducible rfl
           rotate_left
           ·simp only [Act.put, List.setIfInBounds_toArray, List.set_cons_zero, List.set_cons_succ, i64_w, i32_w]
            rfl
           refine pure_ (i := 17) (N := some 59) (v := ?_) (a' := ?_) #[Y',Y',Y',Y',Y',Y',Y',Y',Y',Y',Y',Y',Y',Y',Y',Y',Y',Y',N',N',N',N',N',N',N',N',N',N',N',N',N',N',N',N',N',N',N',N',N',N',N',N',N',N',N',N',N',N',N',N',N'] rfl rfl (any_of HT_.out (by kernel_rfl)) (fun _ _ _ h => h) (Or.inl ⟨by rfl, ?_⟩) ?_ ?_
           rotate_left
           ·intro w'
            go_simp
            with_reducible rfl
           rotate_left
           ·simp only [Act.put, List.setIfInBounds_toArray, List.set_cons_zero, List.set_cons_succ, i64_w, i32_w]
            rfl
           refine pure_ (i := 18) (N := some 60) (v := ?_) (a' := ?_) #[Y',Y',Y',Y',Y',Y',Y',Y',Y',Y',Y',Y',Y',Y',Y',Y',Y',Y',Y',N',N',N',N',N',N',N',N',N',N',N',N',N',N',N',N',N',N',N',N',N',N',N',N',N',N',N',N',N',N',N',N'] rfl rfl (any_of HT_.out (by kernel_rfl)) (fun _ _ _ h => h) (Or.inl ⟨by rfl, ?_⟩) ?_ ?_
           rotate_left
           ·intro w'
            go_simp
            with_reducible rfl
           rotate_left
           ·simp only [Act.put, List.setIfInBounds_toArray, List.set_cons_zero, List.set_cons_succ, i64_w, i32_w]
            rfl
           refine pure_ (i := 19) (N := some 61) (v := ?_) (a' := ?_) #[Y',Y',Y',Y',Y',Y',Y',Y',Y',Y',Y',Y',Y',Y',Y',Y',Y',Y',Y',Y',N',N',N',N',N',N',N',N',N',N',N',N',N',N',N',N',N',N',N',N',N',N',N',N',N',N',N',N',N',N',N'] rfl rfl (any_of HT_.out (by kernel_rfl)) (fun _ _ _ h => h) (Or.inl ⟨by rfl, ?_⟩) ?_ ?_
           rotate_left
           ·intro w'
            go_simp
            with_reducible rfl
           rotate_left
           ·simp only [Act.put, List.setIfInBounds_toArray, List.set_cons_zero, List.set_cons_succ, i64_w, i32_w]
            rfl
           refine pure_ (i := 20) (N := some 62) (v := ?_) (a' := ?_) #[Y',Y',Y',Y',Y',Y',Y',Y',Y',Y',Y',Y',Y',Y',Y',Y',Y',Y',Y',Y',Y',N',N',N',N',N',N',N',N',N',N',N',N',N',N',N',N',N',N',N',N',N',N',N',N',N',N',N',N',N',N'] rfl rfl (any_of HT_.out (by kernel_rfl)) (fun _ _ _ h => h) (Or.inl ⟨by rfl, ?_⟩) ?_ ?_
           rotate_left
           ·intro w'
            go_simp
            with_reducible rfl
           rotate_left
           ·simp only [Act.put, List.setIfInBounds_toArray, List.set_cons_zero, List.set_cons_succ, i64_w, i32_w]
            rfl
           refine pure_ (i := 24) (N := some 66) (v := ?_) (a' := ?_) #[Y',Y',Y',Y',Y',Y',Y',Y',Y',Y',Y',Y',Y',Y',Y',Y',Y',Y',Y',Y',Y',N',N',N',Y',N',N',N',N',N',N',N',N',N',N',N',N',N',N',N',N',N',N',N',N',N',N',N',N',N',N'] rfl rfl (any_of HT_.out (by kernel_rfl)) (fun _ _ _ h => h) (Or.inl ⟨by rfl, ?_⟩) ?_ ?_
           rotate_left
           ·intro w'
            go_simp
            with_reducible rfl
           rotate_left
           ·simp only [Act.put, List.setIfInBounds_toArray, List.set_cons_zero, List.set_cons_succ, i64_w, i32_w]
            rfl
           refine pure_ (i := 25) (N := some 67) (v := ?_) (a' := ?_) #[Y',Y',Y',Y',Y',Y',Y',Y',Y',Y',Y',Y',Y',Y',Y',Y',Y',Y',Y',Y',Y',N',N',N',Y',Y',N',N',N',N',N',N',N',N',N',N',N',N',N',N',N',N',N',N',N',N',N',N',N',N',N'] rfl rfl (any_of HT_.out (by kernel_rfl)) (fun _ _ _ h => h) (Or.inl ⟨by rfl, ?_⟩) ?_ ?_
           rotate_left
           ·intro w'
            go_simp
            with_reducible rfl
           rotate_left
           ·simp only [Act.put, List.setIfInBounds_toArray, List.set_cons_zero, List.set_cons_succ, i64_w, i32_w]
            rfl
           refine pure_ (i := 26) (N := some 68) (v := ?_) (a' := ?_) #[Y',Y',Y',Y',Y',Y',Y',Y',Y',Y',Y',Y',Y',Y',Y',Y',Y',Y',Y',Y',Y',N',N',N',Y',Y',Y',N',N',N',N',N',N',N',N',N',N',N',N',N',N',N',N',N',N',N',N',N',N',N',N'] rfl rfl (any_of HT_.out (by kernel_rfl)) (fun _ _ _ h => h) (Or.inl ⟨by rfl, ?_⟩) ?_ ?_
           rotate_left
           ·intro w'
            go_simp
            with_reducible rfl
           rotate_left
           ·simp only [Act.put, List.setIfInBounds_toArray, List.set_cons_zero, List.set_cons_succ, i64_w, i32_w]
            rfl
           refine pure_ (i := 27) (N := some 69) (v := ?_) (a' := ?_) #[Y',Y',Y',Y',Y',Y',Y',Y',Y',Y',Y',Y',Y',Y',Y',Y',Y',Y',Y',Y',Y',N',N',N',Y',Y',Y',Y',N',N',N',N',N',N',N',N',N',N',N',N',N',N',N',N',N',N',N',N',N',N',N'] rfl rfl (any_of HT_.out (by kernel_rfl)) (fun _ _ _ h => h) (Or.inl ⟨by rfl, ?_⟩) ?_ ?_
           rotate_left
           ·intro w'
            go_simp
            with_reducible rfl
           rotate_left
           ·simp only [Act.put, List.setIfInBounds_toArray, List.set_cons_zero, List.set_cons_succ, i64_w, i32_w]
            rfl
           refine pure_ (i := 28) (N := some 70) (v := ?_) (a' := ?_) #[Y',Y',Y',Y',Y',Y',Y',Y',Y',Y',Y',Y',Y',Y',Y',Y',Y',Y',Y',Y',Y',N',N',N',Y',Y',Y',Y',Y',N',N',N',N',N',N',N',N',N',N',N',N',N',N',N',N',N',N',N',N',N',N'] rfl rfl (any_of HT_.out (by kernel_rfl)) (fun _ _ _ h => h) (Or.inl ⟨by rfl, ?_⟩) ?_ ?_
           rotate_left
           ·intro w'
            go_simp
            with_reducible rfl
           rotate_left
           ·simp only [Act.put, List.setIfInBounds_toArray, List.set_cons_zero, List.set_cons_succ, i64_w, i32_w]
            rfl
           refine take_ (i := 21) (N := some 63) (v := ?_) (a' := ?_) #[Y',Y',Y',Y',Y',Y',Y',Y',Y',Y',Y',Y',Y',Y',Y',Y',Y',Y',Y',Y',Y',Y',N',N',Y',Y',Y',Y',Y',N',N',N',N',N',N',N',N',N',N',N',N',N',N',N',N',N',N',N',N',N',N'] rfl rfl (take_ofW HT_.out HW_.out (by kernel_rfl)) (fun _ _ _ h => h) (Or.inl ⟨by rfl, ?_⟩) hHeld ?_ ?_
           rotate_left
           ·rintro w' ⟨s0, s1, s2, s3, s4, s5, s6, s7, s8, s9, s10, s11, s12, s13, s14, s15, s16, s17, s18, s19, s20, s21, s22, s23⟩
            go_simp
            with_reducible rfl
           rotate_left
           ·simp only [Act.put, List.setIfInBounds_toArray, List.set_cons_zero, List.set_cons_succ, i64_w, i32_w]
            rfl
           refine pure_ (i := 22) (N := some 64) (v := ?_) (a' := ?_) #[Y',Y',Y',Y',Y',Y',Y',Y',Y',Y',Y',Y',Y',Y',Y',Y',Y',Y',Y',Y',Y',Y',Y',N',Y',Y',Y',Y',Y',N',N',N',N',N',N',N',N',N',N',N',N',N',N',N',N',N',N',N',N',N',N'] rfl rfl (any_of HT_.out (by kernel_rfl)) (fun _ _ _ h => h) (Or.inl ⟨by rfl, ?_⟩) ?_ ?_
           rotate_left
           ·intro w'
            go_simp
            with_reducible rfl
           rotate_left
           ·simp only [Act.put, List.setIfInBounds_toArray, List.set_cons_zero, List.set_cons_succ, i64_w, i32_w]
            rfl
           refine take_ (i := 29) (N := some 71) (v := ?_) (a' := ?_) #[Y',Y',Y',Y',Y',Y',Y',Y',Y',Y',Y',Y',Y',Y',Y',Y',Y',Y',Y',Y',Y',Y',Y',N',Y',Y',Y',Y',Y',Y',N',N',N',N',N',N',N',N',N',N',N',N',N',N',N',N',N',N',N',N',N'] rfl rfl (take_ofW HT_.out HW_.out (by kernel_rfl)) (fun _ _ _ h => h) (Or.inl ⟨by rfl, ?_⟩) hHeld ?_ ?_
           rotate_left
           ·rintro w' ⟨s0, s1, s2, s3, s4, s5, s6, s7, s8, s9, s10, s11, s12, s13, s14, s15, s16, s17, s18, s19, s20, s21, s22, s23⟩
            go_simp
            with_reducible rfl
           rotate_left
           ·simp only [Act.put, List.setIfInBounds_toArray, List.set_cons_zero, List.set_cons_succ, i64_w, i32_w]
            rfl
           refine pure_ (i := 30) (N := some 72) (v := ?_) (a' := ?_) #[Y',Y',Y',Y',Y',Y',Y',Y',Y',Y',Y',Y',Y',Y',Y',Y',Y',Y',Y',Y',Y',Y',Y',N',Y',Y',Y',Y',Y',Y',Y',N',N',N',N',N',N',N',N',N',N',N',N',N',N',N',N',N',N',N',N'] rfl rfl (any_of HT_.out (by kernel_rfl)) (fun _ _ _ h => h) (Or.inl ⟨by rfl, ?_⟩) ?_ ?_
           rotate_left
           ·intro w'
            go_simp
            with_reducible rfl
           rotate_left
           ·simp only [Act.put, List.setIfInBounds_toArray, List.set_cons_zero, List.set_cons_succ, i64_w, i32_w]
            rfl
           refine one_ (i := 23) (N := some 65) #[Y',Y',Y',Y',Y',Y',Y',Y',Y',Y',Y',Y',Y',Y',Y',Y',Y',Y',Y',Y',Y',Y',Y',Y',Y',Y',Y',Y',Y',Y',Y',N',N',N',N',N',N',N',N',N',N',N',N',N',N',N',N',N',N',N',N'] rfl rfl (one_of HT_.out (by kernel_rfl)) (by decide) (fun K hK => ?_)
           refine goes_ Try.func16 (by kernel_rfl) rfl #[.slice Ao37 t237.length co37, .int .i64 (wrap64 (((rd_T33 l0 x9_2).f1) - 1))] (by rfl) rfl rfl (by (try simp only [List.map_toArray, List.map_cons, List.map_nil]); first | done | rfl | (simp only [List.length_drop, List.length_take]; rfl)) ?_
           with_reducible refine (span_Style.calls _ _ t237 (wrap64 (((rd_T33 l0 x9_2).f1) - 1)) t273 t274 t275 t276 t277 t278 _ ?side1 ?side2 A33.out).mono ?_
           (case side1 => repeat (first | exact (Kd.R_reads' HO_8.out).2.2 | (with_reducible refine Kd.C_alloc ?_ _) | (with_reducible refine Kd.C_drewN ?_ _) | (with_reducible refine Kd.C_drew ?_)))
           (case side2 => exact (Kd.R_reads' HO_8.out).2.1)
           rintro e w40 ⟨rfl, hb⟩
           refine ⟨_, rfl, ?_⟩
           have n0_ := Aside0.mk (Kd.R_below (by (with_reducible repeat (first | apply Kd.R_alloc | apply Kd.R_drewN | apply Kd.R_drew)); exact HO_8.out) hb)
           have n1_ := Aside0.mk (below_step (by repeat (first | (with_reducible first | exact HB.out | apply below_alloc | apply pw_below_drewN | apply below_drew1) | exact HB.out)) hb)
           clear HO_8
           clear HB
           have HO_8 := n0_
           have HB := n1_
           clear n0_ n1_
           (try clear hb)
           (try clear hb2)
           (try clear hk)
           (try clear hi)
           refine hK.out _ _ ⟨((HB.out.cell (World.block_lt_of_cell? w _ hw258_0)).trans hw258_0), ((HB.out.cell (World.block_lt_of_cell? w _ hw258_1)).trans hw258_1), ((HB.out.cell (World.block_lt_of_cell? w _ hw258_2)).trans hw258_2), ((HB.out.cell (World.block_lt_of_cell? w _ hw258_3)).trans hw258_3), ((HB.out.cell (World.block_lt_of_cell? w _ hw258_4)).trans hw258_4), ((HB.out.cell (World.block_lt_of_cell? w _ hw258_5)).trans hw258_5), ((HB.out.cell (World.block_lt_of_cell? w _ hw265_0)).trans hw265_0), ((HB.out.cell (World.block_lt_of_cell? w _ hw265_1)).trans hw265_1), ((HB.out.cell (World.block_lt_of_cell? w _ hw265_2)).trans hw265_2), ((HB.out.cell (World.block_lt_of_cell? w _ hw265_3)).trans hw265_3), ((HB.out.cell (World.block_lt_of_cell? w _ hw265_4)).trans hw265_4), ((HB.out.cell (World.block_lt_of_cell? w _ hw265_5)).trans hw265_5), ((HB.out.cell (World.block_lt_of_cell? w _ hw272_0)).trans hw272_0), ((HB.out.cell (World.block_lt_of_cell? w _ hw272_1)).trans hw272_1), ((HB.out.cell (World.block_lt_of_cell? w _ hw272_2)).trans hw272_2), ((HB.out.cell (World.block_lt_of_cell? w _ hw272_3)).trans hw272_3), ((HB.out.cell (World.block_lt_of_cell? w _ hw272_4)).trans hw272_4), ((HB.out.cell (World.block_lt_of_cell? w _ hw272_5)).trans hw272_5), ((HB.out.cell (World.block_lt_of_cell? w _ hw279_0)).trans hw279_0), ((HB.out.cell (World.block_lt_of_cell? w _ hw279_1)).trans hw279_1), ((HB.out.cell (World.block_lt_of_cell? w _ hw279_2)).trans hw279_2), ((HB.out.cell (World.block_lt_of_cell? w _ hw279_3)).trans hw279_3), ((HB.out.cell (World.block_lt_of_cell? w _ hw279_4)).trans hw279_4), ((HB.out.cell (World.block_lt_of_cell? w _ hw279_5)).trans hw279_5)⟩ (fun hHeld => ?_)
           clear hK K
           refine norm_ (a' := ?_) ?_ ?_
           rotate_left
           ·show Act.put _ (some 65) _ = _
            simp only [Act.put, List.setIfInBounds_toArray, List.set_cons_zero, List.set_cons_succ, i64_w, i32_w]
            rfl
           refine one_ (i := 31) (N := some 73) #[Y',Y',Y',Y',Y',Y',Y',Y',Y',Y',Y',Y',Y',Y',Y',Y',Y',Y',Y',Y',Y',Y',Y',Y',Y',Y',Y',Y',Y',Y',Y',Y',N',N',N',N',N',N',N',N',N',N',N',N',N',N',N',N',N',N',N'] rfl rfl (one_of HT_.out (by kernel_rfl)) (by decide) (fun K hK => ?_)
           refine goes_ Try.func16 (by kernel_rfl) rfl #[.slice (some ad258) l0.length c0, .int .i64 (wrap64 (((rd_T33 l0 x9_2).f1) - 1))] (by rfl) rfl rfl (by (try simp only [List.map_toArray, List.map_cons, List.map_nil]); first | done | rfl | (simp only [List.length_drop, List.length_take]; rfl)) ?_
           with_reducible refine (span_Style.calls _ _ l0 (wrap64 (((rd_T33 l0 x9_2).f1) - 1)) t280 t281 t282 t283 t284 t285 _ ?side1 ?side2 A34.out).mono ?_
           (case side1 => repeat (first | exact (Kd.C_below HR0.out HB.out) | (with_reducible refine Kd.C_alloc ?_ _) | (with_reducible refine Kd.C_drewN ?_ _) | (with_reducible refine Kd.C_drew ?_)))
           (case side2 => exact HC0.out)
           rintro e w41 ⟨rfl, hb⟩
           refine ⟨_, rfl, ?_⟩
           have n0_ := Aside0.mk (Kd.R_below (by (with_reducible repeat (first | apply Kd.R_alloc | apply Kd.R_drewN | apply Kd.R_drew)); exact HO_8.out) hb)
           have n1_ := Aside0.mk (below_step (by repeat (first | (with_reducible first | exact HB.out | apply below_alloc | apply pw_below_drewN | apply below_drew1) | exact HB.out)) hb)
           clear HO_8
           clear HB
           have HO_8 := n0_
           have HB := n1_
           clear n0_ n1_
           (try clear hb)
           (try clear hb2)
           (try clear hk)
           (try clear hi)
           refine hK.out _ _ ⟨((HB.out.cell (World.block_lt_of_cell? w _ hw258_0)).trans hw258_0), ((HB.out.cell (World.block_lt_of_cell? w _ hw258_1)).trans hw258_1), ((HB.out.cell (World.block_lt_of_cell? w _ hw258_2)).trans hw258_2), ((HB.out.cell (World.block_lt_of_cell? w _ hw258_3)).trans hw258_3), ((HB.out.cell (World.block_lt_of_cell? w _ hw258_4)).trans hw258_4), ((HB.out.cell (World.block_lt_of_cell? w _ hw258_5)).trans hw258_5), ((HB.out.cell (World.block_lt_of_cell? w _ hw265_0)).trans hw265_0), ((HB.out.cell (World.block_lt_of_cell? w _ hw265_1)).trans hw265_1), ((HB.out.cell (World.block_lt_of_cell? w _ hw265_2)).trans hw265_2), ((HB.out.cell (World.block_lt_of_cell? w _ hw265_3)).trans hw265_3), ((HB.out.cell (World.block_lt_of_cell? w _ hw265_4)).trans hw265_4), ((HB.out.cell (World.block_lt_of_cell? w _ hw265_5)).trans hw265_5), ((HB.out.cell (World.block_lt_of_cell? w _ hw272_0)).trans hw272_0), ((HB.out.cell (World.block_lt_of_cell? w _ hw272_1)).trans hw272_1), ((HB.out.cell (World.block_lt_of_cell? w _ hw272_2)).trans hw272_2), ((HB.out.cell (World.block_lt_of_cell? w _ hw272_3)).trans hw272_3), ((HB.out.cell (World.block_lt_of_cell? w _ hw272_4)).trans hw272_4), ((HB.out.cell (World.block_lt_of_cell? w _ hw272_5)).trans hw272_5), ((HB.out.cell (World.block_lt_of_cell? w _ hw279_0)).trans hw279_0), ((HB.out.cell (World.block_lt_of_cell? w _ hw279_1)).trans hw279_1), ((HB.out.cell (World.block_lt_of_cell? w _ hw279_2)).trans hw279_2), ((HB.out.cell (World.block_lt_of_cell? w _ hw279_3)).trans hw279_3), ((HB.out.cell (World.block_lt_of_cell? w _ hw279_4)).trans hw279_4), ((HB.out.cell (World.block_lt_of_cell? w _ hw279_5)).trans hw279_5)⟩ (fun hHeld => ?_)
           clear hK K
           refine norm_ (a' := ?_) ?_ ?_
           rotate_left
           ·show Act.put _ (some 73) _ = _
            simp only [Act.put, List.setIfInBounds_toArray, List.set_cons_zero, List.set_cons_succ, i64_w, i32_w]
            rfl
           refine pure_ (i := 32) (N := some 74) (v := ?_) (a' := ?_) #[Y',Y',Y',Y',Y',Y',Y',Y',Y',Y',Y',Y',Y',Y',Y',Y',Y',Y',Y',Y',Y',Y',Y',Y',Y',Y',Y',Y',Y',Y',Y',Y',Y',N',N',N',N',N',N',N',N',N',N',N',N',N',N',N',N',N',N'] rfl rfl (any_of HT_.out (by kernel_rfl)) (fun _ _ _ h => h) (Or.inl ⟨by rfl, ?_⟩) ?_ ?_
           rotate_left
           ·intro w'
            go_simp
            with_reducible rfl
           rotate_left
           ·simp only [Act.put, List.setIfInBounds_toArray, List.set_cons_zero, List.set_cons_succ, i64_w, i32_w]
            rfl
           refine pure_ (i := 33) (N := some 75) (v := ?_) (a' := ?_) #[Y',Y',Y',Y',Y',Y',Y',Y',Y',Y',Y',Y',Y',Y',Y',Y',Y',Y',Y',Y',Y',Y',Y',Y',Y',Y',Y',Y',Y',Y',Y',Y',Y',Y',N',N',N',N',N',N',N',N',N',N',N',N',N',N',N',N',N'] rfl rfl (any_of HT_.out (by kernel_rfl)) (fun _ _ _ h => h) (Or.inl ⟨by rfl, ?_⟩) ?_ ?_
           rotate_left
           ·intro w'
            go_simp
            with_reducible rfl
           rotate_left
           ·simp only [Act.put, List.setIfInBounds_toArray, List.set_cons_zero, List.set_cons_succ, i64_w, i32_w]
            rfl
           refine pure_ (i := 34) (N := some 76) (v := ?_) (a' := ?_) #[Y',Y',Y',Y',Y',Y',Y',Y',Y',Y',Y',Y',Y',Y',Y',Y',Y',Y',Y',Y',Y',Y',Y',Y',Y',Y',Y',Y',Y',Y',Y',Y',Y',Y',Y',N',N',N',N',N',N',N',N',N',N',N',N',N',N',N',N'] rfl rfl (any_of HT_.out (by kernel_rfl)) (fun _ _ _ h => h) (Or.inl ⟨by rfl, ?_⟩) ?_ ?_
           rotate_left
           ·intro w'
            go_simp
            with_reducible rfl
           rotate_left
           ·simp only [Act.put, List.setIfInBounds_toArray, List.set_cons_zero, List.set_cons_succ, i64_w, i32_w]
            rfl
           refine pure_ (i := 35) (N := some 77) (v := undef) (a' := ?_) #[Y',Y',Y',Y',Y',Y',Y',Y',Y',Y',Y',Y',Y',Y',Y',Y',Y',Y',Y',Y',Y',Y',Y',Y',Y',Y',Y',Y',Y',Y',Y',Y',Y',Y',Y',Y',N',N',N',N',N',N',N',N',N',N',N',N',N',N',N'] rfl rfl (any_of HT_.out (by kernel_rfl)) (fun _ _ _ h => h) (Or.inr ⟨by rfl, rfl⟩) ?_ ?_
           rotate_left
           ·simp only [Act.put, List.setIfInBounds_toArray, List.set_cons_zero, List.set_cons_succ, i64_w, i32_w]
            rfl
           refine pure_ (i := 36) (N := some 78) (v := undef) (a' := ?_) #[Y',Y',Y',Y',Y',Y',Y',Y',Y',Y',Y',Y',Y',Y',Y',Y',Y',Y',Y',Y',Y',Y',Y',Y',Y',Y',Y',Y',Y',Y',Y',Y',Y',Y',Y',Y',Y',N',N',N',N',N',N',N',N',N',N',N',N',N',N'] rfl rfl (any_of HT_.out (by kernel_rfl)) (fun _ _ _ h => h) (Or.inr ⟨by rfl, rfl⟩) ?_ ?_
           rotate_left
           ·simp only [Act.put, List.setIfInBounds_toArray, List.set_cons_zero, List.set_cons_succ, i64_w, i32_w]
            rfl
           refine pure_ (i := 37) (N := some 79) (v := undef) (a' := ?_) #[Y',Y',Y',Y',Y',Y',Y',Y',Y',Y',Y',Y',Y',Y',Y',Y',Y',Y',Y',Y',Y',Y',Y',Y',Y',Y',Y',Y',Y',Y',Y',Y',Y',Y',Y',Y',Y',Y',N',N',N',N',N',N',N',N',N',N',N',N',N'] rfl rfl (any_of HT_.out (by kernel_rfl)) (fun _ _ _ h => h) (Or.inr ⟨by rfl, rfl⟩) ?_ ?_
           rotate_left
           ·simp only [Act.put, List.setIfInBounds_toArray, List.set_cons_zero, List.set_cons_succ, i64_w, i32_w]
            rfl
           refine pure_ (i := 38) (N := some 80) (v := undef) (a' := ?_) #[Y',Y',Y',Y',Y',Y',Y',Y',Y',Y',Y',Y',Y',Y',Y',Y',Y',Y',Y',Y',Y',Y',Y',Y',Y',Y',Y',Y',Y',Y',Y',Y',Y',Y',Y',Y',Y',Y',Y',N',N',N',N',N',N',N',N',N',N',N',N'] rfl rfl (any_of HT_.out (by kernel_rfl)) (fun _ _ _ h => h) (Or.inr ⟨by rfl, rfl⟩) ?_ ?_
           rotate_left
           ·simp only [Act.put, List.setIfInBounds_toArray, List.set_cons_zero, List.set_cons_succ, i64_w, i32_w]
            rfl
           refine pure_ (i := 39) (N := some 81) (v := undef) (a' := ?_) #[Y',Y',Y',Y',Y',Y',Y',Y',Y',Y',Y',Y',Y',Y',Y',Y',Y',Y',Y',Y',Y',Y',Y',Y',Y',Y',Y',Y',Y',Y',Y',Y',Y',Y',Y',Y',Y',Y',Y',Y',N',N',N',N',N',N',N',N',N',N',N'] rfl rfl (any_of HT_.out (by kernel_rfl)) (fun _ _ _ h => h) (Or.inr ⟨by rfl, rfl⟩) ?_ ?_
           rotate_left
           ·simp only [Act.put, List.setIfInBounds_toArray, List.set_cons_zero, List.set_cons_succ, i64_w, i32_w]
            rfl
           refine pure_ (i := 40) (N := some 82) (v := undef) (a' := ?_) #[Y',Y',Y',Y',Y',Y',Y',Y',Y',Y',Y',Y',Y',Y',Y',Y',Y',Y',Y',Y',Y',Y',Y',Y',Y',Y',Y',Y',Y',Y',Y',Y',Y',Y',Y',Y',Y',Y',Y',Y',Y',N',N',N',N',N',N',N',N',N',N'] rfl rfl (any_of HT_.out (by kernel_rfl)) (fun _ _ _ h => h) (Or.inr ⟨by rfl, rfl⟩) ?_ ?_
           rotate_left
           ·simp only [Act.put, List.setIfInBounds_toArray, List.set_cons_zero, List.set_cons_succ, i64_w, i32_w]
            rfl
           refine pure_ (i := 41) (N := some 83) (v := undef) (a' := ?_) #[Y',Y',Y',Y',Y',Y',Y',Y',Y',Y',Y',Y',Y',Y',Y',Y',Y',Y',Y',Y',Y',Y',Y',Y',Y',Y',Y',Y',Y',Y',Y',Y',Y',Y',Y',Y',Y',Y',Y',Y',Y',Y',N',N',N',N',N',N',N',N',N'] rfl rfl (any_of HT_.out (by kernel_rfl)) (fun _ _ _ h => h) (Or.inr ⟨by rfl, rfl⟩) ?_ ?_
           rotate_left
           ·simp only [Act.put, List.setIfInBounds_toArray, List.set_cons_zero, List.set_cons_succ, i64_w, i32_w]
            rfl
           refine pure_ (i := 42) (N := some 84) (v := undef) (a' := ?_) #[Y',Y',Y',Y',Y',Y',Y',Y',Y',Y',Y',Y',Y',Y',Y',Y',Y',Y',Y',Y',Y',Y',Y',Y',Y',Y',Y',Y',Y',Y',Y',Y',Y',Y',Y',Y',Y',Y',Y',Y',Y',Y',Y',N',N',N',N',N',N',N',N'] rfl rfl (any_of HT_.out (by kernel_rfl)) (fun _ _ _ h => h) (Or.inr ⟨by rfl, rfl⟩) ?_ ?_
           rotate_left
           ·simp only [Act.put, List.setIfInBounds_toArray, List.set_cons_zero, List.set_cons_succ, i64_w, i32_w]
            rfl
           refine pure_ (i := 43) (N := some 85) (v := undef) (a' := ?_) #[Y',Y',Y',Y',Y',Y',Y',Y',Y',Y',Y',Y',Y',Y',Y',Y',Y',Y',Y',Y',Y',Y',Y',Y',Y',Y',Y',Y',Y',Y',Y',Y',Y',Y',Y',Y',Y',Y',Y',Y',Y',Y',Y',Y',N',N',N',N',N',N',N'] rfl rfl (any_of HT_.out (by kernel_rfl)) (fun _ _ _ h => h) (Or.inr ⟨by rfl, rfl⟩) ?_ ?_
           rotate_left
           ·simp only [Act.put, List.setIfInBounds_toArray, List.set_cons_zero, List.set_cons_succ, i64_w, i32_w]
            rfl
           refine pure_ (i := 44) (N := some 86) (v := undef) (a' := ?_) #[Y',Y',Y',Y',Y',Y',Y',Y',Y',Y',Y',Y',Y',Y',Y',Y',Y',Y',Y',Y',Y',Y',Y',Y',Y',Y',Y',Y',Y',Y',Y',Y',Y',Y',Y',Y',Y',Y',Y',Y',Y',Y',Y',Y',Y',N',N',N',N',N',N'] rfl rfl (any_of HT_.out (by kernel_rfl)) (fun _ _ _ h => h) (Or.inr ⟨by rfl, rfl⟩) ?_ ?_
           rotate_left
           ·simp only [Act.put, List.setIfInBounds_toArray, List.set_cons_zero, List.set_cons_succ, i64_w, i32_w]
            rfl
           refine pure_ (i := 45) (N := some 87) (v := undef) (a' := ?_) #[Y',Y',Y',Y',Y',Y',Y',Y',Y',Y',Y',Y',Y',Y',Y',Y',Y',Y',Y',Y',Y',Y',Y',Y',Y',Y',Y',Y',Y',Y',Y',Y',Y',Y',Y',Y',Y',Y',Y',Y',Y',Y',Y',Y',Y',Y',N',N',N',N',N'] rfl rfl (any_of HT_.out (by kernel_rfl)) (fun _ _ _ h => h) (Or.inr ⟨by rfl, rfl⟩) ?_ ?_
           rotate_left
           ·simp only [Act.put, List.setIfInBounds_toArray, List.set_cons_zero, List.set_cons_succ, i64_w, i32_w]
            rfl
           refine pure_ (i := 46) (N := some 88) (v := undef) (a' := ?_) #[Y',Y',Y',Y',Y',Y',Y',Y',Y',Y',Y',Y',Y',Y',Y',Y',Y',Y',Y',Y',Y',Y',Y',Y',Y',Y',Y',Y',Y',Y',Y',Y',Y',Y',Y',Y',Y',Y',Y',Y',Y',Y',Y',Y',Y',Y',Y',N',N',N',N'] rfl rfl (any_of HT_.out (by kernel_rfl)) (fun _ _ _ h => h) (Or.inr ⟨by rfl, rfl⟩) ?_ ?_
           rotate_left
           ·simp only [Act.put, List.setIfInBounds_toArray, List.set_cons_zero, List.set_cons_succ, i64_w, i32_w]
            rfl
           refine pure_ (i := 47) (N := some 89) (v := undef) (a' := ?_) #[Y',Y',Y',Y',Y',Y',Y',Y',Y',Y',Y',Y',Y',Y',Y',Y',Y',Y',Y',Y',Y',Y',Y',Y',Y',Y',Y',Y',Y',Y',Y',Y',Y',Y',Y',Y',Y',Y',Y',Y',Y',Y',Y',Y',Y',Y',Y',Y',N',N',N'] rfl rfl (any_of HT_.out (by kernel_rfl)) (fun _ _ _ h => h) (Or.inr ⟨by rfl, rfl⟩) ?_ ?_
           rotate_left
           ·simp only [Act.put, List.setIfInBounds_toArray, List.set_cons_zero, List.set_cons_succ, i64_w, i32_w]
            rfl
           refine pure_ (i := 48) (N := some 90) (v := undef) (a' := ?_) #[Y',Y',Y',Y',Y',Y',Y',Y',Y',Y',Y',Y',Y',Y',Y',Y',Y',Y',Y',Y',Y',Y',Y',Y',Y',Y',Y',Y',Y',Y',Y',Y',Y',Y',Y',Y',Y',Y',Y',Y',Y',Y',Y',Y',Y',Y',Y',Y',Y',N',N'] rfl rfl (any_of HT_.out (by kernel_rfl)) (fun _ _ _ h => h) (Or.inr ⟨by rfl, rfl⟩) ?_ ?_
           rotate_left
           ·simp only [Act.put, List.setIfInBounds_toArray, List.set_cons_zero, List.set_cons_succ, i64_w, i32_w]
            rfl
           refine pure_ (i := 49) (N := some 91) (v := undef) (a' := ?_) #[Y',Y',Y',Y',Y',Y',Y',Y',Y',Y',Y',Y',Y',Y',Y',Y',Y',Y',Y',Y',Y',Y',Y',Y',Y',Y',Y',Y',Y',Y',Y',Y',Y',Y',Y',Y',Y',Y',Y',Y',Y',Y',Y',Y',Y',Y',Y',Y',Y',Y',N'] rfl rfl (any_of HT_.out (by kernel_rfl)) (fun _ _ _ h => h) (Or.inr ⟨by rfl, rfl⟩) ?_ ?_
           rotate_left
           ·simp only [Act.put, List.setIfInBounds_toArray, List.set_cons_zero, List.set_cons_succ, i64_w, i32_w]
            rfl
           refine pure_ (i := 50) (N := some 92) (v := ?_) (a' := ?_) #[Y',Y',Y',Y',Y',Y',Y',Y',Y',Y',Y',Y',Y',Y',Y',Y',Y',Y',Y',Y',Y',Y',Y',Y',Y',Y',Y',Y',Y',Y',Y',Y',Y',Y',Y',Y',Y',Y',Y',Y',Y',Y',Y',Y',Y',Y',Y',Y',Y',Y',Y'] rfl rfl (any_of HT_.out (by kernel_rfl)) (fun _ _ _ h => h) (Or.inl ⟨by rfl, ?_⟩) ?_ ?_
           rotate_left
           ·intro w'
            go_simp
            with_reducible rfl
           rotate_left
           ·simp only [Act.put, List.setIfInBounds_toArray, List.set_cons_zero, List.set_cons_succ, i64_w, i32_w]
            rfl
           refine done_ (done_of HT_.out (by kernel_rfl)) ?_
           try go_wp2
           go_ret
           exact ⟨by first | rfl | (simp [errW_none, errW_some] <;> rfl) | (simp [*, errW_none, errW_some] <;> rfl), by repeat (first | (with_reducible first | exact HB.out | apply below_alloc | apply pw_below_drewN | apply below_drew1) | exact HB.out)⟩
          ·rw [if_neg c35] at H
           have c35b0 : (!(t273 == t280) || (!(t274 == t281) || (!(t275 == t282) || (!(t276 == t283) || (!(t277.toList == t284.toList) || (!(t278 == t285))))))) = false := by simpa using c35
           clear c35
           replace H := Option.bind_eq_some_iff.mp H
           obtain ⟨⟨t287, t288, t289, t290, t291, t292⟩, A420, H⟩ := H
           replace H : ((span_Style.f l0 ((rd_T33 l0 x9_2).f1)).bind fun bt294 => (if (!(t287 == bt294.1) || (!(t288 == bt294.2.1) || (!(t289 == bt294.2.2.1) || (!(t290 == bt294.2.2.2.1) || (!(t291.toList == bt294.2.2.2.2.1.toList) || (!(t292 == bt294.2.2.2.2.2))))))) = true then (some false) else (frisketlaw07_SpanNormal.l0 k2 l0 a2 t237 (wrap64 (x9_2 + 1))))) = some r := H
           have A42 := Aside0.mk A420
           clear A420
           replace H := Option.bind_eq_some_iff.mp H
           obtain ⟨⟨t294, t295, t296, t297, t298, t299⟩, A430, H⟩ := H
           replace H : (if (!(t287 == t294) || (!(t288 == t295) || (!(t289 == t296) || (!(t290 == t297) || (!(t291.toList == t298.toList) || (!(t292 == t299))))))) = true then (some false) else (frisketlaw07_SpanNormal.l0 k2 l0 a2 t237 (wrap64 (x9_2 + 1)))) = some r := H
           have A43 := Aside0.mk A430
           clear A430
           by_cases c44 : (!(t287 == t294) || (!(t288 == t295) || (!(t289 == t296) || (!(t290 == t297) || (!(t291.toList == t298.toList) || (!(t292 == t299))))))) = true
           ·rw [if_pos c44] at H
            have c44b0 : (!(t287 == t294) || (!(t288 == t295) || (!(t289 == t296) || (!(t290 == t297) || (!(t291.toList == t298.toList) || (!(t292 == t299))))))) = true := c44
            clear c44
            obtain rfl := Option.some.inj H
            try go_wp2
            have n0_ := Aside0.mk (Kd.R_drew HO_8.out)
            have n1_ := Aside0.mk (below_drew1 HB.out)
            clear HO_8
            clear HB
            have HO_8 := n0_
            have HB := n1_
            clear n0_ n1_
            have p258 : 0 ≤ (x9_2 : Int) := of_decide_eq_true (by first | (with_reducible assumption) | assumption)
            have q258 : x9_2 < (l0.length : Int) := of_decide_eq_true (by first | (with_reducible assumption) | assumption)
            obtain ⟨ad258, e258, hx258_0, hx258_1, hx258_2, hx258_3, hx258_4, hx258_5⟩ := at_T33 HR0.out x9_2 p258 q258
            have hw258_5 := hx258_5
            have hw258_4 := hx258_4
            have hw258_3 := hx258_3
            have hw258_2 := hx258_2
            have hw258_1 := hx258_1
            have hw258_0 := hx258_0
            cases e258
            replace hx258_0 := (HB.out.cell (World.block_lt_of_cell? w _ hx258_0)).trans hx258_0
            replace hx258_1 := (HB.out.cell (World.block_lt_of_cell? w _ hx258_1)).trans hx258_1
            replace hx258_2 := (HB.out.cell (World.block_lt_of_cell? w _ hx258_2)).trans hx258_2
            replace hx258_3 := (HB.out.cell (World.block_lt_of_cell? w _ hx258_3)).trans hx258_3
            replace hx258_4 := (HB.out.cell (World.block_lt_of_cell? w _ hx258_4)).trans hx258_4
            replace hx258_5 := (HB.out.cell (World.block_lt_of_cell? w _ hx258_5)).trans hx258_5
            replace p258 := eq_true p258
            replace q258 := eq_true q258
            have p265 : 0 ≤ (x9_2 : Int) := of_decide_eq_true (by first | (with_reducible assumption) | assumption)
            have q265 : x9_2 < (l0.length : Int) := of_decide_eq_true (by first | (with_reducible assumption) | assumption)
            obtain ⟨ad265, e265, hx265_0, hx265_1, hx265_2, hx265_3, hx265_4, hx265_5⟩ := at_T33 HR0.out x9_2 p265 q265
            have hw265_5 := hx265_5
            have hw265_4 := hx265_4
            have hw265_3 := hx265_3
            have hw265_2 := hx265_2
            have hw265_1 := hx265_1
            have hw265_0 := hx265_0
            obtain rfl : ad258 = ad265 := (by injection e265)
            replace hx265_0 := (HB.out.cell (World.block_lt_of_cell? w _ hx265_0)).trans hx265_0
            replace hx265_1 := (HB.out.cell (World.block_lt_of_cell? w _ hx265_1)).trans hx265_1
            replace hx265_2 := (HB.out.cell (World.block_lt_of_cell? w _ hx265_2)).trans hx265_2
            replace hx265_3 := (HB.out.cell (World.block_lt_of_cell? w _ hx265_3)).trans hx265_3
            replace hx265_4 := (HB.out.cell (World.block_lt_of_cell? w _ hx265_4)).trans hx265_4
            replace hx265_5 := (HB.out.cell (World.block_lt_of_cell? w _ hx265_5)).trans hx265_5
            replace p265 := eq_true p265
            replace q265 := eq_true q265
            obtain ⟨Ao46, co46, eo46⟩ := Kd.R_slice HO_8.out
            (first | subst eo46 | (injection eo46 with f1_ f2_ f3_; have f4_ := f1_.symm; have f5_ := f3_.symm; clear f1_ f2_ f3_; subst f4_; subst f5_))
            have p272 : 0 ≤ (x9_2 : Int) := of_decide_eq_true (by first | (with_reducible assumption) | assumption)
            have q272 : x9_2 < (l0.length : Int) := of_decide_eq_true (by first | (with_reducible assumption) | assumption)
            obtain ⟨ad272, e272, hx272_0, hx272_1, hx272_2, hx272_3, hx272_4, hx272_5⟩ := at_T33 HR0.out x9_2 p272 q272
            have hw272_5 := hx272_5
            have hw272_4 := hx272_4
            have hw272_3 := hx272_3
            have hw272_2 := hx272_2
            have hw272_1 := hx272_1
            have hw272_0 := hx272_0
            obtain rfl : ad258 = ad272 := (by injection e272)
            replace hx272_0 := (HB.out.cell (World.block_lt_of_cell? w _ hx272_0)).trans hx272_0
            replace hx272_1 := (HB.out.cell (World.block_lt_of_cell? w _ hx272_1)).trans hx272_1
            replace hx272_2 := (HB.out.cell (World.block_lt_of_cell? w _ hx272_2)).trans hx272_2
            replace hx272_3 := (HB.out.cell (World.block_lt_of_cell? w _ hx272_3)).trans hx272_3
            replace hx272_4 := (HB.out.cell (World.block_lt_of_cell? w _ hx272_4)).trans hx272_4
            replace hx272_5 := (HB.out.cell (World.block_lt_of_cell? w _ hx272_5)).trans hx272_5
            replace p272 := eq_true p272
            replace q272 := eq_true q272
            have p279 : 0 ≤ (x9_2 : Int) := of_decide_eq_true (by first | (with_reducible assumption) | assumption)
            have q279 : x9_2 < (l0.length : Int) := of_decide_eq_true (by first | (with_reducible assumption) | assumption)
            obtain ⟨ad279, e279, hx279_0, hx279_1, hx279_2, hx279_3, hx279_4, hx279_5⟩ := at_T33 HR0.out x9_2 p279 q279
            have hw279_5 := hx279_5
            have hw279_4 := hx279_4
            have hw279_3 := hx279_3
            have hw279_2 := hx279_2
            have hw279_1 := hx279_1
            have hw279_0 := hx279_0
            obtain rfl : ad258 = ad279 := (by injection e279)
            replace hx279_0 := (HB.out.cell (World.block_lt_of_cell? w _ hx279_0)).trans hx279_0
            replace hx279_1 := (HB.out.cell (World.block_lt_of_cell? w _ hx279_1)).trans hx279_1
            replace hx279_2 := (HB.out.cell (World.block_lt_of_cell? w _ hx279_2)).trans hx279_2
            replace hx279_3 := (HB.out.cell (World.block_lt_of_cell? w _ hx279_3)).trans hx279_3
            replace hx279_4 := (HB.out.cell (World.block_lt_of_cell? w _ hx279_4)).trans hx279_4
            replace hx279_5 := (HB.out.cell (World.block_lt_of_cell? w _ hx279_5)).trans hx279_5
            replace p279 := eq_true p279
            replace q279 := eq_true q279
            have p286 : 0 ≤ (x9_2 : Int) := of_decide_eq_true (by first | (with_reducible assumption) | assumption)
            have q286 : x9_2 < (l0.length : Int) := of_decide_eq_true (by first | (with_reducible assumption) | assumption)
            obtain ⟨ad286, e286, hx286_0, hx286_1, hx286_2, hx286_3, hx286_4, hx286_5⟩ := at_T33 HR0.out x9_2 p286 q286
            have hw286_5 := hx286_5
            have hw286_4 := hx286_4
            have hw286_3 := hx286_3
            have hw286_2 := hx286_2
            have hw286_1 := hx286_1
            have hw286_0 := hx286_0
            obtain rfl : ad258 = ad286 := (by injection e286)
            replace hx286_0 := (HB.out.cell (World.block_lt_of_cell? w _ hx286_0)).trans hx286_0
            replace hx286_1 := (HB.out.cell (World.block_lt_of_cell? w _ hx286_1)).trans hx286_1
            replace hx286_2 := (HB.out.cell (World.block_lt_of_cell? w _ hx286_2)).trans hx286_2
            replace hx286_3 := (HB.out.cell (World.block_lt_of_cell? w _ hx286_3)).trans hx286_3
            replace hx286_4 := (HB.out.cell (World.block_lt_of_cell? w _ hx286_4)).trans hx286_4
            replace hx286_5 := (HB.out.cell (World.block_lt_of_cell? w _ hx286_5)).trans hx286_5
            replace p286 := eq_true p286
            replace q286 := eq_true q286
            have p293 : 0 ≤ (x9_2 : Int) := of_decide_eq_true (by first | (with_reducible assumption) | assumption)
            have q293 : x9_2 < (l0.length : Int) := of_decide_eq_true (by first | (with_reducible assumption) | assumption)
            obtain ⟨ad293, e293, hx293_0, hx293_1, hx293_2, hx293_3, hx293_4, hx293_5⟩ := at_T33 HR0.out x9_2 p293 q293
            have hw293_5 := hx293_5
            have hw293_4 := hx293_4
            have hw293_3 := hx293_3
            have hw293_2 := hx293_2
            have hw293_1 := hx293_1
            have hw293_0 := hx293_0
            obtain rfl : ad258 = ad293 := (by injection e293)
            replace hx293_0 := (HB.out.cell (World.block_lt_of_cell? w _ hx293_0)).trans hx293_0
            replace hx293_1 := (HB.out.cell (World.block_lt_of_cell? w _ hx293_1)).trans hx293_1
            replace hx293_2 := (HB.out.cell (World.block_lt_of_cell? w _ hx293_2)).trans hx293_2
            replace hx293_3 := (HB.out.cell (World.block_lt_of_cell? w _ hx293_3)).trans hx293_3
            replace hx293_4 := (HB.out.cell (World.block_lt_of_cell? w _ hx293_4)).trans hx293_4
            replace hx293_5 := (HB.out.cell (World.block_lt_of_cell? w _ hx293_5)).trans hx293_5
            replace p293 := eq_true p293
            replace q293 := eq_true q293
            refine start_ (n := 51) (S := fun w' => w'.cell? (ad258.add ((x9_2).toNat * 6)) = some (.int .i64 ((rd_T33 l0 x9_2).f0)) ∧ w'.cell? ⟨(ad258.add ((x9_2).toNat * 6)).block, (ad258.add ((x9_2).toNat * 6)).off + 1, none⟩ = some (.int .i64 ((rd_T33 l0 x9_2).f1)) ∧ w'.cell? ⟨(ad258.add ((x9_2).toNat * 6)).block, (ad258.add ((x9_2).toNat * 6)).off + 2, none⟩ = some (.int .i64 ((rd_T33 l0 x9_2).f2)) ∧ w'.cell? ⟨(ad258.add ((x9_2).toNat * 6)).block, (ad258.add ((x9_2).toNat * 6)).off + 3, none⟩ = some (.bool ((rd_T33 l0 x9_2).f3)) ∧ w'.cell? ⟨(ad258.add ((x9_2).toNat * 6)).block, (ad258.add ((x9_2).toNat * 6)).off + 4, none⟩ = some (.string ((rd_T33 l0 x9_2).f4)) ∧ w'.cell? ⟨(ad258.add ((x9_2).toNat * 6)).block, (ad258.add ((x9_2).toNat * 6)).off + 5, none⟩ = some (.int .u64 ((rd_T33 l0 x9_2).f5)) ∧ w'.cell? (ad258.add ((x9_2).toNat * 6)) = some (.int .i64 ((rd_T33 l0 x9_2).f0)) ∧ w'.cell? ⟨(ad258.add ((x9_2).toNat * 6)).block, (ad258.add ((x9_2).toNat * 6)).off + 1, none⟩ = some (.int .i64 ((rd_T33 l0 x9_2).f1)) ∧ w'.cell? ⟨(ad258.add ((x9_2).toNat * 6)).block, (ad258.add ((x9_2).toNat * 6)).off + 2, none⟩ = some (.int .i64 ((rd_T33 l0 x9_2).f2)) ∧ w'.cell? ⟨(ad258.add ((x9_2).toNat * 6)).block, (ad258.add ((x9_2).toNat * 6)).off + 3, none⟩ = some (.bool ((rd_T33 l0 x9_2).f3)) ∧ w'.cell? ⟨(ad258.add ((x9_2).toNat * 6)).block, (ad258.add ((x9_2).toNat * 6)).off + 4, none⟩ = some (.string ((rd_T33 l0 x9_2).f4)) ∧ w'.cell? ⟨(ad258.add ((x9_2).toNat * 6)).block, (ad258.add ((x9_2).toNat * 6)).off + 5, none⟩ = some (.int .u64 ((rd_T33 l0 x9_2).f5)) ∧ w'.cell? (ad258.add ((x9_2).toNat * 6)) = some (.int .i64 ((rd_T33 l0 x9_2).f0)) ∧ w'.cell? ⟨(ad258.add ((x9_2).toNat * 6)).block, (ad258.add ((x9_2).toNat * 6)).off + 1, none⟩ = some (.int .i64 ((rd_T33 l0 x9_2).f1)) ∧ w'.cell? ⟨(ad258.add ((x9_2).toNat * 6)).block, (ad258.add ((x9_2).toNat * 6)).off + 2, none⟩ = some (.int .i64 ((rd_T33 l0 x9_2).f2)) ∧ w'.cell? ⟨(ad258.add ((x9_2).toNat * 6)).block, (ad258.add ((x9_2).toNat * 6)).off + 3, none⟩ = some (.bool ((rd_T33 l0 x9_2).f3)) ∧ w'.cell? ⟨(ad258.add ((x9_2).toNat * 6)).block, (ad258.add ((x9_2).toNat * 6)).off + 4, none⟩ = some (.string ((rd_T33 l0 x9_2).f4)) ∧ w'.cell? ⟨(ad258.add ((x9_2).toNat * 6)).block, (ad258.add ((x9_2).toNat * 6)).off + 5, none⟩ = some (.int .u64 ((rd_T33 l0 x9_2).f5)) ∧ w'.cell? (ad258.add ((x9_2).toNat * 6)) = some (.int .i64 ((rd_T33 l0 x9_2).f0)) ∧ w'.cell? ⟨(ad258.add ((x9_2).toNat * 6)).block, (ad258.add ((x9_2).toNat * 6)).off + 1, none⟩ = some (.int .i64 ((rd_T33 l0 x9_2).f1)) ∧ w'.cell? ⟨(ad258.add ((x9_2).toNat * 6)).block, (ad258.add ((x9_2).toNat * 6)).off + 2, none⟩ = some (.int .i64 ((rd_T33 l0 x9_2).f2)) ∧ w'.cell? ⟨(ad258.add ((x9_2).toNat * 6)).block, (ad258.add ((x9_2).toNat * 6)).off + 3, none⟩ = some (.bool ((rd_T33 l0 x9_2).f3)) ∧ w'.cell? ⟨(ad258.add ((x9_2).toNat * 6)).block, (ad258.add ((x9_2).toNat * 6)).off + 4, none⟩ = some (.string ((rd_T33 l0 x9_2).f4)) ∧ w'.cell? ⟨(ad258.add ((x9_2).toNat * 6)).block, (ad258.add ((x9_2).toNat * 6)).off + 5, none⟩ = some (.int .u64 ((rd_T33 l0 x9_2).f5)) ∧ w'.cell? (ad258.add ((x9_2).toNat * 6)) = some (.int .i64 ((rd_T33 l0 x9_2).f0)) ∧ w'.cell? ⟨(ad258.add ((x9_2).toNat * 6)).block, (ad258.add ((x9_2).toNat * 6)).off + 1, none⟩ = some (.int .i64 ((rd_T33 l0 x9_2).f1)) ∧ w'.cell? ⟨(ad258.add ((x9_2).toNat * 6)).block, (ad258.add ((x9_2).toNat * 6)).off + 2, none⟩ = some (.int .i64 ((rd_T33 l0 x9_2).f2)) ∧ w'.cell? ⟨(ad258.add ((x9_2).toNat * 6)).block, (ad258.add ((x9_2).toNat * 6)).off + 3, none⟩ = some (.bool ((rd_T33 l0 x9_2).f3)) ∧ w'.cell? ⟨(ad258.add ((x9_2).toNat * 6)).block, (ad258.add ((x9_2).toNat * 6)).off + 4, none⟩ = some (.string ((rd_T33 l0 x9_2).f4)) ∧ w'.cell? ⟨(ad258.add ((x9_2).toNat * 6)).block, (ad258.add ((x9_2).toNat * 6)).off + 5, none⟩ = some (.int .u64 ((rd_T33 l0 x9_2).f5)) ∧ w'.cell? (ad258.add ((x9_2).toNat * 6)) = some (.int .i64 ((rd_T33 l0 x9_2).f0)) ∧ w'.cell? ⟨(ad258.add ((x9_2).toNat * 6)).block, (ad258.add ((x9_2).toNat * 6)).off + 1, none⟩ = some (.int .i64 ((rd_T33 l0 x9_2).f1)) ∧ w'.cell? ⟨(ad258.add ((x9_2).toNat * 6)).block, (ad258.add ((x9_2).toNat * 6)).off + 2, none⟩ = some (.int .i64 ((rd_T33 l0 x9_2).f2)) ∧ w'.cell? ⟨(ad258.add ((x9_2).toNat * 6)).block, (ad258.add ((x9_2).toNat * 6)).off + 3, none⟩ = some (.bool ((rd_T33 l0 x9_2).f3)) ∧ w'.cell? ⟨(ad258.add ((x9_2).toNat * 6)).block, (ad258.add ((x9_2).toNat * 6)).off + 4, none⟩ = some (.string ((rd_T33 l0 x9_2).f4)) ∧ w'.cell? ⟨(ad258.add ((x9_2).toNat * 6)).block, (ad258.add ((x9_2).toNat * 6)).off + 5, none⟩ = some (.int .u64 ((rd_T33 l0 x9_2).f5))) (ds := []) #[N',N',N',N',N',N',N',N',N',N',N',N',N',N',N',N',N',N',N',N',N',N',N',N',N',N',N',N',N',N',N',N',N',N',N',N',N',N',N',N',N',N',N',N',N',N',N',N',N',N',N'] (by kernel_rfl) rfl rfl ⟨((HB.out.cell (World.block_lt_of_cell? w _ hw258_0)).trans hw258_0), ((HB.out.cell (World.block_lt_of_cell? w _ hw258_1)).trans hw258_1), ((HB.out.cell (World.block_lt_of_cell? w _ hw258_2)).trans hw258_2), ((HB.out.cell (World.block_lt_of_cell? w _ hw258_3)).trans hw258_3), ((HB.out.cell (World.block_lt_of_cell? w _ hw258_4)).trans hw258_4), ((HB.out.cell (World.block_lt_of_cell? w _ hw258_5)).trans hw258_5), ((HB.out.cell (World.block_lt_of_cell? w _ hw265_0)).trans hw265_0), ((HB.out.cell (World.block_lt_of_cell? w _ hw265_1)).trans hw265_1), ((HB.out.cell (World.block_lt_of_cell? w _ hw265_2)).trans hw265_2), ((HB.out.cell (World.block_lt_of_cell? w _ hw265_3)).trans hw265_3), ((HB.out.cell (World.block_lt_of_cell? w _ hw265_4)).trans hw265_4), ((HB.out.cell (World.block_lt_of_cell? w _ hw265_5)).trans hw265_5), ((HB.out.cell (World.block_lt_of_cell? w _ hw272_0)).trans hw272_0), ((HB.out.cell (World.block_lt_of_cell? w _ hw272_1)).trans hw272_1), ((HB.out.cell (World.block_lt_of_cell? w _ hw272_2)).trans hw272_2), ((HB.out.cell (World.block_lt_of_cell? w _ hw272_3)).trans hw272_3), ((HB.out.cell (World.block_lt_of_cell? w _ hw272_4)).trans hw272_4), ((HB.out.cell (World.block_lt_of_cell? w _ hw272_5)).trans hw272_5), ((HB.out.cell (World.block_lt_of_cell? w _ hw279_0)).trans hw279_0), ((HB.out.cell (World.block_lt_of_cell? w _ hw279_1)).trans hw279_1), ((HB.out.cell (World.block_lt_of_cell? w _ hw279_2)).trans hw279_2), ((HB.out.cell (World.block_lt_of_cell? w _ hw279_3)).trans hw279_3), ((HB.out.cell (World.block_lt_of_cell? w _ hw279_4)).trans hw279_4), ((HB.out.cell (World.block_lt_of_cell? w _ hw279_5)).trans hw279_5), ((HB.out.cell (World.block_lt_of_cell? w _ hw286_0)).trans hw286_0), ((HB.out.cell (World.block_lt_of_cell? w _ hw286_1)).trans hw286_1), ((HB.out.cell (World.block_lt_of_cell? w _ hw286_2)).trans hw286_2), ((HB.out.cell (World.block_lt_of_cell? w _ hw286_3)).trans hw286_3), ((HB.out.cell (World.block_lt_of_cell? w _ hw286_4)).trans hw286_4), ((HB.out.cell (World.block_lt_of_cell? w _ hw286_5)).trans hw286_5), ((HB.out.cell (World.block_lt_of_cell? w _ hw293_0)).trans hw293_0), ((HB.out.cell (World.block_lt_of_cell? w _ hw293_1)).trans hw293_1), ((HB.out.cell (World.block_lt_of_cell? w _ hw293_2)).trans hw293_2), ((HB.out.cell (World.block_lt_of_cell? w _ hw293_3)).trans hw293_3), ((HB.out.cell (World.block_lt_of_cell? w _ hw293_4)).trans hw293_4), ((HB.out.cell (World.block_lt_of_cell? w _ hw293_5)).trans hw293_5)⟩ (fun hHeld => ?_); refine with_tabW frisketlaw07_SpanNormal.tab10 frisketlaw07_SpanNormal.bits10 (fun HT_ HW_ => ?_)
            generalize wr.drew = w45 at HO_8 HB hx258_0 hx258_1 hx258_2 hx258_3 hx258_4 hx258_5 hx265_0 hx265_1 hx265_2 hx265_3 hx265_4 hx265_5 hx272_0 hx272_1 hx272_2 hx272_3 hx272_4 hx272_5 hx279_0 hx279_1 hx279_2 hx279_3 hx279_4 hx279_5 hx286_0 hx286_1 hx286_2 hx286_3 hx286_4 hx286_5 hx293_0 hx293_1 hx293_2 hx293_3 hx293_4 hx293_5 hHeld ⊢
            refine pure_ (i := 0) (N := some 42) (v := ?_) (a' := ?_) #[Y',N',N',N',N',N',N',N',N',N',N',N',N',N',N',N',N',N',N',N',N',N',N',N',N',N',N',N',N',N',N',N',N',N',N',N',N',N',N',N',N',N',N',N',N',N',N',N',N',N',N'] rfl rfl (any_of HT_.out (by kernel_rfl)) (fun _ _ _ h => h) (Or.inl ⟨by rfl, ?_⟩) ?_ ?_
            rotate_left
            ·intro w'
             go_simp
             with_reducible rfl
            rotate_left
            ·simp only [Act.put, List.setIfInBounds_toArray, List.set_cons_zero, List.set_cons_succ, i64_w, i32_w]
             rfl
            refine pure_ (i := 1) (N := some 43) (v := ?_) (a' := ?_) #[Y',Y',N',N',N',N',N',N',N',N',N',N',N',N',N',N',N',N',N',N',N',N',N',N',N',N',N',N',N',N',N',N',N',N',N',N',N',N',N',N',N',N',N',N',N',N',N',N',N',N',N'] rfl rfl (any_of HT_.out (by kernel_rfl)) (fun _ _ _ h => h) (Or.inl ⟨by rfl, ?_⟩) ?_ ?_
            rotate_left
            ·intro w'
             go_simp
             with_reducible rfl
            rotate_left
            ·simp only [Act.put, List.setIfInBounds_toArray, List.set_cons_zero, List.set_cons_succ, i64_w, i32_w]
             rfl
            refine pure_ (i := 2) (N := some 44) (v := ?_) (a' := ?_) #[Y',Y',Y',N',N',N',N',N',N',N',N',N',N',N',N',N',N',N',N',N',N',N',N',N',N',N',N',N',N',N',N',N',N',N',N',N',N',N',N',N',N',N',N',N',N',N',N',N',N',N',N'] rfl rfl (any_of HT_.out (by kernel_rfl)) (fun _ _ _ h => h) (Or.inl ⟨by rfl, ?_⟩) ?_ ?_
            rotate_left
            ·intro w'
             go_simp
             with_reducible rfl
            rotate_left
            ·simp only [Act.put, List.setIfInBounds_toArray, List.set_cons_zero, List.set_cons_succ, i64_w, i32_w]
             rfl
            refine pure_ (i := 3) (N := some 45) (v := ?_) (a' := ?_) #[Y',Y',Y',Y',N',N',N',N',N',N',N',N',N',N',N',N',N',N',N',N',N',N',N',N',N',N',N',N',N',N',N',N',N',N',N',N',N',N',N',N',N',N',N',N',N',N',N',N',N',N',N'] rfl rfl (any_of HT_.out (by kernel_rfl)) (fun _ _ _ h => h) (Or.inl ⟨by rfl, ?_⟩) ?_ ?_
            rotate_left
            ·intro w'
             go_simp
             with_reducible rfl
            rotate_left
            ·simp only [Act.put, List.setIfInBounds_toArray, List.set_cons_zero, List.set_cons_succ, i64_w, i32_w]
             rfl
            refine pure_ (i := 4) (N := some 46) (v := ?_) (a' := ?_) #[Y',Y',Y',Y',Y',N',N',N',N',N',N',N',N',N',N',N',N',N',N',N',N',N',N',N',N',N',N',N',N',N',N',N',N',N',N',N',N',N',N',N',N',N',N',N',N',N',N',N',N',N',N'] rfl rfl (any_of HT_.out (by kernel_rfl)) (fun _ _ _ h => h) (Or.inl ⟨by rfl, ?_⟩) ?_ ?_
            rotate_left
            ·intro w'
             go_simp
             with_reducible rfl
            rotate_left
            ·simp only [Act.put, List.setIfInBounds_toArray, List.set_cons_zero, List.set_cons_succ, i64_w, i32_w]
             rfl
            refine pure_ (i := 7) (N := some 49) (v := ?_) (a' := ?_) #[Y',Y',Y',Y',Y',N',N',Y',N',N',N',N',N',N',N',N',N',N',N',N',N',N',N',N',N',N',N',N',N',N',N',N',N',N',N',N',N',N',N',N',N',N',N',N',N',N',N',N',N',N',N'] rfl rfl (any_of HT_.out (by kernel_rfl)) (fun _ _ _ h => h) (Or.inl ⟨by rfl, ?_⟩) ?_ ?_
            rotate_left
            ·intro w'
             go_simp
             with_reducible rfl
            rotate_left
            ·simp only [Act.put, List.setIfInBounds_toArray, List.set_cons_zero, List.set_cons_succ, i64_w, i32_w]
             rfl
            refine pure_ (i := 8) (N := some 50) (v := ?_) (a' := ?_) #[Y',Y',Y',Y',Y',N',N',Y',Y',N',N',N',N',N',N',N',N',N',N',N',N',N',N',N',N',N',N',N',N',N',N',N',N',N',N',N',N',N',N',N',N',N',N',N',N',N',N',N',N',N',N'] rfl rfl (any_of HT_.out (by kernel_rfl)) (fun _ _ _ h => h) (Or.inl ⟨by rfl, ?_⟩) ?_ ?_
            rotate_left
            ·intro w'
             go_simp
             with_reducible rfl
            rotate_left
            ·simp only [Act.put, List.setIfInBounds_toArray, List.set_cons_zero, List.set_cons_succ, i64_w, i32_w]
             rfl
            refine pure_ (i := 9) (N := some 51) (v := ?_) (a' := ?_) #[Y',Y',Y',Y',Y',N',N',Y',Y',Y',N',N',N',N',N',N',N',N',N',N',N',N',N',N',N',N',N',N',N',N',N',N',N',N',N',N',N',N',N',N',N',N',N',N',N',N',N',N',N',N',N'] rfl rfl (any_of HT_.out (by kernel_rfl)) (fun _ _ _ h => h) (Or.inl ⟨by rfl, ?_⟩) ?_ ?_
            rotate_left
            ·intro w'
             go_simp
             with_reducible rfl
            rotate_left
            ·simp only [Act.put, List.setIfInBounds_toArray, List.set_cons_zero, List.set_cons_succ, i64_w, i32_w]
             rfl
            refine pure_ (i := 10) (N := some 52) (v := ?_) (a' := ?_) #[Y',Y',Y',Y',Y',N',N',Y',Y',Y',Y',N',N',N',N',N',N',N',N',N',N',N',N',N',N',N',N',N',N',N',N',N',N',N',N',N',N',N',N',N',N',N',N',N',N',N',N',N',N',N',N'] rfl rfl (any_of HT_.out (by kernel_rfl)) (fun _ _ _ h => h) (Or.inl ⟨by rfl, ?_⟩) ?_ ?_
            rotate_left
            ·intro w'
             go_simp
             with_reducible rfl
            rotate_left
            ·simp only [Act.put, List.setIfInBounds_toArray, List.set_cons_zero, List.set_cons_succ, i64_w, i32_w]
             rfl
            refine pure_ (i := 11) (N := some 53) (v := ?_) (a' := ?_) #[Y',Y',Y',Y',Y',N',N',Y',Y',Y',Y',Y',N',N',N',N',N',N',N',N',N',N',N',N',N',N',N',N',N',N',N',N',N',N',N',N',N',N',N',N',N',N',N',N',N',N',N',N',N',N',N'] rfl rfl (any_of HT_.out (by kernel_rfl)) (fun _ _ _ h => h) (Or.inl ⟨by rfl, ?_⟩) ?_ ?_
            rotate_left
            ·intro w'
             go_simp
             with_reducible rfl
            rotate_left
            ·simp only [Act.put, List.setIfInBounds_toArray, List.set_cons_zero, List.set_cons_succ, i64_w, i32_w]
             rfl
            refine take_ (i := 5) (N := some 47) (v := ?_) (a' := ?_) #[Y',Y',Y',Y',Y',Y',N',Y',Y',Y',Y',Y',N',N',N',N',N',N',N',N',N',N',N',N',N',N',N',N',N',N',N',N',N',N',N',N',N',N',N',N',N',N',N',N',N',N',N',N',N',N',N'] rfl rfl (take_ofW HT_.out HW_.out (by kernel_rfl)) (fun _ _ _ h => h) (Or.inl ⟨by rfl, ?_⟩) hHeld ?_ ?_
            rotate_left
            ·rintro w' ⟨s0, s1, s2, s3, s4, s5, s6, s7, s8, s9, s10, s11, s12, s13, s14, s15, s16, s17, s18, s19, s20, s21, s22, s23, s24, s25, s26, s27, s28, s29, s30, s31, s32, s33, s34, s35⟩
             go_simp
             with_reducible rfl
            rotate_left
            ·simp only [Act.put, List.setIfInBounds_toArray, List.set_cons_zero, List.set_cons_succ, i64_w, i32_w]
             rfl
            refine take_ (i := 12) (N := some 54) (v := ?_) (a' := ?_) #[Y',Y',Y',Y',Y',Y',N',Y',Y',Y',Y',Y',Y',N',N',N',N',N',N',N',N',N',N',N',N',N',N',N',N',N',N',N',N',N',N',N',N',N',N',N',N',N',N',N',N',N',N',N',N',N',N'] rfl rfl (take_ofW HT_.out HW_.out (by kernel_rfl)) (fun _ _ _ h => h) (Or.inl ⟨by rfl, ?_⟩) hHeld ?_ ?_
            rotate_left
            ·rintro w' ⟨s0, s1, s2, s3, s4, s5, s6, s7, s8, s9, s10, s11, s12, s13, s14, s15, s16, s17, s18, s19, s20, s21, s22, s23, s24, s25, s26, s27, s28, s29, s30, s31, s32, s33, s34, s35⟩
             go_simp
             with_reducible rfl
            rotate_left
            ·simp only [Act.put, List.setIfInBounds_toArray, List.set_cons_zero, List.set_cons_succ, i64_w, i32_w]
             rfl
            refine one_ (i := 6) (N := some 48) #[Y',Y',Y',Y',Y',Y',Y',Y',Y',Y',Y',Y',Y',N',N',N',N',N',N',N',N',N',N',N',N',N',N',N',N',N',N',N',N',N',N',N',N',N',N',N',N',N',N',N',N',N',N',N',N',N',N'] rfl rfl (one_of HT_.out (by kernel_rfl)) (by decide) (fun K hK => ?_)
            refine goes_ Try.func16 (by kernel_rfl) rfl #[.slice Ao46 t237.length co46, .int .i64 ((rd_T33 l0 x9_2).f0)] (by rfl) rfl rfl (by (try simp only [List.map_toArray, List.map_cons, List.map_nil]); first | done | rfl | (simp only [List.length_drop, List.length_take]; rfl)) ?_
            with_reducible refine (span_Style.calls _ _ t237 ((rd_T33 l0 x9_2).f0) t259 t260 t261 t262 t263 t264 _ ?side1 ?side2 A26.out).mono ?_
            (case side1 => repeat (first | exact (Kd.R_reads' HO_8.out).2.2 | (with_reducible refine Kd.C_alloc ?_ _) | (with_reducible refine Kd.C_drewN ?_ _) | (with_reducible refine Kd.C_drew ?_)))
            (case side2 => exact (Kd.R_reads' HO_8.out).2.1)
            rintro e w47 ⟨rfl, hb⟩
            refine ⟨_, rfl, ?_⟩
            have n0_ := Aside0.mk (Kd.R_below (by (with_reducible repeat (first | apply Kd.R_alloc | apply Kd.R_drewN | apply Kd.R_drew)); exact HO_8.out) hb)
            have n1_ := Aside0.mk (below_step (by repeat (first | (with_reducible first | exact HB.out | apply below_alloc | apply pw_below_drewN | apply below_drew1) | exact HB.out)) hb)
            clear HO_8
            clear HB
            have HO_8 := n0_
            have HB := n1_
            clear n0_ n1_
            (try clear hb)
            (try clear hb2)
            (try clear hk)
            (try clear hi)
            refine hK.out _ _ ⟨((HB.out.cell (World.block_lt_of_cell? w _ hw258_0)).trans hw258_0), ((HB.out.cell (World.block_lt_of_cell? w _ hw258_1)).trans hw258_1), ((HB.out.cell (World.block_lt_of_cell? w _ hw258_2)).trans hw258_2), ((HB.out.cell (World.block_lt_of_cell? w _ hw258_3)).trans hw258_3), ((HB.out.cell (World.block_lt_of_cell? w _ hw258_4)).trans hw258_4), ((HB.out.cell (World.block_lt_of_cell? w _ hw258_5)).trans hw258_5), ((HB.out.cell (World.block_lt_of_cell? w _ hw265_0)).trans hw265_0), ((HB.out.cell (World.block_lt_of_cell? w _ hw265_1)).trans hw265_1), ((HB.out.cell (World.block_lt_of_cell? w _ hw265_2)).trans hw265_2), ((HB.out.cell (World.block_lt_of_cell? w _ hw265_3)).trans hw265_3), ((HB.out.cell (World.block_lt_of_cell? w _ hw265_4)).trans hw265_4), ((HB.out.cell (World.block_lt_of_cell? w _ hw265_5)).trans hw265_5), ((HB.out.cell (World.block_lt_of_cell? w _ hw272_0)).trans hw272_0), ((HB.out.cell (World.block_lt_of_cell? w _ hw272_1)).trans hw272_1), ((HB.out.cell (World.block_lt_of_cell? w _ hw272_2)).trans hw272_2), ((HB.out.cell (World.block_lt_of_cell? w _ hw272_3)).trans hw272_3), ((HB.out.cell (World.block_lt_of_cell? w _ hw272_4)).trans hw272_4), ((HB.out.cell (World.block_lt_of_cell? w _ hw272_5)).trans hw272_5), ((HB.out.cell (World.block_lt_of_cell? w _ hw279_0)).trans hw279_0), ((HB.out.cell (World.block_lt_of_cell? w _ hw279_1)).trans hw279_1), ((HB.out.cell (World.block_lt_of_cell? w _ hw279_2)).trans hw279_2), ((HB.out.cell (World.block_lt_of_cell? w _ hw279_3)).trans hw279_3), ((HB.out.cell (World.block_lt_of_cell? w _ hw279_4)).trans hw279_4), ((HB.out.cell (World.block_lt_of_cell? w _ hw279_5)).trans hw279_5), ((HB.out.cell (World.block_lt_of_cell? w _ hw286_0)).trans hw286_0), ((HB.out.cell (World.block_lt_of_cell? w _ hw286_1)).trans hw286_1), ((HB.out.cell (World.block_lt_of_cell? w _ hw286_2)).trans hw286_2), ((HB.out.cell (World.block_lt_of_cell? w _ hw286_3)).trans hw286_3), ((HB.out.cell (World.block_lt_of_cell? w _ hw286_4)).trans hw286_4), ((HB.out.cell (World.block_lt_of_cell? w _ hw286_5)).trans hw286_5), ((HB.out.cell (World.block_lt_of_cell? w _ hw293_0)).trans hw293_0), ((HB.out.cell (World.block_lt_of_cell? w _ hw293_1)).trans hw293_1), ((HB.out.cell (World.block_lt_of_cell? w _ hw293_2)).trans hw293_2), ((HB.out.cell (World.block_lt_of_cell? w _ hw293_3)).trans hw293_3), ((HB.out.cell (World.block_lt_of_cell? w _ hw293_4)).trans hw293_4), ((HB.out.cell (World.block_lt_of_cell? w _ hw293_5)).trans hw293_5)⟩ (fun hHeld => ?_)
            clear hK K
            refine norm_ (a' := ?_) ?_ ?_
            rotate_left
            ·show Act.put _ (some 48) _ = _
             simp only [Act.put, List.setIfInBounds_toArray, List.set_cons_zero, List.set_cons_succ, i64_w, i32_w]
             rfl
            refine one_ (i := 13) (N := some 55) #[Y',Y',Y',Y',Y',Y',Y',Y',Y',Y',Y',Y',Y',Y',N',N',N',N',N',N',N',N',N',N',N',N',N',N',N',N',N',N',N',N',N',N',N',N',N',N',N',N',N',N',N',N',N',N',N',N',N'] rfl rfl (one_of HT_.out (by kernel_rfl)) (by decide) (fun K hK => ?_)
            refine goes_ Try.func16 (by kernel_rfl) rfl #[.slice (some ad258) l0.length c0, .int .i64 ((rd_T33 l0 x9_2).f0)] (by rfl) rfl rfl (by (try simp only [List.map_toArray, List.map_cons, List.map_nil]); first | done | rfl | (simp only [List.length_drop, List.length_take]; rfl)) ?_
            with_reducible refine (span_Style.calls _ _ l0 ((rd_T33 l0 x9_2).f0) t266 t267 t268 t269 t270 t271 _ ?side1 ?side2 A27.out).mono ?_
            (case side1 => repeat (first | exact (Kd.C_below HR0.out HB.out) | (with_reducible refine Kd.C_alloc ?_ _) | (with_reducible refine Kd.C_drewN ?_ _) | (with_reducible refine Kd.C_drew ?_)))
            (case side2 => exact HC0.out)
            rintro e w48 ⟨rfl, hb⟩
            refine ⟨_, rfl, ?_⟩
            have n0_ := Aside0.mk (Kd.R_below (by (with_reducible repeat (first | apply Kd.R_alloc | apply Kd.R_drewN | apply Kd.R_drew)); exact HO_8.out) hb)
            have n1_ := Aside0.mk (below_step (by repeat (first | (with_reducible first | exact HB.out | apply below_alloc | apply pw_below_drewN | apply below_drew1) | exact HB.out)) hb)
            clear HO_8
            clear HB
            have HO_8 := n0_
            have HB := n1_
            clear n0_ n1_
            (try clear hb)
            (try clear hb2)
            (try clear hk)
            (try clear hi)
            refine hK.out _ _ ⟨((HB.out.cell (World.block_lt_of_cell? w _ hw258_0)).trans hw258_0), ((HB.out.cell (World.block_lt_of_cell? w _ hw258_1)).trans hw258_1), ((HB.out.cell (World.block_lt_of_cell? w _ hw258_2)).trans hw258_2), ((HB.out.cell (World.block_lt_of_cell? w _ hw258_3)).trans hw258_3), ((HB.out.cell (World.block_lt_of_cell? w _ hw258_4)).trans hw258_4), ((HB.out.cell (World.block_lt_of_cell? w _ hw258_5)).trans hw258_5), ((HB.out.cell (World.block_lt_of_cell? w _ hw265_0)).trans hw265_0), ((HB.out.cell (World.block_lt_of_cell? w _ hw265_1)).trans hw265_1), ((HB.out.cell (World.block_lt_of_cell? w _ hw265_2)).trans hw265_2), ((HB.out.cell (World.block_lt_of_cell? w _ hw265_3)).trans hw265_3), ((HB.out.cell (World.block_lt_of_cell? w _ hw265_4)).trans hw265_4), ((HB.out.cell (World.block_lt_of_cell? w _ hw265_5)).trans hw265_5), ((HB.out.cell (World.block_lt_of_cell? w _ hw272_0)).trans hw272_0), ((HB.out.cell (World.block_lt_of_cell? w _ hw272_1)).trans hw272_1), ((HB.out.cell (World.block_lt_of_cell? w _ hw272_2)).trans hw272_2), ((HB.out.cell (World.block_lt_of_cell? w _ hw272_3)).trans hw272_3), ((HB.out.cell (World.block_lt_of_cell? w _ hw272_4)).trans hw272_4), ((HB.out.cell (World.block_lt_of_cell? w _ hw272_5)).trans hw272_5), ((HB.out.cell (World.block_lt_of_cell? w _ hw279_0)).trans hw279_0), ((HB.out.cell (World.block_lt_of_cell? w _ hw279_1)).trans hw279_1), ((HB.out.cell (World.block_lt_of_cell? w _ hw279_2)).trans hw279_2), ((HB.out.cell (World.block_lt_of_cell? w _ hw279_3)).trans hw279_3), ((HB.out.cell (World.block_lt_of_cell? w _ hw279_4)).trans hw279_4), ((HB.out.cell (World.block_lt_of_cell? w _ hw279_5)).trans hw279_5), ((HB.out.cell (World.block_lt_of_cell? w _ hw286_0)).trans hw286_0), ((HB.out.cell (World.block_lt_of_cell? w _ hw286_1)).trans hw286_1), ((HB.out.cell (World.block_lt_of_cell? w _ hw286_2)).trans hw286_2), ((HB.out.cell (World.block_lt_of_cell? w _ hw286_3)).trans hw286_3), ((HB.out.cell (World.block_lt_of_cell? w _ hw286_4)).trans hw286_4), ((HB.out.cell (World.block_lt_of_cell? w _ hw286_5)).trans hw286_5), ((HB.out.cell (World.block_lt_of_cell? w _ hw293_0)).trans hw293_0), ((HB.out.cell (World.block_lt_of_cell? w _ hw293_1)).trans hw293_1), ((HB.out.cell (World.block_lt_of_cell? w _ hw293_2)).trans hw293_2), ((HB.out.cell (World.block_lt_of_cell? w _ hw293_3)).trans hw293_3), ((HB.out.cell (World.block_lt_of_cell? w _ hw293_4)).trans hw293_4), ((HB.out.cell (World.block_lt_of_cell? w _ hw293_5)).trans hw293_5)⟩ (fun hHeld => ?_)
            clear hK K
            refine norm_ (a' := ?_) ?_ ?_
            rotate_left
            ·show Act.put _ (some 55) _ = _
             simp only [Act.put, List.setIfInBounds_toArray, List.set_cons_zero, List.set_cons_succ, i64_w, i32_w]
             rfl
            refine pure_ (i := 14) (N := some 56) (v := ?_) (a' := ?_) #[Y',Y',Y',Y',Y',Y',Y',Y',Y',Y',Y',Y',Y',Y',Y',N',N',N',N',N',N',N',N',N',N',N',N',N',N',N',N',N',N',N',N',N',N',N',N',N',N',N',N',N',N',N',N',N',N',N',N'] rfl rfl (any_of HT_.out (by kernel_rfl)) (fun _ _ _ h => h) (Or.inl ⟨by rfl, ?_⟩) ?_ ?_
            rotate_left
            ·intro w'
             go_simp
             with_reducible rfl
            rotate_left
            ·simp only [Act.put, List.setIfInBounds_toArray, List.set_cons_zero, List.set_cons_succ, i64_w, i32_w]
             rfl
            refine pure_ (i := 15) (N := some 57) (v := ?_) (a' := ?_) #[Y',Y',Y',Y',Y',Y',Y',Y',Y',Y',Y',Y',Y',Y',Y',Y',N',N',N',N',N',N',N',N',N',N',N',N',N',N',N',N',N',N',N',N',N',N',N',N',N',N',N',N',N',N',N',N',N',N',N'] rfl rfl (any_of HT_.out (by kernel_rfl)) (fun _ _ _ h => h) (Or.inl ⟨by rfl, ?_⟩) ?_ ?_
            rotate_left
            ·intro w'
             go_simp
             with_reducible rfl
            rotate_left
            ·simp only [Act.put, List.setIfInBounds_toArray, List.set_cons_zero, List.set_cons_succ, i64_w, i32_w]
             rfl
            refine pure_ (i := 16) (N := some 58) (v := ?_) (a' := ?_) #[Y',Y',Y',Y',Y',Y',Y',Y',Y',Y',Y',Y',Y',Y',Y',Y',Y',N',N',N',N',N',N',N',N',N',N',N',N',N',N',N',N',N',N',N',N',N',N',N',N',N',N',N',N',N',N',N',N',N',N'] rfl rfl (any_of HT_.out (by kernel_rfl)) (fun _ _ _ h => h) (Or.inl ⟨by rfl, ?_⟩) ?_ ?_
            rotate_left
            ·intro w'
             go_simp
             with_reducible rfl
            rotate_left
            ·simp only [Act.put, List.setIfInBounds_toArray, List.set_cons_zero, List.set_cons_succ, i64_w, i32_w]
             rfl
            refine pure_ (i := 17) (N := some 59) (v := ?_) (a' := ?_) #[Y',Y',Y',Y',Y',Y',Y',Y',Y',Y',Y',Y',Y',Y',Y',Y',Y',Y',N',N',N',N',N',N',N',N',N',N',N',N',N',N',N',N',N',N',N',N',N',N',N',N',N',N',N',N',N',N',N',N',N'] rfl rfl (any_of HT_.out (by kernel_rfl)) (fun _ _ _ h => h) (Or.inl ⟨by rfl, ?_⟩) ?_ ?_
            rotate_left
            ·intro w'
             go_simp
             with_reducible rfl
            rotate_left
            ·simp only [Act.put, List.setIfInBounds_toArray, List.set_cons_zero, List.set_cons_succ, i64_w, i32_w]
             rfl
            refine pure_ (i := 18) (N := some 60) (v := ?_) (a' := ?_) #[Y',Y',Y',Y',Y',Y',Y',Y',Y',Y',Y',Y',Y',Y',Y',Y',Y',Y',Y',N',N',N',N',N',N',N',N',N',N',N',N',N',N',N',N',N',N',N',N',N',N',N',N',N',N',N',N',N',N',N',N'] rfl rfl (any_of HT_.out (by kernel_rfl)) (fun _ _ _ h => h) (Or.inl ⟨by rfl, ?_⟩) ?_ ?_
            rotate_left
            ·intro w'
             go_simp
             with_reducible rfl
            rotate_left
            ·simp only [Act.put, List.setIfInBounds_toArray, List.set_cons_zero, List.set_cons_succ, i64_w, i32_w]
             rfl
            refine pure_ (i := 19) (N := some 61) (v := ?_) (a' := ?_) #[Y',Y',Y',Y',Y',Y',Y',Y',Y',Y',Y',Y',Y',Y',Y',Y',Y',Y',Y',Y',N',N',N',N',N',N',N',N',N',N',N',N',N',N',N',N',N',N',N',N',N',N',N',N',N',N',N',N',N',N',N'] rfl rfl (any_of HT_.out (by kernel_rfl)) (fun _ _ _ h => h) (Or.inl ⟨by rfl, ?_⟩) ?_ ?_
            rotate_left
            ·intro w'
             go_simp
             with_reducible rfl
            rotate_left
            ·simp only [Act.put, List.setIfInBounds_toArray, List.set_cons_zero, List.set_cons_succ, i64_w, i32_w]
             rfl
            refine pure_ (i := 20) (N := some 62) (v := ?_) (a' := ?_) #[Y',Y',Y',Y',Y',Y',Y',Y',Y',Y',Y',Y',Y',Y',Y',Y',Y',Y',Y',Y',Y',N',N',N',N',N',N',N',N',N',N',N',N',N',N',N',N',N',N',N',N',N',N',N',N',N',N',N',N',N',N'] rfl rfl (any_of HT_.out (by kernel_rfl)) (fun _ _ _ h => h) (Or.inl ⟨by rfl, ?_⟩) ?_ ?_
            rotate_left
            ·intro w'
             go_simp
             with_reducible rfl
            rotate_left
            ·simp only [Act.put, List.setIfInBounds_toArray, List.set_cons_zero, List.set_cons_succ, i64_w, i32_w]
             rfl
            refine pure_ (i := 24) (N := some 66) (v := ?_) (a' := ?_) #[Y',Y',Y',Y',Y',Y',Y',Y',Y',Y',Y',Y',Y',Y',Y',Y',Y',Y',Y',Y',Y',N',N',N',Y',N',N',N',N',N',N',N',N',N',N',N',N',N',N',N',N',N',N',N',N',N',N',N',N',N',N'] rfl rfl (any_of HT_.out (by kernel_rfl)) (fun _ _ _ h => h) (Or.inl ⟨by rfl, ?_⟩) ?_ ?_
            rotate_left
            ·intro w'
             go_simp
             with_reducible rfl
            rotate_left
            ·simp only [Act.put, List.setIfInBounds_toArray, List.set_cons_zero, List.set_cons_succ, i64_w, i32_w]
             rfl
            refine pure_ (i := 25) (N := some 67) (v := ?_) (a' := ?_) #[Y',Y',Y',Y',Y',Y',Y',Y',Y',Y',Y',Y',Y',Y',Y',Y',Y',Y',Y',Y',Y',N',N',N',Y',Y',N',N',N',N',N',N',N',N',N',N',N',N',N',N',N',N',N',N',N',N',N',N',N',N',N'] rfl rfl (any_of HT_.out (by kernel_rfl)) (fun _ _ _ h => h) (Or.inl ⟨by rfl, ?_⟩) ?_ ?_
            rotate_left
            ·intro w'
             go_simp
             with_reducible rfl
            rotate_left
            ·simp only [Act.put, List.setIfInBounds_toArray, List.set_cons_zero, List.set_cons_succ, i64_w, i32_w]
             rfl
            refine pure_ (i := 26) (N := some 68) (v := ?_) (a' := ?_) #[Y',Y',Y',Y',Y',Y',Y',Y',Y',Y',Y',Y',Y',Y',Y',Y',Y',Y',Y',Y',Y',N',N',N',Y',Y',Y',N',N',N',N',N',N',N',N',N',N',N',N',N',N',N',N',N',N',N',N',N',N',N',N'] rfl rfl (any_of HT_.out (by kernel_rfl)) (fun _ _ _ h => h) (Or.inl ⟨by rfl, ?_⟩) ?_ ?_
            rotate_left
            ·intro w'
             go_simp
             with_reducible rfl
            rotate_left
            ·simp only [Act.put, List.setIfInBounds_toArray, List.set_cons_zero, List.set_cons_succ, i64_w, i32_w]
             rfl
            refine pure_ (i := 27) (N := some 69) (v := ?_) (a' := ?_) #[Y',Y',Y',Y',Y',Y',Y',Y',Y',Y',Y',Y',Y',Y',Y',Y',Y',Y',Y',Y',Y',N',N',N',Y',Y',Y',Y',N',N',N',N',N',N',N',N',N',N',N',N',N',N',N',N',N',N',N',N',N',N',N'] rfl rfl (any_of HT_.out (by kernel_rfl)) (fun _ _ _ h => h) (Or.inl ⟨by rfl, ?_⟩) ?_ ?_
            rotate_left
            ·intro w'
             go_simp
             with_reducible rfl
            rotate_left
            ·simp only [Act.put, List.setIfInBounds_toArray, List.set_cons_zero, List.set_cons_succ, i64_w, i32_w]
             rfl
            refine pure_ (i := 28) (N := some 70) (v := ?_) (a' := ?_) #[Y',Y',Y',Y',Y',Y',Y',Y',Y',Y',Y',Y',Y',Y',Y',Y',Y',Y',Y',Y',Y',N',N',N',Y',Y',Y',Y',Y',N',N',N',N',N',N',N',N',N',N',N',N',N',N',N',N',N',N',N',N',N',N'] rfl rfl (any_of HT_.out (by kernel_rfl)) (fun _ _ _ h => h) (Or.inl ⟨by rfl, ?_⟩) ?_ ?_
            rotate_left
            ·intro w'
             go_simp
             with_reducible rfl
            rotate_left
            ·simp only [Act.put, List.setIfInBounds_toArray, List.set_cons_zero, List.set_cons_succ, i64_w, i32_w]
             rfl
            refine take_ (i := 21) (N := some 63) (v := ?_) (a' := ?_) #[Y',Y',Y',Y',Y',Y',Y',Y',Y',Y',Y',Y',Y',Y',Y',Y',Y',Y',Y',Y',Y',Y',N',N',Y',Y',Y',Y',Y',N',N',N',N',N',N',N',N',N',N',N',N',N',N',N',N',N',N',N',N',N',N'] rfl rfl (take_ofW HT_.out HW_.out (by kernel_rfl)) (fun _ _ _ h => h) (Or.inl ⟨by rfl, ?_⟩) hHeld ?_ ?_
            rotate_left
            ·rintro w' ⟨s0, s1, s2, s3, s4, s5, s6, s7, s8, s9, s10, s11, s12, s13, s14, s15, s16, s17, s18, s19, s20, s21, s22, s23, s24, s25, s26, s27, s28, s29, s30, s31, s32, s33, s34, s35⟩
             go_simp
             with_reducible rfl
            rotate_left
            ·simp only [Act.put, List.setIfInBounds_toArray, List.set_cons_zero, List.set_cons_succ, i64_w, i32_w]
             rfl
            refine pure_ (i := 22) (N := some 64) (v := ?_) (a' := ?_) #[Y',Y',Y',Y',Y',Y',Y',Y',Y',Y',Y',Y',Y',Y',Y',Y',Y',Y',Y',Y',Y',Y',Y',N',Y',Y',Y',Y',Y',N',N',N',N',N',N',N',N',N',N',N',N',N',N',N',N',N',N',N',N',N',N'] rfl rfl (any_of HT_.out (by kernel_rfl)) (fun _ _ _ h => h) (Or.inl ⟨by rfl, ?_⟩) ?_ ?_
            rotate_left
            ·intro w'
             go_simp
             with_reducible rfl
            rotate_left
            ·simp only [Act.put, List.setIfInBounds_toArray, List.set_cons_zero, List.set_cons_succ, i64_w, i32_w]
             rfl
            refine take_ (i := 29) (N := some 71) (v := ?_) (a' := ?_) #[Y',Y',Y',Y',Y',Y',Y',Y',Y',Y',Y',Y',Y',Y',Y',Y',Y',Y',Y',Y',Y',Y',Y',N',Y',Y',Y',Y',Y',Y',N',N',N',N',N',N',N',N',N',N',N',N',N',N',N',N',N',N',N',N',N'] rfl rfl (take_ofW HT_.out HW_.out (by kernel_rfl)) (fun _ _ _ h => h) (Or.inl ⟨by rfl, ?_⟩) hHeld ?_ ?_
            rotate_left
            ·rintro w' ⟨s0, s1, s2, s3, s4, s5, s6, s7, s8, s9, s10, s11, s12, s13, s14, s15, s16, s17, s18, s19, s20, s21, s22, s23, s24, s25, s26, s27, s28, s29, s30, s31, s32, s33, s34, s35⟩
             go_simp
             with_reducible rfl
            rotate_left
            ·simp only [Act.put, List.setIfInBounds_toArray, List.set_cons_zero, List.set_cons_succ, i64_w, i32_w]
             rfl
            refine pure_ (i := 30) (N := some 72) (v := ?_) (a' := ?_) #[Y',Y',Y',Y',Y',Y',Y',Y',Y',Y',Y',Y',Y',Y',Y',Y',Y',Y',Y',Y',Y',Y',Y',N',Y',Y',Y',Y',Y',Y',Y',N',N',N',N',N',N',N',N',N',N',N',N',N',N',N',N',N',N',N',N'] rfl rfl (any_of HT_.out (by kernel_rfl)) (fun _ _ _ h => h) (Or.inl ⟨by rfl, ?_⟩) ?_ ?_
            rotate_left
            ·intro w'
             go_simp
             with_reducible rfl
            rotate_left
            ·simp only [Act.put, List.setIfInBounds_toArray, List.set_cons_zero, List.set_cons_succ, i64_w, i32_w]
             rfl
            refine one_ (i := 23) (N := some 65) #[Y',Y',Y',Y',Y',Y',Y',Y',Y',Y',Y',Y',Y',Y',Y',Y',Y',Y',Y',Y',Y',Y',Y',Y',Y',Y',Y',Y',Y',Y',Y',N',N',N',N',N',N',N',N',N',N',N',N',N',N',N',N',N',N',N',N'] rfl rfl (one_of HT_.out (by kernel_rfl)) (by decide) (fun K hK => ?_)
            refine goes_ Try.func16 (by kernel_rfl) rfl #[.slice Ao46 t237.length co46, .int .i64 (wrap64 (((rd_T33 l0 x9_2).f1) - 1))] (by rfl) rfl rfl (by (try simp only [List.map_toArray, List.map_cons, List.map_nil]); first | done | rfl | (simp only [List.length_drop, List.length_take]; rfl)) ?_
            with_reducible refine (span_Style.calls _ _ t237 (wrap64 (((rd_T33 l0 x9_2).f1) - 1)) t273 t274 t275 t276 t277 t278 _ ?side1 ?side2 A33.out).mono ?_
            (case side1 => repeat (first | exact (Kd.R_reads' HO_8.out).2.2 | (with_reducible refine Kd.C_alloc ?_ _) | (with_reducible refine Kd.C_drewN ?_ _) | (with_reducible refine Kd.C_drew ?_)))
            (case side2 => exact (Kd.R_reads' HO_8.out).2.1)
            rintro e w49 ⟨rfl, hb⟩
            refine ⟨_, rfl, ?_⟩
            have n0_ := Aside0.mk (Kd.R_below (by (with_reducible repeat (first | apply Kd.R_alloc | apply Kd.R_drewN | apply Kd.R_drew)); exact HO_8.out) hb)
            have n1_ := Aside0.mk (below_step (by repeat (first | (with_reducible first | exact HB.out | apply below_alloc | apply pw_below_drewN | apply below_drew1) | exact HB.out)) hb)
            clear HO_8
            clear HB
            have HO_8 := n0_
            have HB := n1_
            clear n0_ n1_
            (try clear hb)
            (try clear hb2)
            (try clear hk)
            (try clear hi)
            refine hK.out _ _ ⟨((HB.out.cell (World.block_lt_of_cell? w _ hw258_0)).trans hw258_0), ((HB.out.cell (World.block_lt_of_cell? w _ hw258_1)).trans hw258_1), ((HB.out.cell (World.block_lt_of_cell? w _ hw258_2)).trans hw258_2), ((HB.out.cell (World.block_lt_of_cell? w _ hw258_3)).trans hw258_3), ((HB.out.cell (World.block_lt_of_cell? w _ hw258_4)).trans hw258_4), ((HB.out.cell (World.block_lt_of_cell? w _ hw258_5)).trans hw258_5), ((HB.out.cell (World.block_lt_of_cell? w _ hw265_0)).trans hw265_0), ((HB.out.cell (World.block_lt_of_cell? w _ hw265_1)).trans hw265_1), ((HB.out.cell (World.block_lt_of_cell? w _ hw265_2)).trans hw265_2), ((HB.out.cell (World.block_lt_of_cell? w _ hw265_3)).trans hw265_3), ((HB.out.cell (World.block_lt_of_cell? w _ hw265_4)).trans hw265_4), ((HB.out.cell (World.block_lt_of_cell? w _ hw265_5)).trans hw265_5), ((HB.out.cell (World.block_lt_of_cell? w _ hw272_0)).trans hw272_0), ((HB.out.cell (World.block_lt_of_cell? w _ hw272_1)).trans hw272_1), ((HB.out.cell (World.block_lt_of_cell? w _ hw272_2)).trans hw272_2), ((HB.out.cell (World.block_lt_of_cell? w _ hw272_3)).trans hw272_3), ((HB.out.cell (World.block_lt_of_cell? w _ hw272_4)).trans hw272_4), ((HB.out.cell (World.block_lt_of_cell? w _ hw272_5)).trans hw272_5), ((HB.out.cell (World.block_lt_of_cell? w _ hw279_0)).trans hw279_0), ((HB.out.cell (World.block_lt_of_cell? w _ hw279_1)).trans hw279_1), ((HB.out.cell (World.block_lt_of_cell? w _ hw279_2)).trans hw279_2), ((HB.out.cell (World.block_lt_of_cell? w _ hw279_3)).trans hw279_3), ((HB.out.cell (World.block_lt_of_cell? w _ hw279_4)).trans hw279_4), ((HB.out.cell (World.block_lt_of_cell? w _ hw279_5)).trans hw279_5), ((HB.out.cell (World.block_lt_of_cell? w _ hw286_0)).trans hw286_0), ((HB.out.cell (World.block_lt_of_cell? w _ hw286_1)).trans hw286_1), ((HB.out.cell (World.block_lt_of_cell? w _ hw286_2)).trans hw286_2), ((HB.out.cell (World.block_lt_of_cell? w _ hw286_3)).trans hw286_3), ((HB.out.cell (World.block_lt_of_cell? w _ hw286_4)).trans hw286_4), ((HB.out.cell (World.block_lt_of_cell? w _ hw286_5)).trans hw286_5), ((HB.out.cell (World.block_lt_of_cell? w _ hw293_0)).trans hw293_0), ((HB.out.cell (World.block_lt_of_cell? w _ hw293_1)).trans hw293_1), ((HB.out.cell (World.block_lt_of_cell? w _ hw293_2)).trans hw293_2), ((HB.out.cell (World.block_lt_of_cell? w _ hw293_3)).trans hw293_3), ((HB.out.cell (World.block_lt_of_cell? w _ hw293_4)).trans hw293_4), ((HB.out.cell (World.block_lt_of_cell? w _ hw293_5)).trans hw293_5)⟩ (fun hHeld => ?_)
            clear hK K
            refine norm_ (a' := ?_) ?_ ?_
            rotate_left
            ·show Act.put _ (some 65) _ = _
             simp only [Act.put, List.setIfInBounds_toArray, List.set_cons_zero, List.set_cons_succ, i64_w, i32_w]
             rfl
            refine one_ (i := 31) (N := some 73) #[Y',Y',Y',Y',Y',Y',Y',Y',Y',Y',Y',Y',Y',Y',Y',Y',Y',Y',Y',Y',Y',Y',Y',Y',Y',Y',Y',Y',Y',Y',Y',Y',N',N',N',N',N',N',N',N',N',N',N',N',N',N',N',N',N',N',N'] rfl rfl (one_of HT_.out (by kernel_rfl)) (by decide) (fun K hK => ?_)
            refine goes_ Try.func16 (by kernel_rfl) rfl #[.slice (some ad258) l0.length c0, .int .i64 (wrap64 (((rd_T33 l0 x9_2).f1) - 1))] (by rfl) rfl rfl (by (try simp only [List.map_toArray, List.map_cons, List.map_nil]); first | done | rfl | (simp only [List.length_drop, List.length_take]; rfl)) ?_
            with_reducible refine (span_Style.calls _ _ l0 (wrap64 (((rd_T33 l0 x9_2).f1) - 1)) t280 t281 t282 t283 t284 t285 _ ?side1 ?side2 A34.out).mono ?_
            (case side1 => repeat (first | exact (Kd.C_below HR0.out HB.out) | (with_reducible refine Kd.C_alloc ?_ _) | (with_reducible refine Kd.C_drewN ?_ _) | (with_reducible refine Kd.C_drew ?_)))
            (case side2 => exact HC0.out)
            rintro e w50 ⟨rfl, hb⟩
            refine ⟨_, rfl, ?_⟩
            have n0_ := Aside0.mk (Kd.R_below (by (with_reducible repeat (first | apply Kd.R_alloc | apply Kd.R_drewN | apply Kd.R_drew)); exact HO_8.out) hb)
            have n1_ := Aside0.mk (below_step (by repeat (first | (with_reducible first | exact HB.out | apply below_alloc | apply pw_below_drewN | apply below_drew1) | exact HB.out)) hb)
            clear HO_8
            clear HB
            have HO_8 := n0_
            have HB := n1_
            clear n0_ n1_
            (try clear hb)
            (try clear hb2)
            (try clear hk)
            (try clear hi)
            refine hK.out _ _ ⟨((HB.out.cell (World.block_lt_of_cell? w _ hw258_0)).trans hw258_0), ((HB.out.cell (World.block_lt_of_cell? w _ hw258_1)).trans hw258_1), ((HB.out.cell (World.block_lt_of_cell? w _ hw258_2)).trans hw258_2), ((HB.out.cell (World.block_lt_of_cell? w _ hw258_3)).trans hw258_3), ((HB.out.cell (World.block_lt_of_cell? w _ hw258_4)).trans hw258_4), ((HB.out.cell (World.block_lt_of_cell? w _ hw258_5)).trans hw258_5), ((HB.out.cell (World.block_lt_of_cell? w _ hw265_0)).trans hw265_0), ((HB.out.cell (World.block_lt_of_cell? w _ hw265_1)).trans hw265_1), ((HB.out.cell (World.block_lt_of_cell? w _ hw265_2)).trans hw265_2), ((HB.out.cell (World.block_lt_of_cell? w _ hw265_3)).trans hw265_3), ((HB.out.cell (World.block_lt_of_cell? w _ hw265_4)).trans hw265_4), ((HB.out.cell (World.block_lt_of_cell? w _ hw265_5)).trans hw265_5), ((HB.out.cell (World.block_lt_of_cell? w _ hw272_0)).trans hw272_0), ((HB.out.cell (World.block_lt_of_cell? w _ hw272_1)).trans hw272_1), ((HB.out.cell (World.block_lt_of_cell? w _ hw272_2)).trans hw272_2), ((HB.out.cell (World.block_lt_of_cell? w _ hw272_3)).trans hw272_3), ((HB.out.cell (World.block_lt_of_cell? w _ hw272_4)).trans hw272_4), ((HB.out.cell (World.block_lt_of_cell? w _ hw272_5)).trans hw272_5), ((HB.out.cell (World.block_lt_of_cell? w _ hw279_0)).trans hw279_0), ((HB.out.cell (World.block_lt_of_cell? w _ hw279_1)).trans hw279_1), ((HB.out.cell (World.block_lt_of_cell? w _ hw279_2)).trans hw279_2), ((HB.out.cell (World.block_lt_of_cell? w _ hw279_3)).trans hw279_3), ((HB.out.cell (World.block_lt_of_cell? w _ hw279_4)).trans hw279_4), ((HB.out.cell (World.block_lt_of_cell? w _ hw279_5)).trans hw279_5), ((HB.out.cell (World.block_lt_of_cell? w _ hw286_0)).trans hw286_0), ((HB.out.cell (World.block_lt_of_cell? w _ hw286_1)).trans hw286_1), ((HB.out.cell (World.block_lt_of_cell? w _ hw286_2)).trans hw286_2), ((HB.out.cell (World.block_lt_of_cell? w _ hw286_3)).trans hw286_3), ((HB.out.cell (World.block_lt_of_cell? w _ hw286_4)).trans hw286_4), ((HB.out.cell (World.block_lt_of_cell? w _ hw286_5)).trans hw286_5), ((HB.out.cell (World.block_lt_of_cell? w _ hw293_0)).trans hw293_0), ((HB.out.cell (World.block_lt_of_cell? w _ hw293_1)).trans hw293_1), ((HB.out.cell (World.block_lt_of_cell? w _ hw293_2)).trans hw293_2), ((HB.out.cell (World.block_lt_of_cell? w _ hw293_3)).trans hw293_3), ((HB.out.cell (World.block_lt_of_cell? w _ hw293_4)).trans hw293_4), ((HB.out.cell (World.block_lt_of_cell? w _ hw293_5)).trans hw293_5)⟩ (fun hHeld => ?_)
            clear hK K
            refine norm_ (a' := ?_) ?_ ?_
            rotate_left
            ·show Act.put _ (some 73) _ = _
             simp only [Act.put, List.setIfInBounds_toArray, List.set_cons_zero, List.set_cons_succ, i64_w, i32_w]
             rfl
            refine pure_ (i := 32) (N := some 74) (v := ?_) (a' := ?_) #[Y',Y',Y',Y',Y',Y',Y',Y',Y',Y',Y',Y',Y',Y',Y',Y',Y',Y',Y',Y',Y',Y',Y',Y',Y',Y',Y',Y',Y',Y',Y',Y',Y',N',N',N',N',N',N',N',N',N',N',N',N',N',N',N',N',N',N'] rfl rfl (any_of HT_.out (by kernel_rfl)) (fun _ _ _ h => h) (Or.inl ⟨by rfl, ?_⟩) ?_ ?_
            rotate_left
            ·intro w'
             go_simp
             with_reducible rfl
            rotate_left
            ·simp only [Act.put, List.setIfInBounds_toArray, List.set_cons_zero, List.set_cons_succ, i64_w, i32_w]
             rfl
            refine pure_ (i := 33) (N := some 75) (v := ?_) (a' := ?_) #[Y',Y',Y',Y',Y',Y',Y',Y',Y',Y',Y',Y',Y',Y',Y',Y',Y',Y',Y',Y',Y',Y',Y',Y',Y',Y',Y',Y',Y',Y',Y',Y',Y',Y',N',N',N',N',N',N',N',N',N',N',N',N',N',N',N',N',N'] rfl rfl (any_of HT_.out (by kernel_rfl)) (fun _ _ _ h => h) (Or.inl ⟨by rfl, ?_⟩) ?_ ?_
            rotate_left
            ·intro w'
             go_simp
             with_reducible rfl
            rotate_left
            ·simp only [Act.put, List.setIfInBounds_toArray, List.set_cons_zero, List.set_cons_succ, i64_w, i32_w]
             rfl
            refine pure_ (i := 34) (N := some 76) (v := ?_) (a' := ?_) #[Y',Y',Y',Y',Y',Y',Y',Y',Y',Y',Y',Y',Y',Y',Y',Y',Y',Y',Y',Y',Y',Y',Y',Y',Y',Y',Y',Y',Y',Y',Y',Y',Y',Y',Y',N',N',N',N',N',N',N',N',N',N',N',N',N',N',N',N'] rfl rfl (any_of HT_.out (by kernel_rfl)) (fun _ _ _ h => h) (Or.inl ⟨by rfl, ?_⟩) ?_ ?_
            rotate_left
            ·intro w'
             go_simp
             with_reducible rfl
            rotate_left
            ·simp only [Act.put, List.setIfInBounds_toArray, List.set_cons_zero, List.set_cons_succ, i64_w, i32_w]
             rfl
            refine pure_ (i := 35) (N := some 77) (v := ?_) (a' := ?_) #[Y',Y',Y',Y',Y',Y',Y',Y',Y',Y',Y',Y',Y',Y',Y',Y',Y',Y',Y',Y',Y',Y',Y',Y',Y',Y',Y',Y',Y',Y',Y',Y',Y',Y',Y',Y',N',N',N',N',N',N',N',N',N',N',N',N',N',N',N'] rfl rfl (any_of HT_.out (by kernel_rfl)) (fun _ _ _ h => h) (Or.inl ⟨by rfl, ?_⟩) ?_ ?_
            rotate_left
            ·intro w'
             go_simp
             with_reducible rfl
            rotate_left
            ·simp only [Act.put, List.setIfInBounds_toArray, List.set_cons_zero, List.set_cons_succ, i64_w, i32_w]
             rfl
            refine pure_ (i := 36) (N := some 78) (v := ?_) (a' := ?_) #[Y',Y',Y',Y',Y',Y',Y',Y',Y',Y',Y',Y',Y',Y',Y',Y',Y',Y',Y',Y',Y',Y',Y',Y',Y',Y',Y',Y',Y',Y',Y',Y',Y',Y',Y',Y',Y',N',N',N',N',N',N',N',N',N',N',N',N',N',N'] rfl rfl (any_of HT_.out (by kernel_rfl)) (fun _ _ _ h => h) (Or.inl ⟨by rfl, ?_⟩) ?_ ?_
            rotate_left
            ·intro w'
             go_simp
             with_reducible rfl
            rotate_left
            ·simp only [Act.put, List.setIfInBounds_toArray, List.set_cons_zero, List.set_cons_succ, i64_w, i32_w]
             rfl
            refine pure_ (i := 37) (N := some 79) (v := ?_) (a' := ?_) #[Y',Y',Y',Y',Y',Y',Y',Y',Y',Y',Y',Y',Y',Y',Y',Y',Y',Y',Y',Y',Y',Y',Y',Y',Y',Y',Y',Y',Y',Y',Y',Y',Y',Y',Y',Y',Y',Y',N',N',N',N',N',N',N',N',N',N',N',N',N'] rfl rfl (any_of HT_.out (by kernel_rfl)) (fun _ _ _ h => h) (Or.inl ⟨by rfl, ?_⟩) ?_ ?_
            rotate_left
            ·intro w'
             go_simp
             with_reducible rfl
            rotate_left
            ·simp only [Act.put, List.setIfInBounds_toArray, List.set_cons_zero, List.set_cons_succ, i64_w, i32_w]
             rfl
            refine pure_ (i := 38) (N := some 80) (v := ?_) (a' := ?_) #[Y',Y',Y',Y',Y',Y',Y',Y',Y',Y',Y',Y',Y',Y',Y',Y',Y',Y',Y',Y',Y',Y',Y',Y',Y',Y',Y',Y',Y',Y',Y',Y',Y',Y',Y',Y',Y',Y',Y',N',N',N',N',N',N',N',N',N',N',N',N'] rfl rfl (any_of HT_.out (by kernel_rfl)) (fun _ _ _ h => h) (Or.inl ⟨by rfl, ?_⟩) ?_ ?_
            rotate_left
            ·intro w'
             go_simp
             with_reducible rfl
            rotate_left
            ·simp only [Act.put, List.setIfInBounds_toArray, List.set_cons_zero, List.set_cons_succ, i64_w, i32_w]
             rfl
            refine pure_ (i := 39) (N := some 81) (v := ?_) (a' := ?_) #[Y',Y',Y',Y',Y',Y',Y',Y',Y',Y',Y',Y',Y',Y',Y',Y',Y',Y',Y',Y',Y',Y',Y',Y',Y',Y',Y',Y',Y',Y',Y',Y',Y',Y',Y',Y',Y',Y',Y',Y',N',N',N',N',N',N',N',N',N',N',N'] rfl rfl (any_of HT_.out (by kernel_rfl)) (fun _ _ _ h => h) (Or.inl ⟨by rfl, ?_⟩) ?_ ?_
            rotate_left
            ·intro w'
             go_simp
             with_reducible rfl
            rotate_left
            ·simp only [Act.put, List.setIfInBounds_toArray, List.set_cons_zero, List.set_cons_succ, i64_w, i32_w]
             rfl
            refine pure_ (i := 42) (N := some 84) (v := ?_) (a' := ?_) #[Y',Y',Y',Y',Y',Y',Y',Y',Y',Y',Y',Y',Y',Y',Y',Y',Y',Y',Y',Y',Y',Y',Y',Y',Y',Y',Y',Y',Y',Y',Y',Y',Y',Y',Y',Y',Y',Y',Y',Y',N',N',Y',N',N',N',N',N',N',N',N'] rfl rfl (any_of HT_.out (by kernel_rfl)) (fun _ _ _ h => h) (Or.inl ⟨by rfl, ?_⟩) ?_ ?_
            rotate_left
            ·intro w'
             go_simp
             with_reducible rfl
            rotate_left
            ·simp only [Act.put, List.setIfInBounds_toArray, List.set_cons_zero, List.set_cons_succ, i64_w, i32_w]
             rfl
            refine pure_ (i := 43) (N := some 85) (v := ?_) (a' := ?_) #[Y',Y',Y',Y',Y',Y',Y',Y',Y',Y',Y',Y',Y',Y',Y',Y',Y',Y',Y',Y',Y',Y',Y',Y',Y',Y',Y',Y',Y',Y',Y',Y',Y',Y',Y',Y',Y',Y',Y',Y',N',N',Y',Y',N',N',N',N',N',N',N'] rfl rfl (any_of HT_.out (by kernel_rfl)) (fun _ _ _ h => h) (Or.inl ⟨by rfl, ?_⟩) ?_ ?_
            rotate_left
            ·intro w'
             go_simp
             with_reducible rfl
            rotate_left
            ·simp only [Act.put, List.setIfInBounds_toArray, List.set_cons_zero, List.set_cons_succ, i64_w, i32_w]
             rfl
            refine pure_ (i := 44) (N := some 86) (v := ?_) (a' := ?_) #[Y',Y',Y',Y',Y',Y',Y',Y',Y',Y',Y',Y',Y',Y',Y',Y',Y',Y',Y',Y',Y',Y',Y',Y',Y',Y',Y',Y',Y',Y',Y',Y',Y',Y',Y',Y',Y',Y',Y',Y',N',N',Y',Y',Y',N',N',N',N',N',N'] rfl rfl (any_of HT_.out (by kernel_rfl)) (fun _ _ _ h => h) (Or.inl ⟨by rfl, ?_⟩) ?_ ?_
            rotate_left
            ·intro w'
             go_simp
             with_reducible rfl
            rotate_left
            ·simp only [Act.put, List.setIfInBounds_toArray, List.set_cons_zero, List.set_cons_succ, i64_w, i32_w]
             rfl
            refine pure_ (i := 45) (N := some 87) (v := ?_) (a' := ?_) #[Y',Y',Y',Y',Y',Y',Y',Y',Y',Y',Y',Y',Y',Y',Y',Y',Y',Y',Y',Y',Y',Y',Y',Y',Y',Y',Y',Y',Y',Y',Y',Y',Y',Y',Y',Y',Y',Y',Y',Y',N',N',Y',Y',Y',Y',N',N',N',N',N'] rfl rfl (any_of HT_.out (by kernel_rfl)) (fun _ _ _ h => h) (Or.inl ⟨by rfl, ?_⟩) ?_ ?_
            rotate_left
            ·intro w'
             go_simp
             with_reducible rfl
            rotate_left
            ·simp only [Act.put, List.setIfInBounds_toArray, List.set_cons_zero, List.set_cons_succ, i64_w, i32_w]
             rfl
            refine pure_ (i := 46) (N := some 88) (v := ?_) (a' := ?_) #[Y',Y',Y',Y',Y',Y',Y',Y',Y',Y',Y',Y',Y',Y',Y',Y',Y',Y',Y',Y',Y',Y',Y',Y',Y',Y',Y',Y',Y',Y',Y',Y',Y',Y',Y',Y',Y',Y',Y',Y',N',N',Y',Y',Y',Y',Y',N',N',N',N'] rfl rfl (any_of HT_.out (by kernel_rfl)) (fun _ _ _ h => h) (Or.inl ⟨by rfl, ?_⟩) ?_ ?_
            rotate_left
            ·intro w'
             go_simp
             with_reducible rfl
            rotate_left
            ·simp only [Act.put, List.setIfInBounds_toArray, List.set_cons_zero, List.set_cons_succ, i64_w, i32_w]
             rfl
            refine take_ (i := 40) (N := some 82) (v := ?_) (a' := ?_) #[Y',Y',Y',Y',Y',Y',Y',Y',Y',Y',Y',Y',Y',Y',Y',Y',Y',Y',Y',Y',Y',Y',Y',Y',Y',Y',Y',Y',Y',Y',Y',Y',Y',Y',Y',Y',Y',Y',Y',Y',Y',N',Y',Y',Y',Y',Y',N',N',N',N'] rfl rfl (take_ofW HT_.out HW_.out (by kernel_rfl)) (fun _ _ _ h => h) (Or.inl ⟨by rfl, ?_⟩) hHeld ?_ ?_
            rotate_left
            ·rintro w' ⟨s0, s1, s2, s3, s4, s5, s6, s7, s8, s9, s10, s11, s12, s13, s14, s15, s16, s17, s18, s19, s20, s21, s22, s23, s24, s25, s26, s27, s28, s29, s30, s31, s32, s33, s34, s35⟩
             go_simp
             with_reducible rfl
            rotate_left
            ·simp only [Act.put, List.setIfInBounds_toArray, List.set_cons_zero, List.set_cons_succ, i64_w, i32_w]
             rfl
            refine take_ (i := 47) (N := some 89) (v := ?_) (a' := ?_) #[Y',Y',Y',Y',Y',Y',Y',Y',Y',Y',Y',Y',Y',Y',Y',Y',Y',Y',Y',Y',Y',Y',Y',Y',Y',Y',Y',Y',Y',Y',Y',Y',Y',Y',Y',Y',Y',Y',Y',Y',Y',N',Y',Y',Y',Y',Y',Y',N',N',N'] rfl rfl (take_ofW HT_.out HW_.out (by kernel_rfl)) (fun _ _ _ h => h) (Or.inl ⟨by rfl, ?_⟩) hHeld ?_ ?_
            rotate_left
            ·rintro w' ⟨s0, s1, s2, s3, s4, s5, s6, s7, s8, s9, s10, s11, s12, s13, s14, s15, s16, s17, s18, s19, s20, s21, s22, s23, s24, s25, s26, s27, s28, s29, s30, s31, s32, s33, s34, s35⟩
             go_simp
             with_reducible rfl
            rotate_left
            ·simp only [Act.put, List.setIfInBounds_toArray, List.set_cons_zero, List.set_cons_succ, i64_w, i32_w]
             rfl
            refine one_ (i := 41) (N := some 83) #[Y',Y',Y',Y',Y',Y',Y',Y',Y',Y',Y',Y',Y',Y',Y',Y',Y',Y',Y',Y',Y',Y',Y',Y',Y',Y',Y',Y',Y',Y',Y',Y',Y',Y',Y',Y',Y',Y',Y',Y',Y',Y',Y',Y',Y',Y',Y',Y',N',N',N'] rfl rfl (one_of HT_.out (by kernel_rfl)) (by decide) (fun K hK => ?_)
            refine goes_ Try.func16 (by kernel_rfl) rfl #[.slice Ao46 t237.length co46, .int .i64 ((rd_T33 l0 x9_2).f1)] (by rfl) rfl rfl (by (try simp only [List.map_toArray, List.map_cons, List.map_nil]); first | done | rfl | (simp only [List.length_drop, List.length_take]; rfl)) ?_
            with_reducible refine (span_Style.calls _ _ t237 ((rd_T33 l0 x9_2).f1) t287 t288 t289 t290 t291 t292 _ ?side1 ?side2 A42.out).mono ?_
            (case side1 => repeat (first | exact (Kd.R_reads' HO_8.out).2.2 | (with_reducible refine Kd.C_alloc ?_ _) | (with_reducible refine Kd.C_drewN ?_ _) | (with_reducible refine Kd.C_drew ?_)))
            (case side2 => exact (Kd.R_reads' HO_8.out).2.1)
            rintro e w51 ⟨rfl, hb⟩
            refine ⟨_, rfl, ?_⟩
            have n0_ := Aside0.mk (Kd.R_below (by (with_reducible repeat (first | apply Kd.R_alloc | apply Kd.R_drewN | apply Kd.R_drew)); exact HO_8.out) hb)
            have n1_ := Aside0.mk (below_step (by repeat (first | (with_reducible first | exact HB.out | apply below_alloc | apply pw_below_drewN | apply below_drew1) | exact HB.out)) hb)
            clear HO_8
            clear HB
            have HO_8 := n0_
            have HB := n1_
            clear n0_ n1_
            (try clear hb)
            (try clear hb2)
            (try clear hk)
            (try clear hi)
            refine hK.out _ _ ⟨((HB.out.cell (World.block_lt_of_cell? w _ hw258_0)).trans hw258_0), ((HB.out.cell (World.block_lt_of_cell? w _ hw258_1)).trans hw258_1), ((HB.out.cell (World.block_lt_of_cell? w _ hw258_2)).trans hw258_2), ((HB.out.cell (World.block_lt_of_cell? w _ hw258_3)).trans hw258_3), ((HB.out.cell (World.block_lt_of_cell? w _ hw258_4)).trans hw258_4), ((HB.out.cell (World.block_lt_of_cell? w _ hw258_5)).trans hw258_5), ((HB.out.cell (World.block_lt_of_cell? w _ hw265_0)).trans hw265_0), ((HB.out.cell (World.block_lt_of_cell? w _ hw265_1)).trans hw265_1), ((HB.out.cell (World.block_lt_of_cell? w _ hw265_2)).trans hw265_2), ((HB.out.cell (World.block_lt_of_cell? w _ hw265_3)).trans hw265_3), ((HB.out.cell (World.block_lt_of_cell? w _ hw265_4)).trans hw265_4), ((HB.out.cell (World.block_lt_of_cell? w _ hw265_5)).trans hw265_5), ((HB.out.cell (World.block_lt_of_cell? w _ hw272_0)).trans hw272_0), ((HB.out.cell (World.block_lt_of_cell? w _ hw272_1)).trans hw272_1), ((HB.out.cell (World.block_lt_of_cell? w _ hw272_2)).trans hw272_2), ((HB.out.cell (World.block_lt_of_cell? w _ hw272_3)).trans hw272_3), ((HB.out.cell (World.block_lt_of_cell? w _ hw272_4)).trans hw272_4), ((HB.out.cell (World.block_lt_of_cell? w _ hw272_5)).trans hw272_5), ((HB.out.cell (World.block_lt_of_cell? w _ hw279_0)).trans hw279_0), ((HB.out.cell (World.block_lt_of_cell? w _ hw279_1)).trans hw279_1), ((HB.out.cell (World.block_lt_of_cell? w _ hw279_2)).trans hw279_2), ((HB.out.cell (World.block_lt_of_cell? w _ hw279_3)).trans hw279_3), ((HB.out.cell (World.block_lt_of_cell? w _ hw279_4)).trans hw279_4), ((HB.out.cell (World.block_lt_of_cell? w _ hw279_5)).trans hw279_5), ((HB.out.cell (World.block_lt_of_cell? w _ hw286_0)).trans hw286_0), ((HB.out.cell (World.block_lt_of_cell? w _ hw286_1)).trans hw286_1), ((HB.out.cell (World.block_lt_of_cell? w _ hw286_2)).trans hw286_2), ((HB.out.cell (World.block_lt_of_cell? w _ hw286_3)).trans hw286_3), ((HB.out.cell (World.block_lt_of_cell? w _ hw286_4)).trans hw286_4), ((HB.out.cell (World.block_lt_of_cell? w _ hw286_5)).trans hw286_5), ((HB.out.cell (World.block_lt_of_cell? w _ hw293_0)).trans hw293_0), ((HB.out.cell (World.block_lt_of_cell? w _ hw293_1)).trans hw293_1), ((HB.out.cell (World.block_lt_of_cell? w _ hw293_2)).trans hw293_2), ((HB.out.cell (World.block_lt_of_cell? w _ hw293_3)).trans hw293_3), ((HB.out.cell (World.block_lt_of_cell? w _ hw293_4)).trans hw293_4), ((HB.out.cell (World.block_lt_of_cell? w _ hw293_5)).trans hw293_5)⟩ (fun hHeld => ?_)
            clear hK K
            refine norm_ (a' := ?_) ?_ ?_
            rotate_left
            ·show Act.put _ (some 83) _ = _
             simp only [Act.put, List.setIfInBounds_toArray, List.set_cons_zero, List.set_cons_succ, i64_w, i32_w]
             rfl
            refine one_ (i := 48) (N := some 90) #[Y',Y',Y',Y',Y',Y',Y',Y',Y',Y',Y',Y',Y',Y',Y',Y',Y',Y',Y',Y',Y',Y',Y',Y',Y',Y',Y',Y',Y',Y',Y',Y',Y',Y',Y',Y',Y',Y',Y',Y',Y',Y',Y',Y',Y',Y',Y',Y',Y',N',N'] rfl rfl (one_of HT_.out (by kernel_rfl)) (by decide) (fun K hK => ?_)
            refine goes_ Try.func16 (by kernel_rfl) rfl #[.slice (some ad258) l0.length c0, .int .i64 ((rd_T33 l0 x9_2).f1)] (by rfl) rfl rfl (by (try simp only [List.map_toArray, List.map_cons, List.map_nil]); first | done | rfl | (simp only [List.length_drop, List.length_take]; rfl)) ?_
            with_reducible refine (span_Style.calls _ _ l0 ((rd_T33 l0 x9_2).f1) t294 t295 t296 t297 t298 t299 _ ?side1 ?side2 A43.out).mono ?_
            (case side1 => repeat (first | exact (Kd.C_below HR0.out HB.out) | (with_reducible refine Kd.C_alloc ?_ _) | (with_reducible refine Kd.C_drewN ?_ _) | (with_reducible refine Kd.C_drew ?_)))
            (case side2 => exact HC0.out)
            rintro e w52 ⟨rfl, hb⟩
            refine ⟨_, rfl, ?_⟩
            have n0_ := Aside0.mk (Kd.R_below (by (with_reducible repeat (first | apply Kd.R_alloc | apply Kd.R_drewN | apply Kd.R_drew)); exact HO_8.out) hb)
            have n1_ := Aside0.mk (below_step (by repeat (first | (with_reducible first | exact HB.out | apply below_alloc | apply pw_below_drewN | apply below_drew1) | exact HB.out)) hb)
            clear HO_8
            clear HB
            have HO_8 := n0_
            have HB := n1_
            clear n0_ n1_
            (try clear hb)
            (try clear hb2)
            (try clear hk)
            (try clear hi)
            refine hK.out _ _ ⟨((HB.out.cell (World.block_lt_of_cell? w _ hw258_0)).trans hw258_0), ((HB.out.cell (World.block_lt_of_cell? w _ hw258_1)).trans hw258_1), ((HB.out.cell (World.block_lt_of_cell? w _ hw258_2)).trans hw258_2), ((HB.out.cell (World.block_lt_of_cell? w _ hw258_3)).trans hw258_3), ((HB.out.cell (World.block_lt_of_cell? w _ hw258_4)).trans hw258_4), ((HB.out.cell (World.block_lt_of_cell? w _ hw258_5)).trans hw258_5), ((HB.out.cell (World.block_lt_of_cell? w _ hw265_0)).trans hw265_0), ((HB.out.cell (World.block_lt_of_cell? w _ hw265_1)).trans hw265_1), ((HB.out.cell (World.block_lt_of_cell? w _ hw265_2)).trans hw265_2), ((HB.out.cell (World.block_lt_of_cell? w _ hw265_3)).trans hw265_3), ((HB.out.cell (World.block_lt_of_cell? w _ hw265_4)).trans hw265_4), ((HB.out.cell (World.block_lt_of_cell? w _ hw265_5)).trans hw265_5), ((HB.out.cell (World.block_lt_of_cell? w _ hw272_0)).trans hw272_0), ((HB.out.cell (World.block_lt_of_cell? w _ hw272_1)).trans hw272_1), ((HB.out.cell (World.block_lt_of_cell? w _ hw272_2)).trans hw272_2), ((HB.out.cell (World.block_lt_of_cell? w _ hw272_3)).trans hw272_3), ((HB.out.cell (World.block_lt_of_cell? w _ hw272_4)).trans hw272_4), ((HB.out.cell (World.block_lt_of_cell? w _ hw272_5)).trans hw272_5), ((HB.out.cell (World.block_lt_of_cell? w _ hw279_0)).trans hw279_0), ((HB.out.cell (World.block_lt_of_cell? w _ hw279_1)).trans hw279_1), ((HB.out.cell (World.block_lt_of_cell? w _ hw279_2)).trans hw279_2), ((HB.out.cell (World.block_lt_of_cell? w _ hw279_3)).trans hw279_3), ((HB.out.cell (World.block_lt_of_cell? w _ hw279_4)).trans hw279_4), ((HB.out.cell (World.block_lt_of_cell? w _ hw279_5)).trans hw279_5), ((HB.out.cell (World.block_lt_of_cell? w _ hw286_0)).trans hw286_0), ((HB.out.cell (World.block_lt_of_cell? w _ hw286_1)).trans hw286_1), ((HB.out.cell (World.block_lt_of_cell? w _ hw286_2)).trans hw286_2), ((HB.out.cell (World.block_lt_of_cell? w _ hw286_3)).trans hw286_3), ((HB.out.cell (World.block_lt_of_cell? w _ hw286_4)).trans hw286_4), ((HB.out.cell (World.block_lt_of_cell? w _ hw286_5)).trans hw286_5), ((HB.out.cell (World.block_lt_of_cell? w _ hw293_0)).trans hw293_0), ((HB.out.cell (World.block_lt_of_cell? w _ hw293_1)).trans hw293_1), ((HB.out.cell (World.block_lt_of_cell? w _ hw293_2)).trans hw293_2), ((HB.out.cell (World.block_lt_of_cell? w _ hw293_3)).trans hw293_3), ((HB.out.cell (World.block_lt_of_cell? w _ hw293_4)).trans hw293_4), ((HB.out.cell (World.block_lt_of_cell? w _ hw293_5)).trans hw293_5)⟩ (fun hHeld => ?_)
            clear hK K
            refine norm_ (a' := ?_) ?_ ?_
            rotate_left
            ·show Act.put _ (some 90) _ = _
             simp only [Act.put, List.setIfInBounds_toArray, List.set_cons_zero, List.set_cons_succ, i64_w, i32_w]
             rfl
            refine pure_ (i := 49) (N := some 91) (v := ?_) (a' := ?_) #[Y',Y',Y',Y',Y',Y',Y',Y',Y',Y',Y',Y',Y',Y',Y',Y',Y',Y',Y',Y',Y',Y',Y',Y',Y',Y',Y',Y',Y',Y',Y',Y',Y',Y',Y',Y',Y',Y',Y',Y',Y',Y',Y',Y',Y',Y',Y',Y',Y',Y',N'] rfl rfl (any_of HT_.out (by kernel_rfl)) (fun _ _ _ h => h) (Or.inl ⟨by rfl, ?_⟩) ?_ ?_
            rotate_left
            ·intro w'
             go_simp
             with_reducible rfl
            rotate_left
            ·simp only [Act.put, List.setIfInBounds_toArray, List.set_cons_zero, List.set_cons_succ, i64_w, i32_w]
             rfl
            refine pure_ (i := 50) (N := some 92) (v := ?_) (a' := ?_) #[Y',Y',Y',Y',Y',Y',Y',Y',Y',Y',Y',Y',Y',Y',Y',Y',Y',Y',Y',Y',Y',Y',Y',Y',Y',Y',Y',Y',Y',Y',Y',Y',Y',Y',Y',Y',Y',Y',Y',Y',Y',Y',Y',Y',Y',Y',Y',Y',Y',Y',Y'] rfl rfl (any_of HT_.out (by kernel_rfl)) (fun _ _ _ h => h) (Or.inl ⟨by rfl, ?_⟩) ?_ ?_
            rotate_left
            ·intro w'
             go_simp
             with_reducible rfl
            rotate_left
            ·simp only [Act.put, List.setIfInBounds_toArray, List.set_cons_zero, List.set_cons_succ, i64_w, i32_w]
             rfl
            refine done_ (done_of HT_.out (by kernel_rfl)) ?_
            try go_wp2
            go_ret
            exact ⟨by first | rfl | (simp [errW_none, errW_some] <;> rfl) | (simp [*, errW_none, errW_some] <;> rfl), by repeat (first | (with_reducible first | exact HB.out | apply below_alloc | apply pw_below_drewN | apply below_drew1) | exact HB.out)⟩
           ·rw [if_neg c44] at H
            have c44b0 : (!(t287 == t294) || (!(t288 == t295) || (!(t289 == t296) || (!(t290 == t297) || (!(t291.toList == t298.toList) || (!(t292 == t299))))))) = false := by simpa using c44
            clear c44
            have H' := Aside0.mk H
            clear H
            try go_wp2
            have n0_ := Aside0.mk (Kd.R_drew HO_8.out)
            have n1_ := Aside0.mk (below_drew1 HB.out)
            clear HO_8
            clear HB
            have HO_8 := n0_
            have HB := n1_
            clear n0_ n1_
            have p258 : 0 ≤ (x9_2 : Int) := of_decide_eq_true (by first | (with_reducible assumption) | assumption)
            have q258 : x9_2 < (l0.length : Int) := of_decide_eq_true (by first | (with_reducible assumption) | assumption)
            obtain ⟨ad258, e258, hx258_0, hx258_1, hx258_2, hx258_3, hx258_4, hx258_5⟩ := at_T33 HR0.out x9_2 p258 q258
            have hw258_5 := hx258_5
            have hw258_4 := hx258_4
            have hw258_3 := hx258_3
            have hw258_2 := hx258_2
            have hw258_1 := hx258_1
            have hw258_0 := hx258_0
            cases e258
            replace hx258_0 := (HB.out.cell (World.block_lt_of_cell? w _ hx258_0)).trans hx258_0
            replace hx258_1 := (HB.out.cell (World.block_lt_of_cell? w _ hx258_1)).trans hx258_1
            replace hx258_2 := (HB.out.cell (World.block_lt_of_cell? w _ hx258_2)).trans hx258_2
            replace hx258_3 := (HB.out.cell (World.block_lt_of_cell? w _ hx258_3)).trans hx258_3
            replace hx258_4 := (HB.out.cell (World.block_lt_of_cell? w _ hx258_4)).trans hx258_4
            replace hx258_5 := (HB.out.cell (World.block_lt_of_cell? w _ hx258_5)).trans hx258_5
            replace p258 := eq_true p258
            replace q258 := eq_true q258
            have p265 : 0 ≤ (x9_2 : Int) := of_decide_eq_true (by first | (with_reducible assumption) | assumption)
            have q265 : x9_2 < (l0.length : Int) := of_decide_eq_true (by first | (with_reducible assumption) | assumption)
            obtain ⟨ad265, e265, hx265_0, hx265_1, hx265_2, hx265_3, hx265_4, hx265_5⟩ := at_T33 HR0.out x9_2 p265 q265
            have hw265_5 := hx265_5
            have hw265_4 := hx265_4
            have hw265_3 := hx265_3
            have hw265_2 := hx265_2
            have hw265_1 := hx265_1
            have hw265_0 := hx265_0
            obtain rfl : ad258 = ad265 := (by injection e265)
            replace hx265_0 := (HB.out.cell (World.block_lt_of_cell? w _ hx265_0)).trans hx265_0
            replace hx265_1 := (HB.out.cell (World.block_lt_of_cell? w _ hx265_1)).trans hx265_1
            replace hx265_2 := (HB.out.cell (World.block_lt_of_cell? w _ hx265_2)).trans hx265_2
            replace hx265_3 := (HB.out.cell (World.block_lt_of_cell? w _ hx265_3)).trans hx265_3
            replace hx265_4 := (HB.out.cell (World.block_lt_of_cell? w _ hx265_4)).trans hx265_4
            replace hx265_5 := (HB.out.cell (World.block_lt_of_cell? w _ hx265_5)).trans hx265_5
            replace p265 := eq_true p265
            replace q265 := eq_true q265
            obtain ⟨Ao54, co54, eo54⟩ := Kd.R_slice HO_8.out
            (first | subst eo54 | (injection eo54 with f1_ f2_ f3_; have f4_ := f1_.symm; have f5_ := f3_.symm; clear f1_ f2_ f3_; subst f4_; subst f5_))
            have p272 : 0 ≤ (x9_2 : Int) := of_decide_eq_true (by first | (with_reducible assumption) | assumption)
            have q272 : x9_2 < (l0.length : Int) := of_decide_eq_true (by first | (with_reducible assumption) | assumption)
            obtain ⟨ad272, e272, hx272_0, hx272_1, hx272_2, hx272_3, hx272_4, hx272_5⟩ := at_T33 HR0.out x9_2 p272 q272
            have hw272_5 := hx272_5
            have hw272_4 := hx272_4
            have hw272_3 := hx272_3
            have hw272_2 := hx272_2
            have hw272_1 := hx272_1
            have hw272_0 := hx272_0
            obtain rfl : ad258 = ad272 := (by injection e272)
            replace hx272_0 := (HB.out.cell (World.block_lt_of_cell? w _ hx272_0)).trans hx272_0
            replace hx272_1 := (HB.out.cell (World.block_lt_of_cell? w _ hx272_1)).trans hx272_1
            replace hx272_2 := (HB.out.cell (World.block_lt_of_cell? w _ hx272_2)).trans hx272_2
            replace hx272_3 := (HB.out.cell (World.block_lt_of_cell? w _ hx272_3)).trans hx272_3
            replace hx272_4 := (HB.out.cell (World.block_lt_of_cell? w _ hx272_4)).trans hx272_4
            replace hx272_5 := (HB.out.cell (World.block_lt_of_cell? w _ hx272_5)).trans hx272_5
            replace p272 := eq_true p272
            replace q272 := eq_true q272
            have p279 : 0 ≤ (x9_2 : Int) := of_decide_eq_true (by first | (with_reducible assumption) | assumption)
            have q279 : x9_2 < (l0.length : Int) := of_decide_eq_true (by first | (with_reducible assumption) | assumption)
            obtain ⟨ad279, e279, hx279_0, hx279_1, hx279_2, hx279_3, hx279_4, hx279_5⟩ := at_T33 HR0.out x9_2 p279 q279
            have hw279_5 := hx279_5
            have hw279_4 := hx279_4
            have hw279_3 := hx279_3
            have hw279_2 := hx279_2
            have hw279_1 := hx279_1
            have hw279_0 := hx279_0
            obtain rfl : ad258 = ad279 := (by injection e279)
            replace hx279_0 := (HB.out.cell (World.block_lt_of_cell? w _ hx279_0)).trans hx279_0
            replace hx279_1 := (HB.out.cell (World.block_lt_of_cell? w _ hx279_1)).trans hx279_1
            replace hx279_2 := (HB.out.cell (World.block_lt_of_cell? w _ hx279_2)).trans hx279_2
            replace hx279_3 := (HB.out.cell (World.block_lt_of_cell? w _ hx279_3)).trans hx279_3
            replace hx279_4 := (HB.out.cell (World.block_lt_of_cell? w _ hx279_4)).trans hx279_4
            replace hx279_5 := (HB.out.cell (World.block_lt_of_cell? w _ hx279_5)).trans hx279_5
            replace p279 := eq_true p279
            replace q279 := eq_true q279
            have p286 : 0 ≤ (x9_2 : Int) := of_decide_eq_true (by first | (with_reducible assumption) | assumption)
            have q286 : x9_2 < (l0.length : Int) := of_decide_eq_true (by first | (with_reducible assumption) | assumption)
            obtain ⟨ad286, e286, hx286_0, hx286_1, hx286_2, hx286_3, hx286_4, hx286_5⟩ := at_T33 HR0.out x9_2 p286 q286
            have hw286_5 := hx286_5
            have hw286_4 := hx286_4
            have hw286_3 := hx286_3
            have hw286_2 := hx286_2
            have hw286_1 := hx286_1
            have hw286_0 := hx286_0
            obtain rfl : ad258 = ad286 := (by injection e286)
            replace hx286_0 := (HB.out.cell (World.block_lt_of_cell? w _ hx286_0)).trans hx286_0
            replace hx286_1 := (HB.out.cell (World.block_lt_of_cell? w _ hx286_1)).trans hx286_1
            replace hx286_2 := (HB.out.cell (World.block_lt_of_cell? w _ hx286_2)).trans hx286_2
            replace hx286_3 := (HB.out.cell (World.block_lt_of_cell? w _ hx286_3)).trans hx286_3
            replace hx286_4 := (HB.out.cell (World.block_lt_of_cell? w _ hx286_4)).trans hx286_4
            replace hx286_5 := (HB.out.cell (World.block_lt_of_cell? w _ hx286_5)).trans hx286_5
            replace p286 := eq_true p286
            replace q286 := eq_true q286
            have p293 : 0 ≤ (x9_2 : Int) := of_decide_eq_true (by first | (with_reducible assumption) | assumption)
            have q293 : x9_2 < (l0.length : Int) := of_decide_eq_true (by first | (with_reducible assumption) | assumption)
            obtain ⟨ad293, e293, hx293_0, hx293_1, hx293_2, hx293_3, hx293_4, hx293_5⟩ := at_T33 HR0.out x9_2 p293 q293
            have hw293_5 := hx293_5
            have hw293_4 := hx293_4
            have hw293_3 := hx293_3
            have hw293_2 := hx293_2
            have hw293_1 := hx293_1
            have hw293_0 := hx293_0
            obtain rfl : ad258 = ad293 := (by injection e293)
            replace hx293_0 := (HB.out.cell (World.block_lt_of_cell? w _ hx293_0)).trans hx293_0
            replace hx293_1 := (HB.out.cell (World.block_lt_of_cell? w _ hx293_1)).trans hx293_1
            replace hx293_2 := (HB.out.cell (World.block_lt_of_cell? w _ hx293_2)).trans hx293_2
            replace hx293_3 := (HB.out.cell (World.block_lt_of_cell? w _ hx293_3)).trans hx293_3
            replace hx293_4 := (HB.out.cell (World.block_lt_of_cell? w _ hx293_4)).trans hx293_4
            replace hx293_5 := (HB.out.cell (World.block_lt_of_cell? w _ hx293_5)).trans hx293_5
            replace p293 := eq_true p293
            replace q293 := eq_true q293
            refine start_ (n := 51) (S := fun w' => w'.cell? (ad258.add ((x9_2).toNat * 6)) = some (.int .i64 ((rd_T33 l0 x9_2).f0)) ∧ w'.cell? ⟨(ad258.add ((x9_2).toNat * 6)).block, (ad258.add ((x9_2).toNat * 6)).off + 1, none⟩ = some (.int .i64 ((rd_T33 l0 x9_2).f1)) ∧ w'.cell? ⟨(ad258.add ((x9_2).toNat * 6)).block, (ad258.add ((x9_2).toNat * 6)).off + 2, none⟩ = some (.int .i64 ((rd_T33 l0 x9_2).f2)) ∧ w'.cell? ⟨(ad258.add ((x9_2).toNat * 6)).block, (ad258.add ((x9_2).toNat * 6)).off + 3, none⟩ = some (.bool ((rd_T33 l0 x9_2).f3)) ∧ w'.cell? ⟨(ad258.add ((x9_2).toNat * 6)).block, (ad258.add ((x9_2).toNat * 6)).off + 4, none⟩ = some (.string ((rd_T33 l0 x9_2).f4)) ∧ w'.cell? ⟨(ad258.add ((x9_2).toNat * 6)).block, (ad258.add ((x9_2).toNat * 6)).off + 5, none⟩ = some (.int .u64 ((rd_T33 l0 x9_2).f5)) ∧ w'.cell? (ad258.add ((x9_2).toNat * 6)) = some (.int .i64 ((rd_T33 l0 x9_2).f0)) ∧ w'.cell? ⟨(ad258.add ((x9_2).toNat * 6)).block, (ad258.add ((x9_2).toNat * 6)).off + 1, none⟩ = some (.int .i64 ((rd_T33 l0 x9_2).f1)) ∧ w'.cell? ⟨(ad258.add ((x9_2).toNat * 6)).block, (ad258.add ((x9_2).toNat * 6)).off + 2, none⟩ = some (.int .i64 ((rd_T33 l0 x9_2).f2)) ∧ w'.cell? ⟨(ad258.add ((x9_2).toNat * 6)).block, (ad258.add ((x9_2).toNat * 6)).off + 3, none⟩ = some (.bool ((rd_T33 l0 x9_2).f3)) ∧ w'.cell? ⟨(ad258.add ((x9_2).toNat * 6)).block, (ad258.add ((x9_2).toNat * 6)).off + 4, none⟩ = some (.string ((rd_T33 l0 x9_2).f4)) ∧ w'.cell? ⟨(ad258.add ((x9_2).toNat * 6)).block, (ad258.add ((x9_2).toNat * 6)).off + 5, none⟩ = some (.int .u64 ((rd_T33 l0 x9_2).f5)) ∧ w'.cell? (ad258.add ((x9_2).toNat * 6)) = some (.int .i64 ((rd_T33 l0 x9_2).f0)) ∧ w'.cell? ⟨(ad258.add ((x9_2).toNat * 6)).block, (ad258.add ((x9_2).toNat * 6)).off + 1, none⟩ = some (.int .i64 ((rd_T33 l0 x9_2).f1)) ∧ w'.cell? ⟨(ad258.add ((x9_2).toNat * 6)).block, (ad258.add ((x9_2).toNat * 6)).off + 2, none⟩ = some (.int .i64 ((rd_T33 l0 x9_2).f2)) ∧ w'.cell? ⟨(ad258.add ((x9_2).toNat * 6)).block, (ad258.add ((x9_2).toNat * 6)).off + 3, none⟩ = some (.bool ((rd_T33 l0 x9_2).f3)) ∧ w'.cell? ⟨(ad258.add ((x9_2).toNat * 6)).block, (ad258.add ((x9_2).toNat * 6)).off + 4, none⟩ = some (.string ((rd_T33 l0 x9_2).f4)) ∧ w'.cell? ⟨(ad258.add ((x9_2).toNat * 6)).block, (ad258.add ((x9_2).toNat * 6)).off + 5, none⟩ = some (.int .u64 ((rd_T33 l0 x9_2).f5)) ∧ w'.cell? (ad258.add ((x9_2).toNat * 6)) = some (.int .i64 ((rd_T33 l0 x9_2).f0)) ∧ w'.cell? ⟨(ad258.add ((x9_2).toNat * 6)).block, (ad258.add ((x9_2).toNat * 6)).off + 1, none⟩ = some (.int .i64 ((rd_T33 l0 x9_2).f1)) ∧ w'.cell? ⟨(ad258.add ((x9_2).toNat * 6)).block, (ad258.add ((x9_2).toNat * 6)).off + 2, none⟩ = some (.int .i64 ((rd_T33 l0 x9_2).f2)) ∧ w'.cell? ⟨(ad258.add ((x9_2).toNat * 6)).block, (ad258.add ((x9_2).toNat * 6)).off + 3, none⟩ = some (.bool ((rd_T33 l0 x9_2).f3)) ∧ w'.cell? ⟨(ad258.add ((x9_2).toNat * 6)).block, (ad258.add ((x9_2).toNat * 6)).off + 4, none⟩ = some (.string ((rd_T33 l0 x9_2).f4)) ∧ w'.cell? ⟨(ad258.add ((x9_2).toNat * 6)).block, (ad258.add ((x9_2).toNat * 6)).off + 5, none⟩ = some (.int .u64 ((rd_T33 l0 x9_2).f5)) ∧ w'.cell? (ad258.add ((x9_2).toNat * 6)) = some (.int .i64 ((rd_T33 l0 x9_2).f0)) ∧ w'.cell? ⟨(ad258.add ((x9_2).toNat * 6)).block, (ad258.add ((x9_2).toNat * 6)).off + 1, none⟩ = some (.int .i64 ((rd_T33 l0 x9_2).f1)) ∧ w'.cell? ⟨(ad258.add ((x9_2).toNat * 6)).block, (ad258.add ((x9_2).toNat * 6)).off + 2, none⟩ = some (.int .i64 ((rd_T33 l0 x9_2).f2)) ∧ w'.cell? ⟨(ad258.add ((x9_2).toNat * 6)).block, (ad258.add ((x9_2).toNat * 6)).off + 3, none⟩ = some (.bool ((rd_T33 l0 x9_2).f3)) ∧ w'.cell? ⟨(ad258.add ((x9_2).toNat * 6)).block, (ad258.add ((x9_2).toNat * 6)).off + 4, none⟩ = some (.string ((rd_T33 l0 x9_2).f4)) ∧ w'.cell? ⟨(ad258.add ((x9_2).toNat * 6)).block, (ad258.add ((x9_2).toNat * 6)).off + 5, none⟩ = some (.int .u64 ((rd_T33 l0 x9_2).f5)) ∧ w'.cell? (ad258.add ((x9_2).toNat * 6)) = some (.int .i64 ((rd_T33 l0 x9_2).f0)) ∧ w'.cell? ⟨(ad258.add ((x9_2).toNat * 6)).block, (ad258.add ((x9_2).toNat * 6)).off + 1, none⟩ = some (.int .i64 ((rd_T33 l0 x9_2).f1)) ∧ w'.cell? ⟨(ad258.add ((x9_2).toNat * 6)).block, (ad258.add ((x9_2).toNat * 6)).off + 2, none⟩ = some (.int .i64 ((rd_T33 l0 x9_2).f2)) ∧ w'.cell? ⟨(ad258.add ((x9_2).toNat * 6)).block, (ad258.add ((x9_2).toNat * 6)).off + 3, none⟩ = some (.bool ((rd_T33 l0 x9_2).f3)) ∧ w'.cell? ⟨(ad258.add ((x9_2).toNat * 6)).block, (ad258.add ((x9_2).toNat * 6)).off + 4, none⟩ = some (.string ((rd_T33 l0 x9_2).f4)) ∧ w'.cell? ⟨(ad258.add ((x9_2).toNat * 6)).block, (ad258.add ((x9_2).toNat * 6)).off + 5, none⟩ = some (.int .u64 ((rd_T33 l0 x9_2).f5))) (ds := []) #[N',N',N',N',N',N',N',N',N',N',N',N',N',N',N',N',N',N',N',N',N',N',N',N',N',N',N',N',N',N',N',N',N',N',N',N',N',N',N',N',N',N',N',N',N',N',N',N',N',N',N'] (by kernel_rfl) rfl rfl ⟨((HB.out.cell (World.block_lt_of_cell? w _ hw258_0)).trans hw258_0), ((HB.out.cell (World.block_lt_of_cell? w _ hw258_1)).trans hw258_1), ((HB.out.cell (World.block_lt_of_cell? w _ hw258_2)).trans hw258_2), ((HB.out.cell (World.block_lt_of_cell? w _ hw258_3)).trans hw258_3), ((HB.out.cell (World.block_lt_of_cell? w _ hw258_4)).trans hw258_4), ((HB.out.cell (World.block_lt_of_cell? w _ hw258_5)).trans hw258_5), ((HB.out.cell (World.block_lt_of_cell? w _ hw265_0)).trans hw265_0), ((HB.out.cell (World.block_lt_of_cell? w _ hw265_1)).trans hw265_1), ((HB.out.cell (World.block_lt_of_cell? w _ hw265_2)).trans hw265_2), ((HB.out.cell (World.block_lt_of_cell? w _ hw265_3)).trans hw265_3), ((HB.out.cell (World.block_lt_of_cell? w _ hw265_4)).trans hw265_4), ((HB.out.cell (World.block_lt_of_cell? w _ hw265_5)).trans hw265_5), ((HB.out.cell (World.block_lt_of_cell? w _ hw272_0)).trans hw272_0), ((HB.out.cell (World.block_lt_of_cell? w _ hw272_1)).trans hw272_1), ((HB.out.cell (World.block_lt_of_cell? w _ hw272_2)).trans hw272_2), ((HB.out.cell (World.block_lt_of_cell? w _ hw272_3)).trans hw272_3), ((HB.out.cell (World.block_lt_of_cell? w _ hw272_4)).trans hw272_4), ((HB.out.cell (World.block_lt_of_cell? w _ hw272_5)).trans hw272_5), ((HB.out.cell (World.block_lt_of_cell? w _ hw279_0)).trans hw279_0), ((HB.out.cell (World.block_lt_of_cell? w _ hw279_1)).trans hw279_1), ((HB.out.cell (World.block_lt_of_cell? w _ hw279_2)).trans hw279_2), ((HB.out.cell (World.block_lt_of_cell? w _ hw279_3)).trans hw279_3), ((HB.out.cell (World.block_lt_of_cell? w _ hw279_4)).trans hw279_4), ((HB.out.cell (World.block_lt_of_cell? w _ hw279_5)).trans hw279_5), ((HB.out.cell (World.block_lt_of_cell? w _ hw286_0)).trans hw286_0), ((HB.out.cell (World.block_lt_of_cell? w _ hw286_1)).trans hw286_1), ((HB.out.cell (World.block_lt_of_cell? w _ hw286_2)).trans hw286_2), ((HB.out.cell (World.block_lt_of_cell? w _ hw286_3)).trans hw286_3), ((HB.out.cell (World.block_lt_of_cell? w _ hw286_4)).trans hw286_4), ((HB.out.cell (World.block_lt_of_cell? w _ hw286_5)).trans hw286_5), ((HB.out.cell (World.block_lt_of_cell? w _ hw293_0)).trans hw293_0), ((HB.out.cell (World.block_lt_of_cell? w _ hw293_1)).trans hw293_1), ((HB.out.cell (World.block_lt_of_cell? w _ hw293_2)).trans hw293_2), ((HB.out.cell (World.block_lt_of_cell? w _ hw293_3)).trans hw293_3), ((HB.out.cell (World.block_lt_of_cell? w _ hw293_4)).trans hw293_4), ((HB.out.cell (World.block_lt_of_cell? w _ hw293_5)).trans hw293_5)⟩ (fun hHeld => ?_); refine with_tabW frisketlaw07_SpanNormal.tab10 frisketlaw07_SpanNormal.bits10 (fun HT_ HW_ => ?_)
            generalize wr.drew = w53 at HO_8 HB hx258_0 hx258_1 hx258_2 hx258_3 hx258_4 hx258_5 hx265_0 hx265_1 hx265_2 hx265_3 hx265_4 hx265_5 hx272_0 hx272_1 hx272_2 hx272_3 hx272_4 hx272_5 hx279_0 hx279_1 hx279_2 hx279_3 hx279_4 hx279_5 hx286_0 hx286_1 hx286_2 hx286_3 hx286_4 hx286_5 hx293_0 hx293_1 hx293_2 hx293_3 hx293_4 hx293_5 hHeld ⊢
            refine pure_ (i := 0) (N := some 42) (v := ?_) (a' := ?_) #[Y',N',N',N',N',N',N',N',N',N',N',N',N',N',N',N',N',N',N',N',N',N',N',N',N',N',N',N',N',N',N',N',N',N',N',N',N',N',N',N',N',N',N',N',N',N',N',N',N',N',N'] rfl rfl (any_of HT_.out (by kernel_rfl)) (fun _ _ _ h => h) (Or.inl ⟨by rfl, ?_⟩) ?_ ?_
            rotate_left
            ·intro w'
             go_simp
             with_reducible rfl
            rotate_left
            ·simp only [Act.put, List.setIfInBounds_toArray, List.set_cons_zero, List.set_cons_succ, i64_w, i32_w]
             rfl
            refine pure_ (i := 1) (N := some 43) (v := ?_) (a' := ?_) #[Y',Y',N',N',N',N',N',N',N',N',N',N',N',N',N',N',N',N',N',N',N',N',N',N',N',N',N',N',N',N',N',N',N',N',N',N',N',N',N',N',N',N',N',N',N',N',N',N',N',N',N'] rfl rfl (any_of HT_.out (by kernel_rfl)) (fun _ _ _ h => h) (Or.inl ⟨by rfl, ?_⟩) ?_ ?_
            rotate_left
            ·intro w'
             go_simp
             with_reducible rfl
            rotate_left
            ·simp only [Act.put, List.setIfInBounds_toArray, List.set_cons_zero, List.set_cons_succ, i64_w, i32_w]
             rfl
            refine pure_ (i := 2) (N := some 44) (v := ?_) (a' := ?_) #[Y',Y',Y',N',N',N',N',N',N',N',N',N',N',N',N',N',N',N',N',N',N',N',N',N',N',N',N',N',N',N',N',N',N',N',N',N',N',N',N',N',N',N',N',N',N',N',N',N',N',N',N'] rfl rfl (any_of HT_.out (by kernel_rfl)) (fun _ _ _ h => h) (Or.inl ⟨by rfl, ?_⟩) ?_ ?_
            rotate_left
            ·intro w'
             go_simp
             with_reducible rfl
            rotate_left
            ·simp only [Act.put, List.setIfInBounds_toArray, List.set_cons_zero, List.set_cons_succ, i64_w, i32_w]
             rfl
            refine pure_ (i := 3) (N := some 45) (v := ?_) (a' := ?_) #[Y',Y',Y',Y',N',N',N',N',N',N',N',N',N',N',N',N',N',N',N',N',N',N',N',N',N',N',N',N',N',N',N',N',N',N',N',N',N',N',N',N',N',N',N',N',N',N',N',N',N',N',N'] rfl rfl (any_of HT_.out (by kernel_rfl)) (fun _ _ _ h => h) (Or.inl ⟨by rfl, ?_⟩) ?_ ?_
            rotate_left
            ·intro w'
             go_simp
             with_reducible rfl
            rotate_left
            ·simp only [Act.put, List.setIfInBounds_toArray, List.set_cons_zero, List.set_cons_succ, i64_w, i32_w]
             rfl
            refine pure_ (i := 4) (N := some 46) (v := ?_) (a' := ?_) #[Y',Y',Y',Y',Y',N',N',N',N',N',N',N',N',N',N',N',N',N',N',N',N',N',N',N',N',N',N',N',N',N',N',N',N',N',N',N',N',N',N',N',N',N',N',N',N',N',N',N',N',N',N'] rfl rfl (any_of HT_.out (by kernel_rfl)) (fun _ _ _ h => h) (Or.inl ⟨by rfl, ?_⟩) ?_ ?_
            rotate_left
            ·intro w'
             go_simp
             with_reducible rfl
            rotate_left
            ·simp only [Act.put, List.setIfInBounds_toArray, List.set_cons_zero, List.set_cons_succ, i64_w, i32_w]
             rfl
            refine pure_ (i := 7) (N := some 49) (v := ?_) (a' := ?_) #[Y',Y',Y',Y',Y',N',N',Y',N',N',N',N',N',N',N',N',N',N',N',N',N',N',N',N',N',N',N',N',N',N',N',N',N',N',N',N',N',N',N',N',N',N',N',N',N',N',N',N',N',N',N'] rfl rfl (any_of HT_.out (by kernel_rfl)) (fun _ _ _ h => h) (Or.inl ⟨by rfl, ?_⟩) ?_ ?_
            rotate_left
            ·intro w'
             go_simp
             with_reducible rfl
            rotate_left
            ·simp only [Act.put, List.setIfInBounds_toArray, List.set_cons_zero, List.set_cons_succ, i64_w, i32_w]
             rfl
            refine pure_ (i := 8) (N := some 50) (v := ?_) (a' := ?_) #[Y',Y',Y',Y',Y',N',N',Y',Y',N',N',N',N',N',N',N',N',N',N',N',N',N',N',N',N',N',N',N',N',N',N',N',N',N',N',N',N',N',N',N',N',N',N',N',N',N',N',N',N',N',N'] rfl rfl (any_of HT_.out (by kernel_rfl)) (fun _ _ _ h => h) (Or.inl ⟨by rfl, ?_⟩) ?_ ?_
            rotate_left
            ·intro w'
             go_simp
             with_reducible rfl
            rotate_left
            ·simp only [Act.put, List.setIfInBounds_toArray, List.set_cons_zero, List.set_cons_succ, i64_w, i32_w]
             rfl
            refine pure_ (i := 9) (N := some 51) (v := ?_) (a' := ?_) #[Y',Y',Y',Y',Y',N',N',Y',Y',Y',N',N',N',N',N',N',N',N',N',N',N',N',N',N',N',N',N',N',N',N',N',N',N',N',N',N',N',N',N',N',N',N',N',N',N',N',N',N',N',N',N'] rfl rfl (any_of HT_.out (by kernel_rfl)) (fun _ _ _ h => h) (Or.inl ⟨by rfl, ?_⟩) ?_ ?_
            rotate_left
            ·intro w'
             go_simp
             with_reducible rfl
            rotate_left
            ·simp only [Act.put, List.setIfInBounds_toArray, List.set_cons_zero, List.set_cons_succ, i64_w, i32_w]
             rfl
            refine pure_ (i := 10) (N := some 52) (v := ?_) (a' := ?_) #[Y',Y',Y',Y',Y',N',N',Y',Y',Y',Y',N',N',N',N',N',N',N',N',N',N',N',N',N',N',N',N',N',N',N',N',N',N',N',N',N',N',N',N',N',N',N',N',N',N',N',N',N',N',N',N'] rfl rfl (any_of HT_.out (by kernel_rfl)) (fun _ _ _ h => h) (Or.inl ⟨by rfl, ?_⟩) ?_ ?_
            rotate_left
            ·intro w'
             go_simp
             with_reducible rfl
            rotate_left
            ·simp only [Act.put, List.setIfInBounds_toArray, List.set_cons_zero, List.set_cons_succ, i64_w, i32_w]
             rfl
            refine pure_ (i := 11) (N := some 53) (v := ?_) (a' := ?_) #[Y',Y',Y',Y',Y',N',N',Y',Y',Y',Y',Y',N',N',N',N',N',N',N',N',N',N',N',N',N',N',N',N',N',N',N',N',N',N',N',N',N',N',N',N',N',N',N',N',N',N',N',N',N',N',N'] rfl rfl (any_of HT_.out (by kernel_rfl)) (fun _ _ _ h => h) (Or.inl ⟨by rfl, ?_⟩) ?_ ?_
            rotate_left
            ·intro w'
             go_simp
             with_reducible rfl
            rotate_left
            ·simp only [Act.put, List.setIfInBounds_toArray, List.set_cons_zero, List.set_cons_succ, i64_w, i32_w]
             rfl
            refine take_ (i := 5) (N := some 47) (v := ?_) (a' := ?_) #[Y',Y',Y',Y',Y',Y',N',Y',Y',Y',Y',Y',N',N',N',N',N',N',N',N',N',N',N',N',N',N',N',N',N',N',N',N',N',N',N',N',N',N',N',N',N',N',N',N',N',N',N',N',N',N',N'] rfl rfl (take_ofW HT_.out HW_.out (by kernel_rfl)) (fun _ _ _ h => h) (Or.inl ⟨by rfl, ?_⟩) hHeld ?_ ?_
            rotate_left
            ·rintro w' ⟨s0, s1, s2, s3, s4, s5, s6, s7, s8, s9, s10, s11, s12, s13, s14, s15, s16, s17, s18, s19, s20, s21, s22, s23, s24, s25, s26, s27, s28, s29, s30, s31, s32, s33, s34, s35⟩
             go_simp
             with_reducible rfl
            rotate_left
            ·simp only [Act.put, List.setIfInBounds_toArray, List.set_cons_zero, List.set_cons_succ, i64_w, i32_w]
             rfl
            refine take_ (i := 12) (N := some 54) (v := ?_) (a' := ?_) #[Y',Y',Y',Y',Y',Y',N',Y',Y',Y',Y',Y',Y',N',N',N',N',N',N',N',N',N',N',N',N',N',N',N',N',N',N',N',N',N',N',N',N',N',N',N',N',N',N',N',N',N',N',N',N',N',N'] rfl rfl (take_ofW HT_.out HW_.out (by kernel_rfl)) (fun _ _ _ h => h) (Or.inl ⟨by rfl, ?_⟩) hHeld ?_ ?_
            rotate_left
            ·rintro w' ⟨s0, s1, s2, s3, s4, s5, s6, s7, s8, s9, s10, s11, s12, s13, s14, s15, s16, s17, s18, s19, s20, s21, s22, s23, s24, s25, s26, s27, s28, s29, s30, s31, s32, s33, s34, s35⟩
             go_simp
             with_reducible rfl
            rotate_left
            ·simp only [Act.put, List.setIfInBounds_toArray, List.set_cons_zero, List.set_cons_succ, i64_w, i32_w]
             rfl
            refine one_ (i := 6) (N := some 48) #[Y',Y',Y',Y',Y',Y',Y',Y',Y',Y',Y',Y',Y',N',N',N',N',N',N',N',N',N',N',N',N',N',N',N',N',N',N',N',N',N',N',N',N',N',N',N',N',N',N',N',N',N',N',N',N',N',N'] rfl rfl (one_of HT_.out (by kernel_rfl)) (by decide) (fun K hK => ?_)
            refine goes_ Try.func16 (by kernel_rfl) rfl #[.slice Ao54 t237.length co54, .int .i64 ((rd_T33 l0 x9_2).f0)] (by rfl) rfl rfl (by (try simp only [List.map_toArray, List.map_cons, List.map_nil]); first | done | rfl | (simp only [List.length_drop, List.length_take]; rfl)) ?_
            with_reducible refine (span_Style.calls _ _ t237 ((rd_T33 l0 x9_2).f0) t259 t260 t261 t262 t263 t264 _ ?side1 ?side2 A26.out).mono ?_
            (case side1 => repeat (first | exact (Kd.R_reads' HO_8.out).2.2 | (with_reducible refine Kd.C_alloc ?_ _) | (with_reducible refine Kd.C_drewN ?_ _) | (with_reducible refine Kd.C_drew ?_)))
            (case side2 => exact (Kd.R_reads' HO_8.out).2.1)
            rintro e w55 ⟨rfl, hb⟩
            refine ⟨_, rfl, ?_⟩
            have n0_ := Aside0.mk (Kd.R_below (by (with_reducible repeat (first | apply Kd.R_alloc | apply Kd.R_drewN | apply Kd.R_drew)); exact HO_8.out) hb)
            have n1_ := Aside0.mk (below_step (by repeat (first | (with_reducible first | exact HB.out | apply below_alloc | apply pw_below_drewN | apply below_drew1) | exact HB.out)) hb)
            clear HO_8
            clear HB
            have HO_8 := n0_
            have HB := n1_
            clear n0_ n1_
            (try clear hb)
            (try clear hb2)
            (try clear hk)
            (try clear hi)
            refine hK.out _ _ ⟨((HB.out.cell (World.block_lt_of_cell? w _ hw258_0)).trans hw258_0), ((HB.out.cell (World.block_lt_of_cell? w _ hw258_1)).trans hw258_1), ((HB.out.cell (World.block_lt_of_cell? w _ hw258_2)).trans hw258_2), ((HB.out.cell (World.block_lt_of_cell? w _ hw258_3)).trans hw258_3), ((HB.out.cell (World.block_lt_of_cell? w _ hw258_4)).trans hw258_4), ((HB.out.cell (World.block_lt_of_cell? w _ hw258_5)).trans hw258_5), ((HB.out.cell (World.block_lt_of_cell? w _ hw265_0)).trans hw265_0), ((HB.out.cell (World.block_lt_of_cell? w _ hw265_1)).trans hw265_1), ((HB.out.cell (World.block_lt_of_cell? w _ hw265_2)).trans hw265_2), ((HB.out.cell (World.block_lt_of_cell? w _ hw265_3)).trans hw265_3), ((HB.out.cell (World.block_lt_of_cell? w _ hw265_4)).trans hw265_4), ((HB.out.cell (World.block_lt_of_cell? w _ hw265_5)).trans hw265_5), ((HB.out.cell (World.block_lt_of_cell? w _ hw272_0)).trans hw272_0), ((HB.out.cell (World.block_lt_of_cell? w _ hw272_1)).trans hw272_1), ((HB.out.cell (World.block_lt_of_cell? w _ hw272_2)).trans hw272_2), ((HB.out.cell (World.block_lt_of_cell? w _ hw272_3)).trans hw272_3), ((HB.out.cell (World.block_lt_of_cell? w _ hw272_4)).trans hw272_4), ((HB.out.cell (World.block_lt_of_cell? w _ hw272_5)).trans hw272_5), ((HB.out.cell (World.block_lt_of_cell? w _ hw279_0)).trans hw279_0), ((HB.out.cell (World.block_lt_of_cell? w _ hw279_1)).trans hw279_1), ((HB.out.cell (World.block_lt_of_cell? w _ hw279_2)).trans hw279_2), ((HB.out.cell (World.block_lt_of_cell? w _ hw279_3)).trans hw279_3), ((HB.out.cell (World.block_lt_of_cell? w _ hw279_4)).trans hw279_4), ((HB.out.cell (World.block_lt_of_cell? w _ hw279_5)).trans hw279_5), ((HB.out.cell (World.block_lt_of_cell? w _ hw286_0)).trans hw286_0), ((HB.out.cell (World.block_lt_of_cell? w _ hw286_1)).trans hw286_1), ((HB.out.cell (World.block_lt_of_cell? w _ hw286_2)).trans hw286_2), ((HB.out.cell (World.block_lt_of_cell? w _ hw286_3)).trans hw286_3), ((HB.out.cell (World.block_lt_of_cell? w _ hw286_4)).trans hw286_4), ((HB.out.cell (World.block_lt_of_cell? w _ hw286_5)).trans hw286_5), ((HB.out.cell (World.block_lt_of_cell? w _ hw293_0)).trans hw293_0), ((HB.out.cell (World.block_lt_of_cell? w _ hw293_1)).trans hw293_1), ((HB.out.cell (World.block_lt_of_cell? w _ hw293_2)).trans hw293_2), ((HB.out.cell (World.block_lt_of_cell? w _ hw293_3)).trans hw293_3), ((HB.out.cell (World.block_lt_of_cell? w _ hw293_4)).trans hw293_4), ((HB.out.cell (World.block_lt_of_cell? w _ hw293_5)).trans hw293_5)⟩ (fun hHeld => ?_)
            clear hK K
            refine norm_ (a' := ?_) ?_ ?_
            rotate_left
            ·show Act.put _ (some 48) _ = _
             simp only [Act.put, List.setIfInBounds_toArray, List.set_cons_zero, List.set_cons_succ, i64_w, i32_w]
             rfl
            refine one_ (i := 13) (N := some 55) #[Y',Y',Y',Y',Y',Y',Y',Y',Y',Y',Y',Y',Y',Y',N',N',N',N',N',N',N',N',N',N',N',N',N',N',N',N',N',N',N',N',N',N',N',N',N',N',N',N',N',N',N',N',N',N',N',N',N'] rfl rfl (one_of HT_.out (by kernel_rfl)) (by decide) (fun K hK => ?_)
            refine goes_ Try.func16 (by kernel_rfl) rfl #[.slice (some ad258) l0.length c0, .int .i64 ((rd_T33 l0 x9_2).f0)] (by rfl) rfl rfl (by (try simp only [List.map_toArray, List.map_cons, List.map_nil]); first | done | rfl | (simp only [List.length_drop, List.length_take]; rfl)) ?_
            with_reducible refine (span_Style.calls _ _ l0 ((rd_T33 l0 x9_2).f0) t266 t267 t268 t269 t270 t271 _ ?side1 ?side2 A27.out).mono ?_
            (case side1 => repeat (first | exact (Kd.C_below HR0.out HB.out) | (with_reducible refine Kd.C_alloc ?_ _) | (with_reducible refine Kd.C_drewN ?_ _) | (with_reducible refine Kd.C_drew ?_)))
            (case side2 => exact HC0.out)
            rintro e w56 ⟨rfl, hb⟩
            refine ⟨_, rfl, ?_⟩
            have n0_ := Aside0.mk (Kd.R_below (by (with_reducible repeat (first | apply Kd.R_alloc | apply Kd.R_drewN | apply Kd.R_drew)); exact HO_8.out) hb)
            have n1_ := Aside0.mk (below_step (by repeat (first | (with_reducible first | exact HB.out | apply below_alloc | apply pw_below_drewN | apply below_drew1) | exact HB.out)) hb)
            clear HO_8
            clear HB
            have HO_8 := n0_
            have HB := n1_
            clear n0_ n1_
            (try clear hb)
            (try clear hb2)
            (try clear hk)
            (try clear hi)
            refine hK.out _ _ ⟨((HB.out.cell (World.block_lt_of_cell? w _ hw258_0)).trans hw258_0), ((HB.out.cell (World.block_lt_of_cell? w _ hw258_1)).trans hw258_1), ((HB.out.cell (World.block_lt_of_cell? w _ hw258_2)).trans hw258_2), ((HB.out.cell (World.block_lt_of_cell? w _ hw258_3)).trans hw258_3), ((HB.out.cell (World.block_lt_of_cell? w _ hw258_4)).trans hw258_4), ((HB.out.cell (World.block_lt_of_cell? w _ hw258_5)).trans hw258_5), ((HB.out.cell (World.block_lt_of_cell? w _ hw265_0)).trans hw265_0), ((HB.out.cell (World.block_lt_of_cell? w _ hw265_1)).trans hw265_1), ((HB.out.cell (World.block_lt_of_cell? w _ hw265_2)).trans hw265_2), ((HB.out.cell (World.block_lt_of_cell? w _ hw265_3)).trans hw265_3), ((HB.out.cell (World.block_lt_of_cell? w _ hw265_4)).trans hw265_4), ((HB.out.cell (World.block_lt_of_cell? w _ hw265_5)).trans hw265_5), ((HB.out.cell (World.block_lt_of_cell? w _ hw272_0)).trans hw272_0), ((HB.out.cell (World.block_lt_of_cell? w _ hw272_1)).trans hw272_1), ((HB.out.cell (World.block_lt_of_cell? w _ hw272_2)).trans hw272_2), ((HB.out.cell (World.block_lt_of_cell? w _ hw272_3)).trans hw272_3), ((HB.out.cell (World.block_lt_of_cell? w _ hw272_4)).trans hw272_4), ((HB.out.cell (World.block_lt_of_cell? w _ hw272_5)).trans hw272_5), ((HB.out.cell (World.block_lt_of_cell? w _ hw279_0)).trans hw279_0), ((HB.out.cell (World.block_lt_of_cell? w _ hw279_1)).trans hw279_1), ((HB.out.cell (World.block_lt_of_cell? w _ hw279_2)).trans hw279_2), ((HB.out.cell (World.block_lt_of_cell? w _ hw279_3)).trans hw279_3), ((HB.out.cell (World.block_lt_of_cell? w _ hw279_4)).trans hw279_4), ((HB.out.cell (World.block_lt_of_cell? w _ hw279_5)).trans hw279_5), ((HB.out.cell (World.block_lt_of_cell? w _ hw286_0)).trans hw286_0), ((HB.out.cell (World.block_lt_of_cell? w _ hw286_1)).trans hw286_1), ((HB.out.cell (World.block_lt_of_cell? w _ hw286_2)).trans hw286_2), ((HB.out.cell (World.block_lt_of_cell? w _ hw286_3)).trans hw286_3), ((HB.out.cell (World.block_lt_of_cell? w _ hw286_4)).trans hw286_4), ((HB.out.cell (World.block_lt_of_cell? w _ hw286_5)).trans hw286_5), ((HB.out.cell (World.block_lt_of_cell? w _ hw293_0)).trans hw293_0), ((HB.out.cell (World.block_lt_of_cell? w _ hw293_1)).trans hw293_1), ((HB.out.cell (World.block_lt_of_cell? w _ hw293_2)).trans hw293_2), ((HB.out.cell (World.block_lt_of_cell? w _ hw293_3)).trans hw293_3), ((HB.out.cell (World.block_lt_of_cell? w _ hw293_4)).trans hw293_4), ((HB.out.cell (World.block_lt_of_cell? w _ hw293_5)).trans hw293_5)⟩ (fun hHeld => ?_)
            clear hK K
            refine norm_ (a' := ?_) ?_ ?_
            rotate_left
            ·show Act.put _ (some 55) _ = _
             simp only [Act.put, List.setIfInBounds_toArray, List.set_cons_zero, List.set_cons_succ, i64_w, i32_w]
             rfl
            refine pure_ (i := 14) (N := some 56) (v := ?_) (a' := ?_) #[Y',Y',Y',Y',Y',Y',Y',Y',Y',Y',Y',Y',Y',Y',Y',N',N',N',N',N',N',N',N',N',N',N',N',N',N',N',N',N',N',N',N',N',N',N',N',N',N',N',N',N',N',N',N',N',N',N',N'] rfl rfl (any_of HT_.out (by kernel_rfl)) (fun _ _ _ h => h) (Or.inl ⟨by rfl, ?_⟩) ?_ ?_
            rotate_left
            ·intro w'
             go_simp
             with_reducible rfl
            rotate_left
            ·simp only [Act.put, List.setIfInBounds_toArray, List.set_cons_zero, List.set_cons_succ, i64_w, i32_w]
             rfl
            refine pure_ (i := 15) (N := some 57) (v := ?_) (a' := ?_) #[Y',Y',Y',Y',Y',Y',Y',Y',Y',Y',Y',Y',Y',Y',Y',Y',N',N',N',N',N',N',N',N',N',N',N',N',N',N',N',N',N',N',N',N',N',N',N',N',N',N',N',N',N',N',N',N',N',N',N'] rfl rfl (any_of HT_.out (by kernel_rfl)) (fun _ _ _ h => h) (Or.inl ⟨by rfl, ?_⟩) ?_ ?_
            rotate_left
            ·intro w'
             go_simp
             with_reducible rfl
            rotate_left
            ·simp only [Act.put, List.setIfInBounds_toArray, List.set_cons_zero, List.set_cons_succ, i64_w, i32_w]
             rfl
            refine pure_ (i := 16) (N := some 58) (v := ?_) (a' := ?_) #[Y',Y',Y',Y',Y',Y',Y',Y',Y',Y',Y',Y',Y',Y',Y',Y',Y',N',N',N',N',N',N',N',N',N',N',N',N',N',N',N',N',N',N',N',N',N',N',N',N',N',N',N',N',N',N',N',N',N',N'] rfl rfl (any_of HT_.out (by kernel_rfl)) (fun _ _ _ h => h) (Or.inl ⟨by rfl, ?_⟩) ?_ ?_
            rotate_left
            ·intro w'
             go_simp
             with_reducible rfl
            rotate_left
            ·simp only [Act.put, List.setIfInBounds_toArray, List.set_cons_zero, List.set_cons_succ, i64_w, i32_w]
             rfl
            refine pure_ (i := 17) (N := some 59) (v := ?_) (a' := ?_) #[Y',Y',Y',Y',Y',Y',Y',Y',Y',Y',Y',Y',Y',Y',Y',Y',Y',Y',N',N',N',N',N',N',N',N',N',N',N',N',N',N',N',N',N',N',N',N',N',N',N',N',N',N',N',N',N',N',N',N',N'] rfl rfl (any_of HT_.out (by kernel_rfl)) (fun _ _ _ h => h) (Or.inl ⟨by rfl, ?_⟩) ?_ ?_
            rotate_left
            ·intro w'
             go_simp
             with_reducible rfl
            rotate_left
            ·simp only [Act.put, List.setIfInBounds_toArray, List.set_cons_zero, List.set_cons_succ, i64_w, i32_w]
             rfl
            refine pure_ (i := 18) (N := some 60) (v := ?_) (a' := ?_) #[Y',Y',Y',Y',Y',Y',Y',Y',Y',Y',Y',Y',Y',Y',Y',Y',Y',Y',Y',N',N',N',N',N',N',N',N',N',N',N',N',N',N',N',N',N',N',N',N',N',N',N',N',N',N',N',N',N',N',N',N'] rfl rfl (any_of HT_.out (by kernel_rfl)) (fun _ _ _ h => h) (Or.inl ⟨by rfl, ?_⟩) ?_ ?_
            rotate_left
            ·intro w'
             go_simp
             with_reducible rfl
            rotate_left
            ·simp only [Act.put, List.setIfInBounds_toArray, List.set_cons_zero, List.set_cons_succ, i64_w, i32_w]
             rfl
            refine pure_ (i := 19) (N := some 61) (v := ?_) (a' := ?_) #[Y',Y',Y',Y',Y',Y',Y',Y',Y',Y',Y',Y',Y',Y',Y',Y',Y',Y',Y',Y',N',N',N',N',N',N',N',N',N',N',N',N',N',N',N',N',N',N',N',N',N',N',N',N',N',N',N',N',N',N',N'] rfl rfl (any_of HT_.out (by kernel_rfl)) (fun _ _ _ h => h) (Or.inl ⟨by rfl, ?_⟩) ?_ ?_
            rotate_left
            ·intro w'
             go_simp
             with_reducible rfl
            rotate_left
            ·simp only [Act.put, List.setIfInBounds_toArray, List.set_cons_zero, List.set_cons_succ, i64_w, i32_w]
             rfl
            refine pure_ (i := 20) (N := some 62) (v := ?_) (a' := ?_) #[Y',Y',Y',Y',Y',Y',Y',Y',Y',Y',Y',Y',Y',Y',Y',Y',Y',Y',Y',Y',Y',N',N',N',N',N',N',N',N',N',N',N',N',N',N',N',N',N',N',N',N',N',N',N',N',N',N',N',N',N',N'] rfl rfl (any_of HT_.out (by kernel_rfl)) (fun _ _ _ h => h) (Or.inl ⟨by rfl, ?_⟩) ?_ ?_
            rotate_left
            ·intro w'
             go_simp
             with_reducible rfl
            rotate_left
            ·simp only [Act.put, List.setIfInBounds_toArray, List.set_cons_zero, List.set_cons_succ, i64_w, i32_w]
             rfl
            refine pure_ (i := 24) (N := some 66) (v := ?_) (a' := ?_) #[Y',Y',Y',Y',Y',Y',Y',Y',Y',Y',Y',Y',Y',Y',Y',Y',Y',Y',Y',Y',Y',N',N',N',Y',N',N',N',N',N',N',N',N',N',N',N',N',N',N',N',N',N',N',N',N',N',N',N',N',N',N'] rfl rfl (any_of HT_.out (by kernel_rfl)) (fun _ _ _ h => h) (Or.inl ⟨by rfl, ?_⟩) ?_ ?_
            rotate_left
            ·intro w'
             go_simp
             with_reducible rfl
            rotate_left
            ·simp only [Act.put, List.setIfInBounds_toArray, List.set_cons_zero, List.set_cons_succ, i64_w, i32_w]
             rfl
            refine pure_ (i := 25) (N := some 67) (v := ?_) (a' := ?_) #[Y',Y',Y',Y',Y',Y',Y',Y',Y',Y',Y',Y',Y',Y',Y',Y',Y',Y',Y',Y',Y',N',N',N',Y',Y',N',N',N',N',N',N',N',N',N',N',N',N',N',N',N',N',N',N',N',N',N',N',N',N',N'] rfl rfl (any_of HT_.out (by kernel_rfl)) (fun _ _ _ h => h) (Or.inl ⟨by rfl, ?_⟩) ?_ ?_
            rotate_left
            ·intro w'
             go_simp
             with_reducible rfl
            rotate_left
            ·simp only [Act.put, List.setIfInBounds_toArray, List.set_cons_zero, List.set_cons_succ, i64_w, i32_w]
             rfl
            refine pure_ (i := 26) (N := some 68) (v := ?_) (a' := ?_) #[Y',Y',Y',Y',Y',Y',Y',Y',Y',Y',Y',Y',Y',Y',Y',Y',Y',Y',Y',Y',Y',N',N',N',Y',Y',Y',N',N',N',N',N',N',N',N',N',N',N',N',N',N',N',N',N',N',N',N',N',N',N',N'] rfl rfl (any_of HT_.out (by kernel_rfl)) (fun _ _ _ h => h) (Or.inl ⟨by rfl, ?_⟩) ?_ ?_
            rotate_left
            ·intro w'
             go_simp
             with_reducible rfl
            rotate_left
            ·simp only [Act.put, List.setIfInBounds_toArray, List.set_cons_zero, List.set_cons_succ, i64_w, i32_w]
             rfl
            refine pure_ (i := 27) (N := some 69) (v := ?_) (a' := ?_) #[Y',Y',Y',Y',Y',Y',Y',Y',Y',Y',Y',Y',Y',Y',Y',Y',Y',Y',Y',Y',Y',N',N',N',Y',Y',Y',Y',N',N',N',N',N',N',N',N',N',N',N',N',N',N',N',N',N',N',N',N',N',N',N'] rfl rfl (any_of HT_.out (by kernel_rfl)) (fun _ _ _ h => h) (Or.inl ⟨by rfl, ?_⟩) ?_ ?_
            rotate_left
            ·intro w'
             go_simp
             with_reducible rfl
            rotate_left
            ·simp only [Act.put, List.setIfInBounds_toArray, List.set_cons_zero, List.set_cons_succ, i64_w, i32_w]
             rfl
            refine pure_ (i := 28) (N := some 70) (v := ?_) (a' := ?_) #[Y',Y',Y',Y',Y',Y',Y',Y',Y',Y',Y',Y',Y',Y',Y',Y',Y',Y',Y',Y',Y',N',N',N',Y',Y',Y',Y',Y',N',N',N',N',N',N',N',N',N',N',N',N',N',N',N',N',N',N',N',N',N',N'] rfl rfl (any_of HT_.out (by kernel_rfl)) (fun _ _ _ h => h) (Or.inl ⟨by rfl, ?_⟩) ?_ ?_
            rotate_left
            ·intro w'
             go_simp
             with_reducible rfl
            rotate_left
            ·simp only [Act.put, List.setIfInBounds_toArray, List.set_cons_zero, List.set_cons_succ, i64_w, i32_w]
             rfl
            refine take_ (i := 21) (N := some 63) (v := ?_) (a' := ?_) #[Y',Y',Y',Y',Y',Y',Y',Y',Y',Y',Y',Y',Y',Y',Y',Y',Y',Y',Y',Y',Y',Y',N',N',Y',Y',Y',Y',Y',N',N',N',N',N',N',N',N',N',N',N',N',N',N',N',N',N',N',N',N',N',N'] rfl rfl (take_ofW HT_.out HW_.out (by kernel_rfl)) (fun _ _ _ h => h) (Or.inl ⟨by rfl, ?_⟩) hHeld ?_ ?_
            rotate_left
            ·rintro w' ⟨s0, s1, s2, s3, s4, s5, s6, s7, s8, s9, s10, s11, s12, s13, s14, s15, s16, s17, s18, s19, s20, s21, s22, s23, s24, s25, s26, s27, s28, s29, s30, s31, s32, s33, s34, s35⟩
             go_simp
             with_reducible rfl
            rotate_left
            ·simp only [Act.put, List.setIfInBounds_toArray, List.set_cons_zero, List.set_cons_succ, i64_w, i32_w]
             rfl
            refine pure_ (i := 22) (N := some 64) (v := ?_) (a' := ?_) #[Y',Y',Y',Y',Y',Y',Y',Y',Y',Y',Y',Y',Y',Y',Y',Y',Y',Y',Y',Y',Y',Y',Y',N',Y',Y',Y',Y',Y',N',N',N',N',N',N',N',N',N',N',N',N',N',N',N',N',N',N',N',N',N',N'] rfl rfl (any_of HT_.out (by kernel_rfl)) (fun _ _ _ h => h) (Or.inl ⟨by rfl, ?_⟩) ?_ ?_
            rotate_left
            ·intro w'
             go_simp
             with_reducible rfl
            rotate_left
            ·simp only [Act.put, List.setIfInBounds_toArray, List.set_cons_zero, List.set_cons_succ, i64_w, i32_w]
             rfl
            refine take_ (i := 29) (N := some 71) (v := ?_) (a' := ?_) #[Y',Y',Y',Y',Y',Y',Y',Y',Y',Y',Y',Y',Y',Y',Y',Y',Y',Y',Y',Y',Y',Y',Y',N',Y',Y',Y',Y',Y',Y',N',N',N',N',N',N',N',N',N',N',N',N',N',N',N',N',N',N',N',N',N'] rfl rfl (take_ofW HT_.out HW_.out (by kernel_rfl)) (fun _ _ _ h => h) (Or.inl ⟨by rfl, ?_⟩) hHeld ?_ ?_
            rotate_left
            ·rintro w' ⟨s0, s1, s2, s3, s4, s5, s6, s7, s8, s9, s10, s11, s12, s13, s14, s15, s16, s17, s18, s19, s20, s21, s22, s23, s24, s25, s26, s27, s28, s29, s30, s31, s32, s33, s34, s35⟩
             go_simp
             with_reducible rfl
            rotate_left
            ·simp only [Act.put, List.setIfInBounds_toArray, List.set_cons_zero, List.set_cons_succ, i64_w, i32_w]
             rfl
            refine pure_ (i := 30) (N := some 72) (v := ?_) (a' := ?_) #[Y',Y',Y',Y',Y',Y',Y',Y',Y',Y',Y',Y',Y',Y',Y',Y',Y',Y',Y',Y',Y',Y',Y',N',Y',Y',Y',Y',Y',Y',Y',N',N',N',N',N',N',N',N',N',N',N',N',N',N',N',N',N',N',N',N'] rfl rfl (any_of HT_.out (by kernel_rfl)) (fun _ _ _ h => h) (Or.inl ⟨by rfl, ?_⟩) ?_ ?_
            rotate_left
            ·intro w'
             go_simp
             with_reducible rfl
            rotate_left
            ·simp only [Act.put, List.setIfInBounds_toArray, List.set_cons_zero, List.set_cons_succ, i64_w, i32_w]
             rfl
            refine one_ (i := 23) (N := some 65) #[Y',Y',Y',Y',Y',Y',Y',Y',Y',Y',Y',Y',Y',Y',Y',Y',Y',Y',Y',Y',Y',Y',Y',Y',Y',Y',Y',Y',Y',Y',Y',N',N',N',N',N',N',N',N',N',N',N',N',N',N',N',N',N',N',N',N'] rfl rfl (one_of HT_.out (by kernel_rfl)) (by decide) (fun K hK => ?_)
            refine goes_ Try.func16 (by kernel_rfl) rfl #[.slice Ao54 t237.length co54, .int .i64 (wrap64 (((rd_T33 l0 x9_2).f1) - 1))] (by rfl) rfl rfl (by (try simp only [List.map_toArray, List.map_cons, List.map_nil]); first | done | rfl | (simp only [List.length_drop, List.length_take]; rfl)) ?_
            with_reducible refine (span_Style.calls _ _ t237 (wrap64 (((rd_T33 l0 x9_2).f1) - 1)) t273 t274 t275 t276 t277 t278 _ ?side1 ?side2 A33.out).mono ?_
            (case side1 => repeat (first | exact (Kd.R_reads' HO_8.out).2.2 | (with_reducible refine Kd.C_alloc ?_ _) | (with_reducible refine Kd.C_drewN ?_ _) | (with_reducible refine Kd.C_drew ?_)))
            (case side2 => exact (Kd.R_reads' HO_8.out).2.1)
            rintro e w57 ⟨rfl, hb⟩
            refine ⟨_, rfl, ?_⟩
            have n0_ := Aside0.mk (Kd.R_below (by (with_reducible repeat (first | apply Kd.R_alloc | apply Kd.R_drewN | apply Kd.R_drew)); exact HO_8.out) hb)
            have n1_ := Aside0.mk (below_step (by repeat (first | (with_reducible first | exact HB.out | apply below_alloc | apply pw_below_drewN | apply below_drew1) | exact HB.out)) hb)
            clear HO_8
            clear HB
            have HO_8 := n0_
            have HB := n1_
            clear n0_ n1_
            (try clear hb)
            (try clear hb2)
            (try clear hk)
            (try clear hi)
            refine hK.out _ _ ⟨((HB.out.cell (World.block_lt_of_cell? w _ hw258_0)).trans hw258_0), ((HB.out.cell (World.block_lt_of_cell? w _ hw258_1)).trans hw258_1), ((HB.out.cell (World.block_lt_of_cell? w _ hw258_2)).trans hw258_2), ((HB.out.cell (World.block_lt_of_cell? w _ hw258_3)).trans hw258_3), ((HB.out.cell (World.block_lt_of_cell? w _ hw258_4)).trans hw258_4), ((HB.out.cell (World.block_lt_of_cell? w _ hw258_5)).trans hw258_5), ((HB.out.cell (World.block_lt_of_cell? w _ hw265_0)).trans hw265_0), ((HB.out.cell (World.block_lt_of_cell? w _ hw265_1)).trans hw265_1), ((HB.out.cell (World.block_lt_of_cell? w _ hw265_2)).trans hw265_2), ((HB.out.cell (World.block_lt_of_cell? w _ hw265_3)).trans hw265_3), ((HB.out.cell (World.block_lt_of_cell? w _ hw265_4)).trans hw265_4), ((HB.out.cell (World.block_lt_of_cell? w _ hw265_5)).trans hw265_5), ((HB.out.cell (World.block_lt_of_cell? w _ hw272_0)).trans hw272_0), ((HB.out.cell (World.block_lt_of_cell? w _ hw272_1)).trans hw272_1), ((HB.out.cell (World.block_lt_of_cell? w _ hw272_2)).trans hw272_2), ((HB.out.cell (World.block_lt_of_cell? w _ hw272_3)).trans hw272_3), ((HB.out.cell (World.block_lt_of_cell? w _ hw272_4)).trans hw272_4), ((HB.out.cell (World.block_lt_of_cell? w _ hw272_5)).trans hw272_5), ((HB.out.cell (World.block_lt_of_cell? w _ hw279_0)).trans hw279_0), ((HB.out.cell (World.block_lt_of_cell? w _ hw279_1)).trans hw279_1), ((HB.out.cell (World.block_lt_of_cell? w _ hw279_2)).trans hw279_2), ((HB.out.cell (World.block_lt_of_cell? w _ hw279_3)).trans hw279_3), ((HB.out.cell (World.block_lt_of_cell? w _ hw279_4)).trans hw279_4), ((HB.out.cell (World.block_lt_of_cell? w _ hw279_5)).trans hw279_5), ((HB.out.cell (World.block_lt_of_cell? w _ hw286_0)).trans hw286_0), ((HB.out.cell (World.block_lt_of_cell? w _ hw286_1)).trans hw286_1), ((HB.out.cell (World.block_lt_of_cell? w _ hw286_2)).trans hw286_2), ((HB.out.cell (World.block_lt_of_cell? w _ hw286_3)).trans hw286_3), ((HB.out.cell (World.block_lt_of_cell? w _ hw286_4)).trans hw286_4), ((HB.out.cell (World.block_lt_of_cell? w _ hw286_5)).trans hw286_5), ((HB.out.cell (World.block_lt_of_cell? w _ hw293_0)).trans hw293_0), ((HB.out.cell (World.block_lt_of_cell? w _ hw293_1)).trans hw293_1), ((HB.out.cell (World.block_lt_of_cell? w _ hw293_2)).trans hw293_2), ((HB.out.cell (World.block_lt_of_cell? w _ hw293_3)).trans hw293_3), ((HB.out.cell (World.block_lt_of_cell? w _ hw293_4)).trans hw293_4), ((HB.out.cell (World.block_lt_of_cell? w _ hw293_5)).trans hw293_5)⟩ (fun hHeld => ?_)
            clear hK K
            refine norm_ (a' := ?_) ?_ ?_
            rotate_left
            ·show Act.put _ (some 65) _ = _
             simp only [Act.put, List.setIfInBounds_toArray, List.set_cons_zero, List.set_cons_succ, i64_w, i32_w]
             rfl
            refine one_ (i := 31) (N := some 73) #[Y',Y',Y',Y',Y',Y',Y',Y',Y',Y',Y',Y',Y',Y',Y',Y',Y',Y',Y',Y',Y',Y',Y',Y',Y',Y',Y',Y',Y',Y',Y',Y',N',N',N',N',N',N',N',N',N',N',N',N',N',N',N',N',N',N',N'] rfl rfl (one_of HT_.out (by kernel_rfl)) (by decide) (fun K hK => ?_)
            refine goes_ Try.func16 (by kernel_rfl) rfl #[.slice (some ad258) l0.length c0, .int .i64 (wrap64 (((rd_T33 l0 x9_2).f1) - 1))] (by rfl) rfl rfl (by (try simp only [List.map_toArray, List.map_cons, List.map_nil]); first | done | rfl | (simp only [List.length_drop, List.length_take]; rfl)) ?_
            with_reducible refine (span_Style.calls _ _ l0 (wrap64 (((rd_T33 l0 x9_2).f1) - 1)) t280 t281 t282 t283 t284 t285 _ ?side1 ?side2 A34.out).mono ?_
            (case side1 => repeat (first | exact (Kd.C_below HR0.out HB.out) | (with_reducible refine Kd.C_alloc ?_ _) | (with_reducible refine Kd.C_drewN ?_ _) | (with_reducible refine Kd.C_drew ?_)))
            (case side2 => exact HC0.out)
            rintro e w58 ⟨rfl, hb⟩
            refine ⟨_, rfl, ?_⟩
            have n0_ := Aside0.mk (Kd.R_below (by (with_reducible repeat (first | apply Kd.R_alloc | apply Kd.R_drewN | apply Kd.R_drew)); exact HO_8.out) hb)
            have n1_ := Aside0.mk (below_step (by repeat (first | (with_reducible first | exact HB.out | apply below_alloc | apply pw_below_drewN | apply below_drew1) | exact HB.out)) hb)
            clear HO_8
            clear HB
            have HO_8 := n0_
            have HB := n1_
            clear n0_ n1_
            (try clear hb)
            (try clear hb2)
            (try clear hk)
            (try clear hi)
            refine hK.out _ _ ⟨((HB.out.cell (World.block_lt_of_cell? w _ hw258_0)).trans hw258_0), ((HB.out.cell (World.block_lt_of_cell? w _ hw258_1)).trans hw258_1), ((HB.out.cell (World.block_lt_of_cell? w _ hw258_2)).trans hw258_2), ((HB.out.cell (World.block_lt_of_cell? w _ hw258_3)).trans hw258_3), ((HB.out.cell (World.block_lt_of_cell? w _ hw258_4)).trans hw258_4), ((HB.out.cell (World.block_lt_of_cell? w _ hw258_5)).trans hw258_5), ((HB.out.cell (World.block_lt_of_cell? w _ hw265_0)).trans hw265_0), ((HB.out.cell (World.block_lt_of_cell? w _ hw265_1)).trans hw265_1), ((HB.out.cell (World.block_lt_of_cell? w _ hw265_2)).trans hw265_2), ((HB.out.cell (World.block_lt_of_cell? w _ hw265_3)).trans hw265_3), ((HB.out.cell (World.block_lt_of_cell? w _ hw265_4)).trans hw265_4), ((HB.out.cell (World.block_lt_of_cell? w _ hw265_5)).trans hw265_5), ((HB.out.cell (World.block_lt_of_cell? w _ hw272_0)).trans hw272_0), ((HB.out.cell (World.block_lt_of_cell? w _ hw272_1)).trans hw272_1), ((HB.out.cell (World.block_lt_of_cell? w _ hw272_2)).trans hw272_2), ((HB.out.cell (World.block_lt_of_cell? w _ hw272_3)).trans hw272_3), ((HB.out.cell (World.block_lt_of_cell? w _ hw272_4)).trans hw272_4), ((HB.out.cell (World.block_lt_of_cell? w _ hw272_5)).trans hw272_5), ((HB.out.cell (World.block_lt_of_cell? w _ hw279_0)).trans hw279_0), ((HB.out.cell (World.block_lt_of_cell? w _ hw279_1)).trans hw279_1), ((HB.out.cell (World.block_lt_of_cell? w _ hw279_2)).trans hw279_2), ((HB.out.cell (World.block_lt_of_cell? w _ hw279_3)).trans hw279_3), ((HB.out.cell (World.block_lt_of_cell? w _ hw279_4)).trans hw279_4), ((HB.out.cell (World.block_lt_of_cell? w _ hw279_5)).trans hw279_5), ((HB.out.cell (World.block_lt_of_cell? w _ hw286_0)).trans hw286_0), ((HB.out.cell (World.block_lt_of_cell? w _ hw286_1)).trans hw286_1), ((HB.out.cell (World.block_lt_of_cell? w _ hw286_2)).trans hw286_2), ((HB.out.cell (World.block_lt_of_cell? w _ hw286_3)).trans hw286_3), ((HB.out.cell (World.block_lt_of_cell? w _ hw286_4)).trans hw286_4), ((HB.out.cell (World.block_lt_of_cell? w _ hw286_5)).trans hw286_5), ((HB.out.cell (World.block_lt_of_cell? w _ hw293_0)).trans hw293_0), ((HB.out.cell (World.block_lt_of_cell? w _ hw293_1)).trans hw293_1), ((HB.out.cell (World.block_lt_of_cell? w _ hw293_2)).trans hw293_2), ((HB.out.cell (World.block_lt_of_cell? w _ hw293_3)).trans hw293_3), ((HB.out.cell (World.block_lt_of_cell? w _ hw293_4)).trans hw293_4), ((HB.out.cell (World.block_lt_of_cell? w _ hw293_5)).trans hw293_5)⟩ (fun hHeld => ?_)
            clear hK K
            refine norm_ (a' := ?_) ?_ ?_
            rotate_left
            ·show Act.put _ (some 73) _ = _
             simp only [Act.put, List.setIfInBounds_toArray, List.set_cons_zero, List.set_cons_succ, i64_w, i32_w]
             rfl
            refine pure_ (i := 32) (N := some 74) (v := ?_) (a' := ?_) #[Y',Y',Y',Y',Y',Y',Y',Y',Y',Y',Y',Y',Y',Y',Y',Y',Y',Y',Y',Y',Y',Y',Y',Y',Y',Y',Y',Y',Y',Y',Y',Y',Y',N',N',N',N',N',N',N',N',N',N',N',N',N',N',N',N',N',N'] rfl rfl (any_of HT_.out (by kernel_rfl)) (fun _ _ _ h => h) (Or.inl ⟨by rfl, ?_⟩) ?_ ?_
            rotate_left
            ·intro w'
             go_simp
             with_reducible rfl
            rotate_left
            ·simp only [Act.put, List.setIfInBounds_toArray, List.set_cons_zero, List.set_cons_succ, i64_w, i32_w]
             rfl
            refine pure_ (i := 33) (N := some 75) (v := ?_) (a' := ?_) #[Y',Y',Y',Y',Y',Y',Y',Y',Y',Y',Y',Y',Y',Y',Y',Y',Y',Y',Y',Y',Y',Y',Y',Y',Y',Y',Y',Y',Y',Y',Y',Y',Y',Y',N',N',N',N',N',N',N',N',N',N',N',N',N',N',N',N',N'] rfl rfl (any_of HT_.out (by kernel_rfl)) (fun _ _ _ h => h) (Or.inl ⟨by rfl, ?_⟩) ?_ ?_
            rotate_left
            ·intro w'
             go_simp
             with_reducible rfl
            rotate_left
            ·simp only [Act.put, List.setIfInBounds_toArray, List.set_cons_zero, List.set_cons_succ, i64_w, i32_w]
             rfl
            refine pure_ (i := 34) (N := some 76) (v := ?_) (a' := ?_) #[Y',Y',Y',Y',Y',Y',Y',Y',Y',Y',Y',Y',Y',Y',Y',Y',Y',Y',Y',Y',Y',Y',Y',Y',Y',Y',Y',Y',Y',Y',Y',Y',Y',Y',Y',N',N',N',N',N',N',N',N',N',N',N',N',N',N',N',N'] rfl rfl (any_of HT_.out (by kernel_rfl)) (fun _ _ _ h => h) (Or.inl ⟨by rfl, ?_⟩) ?_ ?_
            rotate_left
            ·intro w'
             go_simp
             with_reducible rfl
            rotate_left
            ·simp only [Act.put, List.setIfInBounds_toArray, List.set_cons_zero, List.set_cons_succ, i64_w, i32_w]
             rfl
            refine pure_ (i := 35) (N := some 77) (v := ?_) (a' := ?_) #[Y',Y',Y',Y',Y',Y',Y',Y',Y',Y',Y',Y',Y',Y',Y',Y',Y',Y',Y',Y',Y',Y',Y',Y',Y',Y',Y',Y',Y',Y',Y',Y',Y',Y',Y',Y',N',N',N',N',N',N',N',N',N',N',N',N',N',N',N'] rfl rfl (any_of HT_.out (by kernel_rfl)) (fun _ _ _ h => h) (Or.inl ⟨by rfl, ?_⟩) ?_ ?_
            rotate_left
            ·intro w'
             go_simp
             with_reducible rfl
            rotate_left
            ·simp only [Act.put, List.setIfInBounds_toArray, List.set_cons_zero, List.set_cons_succ, i64_w, i32_w]
             rfl
            refine pure_ (i := 36) (N := some 78) (v := ?_) (a' := ?_) #[Y',Y',Y',Y',Y',Y',Y',Y',Y',Y',Y',Y',Y',Y',Y',Y',Y',Y',Y',Y',Y',Y',Y',Y',Y',Y',Y',Y',Y',Y',Y',Y',Y',Y',Y',Y',Y',N',N',N',N',N',N',N',N',N',N',N',N',N',N'] rfl rfl (any_of HT_.out (by kernel_rfl)) (fun _ _ _ h => h) (Or.inl ⟨by rfl, ?_⟩) ?_ ?_
            rotate_left
            ·intro w'
             go_simp
             with_reducible rfl
            rotate_left
            ·simp only [Act.put, List.setIfInBounds_toArray, List.set_cons_zero, List.set_cons_succ, i64_w, i32_w]
             rfl
            refine pure_ (i := 37) (N := some 79) (v := ?_) (a' := ?_) #[Y',Y',Y',Y',Y',Y',Y',Y',Y',Y',Y',Y',Y',Y',Y',Y',Y',Y',Y',Y',Y',Y',Y',Y',Y',Y',Y',Y',Y',Y',Y',Y',Y',Y',Y',Y',Y',Y',N',N',N',N',N',N',N',N',N',N',N',N',N'] rfl rfl (any_of HT_.out (by kernel_rfl)) (fun _ _ _ h => h) (Or.inl ⟨by rfl, ?_⟩) ?_ ?_
            rotate_left
            ·intro w'
             go_simp
             with_reducible rfl
            rotate_left
            ·simp only [Act.put, List.setIfInBounds_toArray, List.set_cons_zero, List.set_cons_succ, i64_w, i32_w]
             rfl
            refine pure_ (i := 38) (N := some 80) (v := ?_) (a' := ?_) #[Y',Y',Y',Y',Y',Y',Y',Y',Y',Y',Y',Y',Y',Y',Y',Y',Y',Y',Y',Y',Y',Y',Y',Y',Y',Y',Y',Y',Y',Y',Y',Y',Y',Y',Y',Y',Y',Y',Y',N',N',N',N',N',N',N',N',N',N',N',N'] rfl rfl (any_of HT_.out (by kernel_rfl)) (fun _ _ _ h => h) (Or.inl ⟨by rfl, ?_⟩) ?_ ?_
            rotate_left
            ·intro w'
             go_simp
             with_reducible rfl
            rotate_left
            ·simp only [Act.put, List.setIfInBounds_toArray, List.set_cons_zero, List.set_cons_succ, i64_w, i32_w]
             rfl
            refine pure_ (i := 39) (N := some 81) (v := ?_) (a' := ?_) #[Y',Y',Y',Y',Y',Y',Y',Y',Y',Y',Y',Y',Y',Y',Y',Y',Y',Y',Y',Y',Y',Y',Y',Y',Y',Y',Y',Y',Y',Y',Y',Y',Y',Y',Y',Y',Y',Y',Y',Y',N',N',N',N',N',N',N',N',N',N',N'] rfl rfl (any_of HT_.out (by kernel_rfl)) (fun _ _ _ h => h) (Or.inl ⟨by rfl, ?_⟩) ?_ ?_
            rotate_left
            ·intro w'
             go_simp
             with_reducible rfl
            rotate_left
            ·simp only [Act.put, List.setIfInBounds_toArray, List.set_cons_zero, List.set_cons_succ, i64_w, i32_w]
             rfl
            refine pure_ (i := 42) (N := some 84) (v := ?_) (a' := ?_) #[Y',Y',Y',Y',Y',Y',Y',Y',Y',Y',Y',Y',Y',Y',Y',Y',Y',Y',Y',Y',Y',Y',Y',Y',Y',Y',Y',Y',Y',Y',Y',Y',Y',Y',Y',Y',Y',Y',Y',Y',N',N',Y',N',N',N',N',N',N',N',N'] rfl rfl (any_of HT_.out (by kernel_rfl)) (fun _ _ _ h => h) (Or.inl ⟨by rfl, ?_⟩) ?_ ?_
            rotate_left
            ·intro w'
             go_simp
             with_reducible rfl
            rotate_left
            ·simp only [Act.put, List.setIfInBounds_toArray, List.set_cons_zero, List.set_cons_succ, i64_w, i32_w]
             rfl
            refine pure_ (i := 43) (N := some 85) (v := ?_) (a' := ?_) #[Y',Y',Y',Y',Y',Y',Y',Y',Y',Y',Y',Y',Y',Y',Y',Y',Y',Y',Y',Y',Y',Y',Y',Y',Y',Y',Y',Y',Y',Y',Y',Y',Y',Y',Y',Y',Y',Y',Y',Y',N',N',Y',Y',N',N',N',N',N',N',N'] rfl rfl (any_of HT_.out (by kernel_rfl)) (fun _ _ _ h => h) (Or.inl ⟨by rfl, ?_⟩) ?_ ?_
            rotate_left
            ·intro w'
             go_simp
             with_reducible rfl
            rotate_left
            ·simp only [Act.put, List.setIfInBounds_toArray, List.set_cons_zero, List.set_cons_succ, i64_w, i32_w]
             rfl
            refine pure_ (i := 44) (N := some 86) (v := ?_) (a' := ?_) #[Y',Y',Y',Y',Y',Y',Y',Y',Y',Y',Y',Y',Y',Y',Y',Y',Y',Y',Y',Y',Y',Y',Y',Y',Y',Y',Y',Y',Y',Y',Y',Y',Y',Y',Y',Y',Y',Y',Y',Y',N',N',Y',Y',Y',N',N',N',N',N',N'] rfl rfl (any_of HT_.out (by kernel_rfl)) (fun _ _ _ h => h) (Or.inl ⟨by rfl, ?_⟩) ?_ ?_
            rotate_left
            ·intro w'
             go_simp
             with_reducible rfl
            rotate_left
            ·simp only [Act.put, List.setIfInBounds_toArray, List.set_cons_zero, List.set_cons_succ, i64_w, i32_w]
             rfl
            refine pure_ (i := 45) (N := some 87) (v := ?_) (a' := ?_) #[Y',Y',Y',Y',Y',Y',Y',Y',Y',Y',Y',Y',Y',Y',Y',Y',Y',Y',Y',Y',Y',Y',Y',Y',Y',Y',Y',Y',Y',Y',Y',Y',Y',Y',Y',Y',Y',Y',Y',Y',N',N',Y',Y',Y',Y',N',N',N',N',N'] rfl rfl (any_of HT_.out (by kernel_rfl)) (fun _ _ _ h => h) (Or.inl ⟨by rfl, ?_⟩) ?_ ?_
            rotate_left
            ·intro w'
             go_simp
             with_reducible rfl
            rotate_left
            ·simp only [Act.put, List.setIfInBounds_toArray, List.set_cons_zero, List.set_cons_succ, i64_w, i32_w]
             rfl
            refine pure_ (i := 46) (N := some 88) (v := ?_) (a' := ?_) #[Y',Y',Y',Y',Y',Y',Y',Y',Y',Y',Y',Y',Y',Y',Y',Y',Y',Y',Y',Y',Y',Y',Y',Y',Y',Y',Y',Y',Y',Y',Y',Y',Y',Y',Y',Y',Y',Y',Y',Y',N',N',Y',Y',Y',Y',Y',N',N',N',N'] rfl rfl (any_of HT_.out (by kernel_rfl)) (fun _ _ _ h => h) (Or.inl ⟨by rfl, ?_⟩) ?_ ?_
            rotate_left
            ·intro w'
             go_simp
             with_reducible rfl
            rotate_left
            ·simp only [Act.put, List.setIfInBounds_toArray, List.set_cons_zero, List.set_cons_succ, i64_w, i32_w]
             rfl
            refine take_ (i := 40) (N := some 82) (v := ?_) (a' := ?_) #[Y',Y',Y',Y',Y',Y',Y',Y',Y',Y',Y',Y',Y',Y',Y',Y',Y',Y',Y',Y',Y',Y',Y',Y',Y',Y',Y',Y',Y',Y',Y',Y',Y',Y',Y',Y',Y',Y',Y',Y',Y',N',Y',Y',Y',Y',Y',N',N',N',N'] rfl rfl (take_ofW HT_.out HW_.out (by kernel_rfl)) (fun _ _ _ h => h) (Or.inl ⟨by rfl, ?_⟩) hHeld ?_ ?_
            rotate_left
            ·rintro w' ⟨s0, s1, s2, s3, s4, s5, s6, s7, s8, s9, s10, s11, s12, s13, s14, s15, s16, s17, s18, s19, s20, s21, s22, s23, s24, s25, s26, s27, s28, s29, s30, s31, s32, s33, s34, s35⟩
             go_simp
             with_reducible rfl
            rotate_left
            ·simp only [Act.put, List.setIfInBounds_toArray, List.set_cons_zero, List.set_cons_succ, i64_w, i32_w]
             rfl
            refine take_ (i := 47) (N := some 89) (v := ?_) (a' := ?_) #[Y',Y',Y',Y',Y',Y',Y',Y',Y',Y',Y',Y',Y',Y',Y',Y',Y',Y',Y',Y',Y',Y',Y',Y',Y',Y',Y',Y',Y',Y',Y',Y',Y',Y',Y',Y',Y',Y',Y',Y',Y',N',Y',Y',Y',Y',Y',Y',N',N',N'] rfl rfl (take_ofW HT_.out HW_.out (by kernel_rfl)) (fun _ _ _ h => h) (Or.inl ⟨by rfl, ?_⟩) hHeld ?_ ?_
            rotate_left
            ·rintro w' ⟨s0, s1, s2, s3, s4, s5, s6, s7, s8, s9, s10, s11, s12, s13, s14, s15, s16, s17, s18, s19, s20, s21, s22, s23, s24, s25, s26, s27, s28, s29, s30, s31, s32, s33, s34, s35⟩
             go_simp
             with_reducible rfl
            rotate_left
            ·simp only [Act.put, List.setIfInBounds_toArray, List.set_cons_zero, List.set_cons_succ, i64_w, i32_w]
             rfl
            refine one_ (i := 41) (N := some 83) #[Y',Y',Y',Y',Y',Y',Y',Y',Y',Y',Y',Y',Y',Y',Y',Y',Y',Y',Y',Y',Y',Y',Y',Y',Y',Y',Y',Y',Y',Y',Y',Y',Y',Y',Y',Y',Y',Y',Y',Y',Y',Y',Y',Y',Y',Y',Y',Y',N',N',N'] rfl rfl (one_of HT_.out (by kernel_rfl)) (by decide) (fun K hK => ?_)
            refine goes_ Try.func16 (by kernel_rfl) rfl #[.slice Ao54 t237.length co54, .int .i64 ((rd_T33 l0 x9_2).f1)] (by rfl) rfl rfl (by (try simp only [List.map_toArray, List.map_cons, List.map_nil]); first | done | rfl | (simp only [List.length_drop, List.length_take]; rfl)) ?_
            with_reducible refine (span_Style.calls _ _ t237 ((rd_T33 l0 x9_2).f1) t287 t288 t289 t290 t291 t292 _ ?side1 ?side2 A42.out).mono ?_
            (case side1 => repeat (first | exact (Kd.R_reads' HO_8.out).2.2 | (with_reducible refine Kd.C_alloc ?_ _) | (with_reducible refine Kd.C_drewN ?_ _) | (with_reducible refine Kd.C_drew ?_)))
            (case side2 => exact (Kd.R_reads' HO_8.out).2.1)
            rintro e w59 ⟨rfl, hb⟩
            refine ⟨_, rfl, ?_⟩
            have n0_ := Aside0.mk (Kd.R_below (by (with_reducible repeat (first | apply Kd.R_alloc | apply Kd.R_drewN | apply Kd.R_drew)); exact HO_8.out) hb)
            have n1_ := Aside0.mk (below_step (by repeat (first | (with_reducible first | exact HB.out | apply below_alloc | apply pw_below_drewN | apply below_drew1) | exact HB.out)) hb)
            clear HO_8
            clear HB
            have HO_8 := n0_
            have HB := n1_
            clear n0_ n1_
            (try clear hb)
            (try clear hb2)
            (try clear hk)
            (try clear hi)
            refine hK.out _ _ ⟨((HB.out.cell (World.block_lt_of_cell? w _ hw258_0)).trans hw258_0), ((HB.out.cell (World.block_lt_of_cell? w _ hw258_1)).trans hw258_1), ((HB.out.cell (World.block_lt_of_cell? w _ hw258_2)).trans hw258_2), ((HB.out.cell (World.block_lt_of_cell? w _ hw258_3)).trans hw258_3), ((HB.out.cell (World.block_lt_of_cell? w _ hw258_4)).trans hw258_4), ((HB.out.cell (World.block_lt_of_cell? w _ hw258_5)).trans hw258_5), ((HB.out.cell (World.block_lt_of_cell? w _ hw265_0)).trans hw265_0), ((HB.out.cell (World.block_lt_of_cell? w _ hw265_1)).trans hw265_1), ((HB.out.cell (World.block_lt_of_cell? w _ hw265_2)).trans hw265_2), ((HB.out.cell (World.block_lt_of_cell? w _ hw265_3)).trans hw265_3), ((HB.out.cell (World.block_lt_of_cell? w _ hw265_4)).trans hw265_4), ((HB.out.cell (World.block_lt_of_cell? w _ hw265_5)).trans hw265_5), ((HB.out.cell (World.block_lt_of_cell? w _ hw272_0)).trans hw272_0), ((HB.out.cell (World.block_lt_of_cell? w _ hw272_1)).trans hw272_1), ((HB.out.cell (World.block_lt_of_cell? w _ hw272_2)).trans hw272_2), ((HB.out.cell (World.block_lt_of_cell? w _ hw272_3)).trans hw272_3), ((HB.out.cell (World.block_lt_of_cell? w _ hw272_4)).trans hw272_4), ((HB.out.cell (World.block_lt_of_cell? w _ hw272_5)).trans hw272_5), ((HB.out.cell (World.block_lt_of_cell? w _ hw279_0)).trans hw279_0), ((HB.out.cell (World.block_lt_of_cell? w _ hw279_1)).trans hw279_1), ((HB.out.cell (World.block_lt_of_cell? w _ hw279_2)).trans hw279_2), ((HB.out.cell (World.block_lt_of_cell? w _ hw279_3)).trans hw279_3), ((HB.out.cell (World.block_lt_of_cell? w _ hw279_4)).trans hw279_4), ((HB.out.cell (World.block_lt_of_cell? w _ hw279_5)).trans hw279_5), ((HB.out.cell (World.block_lt_of_cell? w _ hw286_0)).trans hw286_0), ((HB.out.cell (World.block_lt_of_cell? w _ hw286_1)).trans hw286_1), ((HB.out.cell (World.block_lt_of_cell? w _ hw286_2)).trans hw286_2), ((HB.out.cell (World.block_lt_of_cell? w _ hw286_3)).trans hw286_3), ((HB.out.cell (World.block_lt_of_cell? w _ hw286_4)).trans hw286_4), ((HB.out.cell (World.block_lt_of_cell? w _ hw286_5)).trans hw286_5), ((HB.out.cell (World.block_lt_of_cell? w _ hw293_0)).trans hw293_0), ((HB.out.cell (World.block_lt_of_cell? w _ hw293_1)).trans hw293_1), ((HB.out.cell (World.block_lt_of_cell? w _ hw293_2)).trans hw293_2), ((HB.out.cell (World.block_lt_of_cell? w _ hw293_3)).trans hw293_3), ((HB.out.cell (World.block_lt_of_cell? w _ hw293_4)).trans hw293_4), ((HB.out.cell (World.block_lt_of_cell? w _ hw293_5)).trans hw293_5)⟩ (fun hHeld => ?_)
            clear hK K
            refine norm_ (a' := ?_) ?_ ?_
            rotate_left
            ·show Act.put _ (some 83) _ = _
             simp only [Act.put, List.setIfInBounds_toArray, List.set_cons_zero, List.set_cons_succ, i64_w, i32_w]
             rfl
            refine one_ (i := 48) (N := some 90) #[Y',Y',Y',Y',Y',Y',Y',Y',Y',Y',Y',Y',Y',Y',Y',Y',Y',Y',Y',Y',Y',Y',Y',Y',Y',Y',Y',Y',Y',Y',Y',Y',Y',Y',Y',Y',Y',Y',Y',Y',Y',Y',Y',Y',Y',Y',Y',Y',Y',N',N'] rfl rfl (one_of HT_.out (by kernel_rfl)) (by decide) (fun K hK => ?_)
            refine goes_ Try.func16 (by kernel_rfl) rfl #[.slice (some ad258) l0.length c0, .int .i64 ((rd_T33 l0 x9_2).f1)] (by rfl) rfl rfl (by (try simp only [List.map_toArray, List.map_cons, List.map_nil]); first | done | rfl | (simp only [List.length_drop, List.length_take]; rfl)) ?_
            with_reducible refine (span_Style.calls _ _ l0 ((rd_T33 l0 x9_2).f1) t294 t295 t296 t297 t298 t299 _ ?side1 ?side2 A43.out).mono ?_
            (case side1 => repeat (first | exact (Kd.C_below HR0.out HB.out) | (with_reducible refine Kd.C_alloc ?_ _) | (with_reducible refine Kd.C_drewN ?_ _) | (with_reducible refine Kd.C_drew ?_)))
            (case side2 => exact HC0.out)
            rintro e w60 ⟨rfl, hb⟩
            refine ⟨_, rfl, ?_⟩
            have n0_ := Aside0.mk (Kd.R_below (by (with_reducible repeat (first | apply Kd.R_alloc | apply Kd.R_drewN | apply Kd.R_drew)); exact HO_8.out) hb)
            have n1_ := Aside0.mk (below_step (by repeat (first | (with_reducible first | exact HB.out | apply below_alloc | apply pw_below_drewN | apply below_drew1) | exact HB.out)) hb)
            clear HO_8
            clear HB
            have HO_8 := n0_
            have HB := n1_
            clear n0_ n1_
            (try clear hb)
            (try clear hb2)
            (try clear hk)
            (try clear hi)
            refine hK.out _ _ ⟨((HB.out.cell (World.block_lt_of_cell? w _ hw258_0)).trans hw258_0), ((HB.out.cell (World.block_lt_of_cell? w _ hw258_1)).trans hw258_1), ((HB.out.cell (World.block_lt_of_cell? w _ hw258_2)).trans hw258_2), ((HB.out.cell (World.block_lt_of_cell? w _ hw258_3)).trans hw258_3), ((HB.out.cell (World.block_lt_of_cell? w _ hw258_4)).trans hw258_4), ((HB.out.cell (World.block_lt_of_cell? w _ hw258_5)).trans hw258_5), ((HB.out.cell (World.block_lt_of_cell? w _ hw265_0)).trans hw265_0), ((HB.out.cell (World.block_lt_of_cell? w _ hw265_1)).trans hw265_1), ((HB.out.cell (World.block_lt_of_cell? w _ hw265_2)).trans hw265_2), ((HB.out.cell (World.block_lt_of_cell? w _ hw265_3)).trans hw265_3), ((HB.out.cell (World.block_lt_of_cell? w _ hw265_4)).trans hw265_4), ((HB.out.cell (World.block_lt_of_cell? w _ hw265_5)).trans hw265_5), ((HB.out.cell (World.block_lt_of_cell? w _ hw272_0)).trans hw272_0), ((HB.out.cell (World.block_lt_of_cell? w _ hw272_1)).trans hw272_1), ((HB.out.cell (World.block_lt_of_cell? w _ hw272_2)).trans hw272_2), ((HB.out.cell (World.block_lt_of_cell? w _ hw272_3)).trans hw272_3), ((HB.out.cell (World.block_lt_of_cell? w _ hw272_4)).trans hw272_4), ((HB.out.cell (World.block_lt_of_cell? w _ hw272_5)).trans hw272_5), ((HB.out.cell (World.block_lt_of_cell? w _ hw279_0)).trans hw279_0), ((HB.out.cell (World.block_lt_of_cell? w _ hw279_1)).trans hw279_1), ((HB.out.cell (World.block_lt_of_cell? w _ hw279_2)).trans hw279_2), ((HB.out.cell (World.block_lt_of_cell? w _ hw279_3)).trans hw279_3), ((HB.out.cell (World.block_lt_of_cell? w _ hw279_4)).trans hw279_4), ((HB.out.cell (World.block_lt_of_cell? w _ hw279_5)).trans hw279_5), ((HB.out.cell (World.block_lt_of_cell? w _ hw286_0)).trans hw286_0), ((HB.out.cell (World.block_lt_of_cell? w _ hw286_1)).trans hw286_1), ((HB.out.cell (World.block_lt_of_cell? w _ hw286_2)).trans hw286_2), ((HB.out.cell (World.block_lt_of_cell? w _ hw286_3)).trans hw286_3), ((HB.out.cell (World.block_lt_of_cell? w _ hw286_4)).trans hw286_4), ((HB.out.cell (World.block_lt_of_cell? w _ hw286_5)).trans hw286_5), ((HB.out.cell (World.block_lt_of_cell? w _ hw293_0)).trans hw293_0), ((HB.out.cell (World.block_lt_of_cell? w _ hw293_1)).trans hw293_1), ((HB.out.cell (World.block_lt_of_cell? w _ hw293_2)).trans hw293_2), ((HB.out.cell (World.block_lt_of_cell? w _ hw293_3)).trans hw293_3), ((HB.out.cell (World.block_lt_of_cell? w _ hw293_4)).trans hw293_4), ((HB.out.cell (World.block_lt_of_cell? w _ hw293_5)).trans hw293_5)⟩ (fun hHeld => ?_)
            clear hK K
            refine norm_ (a' := ?_) ?_ ?_
            rotate_left
            ·show Act.put _ (some 90) _ = _
             simp only [Act.put, List.setIfInBounds_toArray, List.set_cons_zero, List.set_cons_succ, i64_w, i32_w]
             rfl
            refine pure_ (i := 49) (N := some 91) (v := ?_) (a' := ?_) #[Y',Y',Y',Y',Y',Y',Y',Y',Y',Y',Y',Y',Y',Y',Y',Y',Y',Y',Y',Y',Y',Y',Y',Y',Y',Y',Y',Y',Y',Y',Y',Y',Y',Y',Y',Y',Y',Y',Y',Y',Y',Y',Y',Y',Y',Y',Y',Y',Y',Y',N'] rfl rfl (any_of HT_.out (by kernel_rfl)) (fun _ _ _ h => h) (Or.inl ⟨by rfl, ?_⟩) ?_ ?_
            rotate_left
            ·intro w'
             go_simp
             with_reducible rfl
            rotate_left
            ·simp only [Act.put, List.setIfInBounds_toArray, List.set_cons_zero, List.set_cons_succ, i64_w, i32_w]
             rfl
            refine pure_ (i := 50) (N := some 92) (v := ?_) (a' := ?_) #[Y',Y',Y',Y',Y',Y',Y',Y',Y',Y',Y',Y',Y',Y',Y',Y',Y',Y',Y',Y',Y',Y',Y',Y',Y',Y',Y',Y',Y',Y',Y',Y',Y',Y',Y',Y',Y',Y',Y',Y',Y',Y',Y',Y',Y',Y',Y',Y',Y',Y',Y'] rfl rfl (any_of HT_.out (by kernel_rfl)) (fun _ _ _ h => h) (Or.inl ⟨by rfl, ?_⟩) ?_ ?_
            rotate_left
            ·intro w'
             go_simp
             with_reducible rfl
            rotate_left
            ·simp only [Act.put, List.setIfInBounds_toArray, List.set_cons_zero, List.set_cons_succ, i64_w, i32_w]
             rfl
            refine done_ (done_of HT_.out (by kernel_rfl)) ?_
            try go_wp2
            go_roundg k2
            case measure => have := HJ6.out; have := HK2.out; omega
            case rel => exact ⟨(wrap64 (x9_2 + 1)), (by first | rfl | (simp; done) | (simp [*]; done)), H', ⟨by have := HJ6.out; have := HK2.out; omega⟩, ⟨by (with_reducible repeat (first | apply Kd.R_alloc | apply Kd.R_drewN | apply Kd.R_drew)); exact HO_8.out⟩, ⟨by repeat (first | (with_reducible first | exact HB.out | apply below_alloc | apply pw_below_drewN | apply below_drew1) | exact HB.out)⟩⟩
        ·rw [if_neg c25] at H
         exact absurd H (by simp)
       ·rw [if_neg c24] at H
        have c24b0 : decide (x9_2 < (l0.length : Int)) = false := decide_eq_false c24
        clear c24
        replace H := Option.bind_eq_some_iff.mp H
        obtain ⟨t245, A610, H⟩ := H
        replace H : (if t245 = true then ((span_Style.f t237 a2).bind fun bt246 => ((span_Style.f l0 a2).bind fun bt252 => (some (bt246.1 == bt252.1 && (bt246.2.1 == bt252.2.1 && (bt246.2.2.1 == bt252.2.2.1 && (bt246.2.2.2.1 == bt252.2.2.2.1 && (bt246.2.2.2.2.1.toList == bt252.2.2.2.2.1.toList && (bt246.2.2.2.2.2 == bt252.2.2.2.2.2))))))))) else (some false)) = some r := H
        have A61 := Aside0.mk A610
        clear A610
        by_cases c62 : t245 = true
        ·subst c62
         have H1 : ((span_Style.f t237 a2).bind fun bt246 => ((span_Style.f l0 a2).bind fun bt252 => (some (bt246.1 == bt252.1 && (bt246.2.1 == bt252.2.1 && (bt246.2.2.1 == bt252.2.2.1 && (bt246.2.2.2.1 == bt252.2.2.2.1 && (bt246.2.2.2.2.1.toList == bt252.2.2.2.2.1.toList && (bt246.2.2.2.2.2 == bt252.2.2.2.2.2))))))))) = some r := by rw [if_pos rfl] at H; exact H
         clear H
         have H := H1
         clear H1
         replace H := Option.bind_eq_some_iff.mp H
         obtain ⟨⟨t246, t247, t248, t249, t250, t251⟩, A630, H⟩ := H
         replace H : ((span_Style.f l0 a2).bind fun bt252 => (some (t246 == bt252.1 && (t247 == bt252.2.1 && (t248 == bt252.2.2.1 && (t249 == bt252.2.2.2.1 && (t250.toList == bt252.2.2.2.2.1.toList && (t251 == bt252.2.2.2.2.2)))))))) = some r := H
         have A63 := Aside0.mk A630
         clear A630
         replace H := Option.bind_eq_some_iff.mp H
         obtain ⟨⟨t252, t253, t254, t255, t256, t257⟩, A640, H⟩ := H
         replace H : (some (t246 == t252 && (t247 == t253 && (t248 == t254 && (t249 == t255 && (t250.toList == t256.toList && (t251 == t257))))))) = some r := H
         have A64 := Aside0.mk A640
         clear A640
         obtain rfl := Option.some.inj H
         go_wp2_with (first | ((with_reducible refine gate_callee (f := 8) rfl ?_); refine goesL_ (some 93) rfl rfl Try.func8 (by kernel_rfl) rfl #[] rfl (by (try simp only [List.map_toArray, List.map_cons, List.map_nil]); first | done | rfl | (simp only [List.length_drop, List.length_take]; rfl)) ?_; (with_reducible refine (frisketlaw07_alive.calls k2  true _ A61.out).mono ?_); rintro e w65 ⟨rfl, hb⟩; refine ⟨_, rfl, ?_⟩; have n0_ := Aside0.mk (Kd.R_below (by (with_reducible repeat (first | apply Kd.R_alloc | apply Kd.R_drewN | apply Kd.R_drew)); exact HO_8.out) hb); have n1_ := Aside0.mk (below_step (by repeat (first | (with_reducible first | exact HB.out | apply below_alloc | apply pw_below_drewN | apply below_drew1) | exact HB.out)) hb); clear HO_8; clear HB; have HO_8 := n0_; have HB := n1_; clear n0_ n1_; (try clear hb); (try clear hb2); (try clear hk); (try clear hi); obtain ⟨Ao66, co66, eo66⟩ := Kd.R_slice HO_8.out; subst eo66) | (go_at_call 16; (with_reducible refine (span_Style.calls _ _ t237 a2 t246 t247 t248 t249 t250 t251 _ ?side1 ?side2 A63.out).mono ?_); (case side1 => repeat (first | exact (Kd.R_reads' HO_8.out).2.2 | (with_reducible refine Kd.C_alloc ?_ _) | (with_reducible refine Kd.C_drewN ?_ _) | (with_reducible refine Kd.C_drew ?_))); (case side2 => exact (Kd.R_reads' HO_8.out).2.1); rintro e w67 ⟨rfl, hb⟩; have n0_ := Aside0.mk (Kd.R_below (by (with_reducible repeat (first | apply Kd.R_alloc | apply Kd.R_drewN | apply Kd.R_drew)); exact HO_8.out) hb); have n1_ := Aside0.mk (below_step (by repeat (first | (with_reducible first | exact HB.out | apply below_alloc | apply pw_below_drewN | apply below_drew1) | exact HB.out)) hb); clear HO_8; clear HB; have HO_8 := n0_; have HB := n1_; clear n0_ n1_; (try clear hb); (try clear hb2); (try clear hk); (try clear hi)) | (go_at_call 16; (with_reducible refine (span_Style.calls _ _ l0 a2 t252 t253 t254 t255 t256 t257 _ ?side1 ?side2 A64.out).mono ?_); (case side1 => repeat (first | exact (Kd.C_below HR0.out HB.out) | (with_reducible refine Kd.C_alloc ?_ _) | (with_reducible refine Kd.C_drewN ?_ _) | (with_reducible refine Kd.C_drew ?_))); (case side2 => exact HC0.out); rintro e w68 ⟨rfl, hb⟩; have n0_ := Aside0.mk (Kd.R_below (by (with_reducible repeat (first | apply Kd.R_alloc | apply Kd.R_drewN | apply Kd.R_drew)); exact HO_8.out) hb); have n1_ := Aside0.mk (below_step (by repeat (first | (with_reducible first | exact HB.out | apply below_alloc | apply pw_below_drewN | apply below_drew1) | exact HB.out)) hb); clear HO_8; clear HB; have HO_8 := n0_; have HB := n1_; clear n0_ n1_; (try clear hb); (try clear hb2); (try clear hk); (try clear hi)))
         go_ret
         exact ⟨by first | rfl | (simp [errW_none, errW_some] <;> rfl) | (simp [*, errW_none, errW_some] <;> rfl), by repeat (first | (with_reducible first | exact HB.out | apply below_alloc | apply pw_below_drewN | apply below_drew1) | exact HB.out)⟩
        ·replace c62 := Bool.eq_false_iff.mpr c62
         subst c62
         have H1 : (some false) = some r := by rw [if_neg (show ¬ (false = true) by decide)] at H; exact H
         clear H
         have H := H1
         clear H1
         obtain rfl := Option.some.inj H
         go_wp2_with (first | ((with_reducible refine gate_callee (f := 8) rfl ?_); refine goesL_ (some 93) rfl rfl Try.func8 (by kernel_rfl) rfl #[] rfl (by (try simp only [List.map_toArray, List.map_cons, List.map_nil]); first | done | rfl | (simp only [List.length_drop, List.length_take]; rfl)) ?_; (with_reducible refine (frisketlaw07_alive.calls k2  false _ A61.out).mono ?_); rintro e w69 ⟨rfl, hb⟩; refine ⟨_, rfl, ?_⟩; have n0_ := Aside0.mk (Kd.R_below (by (with_reducible repeat (first | apply Kd.R_alloc | apply Kd.R_drewN | apply Kd.R_drew)); exact HO_8.out) hb); have n1_ := Aside0.mk (below_step (by repeat (first | (with_reducible first | exact HB.out | apply below_alloc | apply pw_below_drewN | apply below_drew1) | exact HB.out)) hb); clear HO_8; clear HB; have HO_8 := n0_; have HB := n1_; clear n0_ n1_; (try clear hb); (try clear hb2); (try clear hk); (try clear hi)))
         go_ret
         exact ⟨by first | rfl | (simp [errW_none, errW_some] <;> rfl) | (simp [*, errW_none, errW_some] <;> rfl), by repeat (first | (with_reducible first | exact HB.out | apply below_alloc | apply pw_below_drewN | apply below_drew1) | exact HB.out)⟩
 ·replace c5 := Bool.eq_false_iff.mpr c5
  subst c5
  have H1 : ((frisketlaw07_alive.f k).bind fun t236 => (some t236)) = some r := by rw [if_neg (show ¬ (false = true) by decide)] at H; exact H
  clear H
  have H := H1
  clear H1
  replace H := Option.bind_eq_some_iff.mp H
  obtain ⟨t236, A700, H⟩ := H
  replace H : (some t236) = some r := H
  have A70 := Aside0.mk A700
  clear A700
  obtain rfl := Option.some.inj H
  go_enter Try.func4, Try.ntmps4
  go_wp2_with (first | ((with_reducible refine gate_callee (f := 7) rfl ?_); refine goesL_ (some 12) rfl rfl Try.func7 (by kernel_rfl) rfl #[.slice A0 l0.length c0, .int .i64 a1] rfl (by (try simp only [List.map_toArray, List.map_cons, List.map_nil]); first | done | rfl | (simp only [List.length_drop, List.length_take]; rfl)) ?_; (with_reducible refine (frisketlaw07_Fits.calls k _ _ l0 a1 false _ ?side1 ?side2 A4.out).mono ?_); (case side1 => repeat (first | exact HR0.out | (with_reducible refine Kd.C_alloc ?_ _) | (with_reducible refine Kd.C_drewN ?_ _) | (with_reducible refine Kd.C_drew ?_))); (case side2 => exact HC0.out); rintro e w71 ⟨rfl, hb⟩; refine ⟨_, rfl, ?_⟩; have n0_ := Aside0.mk (below_step (by repeat (first | (with_reducible first | exact HB.out | apply below_alloc | apply pw_below_drewN | apply below_drew1) | exact HB.out)) hb); clear HB; have HB := n0_; clear n0_; (try clear hb); (try clear hb2); (try clear hk); (try clear hi)) | ((with_reducible refine gate_callee (f := 8) rfl ?_); refine goesL_ (some 15) rfl rfl Try.func8 (by kernel_rfl) rfl #[] rfl (by (try simp only [List.map_toArray, List.map_cons, List.map_nil]); first | done | rfl | (simp only [List.length_drop, List.length_take]; rfl)) ?_; (with_reducible refine (frisketlaw07_alive.calls k  t236 _ A70.out).mono ?_); rintro e w72 ⟨rfl, hb⟩; refine ⟨_, rfl, ?_⟩; have n0_ := Aside0.mk (below_step (by repeat (first | (with_reducible first | exact HB.out | apply below_alloc | apply pw_below_drewN | apply below_drew1) | exact HB.out)) hb); clear HB; have HB := n0_; clear n0_; (try clear hb); (try clear hb2); (try clear hk); (try clear hi)))
  go_ret
  exact ⟨by first | rfl | (simp [errW_none, errW_some] <;> rfl) | (simp [*, errW_none, errW_some] <;> rfl), by repeat (first | (with_reducible first | exact HB.out | apply below_alloc | apply pw_below_drewN | apply below_drew1) | exact HB.out)⟩

end Go.Proofs.Ytdkblhfcndafaaa.X
