/- span.At: which span has a scalar, by binary search. -/
import Derived.Test.YtdkblhfcndafaaaYbs
namespace Go.Proofs.Ytdkblhfcndafaaa.X
open Go.RowKit Go.Proofs.YtdkblhfcndafaaaW.PrintWords Go.Proofs.YtdkblhfcndafaaaW.PrintLast Go.Proofs.YtdkblhfcndafaaaW.PrintMore
set_option linter.unusedVariables false
set_option linter.unusedSimpArgs false

def span_At.cf (s : S33) (t : Int) : Int := cmpI (wrap64 (s.f1 - 1)) t
set_option maxHeartbeats 4000000 in
theorem span_At.cmp (s : S33) (t : Int) (w : World) :
    Calls Try.prog 30 #[.agg #[.int .i64 s.f0, .int .i64 s.f1, .int .i64 s.f2, .bool s.f3, .string s.f4, .int .u64 s.f5], .int .i64 t] w fun e w' => e = .returned (.int .i64 (span_At.cf s t)) ∧ Below w.heap.size w w' := by
  go_enter Try.func30, Try.ntmps30
  go_wp2_with (go_at_call 31; refine (compare_int _ _ _).mono ?_; rintro e w' ⟨rfl, rfl⟩)
  go_ret
  exact ⟨rfl, below_alloc (Below.refl _ _) _⟩
def span_At.lt (l0 : List S33) (t : Int) (k : Nat) : Bool := decide (span_At.cf (rd_T33 l0 (k : Int)) t < 0)
set_option maxHeartbeats 4000000 in
set_option maxRecDepth 100000 in
theorem span_At.search (A0 : Option Addr) (c0 : Nat) (l0 : List S33) (t : Int) (w : World) (hr0 : Kd.C k33 w A0 l0.length l0) (hc0 : l0.length ≤ c0) (hlen : l0.length ≤ 1000000000) :
    Calls Try.prog 29 #[.slice A0 l0.length c0, .int .i64 t, .func (.func 30) #[] #[]] w (SearchPost (bsearch (span_At.lt l0 t) l0.length) w) := by
  have HR0 := Aside0.mk hr0
  have HL := Aside0.mk hlen
  clear hr0 hlen
  have HW : l0.length ≤ 9223372036854775807 := by have := HL.out; omega
  obtain ⟨R, hR⟩ : ∃ R, R = bsearch (span_At.lt l0 t) l0.length := ⟨_, rfl⟩
  rw [← hR]
  have HR := Aside0.mk hR
  clear hR
  go_enter Try.func29, Try.ntmps29
  go_wp2
  go_loopg [9, 10] l0.length (fun kq vi vj wr => ∃ i j : Nat, vi = .int .i64 (i : Int) ∧ vj = .int .i64 (j : Int) ∧ Aside0 (i ≤ j ∧ j ≤ l0.length ∧ j - i ≤ kq) ∧ Aside0 (bs (span_At.lt l0 t) kq i j = R) ∧ Aside0 (Below w.heap.size w wr))
  case atStart => exact ⟨0, l0.length, by first | rfl | simp, by first | rfl | simp, ⟨by omega⟩, ⟨HR.out.symm⟩, ⟨Below.refl _ _⟩⟩
  case round =>
    obtain ⟨i, j, rfl, rfl, hx, HE, HB⟩ := hrel
    by_cases hlt : i < j
    · cases gk with
      | zero => exact absurd hx.out (by omega)
      | succ k2 =>
      have hx1 := hx.out
      have HEV := HE.out
      unfold bs at HEV
      rw [if_pos hlt] at HEV
      clear HE
      have hj2 : j ≤ 1000000000 := by have := HL.out; omega
      have hij : (i : Int) < (j : Int) := by omega
      obtain ⟨h, hh⟩ : ∃ h, h = (i + j) / 2 := ⟨_, rfl⟩
      rw [← hh] at HEV
      have hb1 : i ≤ h := by omega
      have hb2 : h < j := by omega
      have hb3 : h < l0.length := by omega
      have hhi : ((h : Nat) : Int) = ((i : Int) + (j : Int)) / 2 := by omega
      have h0 : 0 ≤ (h : Int) := by omega
      have h1 : (h : Int) < (l0.length : Int) := by omega
      obtain ⟨ad_z, e_z, z0, z1, z2, z3, z4, z5⟩ := at_T33 HR0.out (h : Int) h0 h1; cases e_z; replace z0 := (HB.out.cell (World.block_lt_of_cell? w _ z0)).trans z0; replace z1 := (HB.out.cell (World.block_lt_of_cell? w _ z1)).trans z1; replace z2 := (HB.out.cell (World.block_lt_of_cell? w _ z2)).trans z2; replace z3 := (HB.out.cell (World.block_lt_of_cell? w _ z3)).trans z3; replace z4 := (HB.out.cell (World.block_lt_of_cell? w _ z4)).trans z4; replace z5 := (HB.out.cell (World.block_lt_of_cell? w _ z5)).trans z5; simp only [Int.toNat_natCast] at z0 z1 z2 z3 z4 z5
      have c0' : 0 ≤ (i : Int) := by omega
      have c1' : (i : Int) ≤ 1000000000 := by omega
      have c2' : 0 ≤ (j : Int) := by omega
      have c3' : (j : Int) ≤ 1000000000 := by omega
      have HX := Aside0.mk hx1
      have HV := Aside0.mk HEV
      have HHI := Aside0.mk hhi
      have HH := Aside0.mk hh
      clear hx1 HEV hhi hh hx
      go_upto_region 5 with (fail)
      rw [← HHI.out]
      have HM : (h : Int) + 1 ≤ 1000000000 := by omega
      by_cases hcf : span_At.cf (rd_T33 l0 (h : Int)) t < 0
      · have hl : span_At.lt l0 t h = true := by unfold span_At.lt; exact decide_eq_true hcf
        have HV2 : Aside0 (bs (span_At.lt l0 t) k2 (h + 1) j = R) := ⟨by have := HV.out; rw [if_pos hl] at this; exact this⟩
        clear hl HV
        go_wp2_with (go_at_call 30; refine (span_At.cmp (rd_T33 l0 (h : Int)) t _).mono ?_; rintro e w' ⟨rfl, hb⟩; have HB2 := Aside0.mk (below_step HB.out hb); clear hb HB; have HB := HB2; clear HB2)
        (go_roundg k2; (case measure => omega); (case rel => exact ⟨h + 1, j, (by first | rfl | go_num | simp), rfl, ⟨by have := HX.out; omega⟩, HV2, HB⟩))
      · have hcb : decide (span_At.cf (rd_T33 l0 (h : Int)) t < 0) = false := decide_eq_false hcf
        have hl : span_At.lt l0 t h = false := hcb
        clear hcf
        have HV2 : Aside0 (bs (span_At.lt l0 t) k2 i h = R) := ⟨by have := HV.out; rw [if_neg (by simp [hl])] at this; exact this⟩
        clear hl HV
        go_wp2_with (go_at_call 30; refine (span_At.cmp (rd_T33 l0 (h : Int)) t _).mono ?_; rintro e w' ⟨rfl, hb⟩; have HB2 := Aside0.mk (below_step HB.out hb); clear hb HB; have HB := HB2; clear HB2)
        (go_roundg k2; (case measure => omega); (case rel => exact ⟨i, h, rfl, rfl, ⟨by have := HX.out; omega⟩, HV2, HB⟩))
    · have hx1 := hx.out
      have HEV : R = i := by
        rw [← HE.out]
        cases gk with
        | zero => rfl
        | succ k2 => unfold bs; rw [if_neg hlt]
      replace HEV := Aside0.mk HEV
      have hij : ¬ ((i : Int) < (j : Int)) := by omega
      clear HE
      by_cases hn : i < l0.length
      · have hn' : (i : Int) < (l0.length : Int) := by omega
        have h0 : 0 ≤ (i : Int) := by omega
        obtain ⟨ad_z, e_z, z0, z1, z2, z3, z4, z5⟩ := at_T33 HR0.out (i : Int) h0 hn'; cases e_z; replace z0 := (HB.out.cell (World.block_lt_of_cell? w _ z0)).trans z0; replace z1 := (HB.out.cell (World.block_lt_of_cell? w _ z1)).trans z1; replace z2 := (HB.out.cell (World.block_lt_of_cell? w _ z2)).trans z2; replace z3 := (HB.out.cell (World.block_lt_of_cell? w _ z3)).trans z3; replace z4 := (HB.out.cell (World.block_lt_of_cell? w _ z4)).trans z4; replace z5 := (HB.out.cell (World.block_lt_of_cell? w _ z5)).trans z5; simp only [Int.toNat_natCast] at z0 z1 z2 z3 z4 z5
        have HX := Aside0.mk hx1
        clear hx1 hx
        go_wp2_with (go_at_call 30; refine (span_At.cmp (rd_T33 l0 (i : Int)) t _).mono ?_; rintro e w' ⟨rfl, hb⟩; have HB2 := Aside0.mk (below_step HB.out hb); clear hb HB; have HB := HB2; clear HB2)
        all_goals (go_ret2; exact ⟨_, by rw [HEV.out]; rfl, HB.out⟩)
      · have hn' : ¬ ((i : Int) < (l0.length : Int)) := by omega
        have HX := Aside0.mk hx1
        clear hx1 hx
        go_wp2
        go_ret2
        exact ⟨_, by rw [HEV.out]; rfl, HB.out⟩

def span_At.f (l0 : List S33) (a1 : Int) : Option (Int × Bool) :=
  if l0.length ≤ 1000000000 then (if bsearch (span_At.lt l0 a1) l0.length = l0.length then some (0, false) else if (rd_T33 l0 ((bsearch (span_At.lt l0 a1) l0.length : Nat) : Int)).f0 > a1 then some (0, false) else some (((bsearch (span_At.lt l0 a1) l0.length : Nat) : Int), true)) else none
set_option maxHeartbeats 4000000 in
set_option maxRecDepth 100000 in
theorem span_At.calls (A0 : Option Addr) (c0 : Nat) (l0 : List S33) (a1 : Int) (r1 : Int) (r2 : Bool) (w : World) (hr0 : Kd.C k33 w A0 l0.length l0) (hc0 : l0.length ≤ c0) (h : span_At.f l0 a1 = some (r1, r2)) :
    Calls Try.prog 25 #[.slice A0 l0.length c0, .int .i64 a1] w fun e w' => e = .returned (.tuple #[.int .i64 r1, .bool r2]) ∧ Below w.heap.size w w' := by
  unfold span_At.f at h
  split at h
  case isFalse => cases h
  rename_i hl
  have hS := fun W => span_At.search A0 c0 l0 a1 W
  have hle := bsearch_le (span_At.lt l0 a1) l0.length
  generalize bsearch (span_At.lt l0 a1) l0.length = k at h hS hle
  have HS := Aside0.mk hS
  have HR0 := Aside0.mk hr0
  have HL := Aside0.mk hl
  clear hS hr0 hl
  by_cases h1 : k = l0.length
  · rw [if_pos h1] at h
    obtain ⟨rfl, rfl⟩ := Prod.mk.inj (Option.some.inj h)
    clear h
    have he : ((k : Int) == (l0.length : Int)) = true := by rw [h1]; exact beq_self_eq_true _
    replace h1 := Aside0.mk h1
    go_enter Try.func25, Try.ntmps25
    go_wp2_with (go_at_call 29; refine (HS.out _ HR0.out hc0 HL.out).mono ?_; rintro e w' ⟨b, rfl, hb⟩; have HB := Aside0.mk hb; clear hb)
    go_ret2
    exact ⟨rfl, HB.out⟩
  · rw [if_neg h1] at h
    have hk : (k : Int) < (l0.length : Int) := by omega
    have h0 : 0 ≤ (k : Int) := by omega
    have he : ((k : Int) == (l0.length : Int)) = false := beq_eq_false_iff_ne.mpr (by omega)
    have hw : l0.length ≤ 9223372036854775807 := by have := HL.out; omega
    replace h1 := Aside0.mk h1
    obtain ⟨ad_z, e_z, z0, z1, z2, z3, z4, z5⟩ := at_T33 HR0.out (k : Int) h0 hk; cases e_z; simp only [Int.toNat_natCast] at z0 z1 z2 z3 z4 z5
    by_cases h2 : (rd_T33 l0 (k : Int)).f0 > a1
    · rw [if_pos h2] at h
      obtain ⟨rfl, rfl⟩ := Prod.mk.inj (Option.some.inj h)
      clear h
      have hb2 : decide (a1 < (rd_T33 l0 (k : Int)).f0) = true := decide_eq_true h2
      clear h2
      go_enter Try.func25, Try.ntmps25
      go_wp2_with (go_at_call 29; refine (HS.out _ HR0.out hc0 HL.out).mono ?_; rintro e w' ⟨b, rfl, hb⟩; have z0' := pw_cell_below hb z0; have HB := Aside0.mk hb; clear hb)
      go_ret2
      exact ⟨rfl, HB.out⟩
    · rw [if_neg h2] at h
      obtain ⟨rfl, rfl⟩ := Prod.mk.inj (Option.some.inj h)
      clear h
      have hb2 : decide (a1 < (rd_T33 l0 (k : Int)).f0) = false := decide_eq_false h2
      clear h2
      go_enter Try.func25, Try.ntmps25
      go_wp2_with (go_at_call 29; refine (HS.out _ HR0.out hc0 HL.out).mono ?_; rintro e w' ⟨b, rfl, hb⟩; have z0' := pw_cell_below hb z0; have HB := Aside0.mk hb; clear hb)
      go_ret2
      exact ⟨rfl, HB.out⟩
end Go.Proofs.Ytdkblhfcndafaaa.X
