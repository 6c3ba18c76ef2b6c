/- span.moved, over any two function values that give numbers: the spans whose ends are moved, those that may not be left out. -/
import Derived.Test.YtdkblhfcndafaaaYclos
import Derived.Test.YtdkblhfcndafaaaYkit
namespace Go.Proofs.Ytdkblhfcndafaaa.X
open Go.RowKit Go.Proofs.YtdkblhfcndafaaaW.PrintWords Go.Proofs.YtdkblhfcndafaaaW.PrintLast Go.Proofs.YtdkblhfcndafaaaW.PrintMore
set_option linter.unusedVariables false
set_option linter.unusedSimpArgs false

def movedOne (f1 f2 : Int → Int) (s : S33) : List S33 :=
  if f1 s.f0 < f2 s.f1 then (if s.f3 = true then (if wrap64 (f2 s.f1 - f1 s.f0) ≤ 4 then [⟨f1 s.f0, f2 s.f1, s.f2, s.f3, s.f4, s.f5⟩] else []) else [⟨f1 s.f0, f2 s.f1, s.f2, s.f3, s.f4, s.f5⟩]) else []
def movedL (f1 f2 : Int → Int) (l : List S33) : List S33 := l.flatMap (movedOne f1 f2)
theorem movedL_take (f1 f2 : Int → Int) (l : List S33) (x : Int) (h0 : 0 ≤ x) (h : x < l.length) :
    movedL f1 f2 (l.take (x + 1).toNat) = movedL f1 f2 (l.take x.toNat) ++ movedOne f1 f2 (rd_T33 l x) := by
  have e : (x + 1).toNat = x.toNat + 1 := by omega
  have hx : x.toNat < l.length := by omega
  unfold movedL rd_T33
  rw [e, List.take_succ_eq_append_getElem hx, List.flatMap_append]
  simp [List.getElem?_eq_getElem hx]
theorem movedL_len (f1 f2 : Int → Int) (l : List S33) : (movedL f1 f2 l).length ≤ l.length := by
  induction l with
  | nil => simp [movedL]
  | cons s l ih =>
    have : (movedOne f1 f2 s).length ≤ 1 := by unfold movedOne; split <;> (try split) <;> (try split) <;> simp
    simp only [movedL, List.flatMap_cons, List.length_append, List.length_cons] at ih ⊢
    omega

set_option maxHeartbeats 8000000 in
set_option maxRecDepth 100000 in
theorem moved_calls (g1 g2 : Nat) (lb1 lb2 : Array Value) (f1 f2 : Int → Int) (A0 : Option Addr) (c0 : Nat) (l0 : List S33) (w : World) (hr0 : Kd.C k33 w A0 l0.length l0) (hc0 : l0.length ≤ c0) (hlen : l0.length ≤ 1000000)
    (e1 : ∀ args w, (callFunc g1 args).run Try.prog w = .ok (.enter g1 args) w) (e2 : ∀ args w, (callFunc g2 args).run Try.prog w = .ok (.enter g2 args) w)
    (h1 : FnInt g1 lb1 f1 w) (h2 : FnInt g2 lb2 f2 w) :
    Calls Try.prog 21 #[.slice A0 l0.length c0, .func (.func g1) #[] lb1, .func (.func g2) #[] lb2] w fun e w' => ∃ v0_ : Value, e = .returned (v0_) ∧ Kd.R k33 33 w' w.heap.size (fun _ => True) v0_ (movedL f1 f2 l0) ∧ Below w.heap.size w w' := by
  have HR0 := Aside0.mk hr0
  have H1 := Aside0.mk h1
  have H2 := Aside0.mk h2
  have HL := Aside0.mk hlen
  clear hr0 h1 h2 hlen
  go_enter Try.func21, Try.ntmps21
  go_wp2
  go_loopg [7, 12] l0.length (fun kq v i wr => ∃ x : Int, i = .int .i64 x ∧ Aside0 (0 ≤ x ∧ x + kq = l0.length) ∧ Aside0 (Kd.R k33 33 wr w.heap.size (fun _ => True) v (movedL f1 f2 (l0.take x.toNat))) ∧ Aside0 (Below w.heap.size w wr))
  case atStart => exact ⟨0, rfl, ⟨by omega⟩, ⟨by simpa [movedL] using Kd.R_nil _ _ _ _ _⟩, ⟨Below.refl _ _⟩⟩
  case round =>
    obtain ⟨x, rfl, hx, HO, HB⟩ := hrel
    by_cases hlt : x < (l0.length : Int)
    · cases gk with
      | zero => exact absurd hx.out (by omega)
      | succ k2 =>
      obtain ⟨ad, e0, z0, z1, z2, z3, z4, z5⟩ := at_T33 HR0.out x hx.out.1 hlt
      cases e0
      replace z0 := (HB.out.cell (World.block_lt_of_cell? w _ z0)).trans z0
      replace z1 := (HB.out.cell (World.block_lt_of_cell? w _ z1)).trans z1
      replace z2 := (HB.out.cell (World.block_lt_of_cell? w _ z2)).trans z2
      replace z3 := (HB.out.cell (World.block_lt_of_cell? w _ z3)).trans z3
      replace z4 := (HB.out.cell (World.block_lt_of_cell? w _ z4)).trans z4
      replace z5 := (HB.out.cell (World.block_lt_of_cell? w _ z5)).trans z5
      have hT := Aside0.mk (movedL_take f1 f2 l0 x hx.out.1 hlt)
      generalize rd_T33 l0 x = s at z0 z1 z2 z3 z4 z5 hT
      obtain ⟨s0, s1, s2, s3, s4, s5⟩ := s
      dsimp only at z0 z1 z2 z3 z4 z5
      have c1 : decide (x < (l0.length : Int)) = true := decide_eq_true hlt
      have c2 : 0 ≤ x := hx.out.1
      go_upto_region 5 with (first | ((with_reducible refine gate_dst (N := 9) rfl ?_); refine box_event ?hg (N := 9) ?hd (cs := #[.int .i64 0, .int .i64 0, .int .i64 0, .bool false, .string (⟨#[]⟩ : ByteArray), .int .u64 0]) (t := 33) ?hr ?_; (case hd => rfl); (case hg => rfl); (case hr => first | (go_simp; done) | (go_simp; rfl)); intro gb hg w14 hbox hb; have n0_ := Aside0.mk (Kd.R_below (Kd.R_elderB HO.out gb (Nat.le_of_eq hg.symm)) hb); have n1_ := Aside0.mk (below_step HB.out hb); have BK := Aside0.mk hbox; have GW := Aside0.mk ((by rw [hg]; exact (below_size HB.out) : w.heap.size ≤ gb)); clear HO; clear HB; have HO := n0_; have HB := n1_; clear n0_ n1_ hb hbox hg; have q0 : w14.cell? ⟨gb, 0, none⟩ = some (.int .i64 0) := (blk_cell BK.out 0).trans rfl; have q1 : w14.cell? ⟨gb, 1, none⟩ = some (.int .i64 0) := (blk_cell BK.out 1).trans rfl; have q2 : w14.cell? ⟨gb, 2, none⟩ = some (.int .i64 0) := (blk_cell BK.out 2).trans rfl; have q3 : w14.cell? ⟨gb, 3, none⟩ = some (.bool false) := (blk_cell BK.out 3).trans rfl; have q4 : w14.cell? ⟨gb, 4, none⟩ = some (.string (⟨#[]⟩ : ByteArray)) := (blk_cell BK.out 4).trans rfl; have q5 : w14.cell? ⟨gb, 5, none⟩ = some (.int .u64 0) := (blk_cell BK.out 5).trans rfl; have y0 := blk_frozen BK.out 0; have y1 := blk_frozen BK.out 1; have y2 := blk_frozen BK.out 2; have y3 := blk_frozen BK.out 3; have y4 := blk_frozen BK.out 4; have y5 := blk_frozen BK.out 5))
      clear z0 z1 z2 z3 z4 z5
      refine wp_world (fun W => Aside0 (W.heap[gb]? = some (.cells #[.int .i64 s0, .int .i64 s1, .int .i64 s2, .bool s3, .string s4, .int .u64 s5] 33 (0, 0))) ∧ Aside0 (Kd.R k33 33 W w.heap.size (fun k_ => k_ ≠ gb) u7 (movedL f1 f2 (l0.take x.toNat))) ∧ Aside0 (Below w.heap.size w W)) ?_ ?_
      · exact ⟨⟨blk_put (cs := #[.int .i64 s0, .int .i64 s1, .int .i64 s2, .bool s3, .string s4, .int .u64 0]) (blk_put (cs := #[.int .i64 s0, .int .i64 s1, .int .i64 s2, .bool s3, .string ⟨#[]⟩, .int .u64 0]) (blk_put (cs := #[.int .i64 s0, .int .i64 s1, .int .i64 s2, .bool false, .string ⟨#[]⟩, .int .u64 0]) (blk_put (cs := #[.int .i64 s0, .int .i64 s1, .int .i64 0, .bool false, .string ⟨#[]⟩, .int .u64 0]) (blk_put (cs := #[.int .i64 s0, .int .i64 0, .int .i64 0, .bool false, .string ⟨#[]⟩, .int .u64 0]) (blk_put BK.out 0 _ rfl) 1 _ rfl) 2 _ rfl) 3 _ rfl) 4 _ rfl) 5 _ rfl⟩,
          ⟨Kd.R_mono (Kd.R_far (p := ⟨gb, 5, none⟩) (Kd.R_far (p := ⟨gb, 4, none⟩) (Kd.R_far (p := ⟨gb, 3, none⟩) (Kd.R_far (p := ⟨gb, 2, none⟩) (Kd.R_far (p := ⟨gb, 1, none⟩) (Kd.R_far (p := ⟨gb, 0, none⟩) HO.out (fun _ hk => hk.2) _) (fun _ hk => hk.2) _) (fun _ hk => hk.2) _) (fun _ hk => hk.2) _) (fun _ hk => hk.2) _) (fun _ hk => hk.2) _) (fun _ hk => hk.2)⟩,
          ⟨below_set (below_set (below_set (below_set (below_set (below_set HB.out GW.out) GW.out) GW.out) GW.out) GW.out) GW.out⟩⟩
      · clear BK HO HB q0 q1 q2 q3 q4 q5 y0 y1 y2 y3 y4 y5
        rintro W ⟨BK, HO, HB⟩
        have q0 : W.cell? ⟨gb, 0, none⟩ = some (.int .i64 s0) := (blk_cell BK.out 0).trans rfl
        have q1 : W.cell? ⟨gb, 1, none⟩ = some (.int .i64 s1) := (blk_cell BK.out 1).trans rfl
        have HBd : Below w.heap.size w W.drew := HB.out.drew
        go_still_tail 9, (by kernel_rfl)
        change wpStill _ _ W.drew _ _ _
        still_call (H1.out W.drew s0 HBd)
        repeat still_step
        still_call (H2.out W.drew s1 HBd)
        repeat still_step
        refine wpStill_nil ?_
        have y0 : W.frozen? ⟨gb, 0, none⟩ = false := blk_frozen BK.out 0
        have y1 : W.frozen? ⟨gb, 1, none⟩ = false := blk_frozen BK.out 1
        go_upto_region 6 with (fail)
        refine wp_world (fun W => Aside0 (W.heap[gb]? = some (.cells #[.int .i64 (f1 s0), .int .i64 (f2 s1), .int .i64 s2, .bool s3, .string s4, .int .u64 s5] 33 (0, 0))) ∧ Aside0 (Kd.R k33 33 W w.heap.size (fun k_ => k_ ≠ gb) u7 (movedL f1 f2 (l0.take x.toNat))) ∧ Aside0 (Below w.heap.size w W)) ?_ ?_
        · exact ⟨⟨blk_put (cs := #[.int .i64 (f1 s0), .int .i64 s1, .int .i64 s2, .bool s3, .string s4, .int .u64 s5]) (blk_put (w := W.drew) BK.out 0 _ rfl) 1 _ rfl⟩,
            ⟨Kd.R_far (p := ⟨gb, 1, none⟩) (Kd.R_far (p := ⟨gb, 0, none⟩) (Kd.R_drew HO.out) (fun _ hk => hk) _) (fun _ hk => hk) _⟩,
            ⟨below_set (below_set HBd GW.out) GW.out⟩⟩
        · clear BK HO HB HBd q0 q1 y0 y1
          clear W
          rintro W ⟨BK, HO, HB⟩
          have q0 : W.cell? ⟨gb, 0, none⟩ = some (.int .i64 (f1 s0)) := (blk_cell BK.out 0).trans rfl
          have q1 : W.cell? ⟨gb, 1, none⟩ = some (.int .i64 (f2 s1)) := (blk_cell BK.out 1).trans rfl
          have q2 : W.cell? ⟨gb, 2, none⟩ = some (.int .i64 s2) := (blk_cell BK.out 2).trans rfl
          have q3 : W.cell? ⟨gb, 3, none⟩ = some (.bool s3) := (blk_cell BK.out 3).trans rfl
          have q4 : W.cell? ⟨gb, 4, none⟩ = some (.string s4) := (blk_cell BK.out 4).trans rfl
          have q5 : W.cell? ⟨gb, 5, none⟩ = some (.int .u64 s5) := (blk_cell BK.out 5).trans rfl
          have LB : ((movedL f1 f2 (l0.take x.toNat)).length + 1) * 56 ≤ 140737488355328 := by
            have h1 := movedL_len f1 f2 (l0.take x.toNat)
            have h2 := List.length_take_le x.toNat l0
            have h3 := HL.out
            omega
          have hTT := Aside0.mk hT.out
          clear hT
          replace LB := Aside0.mk LB
          by_cases d1 : f1 s0 < f2 s1
          · cases s3 with
            | true =>
              by_cases d3 : wrap64 (f2 s1 - f1 s0) ≤ 4
              · have hE := Aside0.mk (show movedL f1 f2 (l0.take (x + 1).toNat) = movedL f1 f2 (l0.take x.toNat) ++ [(⟨f1 s0, f2 s1, s2, true, s4, s5⟩ : S33)] by rw [hTT.out]; simp [movedOne, d1, d3])
                go_wp2_with (first | ((with_reducible refine gate_builtin (b := .append) (xs := #[.tmp 44, .tmp 46]) rfl ?_); at_builtin; refine my_append_beside k33 (w := w) rfl (.tmp 44) (.tmp 46) 22 33 (.agg #[(.int .i64 0), (.int .i64 0), (.int .i64 0), (.bool false), (.string ⟨#[]⟩), (.int .u64 0)]) 56 gb _ rfl Try.underlying22 info33 rfl (by decide) (by omega) u7 (movedL f1 f2 (l0.take x.toNat)) (⟨f1 s0, f2 s1, s2, true, s4, s5⟩ : S33) [.int .i64 (f1 s0), .int .i64 (f2 s1), .int .i64 s2, .bool true, .string s4, .int .u64 s5] rfl (by first | (go_simp; done) | (go_simp; rfl)) (k33_mkM _ _ _ (⟨f1 s0, f2 s1, s2, true, s4, s5⟩ : S33)) HO.out HB.out BK.out LB.out ?_; intro v1 w1 hR hB hG; clear HO HB BK; have HO := Aside0.mk hR; have HB := Aside0.mk hB; have BK := Aside0.mk hG; clear hR hB hG))
                (go_roundg k2; (case measure => (have := hx.out; omega)); (case rel => exact ⟨x + 1, (by first | rfl | (simp; done) | (rw [IntWalk.wrap64_in (x + 1) ⟨by have := hx.out; omega, by have := hx.out; have := HL.out; omega⟩])), ⟨by have := hx.out; omega⟩, ⟨by rw [hE.out]; exact Kd.R_mono HO.out (fun _ _ => trivial)⟩, HB⟩))
              · have hE := Aside0.mk (show movedL f1 f2 (l0.take (x + 1).toNat) = movedL f1 f2 (l0.take x.toNat) by rw [hTT.out]; simp [movedOne, d1, d3])
                go_wp2
                (go_roundg k2; (case measure => (have := hx.out; omega)); (case rel => exact ⟨x + 1, (by first | rfl | (simp; done) | (rw [IntWalk.wrap64_in (x + 1) ⟨by have := hx.out; omega, by have := hx.out; have := HL.out; omega⟩])), ⟨by have := hx.out; omega⟩, ⟨by rw [hE.out]; exact Kd.R_mono HO.out (fun _ _ => trivial)⟩, HB⟩))
            | false =>
              have hE := Aside0.mk (show movedL f1 f2 (l0.take (x + 1).toNat) = movedL f1 f2 (l0.take x.toNat) ++ [(⟨f1 s0, f2 s1, s2, false, s4, s5⟩ : S33)] by rw [hTT.out]; simp [movedOne, d1])
              go_wp2_with (first | ((with_reducible refine gate_builtin (b := .append) (xs := #[.tmp 44, .tmp 46]) rfl ?_); at_builtin; refine my_append_beside k33 (w := w) rfl (.tmp 44) (.tmp 46) 22 33 (.agg #[(.int .i64 0), (.int .i64 0), (.int .i64 0), (.bool false), (.string ⟨#[]⟩), (.int .u64 0)]) 56 gb _ rfl Try.underlying22 info33 rfl (by decide) (by omega) u7 (movedL f1 f2 (l0.take x.toNat)) (⟨f1 s0, f2 s1, s2, false, s4, s5⟩ : S33) [.int .i64 (f1 s0), .int .i64 (f2 s1), .int .i64 s2, .bool false, .string s4, .int .u64 s5] rfl (by first | (go_simp; done) | (go_simp; rfl)) (k33_mkM _ _ _ (⟨f1 s0, f2 s1, s2, false, s4, s5⟩ : S33)) HO.out HB.out BK.out LB.out ?_; intro v1 w1 hR hB hG; clear HO HB BK; have HO := Aside0.mk hR; have HB := Aside0.mk hB; have BK := Aside0.mk hG; clear hR hB hG))
              (go_roundg k2; (case measure => (have := hx.out; omega)); (case rel => exact ⟨x + 1, (by first | rfl | (simp; done) | (rw [IntWalk.wrap64_in (x + 1) ⟨by have := hx.out; omega, by have := hx.out; have := HL.out; omega⟩])), ⟨by have := hx.out; omega⟩, ⟨by rw [hE.out]; exact Kd.R_mono HO.out (fun _ _ => trivial)⟩, HB⟩))
          · have hE := Aside0.mk (show movedL f1 f2 (l0.take (x + 1).toNat) = movedL f1 f2 (l0.take x.toNat) by rw [hTT.out]; simp only [movedOne]; rw [if_neg d1, List.append_nil])
            go_wp2
            (go_roundg k2; (case measure => (have := hx.out; omega)); (case rel => exact ⟨x + 1, (by first | rfl | (simp; done) | (rw [IntWalk.wrap64_in (x + 1) ⟨by have := hx.out; omega, by have := hx.out; have := HL.out; omega⟩])), ⟨by have := hx.out; omega⟩, ⟨by rw [hE.out]; exact Kd.R_mono HO.out (fun _ _ => trivial)⟩, HB⟩))
    · have hx' := hx.out
      have hz : x.toNat = l0.length := by omega
      have c1 : decide (x < (l0.length : Int)) = false := decide_eq_false hlt
      clear hx'
      go_wp2
      go_ret
      refine ⟨_, rfl, ?_, HB.out⟩
      have h := HO.out
      rw [hz, List.take_length] at h
      exact h
end Go.Proofs.Ytdkblhfcndafaaa.X
