/- utf.must, utf.scan, utf.Decode: the scalars of bytes; the panic that is caught inside. -/
import Derived.Test.YtdkblhfcndafaaaYnext
import Derived.Defers
import Derived.Recover
import Derived.WalkLawsBesides
import Derived.Laws.Pointers
namespace Go.Proofs.Ytdkblhfcndafaaa.X
open Go.RowKit Go.Proofs.YtdkblhfcndafaaaW.PrintWords
set_option linter.unusedVariables false
set_option linter.unusedSimpArgs false

theorem rd_drop (l : List Int) (a : Nat) (i : Int) (h : ∀ i, 0 ≤ rd l i ∧ rd l i ≤ 255) : 0 ≤ rd (l.drop a) i ∧ rd (l.drop a) i ≤ 255 := by
  have e : rd (l.drop a) i = rd l ((a + i.toNat : Nat) : Int) := by
    unfold rd
    simp only [Int.toNat_natCast, List.getD_eq_getElem?_getD, List.getElem?_drop]
  rw [e]
  exact h _

set_option maxHeartbeats 4000000 in
set_option maxRecDepth 100000 in
theorem must_ok (A : Option Addr) (c0 : Nat) (l : List Int) (a : Nat) (w : World) (hr0 : Kd.C (Kd.int .u8) w A l.length l) (hc0 : l.length ≤ c0) (ha : a < l.length) (hlen : l.length ≤ 1000000000) (hb : ∀ i, 0 ≤ rd l i ∧ rd l i ≤ 255) (hz : (nextF (l.drop a)).2.2 = 0) :
    Calls Try.prog 48 #[.slice A l.length c0, .int .i64 (a : Int)] w fun e w' => e = .returned (.tuple #[.int .i64 (nextF (l.drop a)).1, .int .i64 (nextF (l.drop a)).2.1]) ∧ Below w.heap.size w w' := by
  have hC := Kd.C_drop (m := a) (c := c0) hr0 (by omega) hc0
  have hN := fun W hW => next_calls (if c0 = a then A else A.map (·.add (a * (Kd.int .u8).sz))) (c0 - a) (l.drop a) W hW (by rw [List.length_drop]; omega) (by rw [List.length_drop]; omega) (fun i => rd_drop l a i hb)
  have e1 : (Kd.int .u8).sz = 1 := rfl
  obtain ⟨ad, rfl, _⟩ := bytes_at hr0 a ha
  rw [e1, Nat.mul_one, if_neg (by omega)] at hC hN
  have hN2 := hN w hC
  rw [List.length_drop] at hN2
  replace hN2 := Aside0.mk hN2
  have hcap : ¬ c0 = a := by omega
  have ha' : (a : Int) ≤ (l.length : Int) := by omega
  have hci : l.length ≤ 9223372036854775807 := by omega
  clear hN hC hr0 hb
  generalize hR : nextF (l.drop a) = R at hN2 hz ⊢
  replace hR := Aside0.mk hR
  have hzb : (R.2.2 != 0) = false := bne_eq_false_iff_eq.mpr hz
  clear hz
  go_enter Try.func48, Try.ntmps48
  go_wp2_with (go_at_call 51; refine hN2.out.mono ?_; rintro e w' ⟨rfl, hb⟩; replace hb := Aside0.mk hb)
  go_ret2
  exact ⟨rfl, hb.out⟩
set_option maxHeartbeats 4000000 in
set_option maxRecDepth 100000 in
theorem must_bad (A : Option Addr) (c0 : Nat) (l : List Int) (a : Nat) (w : World) (hr0 : Kd.C (Kd.int .u8) w A l.length l) (hc0 : l.length ≤ c0) (ha : a < l.length) (hlen : l.length ≤ 1000000000) (hb : ∀ i, 0 ≤ rd l i ∧ rd l i ≤ 255) (hz : ¬ (nextF (l.drop a)).2.2 = 0) :
    Calls Try.prog 48 #[.slice A l.length c0, .int .i64 (a : Int)] w fun e w' => e = .panicked [{ v := .iface 3 (.int .i64 (a : Int)), recovered := false }] ∧ Below w.heap.size w w' := by
  have hC := Kd.C_drop (m := a) (c := c0) hr0 (by omega) hc0
  have hN := fun W hW => next_calls (if c0 = a then A else A.map (·.add (a * (Kd.int .u8).sz))) (c0 - a) (l.drop a) W hW (by rw [List.length_drop]; omega) (by rw [List.length_drop]; omega) (fun i => rd_drop l a i hb)
  have e1 : (Kd.int .u8).sz = 1 := rfl
  obtain ⟨ad, rfl, _⟩ := bytes_at hr0 a ha
  rw [e1, Nat.mul_one, if_neg (by omega)] at hC hN
  have hN2 := hN w hC
  rw [List.length_drop] at hN2
  replace hN2 := Aside0.mk hN2
  have hcap : ¬ c0 = a := by omega
  have ha' : (a : Int) ≤ (l.length : Int) := by omega
  have hci : l.length ≤ 9223372036854775807 := by omega
  clear hN hC hr0 hb
  generalize hR : nextF (l.drop a) = R at hN2 hz ⊢
  replace hR := Aside0.mk hR
  have hzb : (R.2.2 != 0) = true := bne_iff_ne.mpr hz
  clear hz
  go_enter Try.func48, Try.ntmps48
  go_wp2_with (go_at_call 51; refine hN2.out.mono ?_; rintro e w' ⟨rfl, hb⟩; replace hb := Aside0.mk hb)
  exact ⟨rfl, rfl, hb.out⟩

set_option maxHeartbeats 4000000 in
theorem catch_panicking (b0 b1 b2 : Nat) (x : Int) (older : List PanicEntry) (w : World) (v0 : Value)
    (h0 : w.heap[b0]? = some (.cells #[v0] 52 (0, 0))) (h1 : w.heap[b1]? = some (.cells #[.int .i64 0] 3 (0, 0))) (h2 : w.heap[b2]? = some (.cells #[.bool false] 4 (0, 0))) (n01 : b0 ≠ b1) (n02 : b0 ≠ b2) (n12 : b1 ≠ b2) :
    CallsD Try.prog 47 #[.pointer (some ⟨b0, 0, none⟩), .pointer (some ⟨b1, 0, none⟩), .pointer (some ⟨b2, 0, none⟩)] (.panicking ({ v := .iface 3 (.int .i64 x), recovered := false } :: older)) w fun e u' w' =>
      e = .returned (.tuple #[]) ∧ u' = .panicking ({ v := .iface 3 (.int .i64 x), recovered := true } :: older) ∧ w' = ((w.drew.setCell ⟨b0, 0, none⟩ (.slice none 0 0)).setCell ⟨b1, 0, none⟩ (.int .i64 x)).setCell ⟨b2, 0, none⟩ (.bool true) := by
  have c0 : w.cell? ⟨b0, 0, none⟩ = some v0 := (blk_cell h0 0).trans rfl
  have c1 : w.cell? ⟨b1, 0, none⟩ = some (.int .i64 0) := (blk_cell h1 0).trans rfl
  have c2 : w.cell? ⟨b2, 0, none⟩ = some (.bool false) := (blk_cell h2 0).trans rfl
  have f0 := blk_frozen h0 0
  have f1 := blk_frozen h1 0
  have f2 := blk_frozen h2 0
  refine callsD_of_wpS Try.func47 rfl fun c₀ cs hu => ?_
  apply wpS_seq
  apply wpS_region
  simp [wpOpsS, go_sem, recoverD, hu, Try.ntmps47, Exit.thenS]
  refine wpS_of_wp ?_
  go_upto_region 2 with (fail)
  have hfo : Try.prog.follows .mixedOrders = true := by kernel_rfl
  simp only [List.replicate, List.append_toArray, List.cons_append, List.nil_append, Array.replicate_succ, Array.replicate_zero, List.push_toArray, List.setIfInBounds_toArray, List.set_cons_zero, List.set_cons_succ]
  have ta : ∀ x w, (Instr.typeAssert (.iface 3 (.int .i64 x)) 20 3 false).run Try.prog w = .ok (.int .i64 x) w := fun _ _ => by kernel_rfl
  go_region
  all_goals
    show bodyPostS _ _ _ _ _ _ _ _ _
    cases c₀
    simp_all [bodyPostS, results, Try.results47]
theorem catch_idle (p0 p1 p2 : Option Addr) (w : World) :
    CallsD Try.prog 47 #[.pointer p0, .pointer p1, .pointer p2] .returning w fun e u' w' => e = .returned (.tuple #[]) ∧ u' = .returning ∧ w' = w := by
  refine callsD_of_wpS Try.func47 rfl fun c₀ cs hu => ?_
  apply wpS_seq
  apply wpS_region
  simp [wpOpsS, go_sem, recoverD, hu, Try.ntmps47, Exit.thenS]
  refine wpS_of_wp ?_
  go_wp2
  cases c₀
  simp_all [bodyPostS, results, Try.results47]

def dec : Nat → List Int → Option (List Int)
  | 0, l => if l = [] then some [] else none
  | f + 1, l => if l = [] then some [] else if (nextF l).2.2 = 0 then (dec f (l.drop (nextF l).2.1.toNat)).map ((nextF l).1 :: ·) else none
def ScanPost (D : Option (List Int)) (w : World) (e : Ending) (w' : World) : Prop :=
  (∀ xs, D = some xs → ∃ v, e = .returned (.tuple #[v, .int .i64 0, .bool false]) ∧ Kd.R (Kd.int .i64) 3 w' w.heap.size (fun _ => True) v xs ∧ Below w.heap.size w w') ∧
  (D = none → ∃ a, e = .returned (.tuple #[.slice none 0 0, .int .i64 a, .bool true]) ∧ Below w.heap.size w w')
theorem nextF_len (l : List Int) (h : (nextF l).2.2 = 0) : 1 ≤ (nextF l).2.1 ∧ (nextF l).2.1 ≤ l.length := by
  unfold nextF at h ⊢
  by_cases h0 : l = []
  · rw [if_pos h0] at h; simp at h
  rw [if_neg h0] at h ⊢
  by_cases h1 : lenF (rd l 0) = 0
  · rw [if_pos h1] at h; simp at h
  rw [if_neg h1] at h ⊢
  by_cases h2 : lenF (rd l 0) > l.length
  · rw [if_pos h2] at h; simp at h
  rw [if_neg h2] at h ⊢
  have hr := lenF_range (rd l 0)
  generalize contF _ _ = m at h ⊢
  cases m with
  | none => simp [tailF] at h
  | some c =>
    simp only [tailF] at h ⊢
    by_cases h3 : scalarF c = false
    · rw [if_pos h3] at h; simp at h
    rw [if_neg h3] at h ⊢
    by_cases h4 : lenF (rd l 0) > 1 ∧ c < limF (lenF (rd l 0))
    · rw [if_pos h4] at h; simp at h
    rw [if_neg h4]
    simp only
    omega

set_option maxHeartbeats 8000000 in
set_option maxRecDepth 100000 in
theorem scan_calls (A : Option Addr) (c0 : Nat) (l : List Int) (w : World) (hr0 : Kd.C (Kd.int .u8) w A l.length l) (hc0 : l.length ≤ c0) (hlen : l.length ≤ 1000000000) (hb : ∀ i, 0 ≤ rd l i ∧ rd l i ≤ 255) :
    Calls Try.prog 43 #[.slice A l.length c0] w (ScanPost (dec l.length l) w) := by
  have HR0 := Aside0.mk hr0
  have HL := Aside0.mk hlen
  have HBY := Aside0.mk hb
  clear hr0 hlen hb
  have hci : l.length ≤ 9223372036854775807 := by have := HL.out; omega
  have hmf : ∀ (fn : Fn) (first cap : Array Value) (w : World), (Instr.makeFunc fn first cap).run Try.prog w = .ok (.func fn first cap) w := fun _ _ _ _ => rfl
  obtain ⟨D, hD⟩ : ∃ D, D = dec l.length l := ⟨_, rfl⟩
  rw [← hD]
  replace hD := Aside0.mk hD
  go_enter_defers Try.func43, Try.ntmps43
  go_wp2
  obtain ⟨N, hN⟩ : ∃ N, N = w.heap.size := ⟨_, rfl⟩
  have hfr := Aside0.mk hN
  go_loopg [5] l.length (fun kq v5 wr => ∃ (a : Nat) (xs : List Int) (v : Value), v5 = .int .i64 (a : Int) ∧ Aside0 (a ≤ l.length ∧ l.length ≤ a + kq) ∧ Aside0 (xs.length ≤ a) ∧ Aside0 (D = (dec kq (l.drop a)).map (xs ++ ·)) ∧ Aside0 (wr.heap[w.heap.size]? = some (.cells #[v] 52 (0, 0))) ∧ Aside0 (wr.heap[w.heap.size + 1]? = some (.cells #[.int .i64 0] 3 (0, 0))) ∧ Aside0 (wr.heap[w.heap.size + 1 + 1]? = some (.cells #[.bool false] 4 (0, 0))) ∧ Aside0 (Kd.R (Kd.int .i64) 3 wr w.heap.size (fun k => k ≠ w.heap.size ∧ k ≠ w.heap.size + 1 ∧ k ≠ w.heap.size + 1 + 1) v xs) ∧ Aside0 (Below w.heap.size w wr))
  case atStart =>
    refine ⟨0, [], .slice none 0 0, rfl, ⟨by omega⟩, ⟨Nat.le_refl _⟩, ⟨by rw [hD.out]; simp⟩, ⟨?_⟩, ⟨?_⟩, ⟨?_⟩, ⟨Kd.R_nil _ _ _ _ _⟩, ⟨?_⟩⟩
    · exact blk_alloc (blk_alloc (blk_new w _) _) _
    · have h := blk_alloc (blk_new (w.alloc (.cells #[.slice none 0 0] 52)) (.cells #[.int .i64 0] 3)) (.cells #[.bool false] 4)
      rwa [World.size_alloc] at h
    · have h := blk_new ((w.alloc (.cells #[.slice none 0 0] 52)).alloc (.cells #[.int .i64 0] 3)) (.cells #[.bool false] 4)
      rwa [World.size_alloc, World.size_alloc] at h
    · exact below_alloc (below_alloc (below_alloc (Below.refl _ _) _) _) _
  case round =>
    obtain ⟨a, xs, v, rfl, ha, hxl, HD, B0, B1, B2, HO, HB⟩ := hrel
    by_cases hlt : a < l.length
    · cases gk with
      | zero => exact absurd ha.out (by omega)
      | succ k2 =>
      have hdr : l.drop a ≠ [] := fun h => by
        have := List.length_drop (i := a) (l := l)
        rw [h] at this
        simp at this
        omega
      have HDV := HD.out
      simp only [dec] at HDV
      rw [if_neg hdr] at HDV
      clear HD hdr
      have ha0 : (a : Int) < (l.length : Int) := by omega
      by_cases hz : (nextF (l.drop a)).2.2 = 0
      · rw [if_pos hz] at HDV
        have hlen2 := nextF_len _ hz
        rw [List.length_drop] at hlen2
        have hM := fun W hW => must_ok A c0 l a W hW hc0 hlt HL.out HBY.out hz
        generalize hR : nextF (l.drop a) = R at HDV hlen2 hM
        obtain ⟨c, n, e0⟩ := R
        dsimp only at HDV hlen2 hM
        obtain ⟨n, rfl⟩ := Int.eq_ofNat_of_zero_le (show 0 ≤ n by omega)
        rw [Int.toNat_natCast, List.drop_drop] at HDV
        have HD2 := Aside0.mk HDV
        have HM := Aside0.mk hM
        have HN := Aside0.mk hlen2
        have hn1 : (a : Int) + (n : Int) ≤ 1000000000 := by have := HL.out; omega
        clear HDV hM hlen2 hR hz
        have hlim : (xs.length + 1) * 8 ≤ 140737488355328 := by have := hxl.out; have := HL.out; omega
        replace hlim := Aside0.mk hlim
        go_wp2_with (first | (go_at_call 48; refine (HM.out _ (Kd.C_below HR0.out HB.out)).mono ?_; rintro e w' ⟨rfl, hb⟩; have q0 := Aside0.mk (blk_below B0.out hb); have q1 := Aside0.mk (blk_below B1.out hb); have q2 := Aside0.mk (blk_below B2.out hb); have q3 := Aside0.mk (Kd.R_below HO.out hb); have q4 := Aside0.mk (below_step HB.out hb); clear B0 B1 B2 HO HB hb; have B0 := q0; have B1 := q1; have B2 := q2; have HO := q3; have HB := q4; clear q0 q1 q2 q3 q4; have hc0' : w'.cell? ⟨w.heap.size, 0, none⟩ = some v := (blk_cell B0.out 0).trans rfl) | ((with_reducible refine gate_builtin (b := .append) (xs := #[.tmp 19, .tmp 21]) rfl ?_); at_builtin; go_loud (refine my_append_ok (Kd.int .i64) (w := w) rfl (.tmp 19) (.tmp 21) 52 3 (.int .i64 0) 8 (fun k => k ≠ w.heap.size ∧ k ≠ w.heap.size + 1 ∧ k ≠ w.heap.size + 1 + 1) rfl Try.underlying52 info3 rfl (by decide) (by omega) v xs c [.int .i64 c] rfl (by first | (go_simp; done) | (go_simp; rfl)) rfl (fun k hk => ⟨by have := blk_lt B0.out; omega, by have := blk_lt B1.out; omega, by have := blk_lt B2.out; omega⟩) HO.out HB.out hlim.out ?_); intro v1 w1 hR hB hG; obtain ⟨A1, c1, rfl⟩ := Kd.R_slice hR; rw [List.length_append, List.length_singleton] at hR; clear hc0'; have q0 := Aside0.mk (hG _ _ (fun h => h.1 rfl) B0.out); have q1 := Aside0.mk (hG _ _ (fun h => h.2.1 rfl) B1.out); have q2 := Aside0.mk (hG _ _ (fun h => h.2.2 rfl) B2.out); clear B0 B1 B2 HO HB; have B0 := q0; have B1 := q1; have B2 := q2; have HO := Aside0.mk hR; have HB := Aside0.mk hB; clear q0 q1 q2 hR hB hG; have hc1' : w1.cell? ⟨w.heap.size, 0, none⟩ = some v := (blk_cell B0.out 0).trans rfl; have hf1' := blk_frozen B0.out 0))
        have hne1 : w.heap.size + 1 ≠ w.heap.size := by omega
        have hne2 : w.heap.size + 1 + 1 ≠ w.heap.size := by omega
        go_roundg k2
        case measure => omega
        case rel =>
          refine ⟨a + n, xs ++ [c], _, (by first | rfl | go_num | simp), ⟨by have := HN.out; have := ha.out; omega⟩, ⟨by have := HN.out; have := hxl.out; simp; omega⟩, ⟨?_⟩, ⟨blk_put B0.out 0 _ rfl⟩, ⟨blk_far B1.out hne1 _⟩, ⟨blk_far B2.out hne2 _⟩, ⟨Kd.R_far (p := ⟨w.heap.size, 0, none⟩) HO.out (fun _ hk => hk.1) _⟩, ⟨below_set HB.out (Nat.le_refl _)⟩⟩
          rw [HD2.out, Option.map_map]
          congr 1
          funext ys
          simp
      · rw [if_neg hz] at HDV
        have HM := Aside0.mk (fun W hW => must_bad A c0 l a W hW hc0 hlt HL.out HBY.out hz)
        have HD2 := Aside0.mk HDV
        clear HDV hz
        go_wp2_with (go_at_call 48; refine (HM.out _ (Kd.C_below HR0.out HB.out)).mono ?_; rintro e w' ⟨rfl, hb⟩; have q0 := Aside0.mk (blk_below B0.out hb); have q1 := Aside0.mk (blk_below B1.out hb); have q2 := Aside0.mk (blk_below B2.out hb); have q4 := Aside0.mk (below_step HB.out hb); clear B0 B1 B2 HO HB hb; have B0 := q0; have B1 := q1; have B2 := q2; have HB := q4; clear q0 q1 q2 q4)
        refine leaves_cons (f := 47) (args := #[.pointer (some ⟨w.heap.size, 0, none⟩), .pointer (some ⟨w.heap.size + 1, 0, none⟩), .pointer (some ⟨w.heap.size + 1 + 1, 0, none⟩)]) (by simp) (by simp [go_sem]) ?_
        refine (catch_panicking w.heap.size (w.heap.size + 1) (w.heap.size + 1 + 1) a [] _ v B0.out B1.out B2.out (by omega) (by omega) (by omega)).mono ?_
        rintro e u' w'' ⟨rfl, rfl, rfl⟩
        have E0 := blk_far (blk_far (blk_put (w := w'.drew) B0.out 0 (.slice none 0 0) rfl) (p := ⟨w.heap.size + 1, 0, none⟩) (show w.heap.size ≠ w.heap.size + 1 by omega) (.int .i64 (a : Int))) (p := ⟨w.heap.size + 1 + 1, 0, none⟩) (show w.heap.size ≠ w.heap.size + 1 + 1 by omega) (.bool true)
        have E1 := blk_far (blk_put (blk_far (w := w'.drew) B1.out (p := ⟨w.heap.size, 0, none⟩) (show w.heap.size + 1 ≠ w.heap.size by omega) (.slice none 0 0)) 0 (.int .i64 (a : Int)) rfl) (p := ⟨w.heap.size + 1 + 1, 0, none⟩) (show w.heap.size + 1 ≠ w.heap.size + 1 + 1 by omega) (.bool true)
        have E2 := blk_put (blk_far (blk_far (w := w'.drew) B2.out (p := ⟨w.heap.size, 0, none⟩) (show w.heap.size + 1 + 1 ≠ w.heap.size by omega) (.slice none 0 0)) (p := ⟨w.heap.size + 1, 0, none⟩) (show w.heap.size + 1 + 1 ≠ w.heap.size + 1 by omega) (.int .i64 (a : Int))) 0 (.bool true) rfl
        have EB := below_set (j := 0) (v := .bool true) (g := w.heap.size + 1 + 1) (below_set (j := 0) (v := .int .i64 (a : Int)) (g := w.heap.size + 1) (below_set (j := 0) (v := .slice none 0 0) (g := w.heap.size) (below_drew HB.out) (Nat.le_refl _)) (by omega)) (by omega)
        generalize ((w'.drew.setCell ⟨w.heap.size, 0, none⟩ (.slice none 0 0)).setCell ⟨w.heap.size + 1, 0, none⟩ (.int .i64 (a : Int))).setCell ⟨w.heap.size + 1 + 1, 0, none⟩ (.bool true) = W at E0 E1 E2 EB ⊢
        have z0 : W.cell? ⟨w.heap.size, 0, none⟩ = some (.slice none 0 0) := (blk_cell E0 0).trans rfl
        have z1 : W.cell? ⟨w.heap.size + 1, 0, none⟩ = some (.int .i64 (a : Int)) := (blk_cell E1 0).trans rfl
        have z2 : W.cell? ⟨w.heap.size + 1 + 1, 0, none⟩ = some (.bool true) := (blk_cell E2 0).trans rfl
        have hP : ScanPost D w (.returned (.tuple #[.slice none 0 0, .int .i64 (a : Int), .bool true])) W := by
          have hDn : D = none := HD2.out
          exact ⟨fun xs h => (by rw [hDn] at h; cases h), fun _ => ⟨_, rfl, EB⟩⟩
        replace hP := Aside0.mk hP
        clear E0 E1 E2 EB B0 B1 B2 HB HD2
        simp [Leaves, settle, results, Try.results43, go_sem, z0, z1, z2]
        trace_state
        exact hP.out
    · have hal : a = l.length := by have := ha.out; omega
      have ha0 : ¬ ((a : Int) < (l.length : Int)) := by omega
      have hDx : D = some xs := by
        rw [HD.out, hal, List.drop_length]
        cases gk <;> simp [dec]
      replace hDx := Aside0.mk hDx
      clear HD hal
      have z0 : wr.cell? ⟨w.heap.size, 0, none⟩ = some v := (blk_cell B0.out 0).trans rfl
      have z1 : wr.cell? ⟨w.heap.size + 1, 0, none⟩ = some (.int .i64 0) := (blk_cell B1.out 0).trans rfl
      have z2 : wr.cell? ⟨w.heap.size + 1 + 1, 0, none⟩ = some (.bool false) := (blk_cell B2.out 0).trans rfl
      have f0 := blk_frozen B0.out 0
      have f1 := blk_frozen B1.out 0
      have f2 := blk_frozen B2.out 0
      obtain ⟨A1, c1, rfl⟩ := Kd.R_slice HO.out
      go_wp2
      have E0 := blk_far (blk_far (blk_put (w := wr) B0.out 0 (.slice A1 xs.length c1) rfl) (p := ⟨w.heap.size + 1, 0, none⟩) (show w.heap.size ≠ w.heap.size + 1 by omega) (.int .i64 0)) (p := ⟨w.heap.size + 1 + 1, 0, none⟩) (show w.heap.size ≠ w.heap.size + 1 + 1 by omega) (.bool false)
      have E1 := blk_far (blk_put (blk_far (w := wr) B1.out (p := ⟨w.heap.size, 0, none⟩) (show w.heap.size + 1 ≠ w.heap.size by omega) (.slice A1 xs.length c1)) 0 (.int .i64 0) rfl) (p := ⟨w.heap.size + 1 + 1, 0, none⟩) (show w.heap.size + 1 ≠ w.heap.size + 1 + 1 by omega) (.bool false)
      have E2 := blk_put (blk_far (blk_far (w := wr) B2.out (p := ⟨w.heap.size, 0, none⟩) (show w.heap.size + 1 + 1 ≠ w.heap.size by omega) (.slice A1 xs.length c1)) (p := ⟨w.heap.size + 1, 0, none⟩) (show w.heap.size + 1 + 1 ≠ w.heap.size + 1 by omega) (.int .i64 0)) 0 (.bool false) rfl
      have EB := below_set (j := 0) (v := .bool false) (g := w.heap.size + 1 + 1) (below_set (j := 0) (v := .int .i64 0) (g := w.heap.size + 1) (below_set (j := 0) (v := .slice A1 xs.length c1) (g := w.heap.size) HB.out (Nat.le_refl _)) (by omega)) (by omega)
      have ER := Kd.R_far (p := ⟨w.heap.size + 1 + 1, 0, none⟩) (Kd.R_far (p := ⟨w.heap.size + 1, 0, none⟩) (Kd.R_far (p := ⟨w.heap.size, 0, none⟩) HO.out (fun _ hk => hk.1) (.slice A1 xs.length c1)) (fun _ hk => hk.2.1) (.int .i64 0)) (fun _ hk => hk.2.2) (.bool false)
      generalize ((wr.setCell ⟨w.heap.size, 0, none⟩ (.slice A1 xs.length c1)).setCell ⟨w.heap.size + 1, 0, none⟩ (.int .i64 0)).setCell ⟨w.heap.size + 1 + 1, 0, none⟩ (.bool false) = W at E0 E1 E2 EB ER ⊢
      refine leaves_cons (f := 47) (args := #[.pointer (some ⟨w.heap.size, 0, none⟩), .pointer (some ⟨w.heap.size + 1, 0, none⟩), .pointer (some ⟨w.heap.size + 1 + 1, 0, none⟩)]) (by simp) (by simp [go_sem]) ?_
      refine (catch_idle _ _ _ W).mono ?_
      rintro e u' w'' ⟨rfl, rfl, rfl⟩
      have y0 : w''.cell? ⟨w.heap.size, 0, none⟩ = some (.slice A1 xs.length c1) := (blk_cell E0 0).trans rfl
      have y1 : w''.cell? ⟨w.heap.size + 1, 0, none⟩ = some (.int .i64 0) := (blk_cell E1 0).trans rfl
      have y2 : w''.cell? ⟨w.heap.size + 1 + 1, 0, none⟩ = some (.bool false) := (blk_cell E2 0).trans rfl
      have hP : ScanPost D w (.returned (.tuple #[.slice A1 xs.length c1, .int .i64 0, .bool false])) w'' :=
        ⟨fun ys h => by
          obtain rfl : xs = ys := Option.some.inj (hDx.out.symm.trans h)
          exact ⟨_, rfl, Kd.R_mono ER (fun _ _ => trivial), EB⟩, fun h => by rw [hDx.out] at h; cases h⟩
      replace hP := Aside0.mk hP
      clear E0 E1 E2 EB ER B0 B1 B2 HB HO z0 z1 z2 f0 f1 f2
      simp [Leaves, settle, results, Try.results43, go_sem, y0, y1, y2]
      exact hP.out
end Go.Proofs.Ytdkblhfcndafaaa.X
