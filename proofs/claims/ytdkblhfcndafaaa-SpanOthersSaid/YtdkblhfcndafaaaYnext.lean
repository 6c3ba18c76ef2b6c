/- utf.Next: the first scalar of bytes. -/
import Derived.Test.YtdkblhfcndafaaaYkit
import Derived.Shelf.SlSortCmp.QuietGrown
namespace Go.Proofs.Ytdkblhfcndafaaa.X
open Go.RowKit Go.Sort Go.Proofs.YtdkblhfcndafaaaW.PrintWords
set_option linter.unusedVariables false
set_option linter.unusedSimpArgs false

def lenF (x : Int) : Int := if x < 128 then 1 else if 192 ≤ x ∧ x < 224 then 2 else if 224 ≤ x ∧ x < 240 then 3 else if 240 ≤ x ∧ x < 248 then 4 else 0
theorem length_calls (x : Int) (w : World) : Calls Try.prog 55 #[.int .u8 x] w fun e w' => e = .returned (.int .i64 (lenF x)) ∧ w = w' := by
  unfold lenF
  by_cases h1 : x < 128
  · rw [if_pos h1]
    go_enter Try.func55, Try.ntmps55
    go_wp2
    go_ret
    exact ⟨rfl, rfl⟩
  · rw [if_neg h1]
    by_cases h2 : x < 192
    · rw [if_neg (by omega), if_neg (by omega), if_neg (by omega)]
      go_enter Try.func55, Try.ntmps55
      go_wp2
      go_ret
      exact ⟨rfl, rfl⟩
    · by_cases h3 : x < 224
      · rw [if_pos (by omega)]
        go_enter Try.func55, Try.ntmps55
        go_wp2
        go_ret
        exact ⟨rfl, rfl⟩
      · rw [if_neg (by omega)]
        by_cases h4 : x < 240
        · rw [if_pos (by omega)]
          go_enter Try.func55, Try.ntmps55
          go_wp2
          go_ret
          exact ⟨rfl, rfl⟩
        · rw [if_neg (by omega)]
          by_cases h5 : x < 248
          · rw [if_pos (by omega)]
            go_enter Try.func55, Try.ntmps55
            go_wp2
            go_ret
            exact ⟨rfl, rfl⟩
          · rw [if_neg (by omega)]
            go_enter Try.func55, Try.ntmps55
            go_wp2
            go_ret
            exact ⟨rfl, rfl⟩
def scalarF (c : Int) : Bool := decide (0 ≤ c) && decide (c ≤ 1114111) && (decide (c < 55296) || decide (57343 < c))
theorem scalar_calls (c : Int) (w : World) : Calls Try.prog 57 #[.int .i64 c] w fun e w' => e = .returned (.bool (scalarF c)) ∧ w = w' := by
  unfold scalarF
  by_cases h1 : 0 ≤ c
  · by_cases h2 : c ≤ 1114111
    · by_cases h3 : c < 55296
      · go_enter Try.func57, Try.ntmps57
        go_wp2
        go_ret
        exact ⟨by simp [h1, h2, h3], rfl⟩
      · go_enter Try.func57, Try.ntmps57
        go_wp2
        go_ret
        exact ⟨by simp [h1, h2]; omega, rfl⟩
    · go_enter Try.func57, Try.ntmps57
      go_wp2
      go_ret
      exact ⟨by simp [h1]; omega, rfl⟩
  · go_enter Try.func57, Try.ntmps57
    go_wp2
    go_ret
    exact ⟨by simp; omega, rfl⟩
theorem forms_calls (w : World) : Calls Try.prog 56 #[] w fun e w' => e = .returned (.agg #[.int .i64 0, .int .i64 128, .int .i64 192, .int .i64 2048, .int .i64 224, .int .i64 65536, .int .i64 240, .int .i64 1114112]) ∧ ∃ o, w' = w.alloc o := by
  go_enter Try.func56, Try.ntmps56
  go_wp2
  exact bodyPost_ret (v := .agg #[.int .i64 0, .int .i64 128, .int .i64 192, .int .i64 2048, .int .i64 224, .int .i64 65536, .int .i64 240, .int .i64 1114112]) (by simp [results, Try.results56, go_sem]) rfl ⟨rfl, _, rfl⟩

def headF (n : Int) : Int := if n = 1 then 0 else if n = 2 then 192 else if n = 3 then 224 else 240
def limF (n : Int) : Int := if n = 2 then 128 else if n = 3 then 2048 else 65536
/-- The bytes that follow: each must be one that follows. -/
def contF : Int → List Int → Option Int
  | c, [] => some c
  | c, x :: xs => if Go.bits .andNot .i64 x 63 = 128 then contF (Go.bits .or .i64 (wrap64 (c * 64)) (Go.bits .and .i64 x 63)) xs else none
theorem contF_snoc (xs : List Int) (x : Int) : ∀ c, contF c (xs ++ [x]) = (contF c xs).bind fun d => contF d [x] := by
  induction xs with
  | nil => intro c; rfl
  | cons y ys ih =>
    intro c
    simp only [List.cons_append, contF]
    split
    · exact ih _
    · rfl
theorem contF_none (xs ys : List Int) : ∀ c, contF c xs = none → contF c (xs ++ ys) = none := by
  induction xs with
  | nil => intro c h; cases h
  | cons y zs ih =>
    intro c h
    simp only [List.cons_append, contF] at h ⊢
    split
    · rename_i he
      rw [if_pos he] at h
      exact ih _ h
    · rfl
def tailF (n : Int) (m : Option Int) : Int × Int × Int := match m with
  | none => (0, 0, 11)
  | some c => if scalarF c = false then (0, 0, 11) else if n > 1 ∧ c < limF n then (0, 0, 11) else (c, n, 0)
def nextF (l : List Int) : Int × Int × Int :=
  if l = [] then (0, 0, 11) else if lenF (rd l 0) = 0 then (0, 0, 11) else if lenF (rd l 0) > l.length then (0, 0, 11) else
  tailF (lenF (rd l 0)) (contF (rd l 0 - headF (lenF (rd l 0))) ((l.take (lenF (rd l 0)).toNat).drop 1))
theorem lenF_range (x : Int) : lenF x = 0 ∨ lenF x = 1 ∨ lenF x = 2 ∨ lenF x = 3 ∨ lenF x = 4 := by
  unfold lenF
  repeat' split
  all_goals decide

theorem below_grow {w W : World} (h : Below w.heap.size w W) (n : Nat) (os : Array Obj) : Below w.heap.size w (grow (W.drewN n) os) :=
  below_step h ⟨rfl, rfl, rfl, by show W.heap.size ≤ (W.heap ++ os).size; rw [Array.size_append]; omega, fun j hj => Sort.heap_grow_old (W.drewN n) os hj⟩
theorem forms_grown (W : World) (n : Nat) (os : Array Obj) : Calls Try.prog 56 #[] (grow (W.drewN n) os) fun e w' => e = .returned (.agg #[.int .i64 0, .int .i64 128, .int .i64 192, .int .i64 2048, .int .i64 224, .int .i64 65536, .int .i64 240, .int .i64 1114112]) ∧ ∃ p : GrownBy, w' = grow (W.drewN p.n) p.os :=
  Calls.grown_of ((forms_calls _).mono fun e w' ⟨he, o, ho⟩ => ⟨he, 0, #[o], by rw [ho]; rfl⟩)
theorem bytes_at {w : World} {A : Option Addr} {l : List Int} (h : Kd.C (Kd.int .u8) w A l.length l) (i : Nat) (hi : i < l.length) : ∃ ad, A = some ad ∧ w.cell? (ad.add i) = some (.int .u8 (rd l i)) := by
  obtain ⟨ad, e, hc⟩ := Kd.at_int h (i : Int) (by omega) (by omega)
  exact ⟨ad, e, hc⟩

set_option maxHeartbeats 8000000 in
set_option maxRecDepth 100000 in
theorem next_calls (A : Option Addr) (c0 : Nat) (l : List Int) (w : World) (hr0 : Kd.C (Kd.int .u8) w A l.length l) (hc0 : l.length ≤ c0) (hlen : l.length ≤ 1000000000) (hb : ∀ i, 0 ≤ rd l i ∧ rd l i ≤ 255) :
    Calls Try.prog 51 #[.slice A l.length c0] w fun e w' => e = .returned (.tuple #[.int .i64 (nextF l).1, .int .i64 (nextF l).2.1, .int .i64 (nextF l).2.2]) ∧ Below w.heap.size w w' := by
  have HR0 := Aside0.mk hr0
  have HL := Aside0.mk hlen
  have HBY := Aside0.mk hb
  clear hr0 hlen hb
  unfold nextF
  by_cases h0 : l = []
  · rw [if_pos h0]
    have hz : ((l.length : Int) == 0) = true := by rw [h0]; rfl
    replace h0 := Aside0.mk h0
    go_enter Try.func51, Try.ntmps51
    go_wp2
    go_ret3
    exact ⟨rfl, Below.refl _ _⟩
  · rw [if_neg h0]
    have hp : 0 < l.length := List.length_pos_iff.mpr h0
    have hz : ((l.length : Int) == 0) = false := beq_eq_false_iff_ne.mpr (by omega)
    obtain ⟨ad, rfl, hc⟩ := bytes_at HR0.out 0 hp
    rw [Addr.add_zero'] at hc
    have hbb := HBY.out 0
    have e00 : rd l ((0 : Nat) : Int) = rd l 0 := rfl
    rw [e00] at hc
    have HNE := Aside0.mk h0
    clear h0 e00
    generalize hb0 : rd l 0 = b0 at hc hbb ⊢
    replace hb0 := Aside0.mk hb0
    by_cases h1 : lenF b0 = 0
    · rw [if_pos h1]
      have hz1 : (lenF b0 == 0) = true := by rw [h1]; rfl
      replace h1 := Aside0.mk h1
      go_enter Try.func51, Try.ntmps51
      go_wp2_with (go_at_call 55; refine (length_calls _ _).mono ?_; rintro e w' ⟨rfl, rfl⟩)
      go_ret3
      exact ⟨rfl, Below.refl _ _⟩
    · rw [if_neg h1]
      have hz1 : (lenF b0 == 0) = false := beq_eq_false_iff_ne.mpr h1
      have hn := lenF_range b0
      by_cases h2 : lenF b0 > (l.length : Int)
      · rw [if_pos h2]
        have hz2 : decide ((l.length : Int) < lenF b0) = true := decide_eq_true h2
        clear h2 hn h1
        go_enter Try.func51, Try.ntmps51
        go_wp2_with (go_at_call 55; refine (length_calls _ _).mono ?_; rintro e w' ⟨rfl, rfl⟩)
        go_ret3
        exact ⟨rfl, Below.refl _ _⟩
      · rw [if_neg h2]
        have hz2 : decide ((l.length : Int) < lenF b0) = false := decide_eq_false h2
        obtain ⟨n, hnn⟩ : ∃ n : Nat, lenF b0 = (n : Int) := ⟨(lenF b0).toNat, by omega⟩
        have hL := length_calls b0
        rw [hnn] at hL hz1 hz2 h2 hn ⊢
        have h3 : 1 ≤ n := by omega
        have h4 : n ≤ 4 := by omega
        have h5 : n ≤ l.length := by omega
        have HLN := Aside0.mk hL
        rw [Int.toNat_natCast]
        obtain ⟨R, hR⟩ : ∃ R, R = tailF (n : Int) (contF (b0 - headF (n : Int)) ((l.take n).drop 1)) := ⟨_, rfl⟩
        rw [← hR]
        have HRR := Aside0.mk hR
        clear hR
        clear h2 hn h1 hnn hL
        have hfo : Try.prog.follows .mixedOrders = true := by kernel_rfl
        go_enter Try.func51, Try.ntmps51
        go_upto_region 4 with (go_at_call 55; refine (HLN.out _).mono ?_; rintro e w' ⟨rfl, rfl⟩)
        go_cut [6] (fun v6 wc => v6 = .int .i64 (b0 - headF (n : Int)) ∧ Aside0 (Below w.heap.size w wc))
        case first =>
          have hcase : n = 1 ∨ n = 2 ∨ n = 3 ∨ n = 4 := by omega
          have hcg := fun n os => cell_grown (World.block_lt_of_cell? w _ hc) hc n os
          rcases hcase with rfl | rfl | rfl | rfl
          all_goals
            have iN : ∀ w, (Instr.index 78 (.agg #[.int .i64 0, .int .i64 128, .int .i64 192, .int .i64 2048, .int .i64 224, .int .i64 65536, .int .i64 240, .int .i64 1114112]) (.int .i64 0)).run Try.prog w = .ok (.agg #[.int .i64 0, .int .i64 128]) w := fun _ => by kernel_rfl
            have iN1 : ∀ w, (Instr.index 78 (.agg #[.int .i64 0, .int .i64 128, .int .i64 192, .int .i64 2048, .int .i64 224, .int .i64 65536, .int .i64 240, .int .i64 1114112]) (.int .i64 1)).run Try.prog w = .ok (.agg #[.int .i64 192, .int .i64 2048]) w := fun _ => by kernel_rfl
            have iN2 : ∀ w, (Instr.index 78 (.agg #[.int .i64 0, .int .i64 128, .int .i64 192, .int .i64 2048, .int .i64 224, .int .i64 65536, .int .i64 240, .int .i64 1114112]) (.int .i64 2)).run Try.prog w = .ok (.agg #[.int .i64 224, .int .i64 65536]) w := fun _ => by kernel_rfl
            have iN3 : ∀ w, (Instr.index 78 (.agg #[.int .i64 0, .int .i64 128, .int .i64 192, .int .i64 2048, .int .i64 224, .int .i64 65536, .int .i64 240, .int .i64 1114112]) (.int .i64 3)).run Try.prog w = .ok (.agg #[.int .i64 240, .int .i64 1114112]) w := fun _ => by kernel_rfl
            have wb : IntKind.i64.wrap b0 = b0 := IntWalk.i64_in _ (by omega)
            have w0 : IntKind.i64.wrap 0 = 0 := rfl
            have fN : ∀ a b w, (Instr.field 77 (.agg #[.int .i64 a, .int .i64 b]) 0).run Try.prog w = .ok (.int .i64 a) w := fun _ _ _ => by kernel_rfl
            have w1 : IntKind.i64.wrap 1 = 1 := rfl
            have w2 : IntKind.i64.wrap 2 = 2 := rfl
            have w3 : IntKind.i64.wrap 3 = 3 := rfl
            go_quiet_grown (first | (go_at_call 56; exact forms_grown _ _ _))
            go_wp2
            go_meet
            case rel => exact ⟨by simp [headF] <;> exact IntWalk.i64_in _ (by omega), ⟨below_grow (Below.refl _ _) _ _⟩⟩
        case rest =>
          obtain ⟨rfl, HB⟩ := hcut
          have hhi : (n : Int) ≤ (l.length : Int) := by omega
          have hci : l.length ≤ 9223372036854775807 := by have := HL.out; omega
          go_upto_region 5 with (fail)
          go_cut [44, 45, 46] (fun v44 v45 v46 wx => wx = wc ∧ v46 = .int .i64 0 ∧ v45 = .int .i64 ((n - 1 : Nat) : Int) ∧ ∃ (A' : Option Addr) (c' : Nat), v44 = .slice A' (n - 1) c' ∧ Aside0 (Kd.C (Kd.int .u8) w A' ((l.take n).drop 1).length ((l.take n).drop 1)))
          case first =>
            have hC := Kd.C_mid (lo := 1) (hi := n) (c := c0) HR0.out h3 h5 hc0
            by_cases hcap : c0 = 1
            · rw [if_pos hcap] at hC
              replace hC := Aside0.mk hC
              go_wp2
              go_meet
              case rel => exact ⟨rfl, (by first | rfl | simp), (by first | rfl | simp), some ad, _, (by first | rfl | simp), hC⟩
            · rw [if_neg hcap] at hC
              replace hC := Aside0.mk hC
              go_wp2
              go_meet
              case rel => exact ⟨rfl, (by first | rfl | simp), (by first | rfl | simp), some ⟨ad.block, ad.off + 1, none⟩, c0 - 1, (by first | rfl | simp), hC⟩
          case rest =>
            obtain ⟨rfl, rfl, rfl, A', c', rfl, HC⟩ := hcut
            go_wp2
            go_loopg [6, 46] (n - 1) (fun kq v6 v46 wr => ∃ (k : Nat) (c : Int), v6 = .int .i64 c ∧ v46 = .int .i64 (k : Int) ∧ Aside0 (k + kq = n - 1) ∧ Aside0 (contF (b0 - headF (n : Int)) (((l.take n).drop 1).take k) = some c) ∧ Aside0 (Below w.heap.size w wr))
            case atStart => exact ⟨0, _, rfl, rfl, ⟨by omega⟩, ⟨by simp [contF]⟩, HB⟩
            case round =>
              clear HB
              obtain ⟨k, c, rfl, rfl, hk, HE, HB⟩ := hrel
              have hlen : ((l.take n).drop 1).length = n - 1 := by simp only [List.length_drop, List.length_take]; omega
              by_cases hlt : k < n - 1
              · cases gk with
                | zero => exact absurd hk.out (by omega)
                | succ k2 =>
                obtain ⟨ad2, rfl, hc2⟩ := bytes_at HC.out k (by omega)
                replace hc2 := (HB.out.cell (World.block_lt_of_cell? w _ hc2)).trans hc2
                have hx2 : 0 ≤ rd ((l.take n).drop 1) (k : Int) ∧ rd ((l.take n).drop 1) (k : Int) ≤ 255 := by
                  have h := HBY.out ((k + 1 : Nat) : Int)
                  have e : rd ((l.take n).drop 1) (k : Int) = rd l ((k + 1 : Nat) : Int) := by
                    unfold rd
                    simp only [Int.toNat_natCast, List.getD_eq_getElem?_getD]
                    rw [List.getElem?_drop, List.getElem?_take_of_lt (by omega), Nat.add_comm]
                  rw [e]
                  exact h
                have hsn : contF (b0 - headF (n : Int)) (((l.take n).drop 1).take (k + 1)) = contF c [rd ((l.take n).drop 1) (k : Int)] := by
                  have hg : ((l.take n).drop 1).take (k + 1) = ((l.take n).drop 1).take k ++ [rd ((l.take n).drop 1) (k : Int)] := by
                    rw [List.take_succ_eq_append_getElem (by omega)]
                    unfold rd
                    simp only [Int.toNat_natCast, List.getD_eq_getElem?_getD]
                    rw [List.getElem?_eq_getElem (by omega)]
                    rfl
                  rw [hg, contF_snoc, HE.out]
                  rfl
                have hdr : ((l.take n).drop 1).take (k + 1) ++ ((l.take n).drop 1).drop (k + 1) = (l.take n).drop 1 := List.take_append_drop _ _
                have HSN := Aside0.mk hsn
                have HDR := Aside0.mk hdr
                have HLEN := Aside0.mk hlen
                clear hsn hdr hlen
                generalize rd ((l.take n).drop 1) (k : Int) = x at hc2 hx2 HSN
                have hw : IntKind.i64.wrap x = x := IntWalk.i64_in _ (by omega)
                by_cases hcn : Go.bits .andNot .i64 x 63 = 128
                · have hcb : (Go.bits .andNot .i64 x 63 != 128) = false := bne_eq_false_iff_eq.mpr hcn
                  replace hcn := Aside0.mk hcn
                  go_wp2
                  (go_roundg k2; (case measure => omega); (case rel => exact ⟨k + 1, _, rfl, (by first | rfl | go_num | simp), ⟨by have := hk.out; omega⟩, ⟨by rw [HSN.out]; simp only [contF]; rw [if_pos hcn.out]⟩, HB⟩))
                · have hcb : (Go.bits .andNot .i64 x 63 != 128) = true := bne_iff_ne.mpr hcn
                  replace hcn := Aside0.mk hcn
                  have hRz : R = (0, 0, 11) := by
                    rw [HRR.out, ← HDR.out, contF_none _ _ _ (by rw [HSN.out]; simp only [contF]; rw [if_neg hcn.out])]
                    rfl
                  replace hRz := Aside0.mk hRz
                  go_wp2
                  go_ret3
                  exact ⟨by rw [hRz.out]; rfl, HB.out⟩
              · have hkn : k = n - 1 := by have := hk.out; omega
                have hEE : contF (b0 - headF (n : Int)) ((l.take n).drop 1) = some c := by
                  have h := HE.out
                  rw [hkn, List.take_of_length_le (by omega)] at h
                  exact h
                have hRR := HRR.out
                rw [hEE] at hRR
                simp only [tailF] at hRR
                clear hlen HE HRR hEE
                have hkk := Aside0.mk hk.out
                clear hk
                subst hkn
                have hge : ¬ (((n - 1 : Nat) : Int) < ((n - 1 : Nat) : Int)) := by omega
                clear hlt
                by_cases hs : scalarF c = false
                · rw [if_pos hs] at hRR
                  replace hRR := Aside0.mk hRR
                  have hsc := fun W => scalar_calls c W
                  rw [hs] at hsc
                  replace hsc := Aside0.mk hsc
                  clear hs
                  go_wp2_with (go_at_call 57; refine (hsc.out _).mono ?_; rintro e w' ⟨rfl, rfl⟩)
                  go_ret3
                  exact ⟨by rw [hRR.out]; rfl, HB.out⟩
                · rw [if_neg hs] at hRR
                  have hsc := fun W => scalar_calls c W
                  rw [show scalarF c = true by simpa using hs] at hsc
                  replace hsc := Aside0.mk hsc
                  clear hs
                  by_cases hn1 : n = 1
                  · subst hn1
                    rw [if_neg (by omega)] at hRR
                    replace hRR := Aside0.mk hRR
                    go_wp2_with (go_at_call 57; refine (hsc.out _).mono ?_; rintro e w' ⟨rfl, rfl⟩)
                    go_ret3
                    exact ⟨by rw [hRR.out]; rfl, HB.out⟩
                  · have hcase : n = 2 ∨ n = 3 ∨ n = 4 := by omega
                    have hlim : (n = 2 ∧ limF (n : Int) = 128) ∨ (n = 3 ∧ limF (n : Int) = 2048) ∨ (n = 4 ∧ limF (n : Int) = 65536) := by rcases hcase with rfl | rfl | rfl <;> simp [limF]
                    have iN : ∀ w, (Instr.index 78 (.agg #[.int .i64 0, .int .i64 128, .int .i64 192, .int .i64 2048, .int .i64 224, .int .i64 65536, .int .i64 240, .int .i64 1114112]) (.int .i64 0)).run Try.prog w = .ok (.agg #[.int .i64 0, .int .i64 128]) w := fun _ => by kernel_rfl
                    have iN1 : ∀ w, (Instr.index 78 (.agg #[.int .i64 0, .int .i64 128, .int .i64 192, .int .i64 2048, .int .i64 224, .int .i64 65536, .int .i64 240, .int .i64 1114112]) (.int .i64 1)).run Try.prog w = .ok (.agg #[.int .i64 192, .int .i64 2048]) w := fun _ => by kernel_rfl
                    have iN2 : ∀ w, (Instr.index 78 (.agg #[.int .i64 0, .int .i64 128, .int .i64 192, .int .i64 2048, .int .i64 224, .int .i64 65536, .int .i64 240, .int .i64 1114112]) (.int .i64 2)).run Try.prog w = .ok (.agg #[.int .i64 224, .int .i64 65536]) w := fun _ => by kernel_rfl
                    have fN : ∀ a b w, (Instr.field 77 (.agg #[.int .i64 a, .int .i64 b]) 1).run Try.prog w = .ok (.int .i64 b) w := fun _ _ _ => by kernel_rfl
                    by_cases hl : c < limF (n : Int)
                    · rw [if_pos ⟨by omega, hl⟩] at hRR
                      replace hRR := Aside0.mk hRR
                      rcases hlim with ⟨rfl, hli⟩ | ⟨rfl, hli⟩ | ⟨rfl, hli⟩
                      all_goals
                        rw [hli] at hl
                        clear hli hcase hn1
                        go_wp2_with (first | (go_at_call 57; refine (hsc.out _).mono ?_; rintro e w' ⟨rfl, rfl⟩) | (go_at_call 56; refine (forms_calls _).mono ?_; rintro e w' ⟨rfl, o, rfl⟩))
                        go_ret3
                        exact ⟨by rw [hRR.out]; rfl, below_alloc HB.out _⟩
                    · rw [if_neg (fun h => hl h.2)] at hRR
                      replace hRR := Aside0.mk hRR
                      rcases hlim with ⟨rfl, hli⟩ | ⟨rfl, hli⟩ | ⟨rfl, hli⟩
                      all_goals
                        rw [hli] at hl
                        clear hli hcase hn1
                        go_wp2_with (first | (go_at_call 57; refine (hsc.out _).mono ?_; rintro e w' ⟨rfl, rfl⟩) | (go_at_call 56; refine (forms_calls _).mono ?_; rintro e w' ⟨rfl, o, rfl⟩))
                        go_ret3
                        exact ⟨by rw [hRR.out]; rfl, below_alloc HB.out _⟩
end Go.Proofs.Ytdkblhfcndafaaa.X
