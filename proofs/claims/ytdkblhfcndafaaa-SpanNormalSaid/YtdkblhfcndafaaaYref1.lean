/- frisketref01.Next: the first of one to four bytes that are just a scalar's. -/
import Derived.Test.YtdkblhfcndafaaaYnext
import Derived.Test.YtdkblhfcndafaaaXf45
namespace Go.Proofs.Ytdkblhfcndafaaa.X
open Go.RowKit Go.Sort Go.Proofs.YtdkblhfcndafaaaW.PrintWords Go.Proofs.YtdkblhfcndafaaaW.PrintLast Go.Proofs.YtdkblhfcndafaaaW.PrintMore
set_option linter.unusedVariables false
set_option linter.unusedSimpArgs false

theorem rscalar_calls (c : Int) (w : World) : Calls Try.prog 44 #[.int .i64 c] w fun e w' => e = .returned (.bool (scalarF c)) ∧ w = w' := by
  unfold scalarF
  by_cases h1 : 0 ≤ c
  · by_cases h2 : c ≤ 1114111
    · by_cases h3 : c < 55296
      · go_enter Try.func44, Try.ntmps44
        go_wp2
        go_ret
        exact ⟨by simp [h1, h2, h3], rfl⟩
      · go_enter Try.func44, Try.ntmps44
        go_wp2
        go_ret
        exact ⟨by simp [h1, h2]; omega, rfl⟩
    · go_enter Try.func44, Try.ntmps44
      go_wp2
      go_ret
      exact ⟨by simp [h1]; omega, rfl⟩
  · go_enter Try.func44, Try.ntmps44
    go_wp2
    go_ret
    exact ⟨by simp; omega, rfl⟩
def refC0 (n b0 : Int) : Int := if n = 2 then b0 % 32 else if n = 3 then b0 % 16 else if n = 4 then b0 % 8 else b0
def refC : Int → List Int → Int
  | c, [] => c
  | c, x :: xs => refC (wrap64 (wrap64 (64 * c) + x % 64)) xs
def refTry (l : List Int) (n : Nat) : Int := refC (refC0 n (rd l 0)) ((l.take n).drop 1)
def bytesC (c : Int) : List Int := (frisketref01_Bytes.f c).getD []
def refOk (l : List Int) (n : Nat) : Bool := scalarF (refTry l n) && ((strOfNums (bytesC (refTry l n))).toList == (strOfNums (l.take n)).toList)
def refFrom (l : List Int) : Nat → Nat → Int × Int × Int
  | 0, _ => (0, 0, 11)
  | f + 1, n => if n ≤ 4 ∧ n ≤ l.length then (if refOk l n then (refTry l n, n, 0) else refFrom l f (n + 1)) else (0, 0, 11)
theorem bytes_calls (c : Int) (w : World) : Calls Try.prog 45 #[.int .i64 c] w fun e w' => ∃ v, e = .returned v ∧ (convert 55 9 v).run Try.prog w' = .ok (.string (strOfNums (bytesC c))) w' ∧ Below w.heap.size w w' := by
  have h : frisketref01_Bytes.f c = some (bytesC c) := by
    have hs : ∃ r, frisketref01_Bytes.f c = some r := by
      unfold frisketref01_Bytes.f
      repeat' split
      all_goals exact ⟨_, rfl⟩
    obtain ⟨r, hr⟩ := hs
    unfold bytesC
    rw [hr]
    rfl
  refine (frisketref01_Bytes.calls c (bytesC c) w h).mono ?_
  rintro e w' ⟨v, rfl, hR, hb⟩
  obtain ⟨A, cc, rfl⟩ := Kd.R_slice hR
  have hC := (Kd.R_reads' hR).2.2
  exact ⟨_, rfl, Kd.C_string Try.underlying55 Try.underlying5 Try.underlying9 hC, hb⟩

set_option maxHeartbeats 8000000 in
set_option maxRecDepth 100000 in
theorem refnext_calls (A : Option Addr) (c0 : Nat) (l : List Int) (w : World) (hr0 : Kd.C (Kd.int .u8) w A l.length l) (hc0 : l.length ≤ c0) (hlen : l.length ≤ 1000000000) (hb : ∀ i, 0 ≤ rd l i ∧ rd l i ≤ 255) :
    Calls Try.prog 40 #[.slice A l.length c0] w fun e w' => e = .returned (.tuple #[.int .i64 (refFrom l 5 1).1, .int .i64 (refFrom l 5 1).2.1, .int .i64 (refFrom l 5 1).2.2]) ∧ Below w.heap.size w w' := by
  have HR0 := Aside0.mk hr0
  have HL := Aside0.mk hlen
  have HBY := Aside0.mk hb
  clear hr0 hlen hb
  obtain ⟨R, hR⟩ : ∃ R, R = refFrom l 5 1 := ⟨_, rfl⟩
  rw [← hR]
  have HRR := Aside0.mk hR
  clear hR
  have hci : l.length ≤ 9223372036854775807 := by have := HL.out; omega
  go_enter Try.func40, Try.ntmps40
  go_wp2
  go_loopg [5] 5 (fun kq v5 wr => ∃ n : Nat, v5 = .int .i64 (n : Int) ∧ Aside0 (1 ≤ n ∧ n + kq = 6) ∧ Aside0 (R = refFrom l kq n) ∧ Aside0 (Below w.heap.size w wr))
  case atStart => exact ⟨1, rfl, ⟨by omega⟩, HRR, ⟨Below.refl _ _⟩⟩
  case round =>
    clear HRR
    obtain ⟨n, rfl, hn, HRR, HB⟩ := hrel
    by_cases hc : n ≤ 4 ∧ n ≤ l.length
    · cases gk with
      | zero => exact absurd hn.out (by omega)
      | succ k2 =>
      have hRV := HRR.out
      simp only [refFrom] at hRV
      rw [if_pos hc] at hRV
      clear HRR
      have HRV := Aside0.mk hRV
      clear hRV
      have hcase : n = 1 ∨ n = 2 ∨ n = 3 ∨ n = 4 := by have := hn.out; omega
      obtain ⟨ad, rfl, hc1⟩ := bytes_at HR0.out 0 (by omega)
      rw [Addr.add_zero'] at hc1
      have hbb := HBY.out 0
      have e00 : rd l ((0 : Nat) : Int) = rd l 0 := rfl
      rw [e00] at hc1
      replace hc1 := (HB.out.cell (World.block_lt_of_cell? w _ hc1)).trans hc1
      obtain ⟨T, hT⟩ : ∃ T, T = refTry l n := ⟨_, rfl⟩
      have HT := Aside0.mk hT
      have hT0 := hT
      unfold refTry at hT0
      generalize hb0 : rd l 0 = b0 at hc1 hbb hT0
      have HT0 := Aside0.mk hT0
      clear hb0 hT hT0 e00
      have hl0 : 0 < (l.length : Int) := by omega
      have hnl : (n : Int) ≤ (l.length : Int) := by omega
      have hnn : n ≤ l.length := hc.2
      replace hc := Aside0.mk hc
      have hcz : (((n : Int) == 2) = false ∧ ((n : Int) == 3) = false ∧ ((n : Int) == 4) = false ∧ refC0 n b0 = b0) ∨ (((n : Int) == 2) = true ∧ ((n : Int) == 3) = false ∧ ((n : Int) == 4) = false ∧ refC0 n b0 = b0 % 32) ∨ (((n : Int) == 2) = false ∧ ((n : Int) == 3) = true ∧ ((n : Int) == 4) = false ∧ refC0 n b0 = b0 % 16) ∨ (((n : Int) == 2) = false ∧ ((n : Int) == 3) = false ∧ ((n : Int) == 4) = true ∧ refC0 n b0 = b0 % 8) := by
        rcases hcase with rfl | rfl | rfl | rfl
        · left; refine ⟨by decide, by decide, by decide, rfl⟩
        · right; left; refine ⟨by decide, by decide, by decide, rfl⟩
        · right; right; left; refine ⟨by decide, by decide, by decide, rfl⟩
        · right; right; right; refine ⟨by decide, by decide, by decide, rfl⟩
      have hn4 : (n : Int) ≤ 4 := by omega
      have hn1 : 1 ≤ (n : Int) := by omega
      clear hcase
      obtain ⟨wo, rfl⟩ : ∃ wo : World, wo = wr := ⟨_, rfl⟩
      rcases hcz with ⟨e2, e3, e4, hz⟩ | ⟨e2, e3, e4, hz⟩ | ⟨e2, e3, e4, hz⟩ | ⟨e2, e3, e4, hz⟩
      all_goals
        replace hz := Aside0.mk hz
        go_wp2
        go_loopg [6, 7] 5 (fun kq v6 v7 wx => ∃ (i : Nat) (c : Int), v6 = .int .i64 c ∧ v7 = .int .i64 (i : Int) ∧ Aside0 (1 ≤ i ∧ i ≤ n ∧ n ≤ i + kq) ∧ Aside0 (T = refC c ((l.take n).drop i)) ∧ Aside0 (wx = wo))
        case atStart => exact ⟨1, _, rfl, rfl, ⟨by have := hn.out; omega⟩, ⟨by rw [HT0.out, hz.out]⟩, ⟨rfl⟩⟩
        case round =>
          clear hz HT0
          obtain ⟨i, c, rfl, rfl, hi, HT0, hw⟩ := hrel
          obtain rfl := hw.out
          clear hw
          by_cases hlt : i < n
          · cases gk with
            | zero => exact absurd hi.out (by omega)
            | succ k3 =>
            obtain ⟨ad2, e2', hc2⟩ := bytes_at HR0.out i (by omega)
            cases e2'
            replace hc2 := (HB.out.cell (World.block_lt_of_cell? w _ hc2)).trans hc2
            have hx2 := HBY.out (i : Int)
            have hdrop : (l.take n).drop i = rd l (i : Int) :: (l.take n).drop (i + 1) := by
              rw [List.drop_eq_getElem_cons (by rw [List.length_take]; omega)]
              congr 1
              unfold rd
              simp only [Int.toNat_natCast, List.getD_eq_getElem?_getD, List.getElem_take]
              rw [List.getElem?_eq_getElem (by omega)]
              rfl
            have HT1 := Aside0.mk (show T = refC (wrap64 (wrap64 (64 * c) + rd l (i : Int) % 64)) ((l.take n).drop (i + 1)) by rw [HT0.out, hdrop]; rfl)
            clear hdrop HT0
            generalize rd l (i : Int) = x at hc2 hx2 HT1
            have hii : (i : Int) < (l.length : Int) := by omega
            have hin : (i : Int) < (n : Int) := by omega
            go_wp2
            (go_roundg k3; (case measure => omega); (case rel => exact ⟨i + 1, _, rfl, (by first | rfl | go_num | simp), ⟨by have := hi.out; omega⟩, HT1, ⟨rfl⟩⟩))
          · have hin : i = n := by have := hi.out; omega
            have hTc : T = c := by rw [HT0.out, hin, List.drop_of_length_le (by rw [List.length_take]; omega)]; rfl
            clear HT0
            subst hTc
            have hii : ¬ ((i : Int) < (n : Int)) := by omega
            have hfo : Try.prog.follows .mixedOrders = true := by kernel_rfl
            have hsc := fun W => rscalar_calls T W
            by_cases hs : scalarF T = false
            · have hok : refOk l n = false := by unfold refOk; rw [← HT.out, hs]; rfl
              have HRV2 := Aside0.mk (show R = refFrom l k2 (n + 1) by rw [HRV.out, if_neg (by rw [hok]; simp)])
              rw [hs] at hsc
              replace hsc := Aside0.mk hsc
              clear hs hok HRV
              go_upto_region 16 with (go_at_call 44; refine (hsc.out _).mono ?_; rintro e w' ⟨rfl, rfl⟩)
              go_quiet (fail)
              go_wp2
              (go_roundg k2; (case measure => omega); (case rel => exact ⟨n + 1, (by first | rfl | go_num | simp), ⟨by have := hn.out; omega⟩, HRV2, ⟨pw_below_drewN HB.out _⟩⟩))
            · rw [show scalarF T = true by simpa using hs] at hsc
              replace hsc := Aside0.mk hsc
              have hst : scalarF T = true := by simpa using hs
              replace hst := Aside0.mk hst
              clear hs
              have hcv := fun W hW => Kd.C_string (P := Try.prog) (w := W) (c := c0) Try.underlying55 Try.underlying5 Try.underlying9 (Kd.C_take (m := n) (Kd.C_below HR0.out hW) hnn)
              have hlt2 : (l.take n).length = n := by rw [List.length_take]; omega
              rw [hlt2] at hcv
              have HCV := Aside0.mk hcv
              have hcw := hcv wr HB.out
              clear hcv hlt2
              go_upto_region 16 with (go_at_call 44; refine (hsc.out _).mono ?_; rintro e w' ⟨rfl, rfl⟩)
              have hnc : (n : Int) ≤ (c0 : Int) := by omega
              have hnc' : n ≤ c0 := by omega
              have hn0 : 0 ≤ (n : Int) := by omega
              go_cut [61] (fun v61 wc => v61 = .bool ((strOfNums (bytesC T)).toList == (strOfNums (l.take n)).toList) ∧ Aside0 (Below w.heap.size w wc))
              case first =>
                have hTake := HCV.out
                refine start_ (n := 11) (S := fun W' => (convert 55 9 (.slice (some ad) n c0)).run Try.prog W' = .ok (.string (strOfNums (l.take n))) W') (ds := []) #[false, false, false, false, false, false, false, false, false, false, false] (by kernel_rfl) rfl rfl (HCV.out _ (below_drew HB.out)) (fun hHeld => ?_)
                (refine pure_ (i := 0) (N := some 51) (v := ?_) (a' := ?_) #[true, false, false, false, false, false, false, false, false, false, false] rfl rfl (by kernel_rfl) (fun _ _ _ h => h) (Or.inl ⟨by rfl, ?_⟩) ?_ ?_; rotate_left; (· intro w'; go_simp; with_reducible rfl); rotate_left; (· simp only [Act.put, List.setIfInBounds_toArray, List.set_cons_zero, List.set_cons_succ, i64_w, i32_w]; rfl))
                (refine pure_ (i := 1) (N := some 52) (v := ?_) (a' := ?_) #[true, true, false, false, false, false, false, false, false, false, false] rfl rfl (by kernel_rfl) (fun _ _ _ h => h) (Or.inl ⟨by rfl, ?_⟩) ?_ ?_; rotate_left; (· intro w'; go_simp; with_reducible rfl); rotate_left; (· simp only [Act.put, List.setIfInBounds_toArray, List.set_cons_zero, List.set_cons_succ, i64_w, i32_w]; rfl))
                (refine pure_ (i := 2) (N := some 53) (v := ?_) (a' := ?_) #[true, true, true, false, false, false, false, false, false, false, false] rfl rfl (by kernel_rfl) (fun _ _ _ h => h) (Or.inl ⟨by rfl, ?_⟩) ?_ ?_; rotate_left; (· intro w'; go_simp; with_reducible rfl); rotate_left; (· simp only [Act.put, List.setIfInBounds_toArray, List.set_cons_zero, List.set_cons_succ, i64_w, i32_w]; rfl))
                (refine pure_ (i := 5) (N := some 56) (v := ?_) (a' := ?_) #[true, true, true, false, false, true, false, false, false, false, false] rfl rfl (by kernel_rfl) (fun _ _ _ h => h) (Or.inl ⟨by rfl, ?_⟩) ?_ ?_; rotate_left; (· intro w'; go_simp; with_reducible rfl); rotate_left; (· simp only [Act.put, List.setIfInBounds_toArray, List.set_cons_zero, List.set_cons_succ, i64_w, i32_w]; rfl))
                (refine pure_ (i := 6) (N := some 57) (v := ?_) (a' := ?_) #[true, true, true, false, false, true, true, false, false, false, false] rfl rfl (by kernel_rfl) (fun _ _ _ h => h) (Or.inl ⟨by rfl, ?_⟩) ?_ ?_; rotate_left; (· intro w'; go_simp; with_reducible rfl); rotate_left; (· simp only [Act.put, List.setIfInBounds_toArray, List.set_cons_zero, List.set_cons_succ, i64_w, i32_w]; rfl))
                (refine pure_ (i := 7) (N := some 58) (v := ?_) (a' := ?_) #[true, true, true, false, false, true, true, true, false, false, false] rfl rfl (by kernel_rfl) (fun _ _ _ h => h) (Or.inl ⟨by rfl, ?_⟩) ?_ ?_; rotate_left; (· intro w'; go_simp; with_reducible rfl); rotate_left; (· simp only [Act.put, List.setIfInBounds_toArray, List.set_cons_zero, List.set_cons_succ, i64_w, i32_w]; rfl))
                (refine take_ (i := 8) (N := some 59) (v := ?_) (a' := ?_) #[true, true, true, false, false, true, true, true, true, false, false] rfl rfl (by kernel_rfl) (fun _ _ _ h => h) (Or.inl ⟨by rfl, ?_⟩) hHeld ?_ ?_; rotate_left; (· intro w' hw_; go_simp; with_reducible rfl); rotate_left; (· simp only [Act.put, List.setIfInBounds_toArray, List.set_cons_zero, List.set_cons_succ, i64_w, i32_w]; rfl))
                refine one_ (i := 3) (N := some 54) #[true, true, true, true, false, true, true, true, true, false, false] rfl rfl (by kernel_rfl) (by decide) (fun K hK => ?_)
                refine goes_ Try.func45 (by kernel_rfl) rfl #[.int .i64 T] (by rfl) rfl rfl (by (try simp only [List.map_toArray, List.map_cons, List.map_nil]); first | done | rfl) ?_
                refine (bytes_calls T _).mono ?_
                rintro e w' ⟨v, rfl, hcx, hb⟩
                refine ⟨_, rfl, ?_⟩
                have HB3 := Aside0.mk (below_step (below_drew HB.out) hb)
                (refine hK.out _ _ (HCV.out _ HB3.out) (fun hHeld => ?_); clear hK K; refine norm_ (a' := ?_) ?_ ?_; rotate_left; (· show Act.put _ (some 54) _ = _; simp only [Act.put, List.setIfInBounds_toArray, List.set_cons_zero, List.set_cons_succ, i64_w, i32_w]; rfl))
                refine one_ (i := 4) (N := some 55) #[true, true, true, true, true, true, true, true, true, false, false] rfl rfl (by kernel_rfl) (by decide) (fun K hK => ?_)
                (refine value_ (w1 := ?_) (v := ?_) (by rfl) rfl ?_ ?_; rotate_left 2; (· go_simp; constructor; (· rfl); (· rfl)))
                (refine hK.out _ _ hHeld (fun hHeld => ?_); clear hK K; refine norm_ (a' := ?_) ?_ ?_; rotate_left; (· show Act.put _ (some 55) _ = _; simp only [Act.put, List.setIfInBounds_toArray, List.set_cons_zero, List.set_cons_succ, i64_w, i32_w]; rfl))
                (refine pure_ (i := 9) (N := some 60) (v := ?_) (a' := ?_) #[true, true, true, true, true, true, true, true, true, true, false] rfl rfl (by kernel_rfl) (fun _ _ _ h => h) (Or.inl ⟨by rfl, ?_⟩) ?_ ?_; rotate_left; (· intro w'; go_simp; with_reducible rfl); rotate_left; (· simp only [Act.put, List.setIfInBounds_toArray, List.set_cons_zero, List.set_cons_succ, i64_w, i32_w]; rfl))
                (refine pure_ (i := 10) (N := some 61) (v := ?_) (a' := ?_) #[true, true, true, true, true, true, true, true, true, true, true] rfl rfl (by kernel_rfl) (fun _ _ _ h => h) (Or.inl ⟨by rfl, ?_⟩) ?_ ?_; rotate_left; (· intro w'; go_simp; with_reducible rfl); rotate_left; (· simp only [Act.put, List.setIfInBounds_toArray, List.set_cons_zero, List.set_cons_succ, i64_w, i32_w]; rfl))
                refine done_ (by kernel_rfl) ?_
                go_wp2
                go_meet
                case rel => exact ⟨(by first | rfl | simp), HB3⟩
              case rest =>
                obtain ⟨rfl, HB2⟩ := hcut
                clear HB
                have hRV2 := HRV.out
                unfold refOk at hRV2
                rw [← HT.out, hst.out, Bool.true_and] at hRV2
                clear HRV
                cases hbq : (strOfNums (bytesC T)).toList == (strOfNums (l.take n)).toList with
                | true =>
                  rw [hbq, if_pos rfl] at hRV2
                  have HRZ := Aside0.mk hRV2
                  clear hRV2
                  replace hbq := Aside0.mk hbq
                  go_wp2
                  go_ret3
                  exact ⟨by rw [HRZ.out]; rfl, HB2.out⟩
                | false =>
                  rw [hbq, if_neg (by simp)] at hRV2
                  have HRZ := Aside0.mk hRV2
                  clear hRV2
                  replace hbq := Aside0.mk hbq
                  go_wp2
                  (go_roundg k2; (case measure => omega); (case rel => exact ⟨n + 1, (by first | rfl | go_num | simp), ⟨by have := hn.out; omega⟩, HRZ, HB2⟩))
    · have hRZ : R = (0, 0, 11) := by
        rw [HRR.out]
        cases gk with
        | zero => rfl
        | succ k2 => simp only [refFrom]; rw [if_neg hc]
      have HRZ := Aside0.mk hRZ
      clear hRZ HRR
      by_cases h4 : n ≤ 4
      · have h5 : ¬ n ≤ l.length := fun h => hc ⟨h4, h⟩
        have h4' : (n : Int) ≤ 4 := by omega
        have h5' : ¬ ((n : Int) ≤ (l.length : Int)) := by omega
        clear hc
        go_wp2
        go_ret3
        exact ⟨by rw [HRZ.out]; rfl, HB.out⟩
      · have h4' : ¬ ((n : Int) ≤ 4) := by omega
        clear hc
        go_wp2
        go_ret3
        exact ⟨by rw [HRZ.out]; rfl, HB.out⟩
end Go.Proofs.Ytdkblhfcndafaaa.X
