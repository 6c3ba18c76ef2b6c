/- The library's merge of two sorted neighbours in place (symMerge): the whole, by its depth. -/
import Derived.Test.YtipejilcocafmaaYsym
namespace Go.Proofs.Ytipejilcocafmaa.X
open Go.RowKit Go.Shelf Go.Lib Go.Sort Go.Proofs.YtipejilcocafmaaW.PrintWords
set_option linter.unusedVariables false
set_option linter.unusedSimpArgs false

theorem wsub (x y z : Nat) (h : z + y = x) (hx : x < 4611686018427387904) : IntKind.i64.wrap ((x : Int) - (y : Int)) = (z : Int) ∧ (x : Int) - (y : Int) = (z : Int) ∧ (z : Int) ≤ 4611686018427387904 ∧ IntKind.i64.wrap (z : Int) = (z : Int) :=
  ⟨by rw [IntWalk.i64_in _ ⟨by omega, by omega⟩]; omega, by omega, by omega, IntWalk.i64_in _ ⟨by omega, by omega⟩⟩
theorem wadd (x y z : Nat) (h : x + y = z) (hx : z < 4611686018427387904) : IntKind.i64.wrap ((x : Int) + (y : Int)) = (z : Int) ∧ (x : Int) + (y : Int) = (z : Int) ∧ (z : Int) ≤ 4611686018427387904 ∧ IntKind.i64.wrap (z : Int) = (z : Int) :=
  ⟨by rw [IntWalk.i64_in _ ⟨by omega, by omega⟩]; omega, by omega, by omega, IntWalk.i64_in _ ⟨by omega, by omega⟩⟩
theorem wpred (x z : Nat) (h : z + 1 = x) (hx : x < 4611686018427387904) : IntKind.i64.wrap ((x : Int) - 1) = (z : Int) ∧ (x : Int) - 1 = (z : Int) ∧ (z : Int) ≤ 4611686018427387904 ∧ IntKind.i64.wrap (z : Int) = (z : Int) :=
  ⟨by rw [IntWalk.i64_in _ ⟨by omega, by omega⟩]; omega, by omega, by omega, IntWalk.i64_in _ ⟨by omega, by omega⟩⟩
theorem symAt_in (a m b : Nat) (d : Array U64) (ham : a < m) (hmb : m < b) : symLo a m b ≤ symAt a m b d ∧ symAt a m b d ≤ symHi a m b ∧ symLo a m b ≤ symHi a m b ∧ a ≤ symLo a m b ∧ symHi a m b ≤ m ∧ symHi a m b ≤ (a + b) / 2 ∧ (a + b) / 2 + m ≤ b + symLo a m b := by
  have h : symLo a m b ≤ symHi a m b ∧ a ≤ symLo a m b ∧ symHi a m b ≤ m ∧ symHi a m b ≤ (a + b) / 2 ∧ (a + b) / 2 + m ≤ b + symLo a m b := by
    unfold symLo symHi
    split <;> omega
  obtain ⟨h1, h2, h3, h4, h5⟩ := h
  have := bs_le (fun c => !(ltU d[(a + b) / 2 + m - 1 - c]! d[c]!)) (symHi a m b - symLo a m b) (symLo a m b) (symHi a m b) h1
  exact ⟨this.1, this.2, h1, h2, h3, h4, h5⟩
set_option maxHeartbeats 16000000 in
set_option maxRecDepth 100000 in
theorem sym_row (blk off cap N : Nat) (d0 : Array U64) (w : World) (hH : Holds encU w blk off d0) (h0 : d0.size = N) (hsz : N < 1073741824) : ∀ (f a m b : Nat) (d : Array U64) (W : World), d.size = N → RowW w blk off d W → a < m → m < b → b ≤ N → b - a ≤ f →
    Calls Try.prog 41 #[.slice (some ⟨blk, off, none⟩) N cap, .int .i64 a, .int .i64 m, .int .i64 b, .func (.func 13) #[] #[]] W fun e w' =>
      e = .returned (.tuple #[]) ∧ RowW w blk off (symGo f a m b d) w' := by
  intro f
  induction f with
  | zero => intro a m b d W hN hW ham hmb hb hf; exact absurd hf (by omega)
  | succ f ih =>
    intro a m b d W hN hW ham hmb hb hf
    by_cases q1 : m - a = 1
    · unfold symGo
      rw [if_pos q1]
      exact sym_low blk off cap a m b N d0 d w W hH h0 hN hW (by omega) hmb hb hsz
    by_cases q2 : b - m = 1
    · unfold symGo
      rw [if_neg q1, if_pos q2]
      exact sym_hi blk off cap a m b N d0 d w W hH h0 hN hW (by omega) (by omega) hb hsz
    unfold symGo
    rw [if_neg q1, if_neg q2]
    dsimp only
    have mixed : Try.prog.follows Departure.mixedOrders = true := by kernel_rfl
    have HB := Aside0.mk (fun (dk : Array U64) (wr : World) (hs : dk.size = N) (h : RowW w blk off dk wr) => h.holds hH (hs.trans h0.symm))
    have IH := Aside0.mk (fun (a m b : Nat) (d : Array U64) (W : World) (h1 : d.size = N) (h2 : RowW w blk off d W) (h3 : a < m) (h4 : m < b) (h5 : b ≤ N) (h6 : b - a ≤ f) => ih a m b d W h1 h2 h3 h4 h5 h6)
    clear ih
    have RT := Aside0.mk (fun (a m b : Nat) (d : Array U64) (W : World) (h1 : d.size = N) (h2 : RowW w blk off d W) (h3 : a < m) (h4 : m < b) (h5 : b ≤ N) => rotate_row blk off cap a m b N d0 d (.func (.func 13) #[] #[]) w W hH h0 h1 h2 h3 h4 h5 (by omega))
    have hin := symAt_in a m b d ham hmb
    obtain ⟨S, hS⟩ : ∃ S, S = symAt a m b d := ⟨_, rfl⟩
    obtain ⟨M, hM⟩ : ∃ M, M = (a + b) / 2 := ⟨_, rfl⟩
    obtain ⟨lo, hlo⟩ : ∃ lo, lo = symLo a m b := ⟨_, rfl⟩
    obtain ⟨hi, hhi⟩ : ∃ hi, hi = symHi a m b := ⟨_, rfl⟩
    rw [← hS, ← hM, ← hlo, ← hhi] at hin
    rw [← hS, ← hM]
    obtain ⟨E, hE⟩ : ∃ E, E = M + m - S := ⟨_, rfl⟩
    rw [← hE]
    obtain ⟨i1, i2, i3, i4, i5, i6, i7⟩ := hin
    obtain ⟨d1, hd1⟩ : ∃ d1, d1 = (if S < m ∧ m < E then rotGo m (m - S + (E - m)) (m - S) (E - m) d else d) := ⟨_, rfl⟩
    rw [← hd1]
    obtain ⟨d2, hd2⟩ : ∃ d2, d2 = (if a < S ∧ S < M then symGo f a S M d1 else d1) := ⟨_, rfl⟩
    rw [← hd2]
    obtain ⟨d3, hd3⟩ : ∃ d3, d3 = (if M < E ∧ E < b then symGo f M E b d2 else d2) := ⟨_, rfl⟩
    rw [← hd3]
    have hs1 : d1.size = N := by
      rw [hd1]
      split
      · rw [rotGo_size, hN]
      · exact hN
    have hs2 : d2.size = N := by
      rw [hd2]
      split
      · rw [symGo_size, hs1]
      · exact hs1
    have HD1 := Aside0.mk hd1
    have HD2 := Aside0.mk hd2
    have HD3 := Aside0.mk hd3
    have HN1 := Aside0.mk hs1
    have HN2 := Aside0.mk hs2
    have HS := Aside0.mk hS
    have HLO := Aside0.mk hlo
    have HHI := Aside0.mk hhi
    have HW := Aside0.mk hW
    have HN := Aside0.mk hN
    obtain ⟨p, hp⟩ : ∃ p : Nat, p = m - a := ⟨_, rfl⟩
    obtain ⟨q, hq⟩ : ∃ q : Nat, q = b - m := ⟨_, rfl⟩
    obtain ⟨n, hn⟩ : ∃ n : Nat, n = M + m := ⟨_, rfl⟩
    have E1 := Aside0.mk (wsub m a p (by omega) (by omega))
    have E3 := Aside0.mk (wsub b m q (by omega) (by omega))
    have e5 : ((p : Int) == 1) = false := by simp; omega
    have e6 : ¬ (p : Int) = 1 := by omega
    have e7 : ((q : Int) == 1) = false := by simp; omega
    have e8 : ¬ (q : Int) = 1 := by omega
    have hMz := Aside0.mk (show ((M : Nat) : Int) = ((a : Int) + (b : Int)) / 2 by omega)
    have hE0 := Aside0.mk (show E = M + m - S ∧ n = M + m by omega)
    have hdf := Aside0.mk (show b - a ≤ f + 1 from hf)
    have hMab : a < M ∧ M < b := by omega
    obtain ⟨P, hP⟩ : ∃ P : Nat, P = n - 1 := ⟨_, rfl⟩
    have HSB := Aside0.mk (show S = bs (fun c => !(ltU d[P - c]! d[c]!)) (hi - lo) lo hi by
      rw [hS, hlo, hhi, hP, hn, hM]; rfl)
    have HPn := Aside0.mk (show P = n - 1 ∧ n = M + m ∧ 1 ≤ n by omega)
    have hlo1 : m > M → lo = n - b ∧ hi = M := fun h => ⟨by rw [hlo, hn, hM]; unfold symLo; rw [if_pos (by omega)], by rw [hhi, hM]; unfold symHi; rw [if_pos (by omega)]⟩
    have hlo2 : ¬ m > M → lo = a ∧ hi = m := fun h => ⟨by rw [hlo]; unfold symLo; rw [if_neg (by omega)], by rw [hhi]; unfold symHi; rw [if_neg (by omega)]⟩
    have E9 := Aside0.mk (wadd M m n (by omega) (by omega))
    have E11 := Aside0.mk (wpred n P (by omega) (by omega))
    have E13 := Aside0.mk (wsub n S E (by omega) (by omega))
    have E15 := Aside0.mk (fun h : m > M => wsub n b lo (by have := hlo1 h; omega) (by omega))
    have hb1 : (a : Int) ≤ 1073741824 := by omega
    have hb2 : (b : Int) ≤ 1073741824 := by omega
    have L1 := Aside0.mk hlo1
    have L2 := Aside0.mk hlo2
    have HNB := Aside0.mk (show (S ≤ m ∧ m ≤ E ∧ E ≤ b ∧ a ≤ S ∧ S ≤ M) ∧ (lo ≤ S ∧ S ≤ hi ∧ lo ≤ hi ∧ a ≤ lo ∧ hi ≤ m ∧ hi ≤ M ∧ M + m ≤ b + lo) by omega)
    have HABM := Aside0.mk (show a < m ∧ m < b ∧ b ≤ N ∧ N < 1073741824 ∧ a < M ∧ M < b ∧ b - a ≤ f + 1 by omega)
    clear hW hN hS hM hlo hhi hd1 hd2 hd3 hs1 hs2 hp hq hn hP hE i1 i2 i3 i4 i5 i6 i7 hf hlo1 hlo2 q1 q2 hMab hdf hE0
    go_enter Try.func41, Try.ntmps41
    obtain ⟨e1, e2, e1w, -⟩ := E1.out
    obtain ⟨e3, e4, e3w, -⟩ := E3.out
    go_upto_region 25 with (fail)
    rw [← hMz.out]
    clear e1 e2 e3 e4 e1w e3w e5 e6 e7 e8
    obtain ⟨e9, e10, e9w, -⟩ := E9.out
    go_upto_if 140 with (fail)
    clear e9 e10 e9w
    go_cut [20, 21] from 138 to 146 (fun v20 v21 wc => v20 = .int .i64 (lo : Int) ∧ v21 = .int .i64 (hi : Int) ∧ Aside0 (RowW w blk off d wc))
    case first =>
      by_cases hcm : m > M
      · have hz : (M : Int) < (m : Int) := by omega
        obtain ⟨e15, e16, e15w, -⟩ := E15.out hcm
        have hh := (L1.out hcm).2
        go_wp2
        go_meet
        case rel => exact ⟨by first | rfl | (simp; done), by rw [hh], HW⟩
      · have hz : ¬ (M : Int) < (m : Int) := by omega
        have hh := L2.out hcm
        have HH := Aside0.mk hh
        clear hh
        go_wp2
        go_meet
        case rel => exact ⟨by rw [HH.out.1], by rw [HH.out.2], HW⟩
    case rest =>
      obtain ⟨rfl, rfl, HWc⟩ := hcut
      obtain ⟨e11, e12, e11w, -⟩ := E11.out
      go_wp2
      clear e11 e12 e11w
      go_loopg [20, 21] (hi - lo) (fun kq vi vj wr => ∃ i j : Nat, vi = .int .i64 (i : Int) ∧ vj = .int .i64 (j : Int) ∧ Aside0 (lo ≤ i ∧ i ≤ j ∧ j ≤ hi ∧ j - i ≤ kq) ∧ Aside0 (bs (fun c => !(ltU d[P - c]! d[c]!)) kq i j = S) ∧ Aside0 (RowW w blk off d wr))
      case atStart => exact ⟨lo, hi, rfl, rfl, ⟨by have := HNB.out; omega⟩, ⟨HSB.out.symm⟩, HWc⟩
      case round =>
        obtain ⟨i, j, rfl, rfl, hx, HE, hw⟩ := hrel
        have hx1 := hx.out
        have hnb := HNB.out
        have hab := HABM.out
        have hpn := HPn.out
        by_cases hlt : i < j
        · cases gk with
          | zero => exact absurd hx.out (by omega)
          | succ k2 =>
          have HEV := HE.out
          unfold bs at HEV
          rw [if_pos hlt] at HEV
          clear HE
          have hij : (i : Int) < (j : Int) := by omega
          obtain ⟨h, hh⟩ : ∃ h, h = (i + j) / 2 := ⟨_, rfl⟩
          rw [← hh] at HEV
          have hb1 : i ≤ h := by omega
          have hb2 : h < j := by omega
          have hb3 : h < N := by omega
          obtain ⟨pc, hpc⟩ : ∃ pc, pc = P - h := ⟨_, rfl⟩
          have hpc3 : pc < N := by omega
          have E17 := Aside0.mk (wsub P h pc (by omega) (by omega))
          have hhi : ((h : Nat) : Int) = ((i : Int) + (j : Int)) / 2 := by omega
          have c0' : 0 ≤ (i : Int) := by omega
          have c1' : (i : Int) ≤ 1073741824 := by omega
          have c2' : 0 ≤ (j : Int) := by omega
          have c3' : (j : Int) ≤ 1073741824 := by omega
          have HX := Aside0.mk (show (lo ≤ h + 1 ∧ h + 1 ≤ j ∧ j ≤ hi ∧ j - (h + 1) ≤ k2) ∧ (lo ≤ i ∧ i ≤ h ∧ h ≤ hi ∧ h - i ≤ k2) by omega)
          have HHI := Aside0.mk hhi
          have HH := Aside0.mk hh
          have HPC := Aside0.mk hpc
          clear hhi hh hnb hab hpn hx1 hx hpc
          go_upto_region 35 with (fail)
          rw [← HHI.out]
          have h1z : (h : Int) < (N : Int) := by omega
          have h2z : (pc : Int) < (N : Int) := by omega
          have h3z : (h : Int) + 1 ≤ 1073741824 := by omega
          obtain ⟨-, e18, e17w, e17⟩ := E17.out
          obtain ⟨ch, fh⟩ := row_cell (HB.out d wr HN.out hw.out) HN.out h hb3
          obtain ⟨ca, fa⟩ := row_cell (HB.out d wr HN.out hw.out) HN.out pc hpc3
          have hc := fun n => order_quiet (d[pc]!) (d[h]!) (wr.drewN n)
          clear fh fa
          have hcf : ltU d[pc]! d[h]! = decide (cfU d[pc]! d[h]! < 0) := rfl
          generalize hxv : d[h]! = xh at ch hc hcf
          generalize hyv : d[pc]! = xa at ca hc hcf
          by_cases hlv : cfU xa xh < 0
          · have HV2 := Aside0.mk (show bs (fun c => !(ltU d[P - c]! d[c]!)) k2 i h = S by
              rw [if_neg (by rw [← HPC.out, hxv, hyv, hcf, decide_eq_true hlv]; exact Bool.false_ne_true)] at HEV
              exact HEV)
            have hlb := decide_eq_true hlv
            clear HEV hxv hyv hcf
            go_wp2_with fail
            go_quiet_o (first | (go_at_call 13; refine Calls.quiet_of (hc _)))
            go_wp2
            (go_roundg k2; (case measure => (clear e17 e18 e17w; omega)); (case rel => exact ⟨i, h, rfl, rfl, ⟨HX.out.2⟩, HV2, ⟨hw.out.drew _⟩⟩))
          · have HV2 := Aside0.mk (show bs (fun c => !(ltU d[P - c]! d[c]!)) k2 (h + 1) j = S by
              rw [if_pos (by rw [← HPC.out, hxv, hyv, hcf, decide_eq_false hlv]; rfl)] at HEV
              exact HEV)
            have hlb := decide_eq_false hlv
            clear HEV hxv hyv hcf hlv
            go_wp2_with fail
            go_quiet_o (first | (go_at_call 13; refine Calls.quiet_of (hc _)))
            go_wp2
            (go_roundg k2; (case measure => (clear e17 e18 e17w; omega)); (case rel => exact ⟨h + 1, j, (by first | rfl | go_num | simp), rfl, ⟨HX.out.1⟩, HV2, ⟨hw.out.drew _⟩⟩))
        · have hIi : S = i := by
            rw [← HE.out]
            cases gk with
            | zero => rfl
            | succ k2 => unfold bs; rw [if_neg hlt]
          have hij : ¬ (i : Int) < (j : Int) := by omega
          clear HE hx1 hx hnb hab hpn hlt
          subst hIi
          have hnb2 := HNB.out
          have hab2 := HABM.out
          have hd := HD1.out
          by_cases s1 : S < m
          · have s1z : (S : Int) < (m : Int) := by omega
            by_cases s2 : m < E
            · have s2z : (m : Int) < (E : Int) := by omega
              rw [if_pos ⟨s1, s2⟩] at hd
              have hc := Aside0.mk (RT.out S m E d wr HN.out hw.out s1 s2 (by omega))
              have HDD := Aside0.mk hd
              clear hd hnb2 hab2
              obtain ⟨e13, e14, e13w, -⟩ := E13.out
              go_upto_region 41 with (go_at_call 44; refine hc.out.mono ?_; rintro e w' ⟨rfl, hb⟩; have HBB := Aside0.mk hb; clear hb)
              clear e13 e14 e13w
              have HW1 := Aside0.mk (show RowW w blk off d1 _ from by rw [HDD.out]; exact HBB.out)
              have hab3 := HABM.out
              have hnb3 := HNB.out
              have hd2 := HD2.out
              clear s1z
              by_cases s3 : a < S
              · have s3z : (a : Int) < (S : Int) := by omega
                by_cases s4 : S < M
                · have s4z : (S : Int) < (M : Int) := by omega
                  rw [if_pos ⟨s3, s4⟩] at hd2
                  have hc2 := Aside0.mk (IH.out a S M d1 _ HN1.out HW1.out s3 s4 (by omega) (by omega))
                  have HDD2 := Aside0.mk hd2
                  clear hd2 hab3 hnb3
                  go_upto_region 43 with (go_at_call 41; refine hc2.out.mono ?_; rintro e w' ⟨rfl, hb⟩; have HBB2 := Aside0.mk hb; clear hb)
                  have HW2 := Aside0.mk (show RowW w blk off d2 _ from by rw [HDD2.out]; exact HBB2.out)
                  have hab4 := HABM.out
                  have hnb4 := HNB.out
                  have hd3 := HD3.out
                  by_cases s5 : M < E
                  · have s5z : (M : Int) < (E : Int) := by omega
                    by_cases s6 : E < b
                    · have s6z : (E : Int) < (b : Int) := by omega
                      rw [if_pos ⟨s5, s6⟩] at hd3
                      have hc3 := Aside0.mk (IH.out M E b d2 _ HN2.out HW2.out s5 s6 (by omega) (by omega))
                      have HDD3 := Aside0.mk hd3
                      clear hd3 hab4 hnb4
                      go_wp2_with (go_at_call 41; refine hc3.out.mono ?_; rintro e w' ⟨rfl, hb⟩; have HBB3 := Aside0.mk hb; clear hb)
                      go_end0
                      exact ⟨rfl, by rw [HDD3.out]; exact HBB3.out⟩
                    · have s6z : ¬ (E : Int) < (b : Int) := by omega
                      rw [if_neg (fun h => s6 h.2)] at hd3
                      have HDD3 := Aside0.mk hd3
                      clear hd3 hab4 hnb4
                      go_wp2
                      go_end0
                      exact ⟨rfl, by rw [HDD3.out]; exact HW2.out⟩
                  · have s5z : ¬ (M : Int) < (E : Int) := by omega
                    rw [if_neg (fun h => s5 h.1)] at hd3
                    have HDD3 := Aside0.mk hd3
                    clear hd3 hab4 hnb4
                    go_wp2
                    go_end0
                    exact ⟨rfl, by rw [HDD3.out]; exact HW2.out⟩
                · have s4z : ¬ (S : Int) < (M : Int) := by omega
                  rw [if_neg (fun h => s4 h.2)] at hd2
                  have HDD2 := Aside0.mk hd2
                  clear hd2 hab3 hnb3
                  go_upto_region 43 with (fail)
                  have HW2 := Aside0.mk (show RowW w blk off d2 _ from by rw [HDD2.out]; exact HW1.out)
                  have hab4 := HABM.out
                  have hnb4 := HNB.out
                  have hd3 := HD3.out
                  by_cases s5 : M < E
                  · have s5z : (M : Int) < (E : Int) := by omega
                    by_cases s6 : E < b
                    · have s6z : (E : Int) < (b : Int) := by omega
                      rw [if_pos ⟨s5, s6⟩] at hd3
                      have hc3 := Aside0.mk (IH.out M E b d2 _ HN2.out HW2.out s5 s6 (by omega) (by omega))
                      have HDD3 := Aside0.mk hd3
                      clear hd3 hab4 hnb4
                      go_wp2_with (go_at_call 41; refine hc3.out.mono ?_; rintro e w' ⟨rfl, hb⟩; have HBB3 := Aside0.mk hb; clear hb)
                      go_end0
                      exact ⟨rfl, by rw [HDD3.out]; exact HBB3.out⟩
                    · have s6z : ¬ (E : Int) < (b : Int) := by omega
                      rw [if_neg (fun h => s6 h.2)] at hd3
                      have HDD3 := Aside0.mk hd3
                      clear hd3 hab4 hnb4
                      go_wp2
                      go_end0
                      exact ⟨rfl, by rw [HDD3.out]; exact HW2.out⟩
                  · have s5z : ¬ (M : Int) < (E : Int) := by omega
                    rw [if_neg (fun h => s5 h.1)] at hd3
                    have HDD3 := Aside0.mk hd3
                    clear hd3 hab4 hnb4
                    go_wp2
                    go_end0
                    exact ⟨rfl, by rw [HDD3.out]; exact HW2.out⟩
              · have s3z : ¬ (a : Int) < (S : Int) := by omega
                rw [if_neg (fun h => s3 h.1)] at hd2
                have HDD2 := Aside0.mk hd2
                clear hd2 hab3 hnb3
                go_upto_region 43 with (fail)
                have HW2 := Aside0.mk (show RowW w blk off d2 _ from by rw [HDD2.out]; exact HW1.out)
                have hab4 := HABM.out
                have hnb4 := HNB.out
                have hd3 := HD3.out
                by_cases s5 : M < E
                · have s5z : (M : Int) < (E : Int) := by omega
                  by_cases s6 : E < b
                  · have s6z : (E : Int) < (b : Int) := by omega
                    rw [if_pos ⟨s5, s6⟩] at hd3
                    have hc3 := Aside0.mk (IH.out M E b d2 _ HN2.out HW2.out s5 s6 (by omega) (by omega))
                    have HDD3 := Aside0.mk hd3
                    clear hd3 hab4 hnb4
                    go_wp2_with (go_at_call 41; refine hc3.out.mono ?_; rintro e w' ⟨rfl, hb⟩; have HBB3 := Aside0.mk hb; clear hb)
                    go_end0
                    exact ⟨rfl, by rw [HDD3.out]; exact HBB3.out⟩
                  · have s6z : ¬ (E : Int) < (b : Int) := by omega
                    rw [if_neg (fun h => s6 h.2)] at hd3
                    have HDD3 := Aside0.mk hd3
                    clear hd3 hab4 hnb4
                    go_wp2
                    go_end0
                    exact ⟨rfl, by rw [HDD3.out]; exact HW2.out⟩
                · have s5z : ¬ (M : Int) < (E : Int) := by omega
                  rw [if_neg (fun h => s5 h.1)] at hd3
                  have HDD3 := Aside0.mk hd3
                  clear hd3 hab4 hnb4
                  go_wp2
                  go_end0
                  exact ⟨rfl, by rw [HDD3.out]; exact HW2.out⟩
            · have s2z : ¬ (m : Int) < (E : Int) := by omega
              rw [if_neg (fun h => s2 h.2)] at hd
              have HDD := Aside0.mk hd
              clear hd hnb2 hab2
              obtain ⟨e13, e14, e13w, -⟩ := E13.out
              go_upto_region 41 with (fail)
              clear e13 e14 e13w
              have HW1 := Aside0.mk (show RowW w blk off d1 _ from by rw [HDD.out]; exact hw.out)
              have hab3 := HABM.out
              have hnb3 := HNB.out
              have hd2 := HD2.out
              clear s1z
              by_cases s3 : a < S
              · have s3z : (a : Int) < (S : Int) := by omega
                by_cases s4 : S < M
                · have s4z : (S : Int) < (M : Int) := by omega
                  rw [if_pos ⟨s3, s4⟩] at hd2
                  have hc2 := Aside0.mk (IH.out a S M d1 _ HN1.out HW1.out s3 s4 (by omega) (by omega))
                  have HDD2 := Aside0.mk hd2
                  clear hd2 hab3 hnb3
                  go_upto_region 43 with (go_at_call 41; refine hc2.out.mono ?_; rintro e w' ⟨rfl, hb⟩; have HBB2 := Aside0.mk hb; clear hb)
                  have HW2 := Aside0.mk (show RowW w blk off d2 _ from by rw [HDD2.out]; exact HBB2.out)
                  have hab4 := HABM.out
                  have hnb4 := HNB.out
                  have hd3 := HD3.out
                  by_cases s5 : M < E
                  · have s5z : (M : Int) < (E : Int) := by omega
                    by_cases s6 : E < b
                    · have s6z : (E : Int) < (b : Int) := by omega
                      rw [if_pos ⟨s5, s6⟩] at hd3
                      have hc3 := Aside0.mk (IH.out M E b d2 _ HN2.out HW2.out s5 s6 (by omega) (by omega))
                      have HDD3 := Aside0.mk hd3
                      clear hd3 hab4 hnb4
                      go_wp2_with (go_at_call 41; refine hc3.out.mono ?_; rintro e w' ⟨rfl, hb⟩; have HBB3 := Aside0.mk hb; clear hb)
                      go_end0
                      exact ⟨rfl, by rw [HDD3.out]; exact HBB3.out⟩
                    · have s6z : ¬ (E : Int) < (b : Int) := by omega
                      rw [if_neg (fun h => s6 h.2)] at hd3
                      have HDD3 := Aside0.mk hd3
                      clear hd3 hab4 hnb4
                      go_wp2
                      go_end0
                      exact ⟨rfl, by rw [HDD3.out]; exact HW2.out⟩
                  · have s5z : ¬ (M : Int) < (E : Int) := by omega
                    rw [if_neg (fun h => s5 h.1)] at hd3
                    have HDD3 := Aside0.mk hd3
                    clear hd3 hab4 hnb4
                    go_wp2
                    go_end0
                    exact ⟨rfl, by rw [HDD3.out]; exact HW2.out⟩
                · have s4z : ¬ (S : Int) < (M : Int) := by omega
                  rw [if_neg (fun h => s4 h.2)] at hd2
                  have HDD2 := Aside0.mk hd2
                  clear hd2 hab3 hnb3
                  go_upto_region 43 with (fail)
                  have HW2 := Aside0.mk (show RowW w blk off d2 _ from by rw [HDD2.out]; exact HW1.out)
                  have hab4 := HABM.out
                  have hnb4 := HNB.out
                  have hd3 := HD3.out
                  by_cases s5 : M < E
                  · have s5z : (M : Int) < (E : Int) := by omega
                    by_cases s6 : E < b
                    · have s6z : (E : Int) < (b : Int) := by omega
                      rw [if_pos ⟨s5, s6⟩] at hd3
                      have hc3 := Aside0.mk (IH.out M E b d2 _ HN2.out HW2.out s5 s6 (by omega) (by omega))
                      have HDD3 := Aside0.mk hd3
                      clear hd3 hab4 hnb4
                      go_wp2_with (go_at_call 41; refine hc3.out.mono ?_; rintro e w' ⟨rfl, hb⟩; have HBB3 := Aside0.mk hb; clear hb)
                      go_end0
                      exact ⟨rfl, by rw [HDD3.out]; exact HBB3.out⟩
                    · have s6z : ¬ (E : Int) < (b : Int) := by omega
                      rw [if_neg (fun h => s6 h.2)] at hd3
                      have HDD3 := Aside0.mk hd3
                      clear hd3 hab4 hnb4
                      go_wp2
                      go_end0
                      exact ⟨rfl, by rw [HDD3.out]; exact HW2.out⟩
                  · have s5z : ¬ (M : Int) < (E : Int) := by omega
                    rw [if_neg (fun h => s5 h.1)] at hd3
                    have HDD3 := Aside0.mk hd3
                    clear hd3 hab4 hnb4
                    go_wp2
                    go_end0
                    exact ⟨rfl, by rw [HDD3.out]; exact HW2.out⟩
              · have s3z : ¬ (a : Int) < (S : Int) := by omega
                rw [if_neg (fun h => s3 h.1)] at hd2
                have HDD2 := Aside0.mk hd2
                clear hd2 hab3 hnb3
                go_upto_region 43 with (fail)
                have HW2 := Aside0.mk (show RowW w blk off d2 _ from by rw [HDD2.out]; exact HW1.out)
                have hab4 := HABM.out
                have hnb4 := HNB.out
                have hd3 := HD3.out
                by_cases s5 : M < E
                · have s5z : (M : Int) < (E : Int) := by omega
                  by_cases s6 : E < b
                  · have s6z : (E : Int) < (b : Int) := by omega
                    rw [if_pos ⟨s5, s6⟩] at hd3
                    have hc3 := Aside0.mk (IH.out M E b d2 _ HN2.out HW2.out s5 s6 (by omega) (by omega))
                    have HDD3 := Aside0.mk hd3
                    clear hd3 hab4 hnb4
                    go_wp2_with (go_at_call 41; refine hc3.out.mono ?_; rintro e w' ⟨rfl, hb⟩; have HBB3 := Aside0.mk hb; clear hb)
                    go_end0
                    exact ⟨rfl, by rw [HDD3.out]; exact HBB3.out⟩
                  · have s6z : ¬ (E : Int) < (b : Int) := by omega
                    rw [if_neg (fun h => s6 h.2)] at hd3
                    have HDD3 := Aside0.mk hd3
                    clear hd3 hab4 hnb4
                    go_wp2
                    go_end0
                    exact ⟨rfl, by rw [HDD3.out]; exact HW2.out⟩
                · have s5z : ¬ (M : Int) < (E : Int) := by omega
                  rw [if_neg (fun h => s5 h.1)] at hd3
                  have HDD3 := Aside0.mk hd3
                  clear hd3 hab4 hnb4
                  go_wp2
                  go_end0
                  exact ⟨rfl, by rw [HDD3.out]; exact HW2.out⟩
          · have s1z : ¬ (S : Int) < (m : Int) := by omega
            rw [if_neg (fun h => s1 h.1)] at hd
            have HDD := Aside0.mk hd
            clear hd hnb2 hab2
            obtain ⟨e13, e14, e13w, -⟩ := E13.out
            go_upto_region 41 with (fail)
            clear e13 e14 e13w
            have HW1 := Aside0.mk (show RowW w blk off d1 _ from by rw [HDD.out]; exact hw.out)
            have hab3 := HABM.out
            have hnb3 := HNB.out
            have hd2 := HD2.out
            clear s1z
            by_cases s3 : a < S
            · have s3z : (a : Int) < (S : Int) := by omega
              by_cases s4 : S < M
              · have s4z : (S : Int) < (M : Int) := by omega
                rw [if_pos ⟨s3, s4⟩] at hd2
                have hc2 := Aside0.mk (IH.out a S M d1 _ HN1.out HW1.out s3 s4 (by omega) (by omega))
                have HDD2 := Aside0.mk hd2
                clear hd2 hab3 hnb3
                go_upto_region 43 with (go_at_call 41; refine hc2.out.mono ?_; rintro e w' ⟨rfl, hb⟩; have HBB2 := Aside0.mk hb; clear hb)
                have HW2 := Aside0.mk (show RowW w blk off d2 _ from by rw [HDD2.out]; exact HBB2.out)
                have hab4 := HABM.out
                have hnb4 := HNB.out
                have hd3 := HD3.out
                by_cases s5 : M < E
                · have s5z : (M : Int) < (E : Int) := by omega
                  by_cases s6 : E < b
                  · have s6z : (E : Int) < (b : Int) := by omega
                    rw [if_pos ⟨s5, s6⟩] at hd3
                    have hc3 := Aside0.mk (IH.out M E b d2 _ HN2.out HW2.out s5 s6 (by omega) (by omega))
                    have HDD3 := Aside0.mk hd3
                    clear hd3 hab4 hnb4
                    go_wp2_with (go_at_call 41; refine hc3.out.mono ?_; rintro e w' ⟨rfl, hb⟩; have HBB3 := Aside0.mk hb; clear hb)
                    go_end0
                    exact ⟨rfl, by rw [HDD3.out]; exact HBB3.out⟩
                  · have s6z : ¬ (E : Int) < (b : Int) := by omega
                    rw [if_neg (fun h => s6 h.2)] at hd3
                    have HDD3 := Aside0.mk hd3
                    clear hd3 hab4 hnb4
                    go_wp2
                    go_end0
                    exact ⟨rfl, by rw [HDD3.out]; exact HW2.out⟩
                · have s5z : ¬ (M : Int) < (E : Int) := by omega
                  rw [if_neg (fun h => s5 h.1)] at hd3
                  have HDD3 := Aside0.mk hd3
                  clear hd3 hab4 hnb4
                  go_wp2
                  go_end0
                  exact ⟨rfl, by rw [HDD3.out]; exact HW2.out⟩
              · have s4z : ¬ (S : Int) < (M : Int) := by omega
                rw [if_neg (fun h => s4 h.2)] at hd2
                have HDD2 := Aside0.mk hd2
                clear hd2 hab3 hnb3
                go_upto_region 43 with (fail)
                have HW2 := Aside0.mk (show RowW w blk off d2 _ from by rw [HDD2.out]; exact HW1.out)
                have hab4 := HABM.out
                have hnb4 := HNB.out
                have hd3 := HD3.out
                by_cases s5 : M < E
                · have s5z : (M : Int) < (E : Int) := by omega
                  by_cases s6 : E < b
                  · have s6z : (E : Int) < (b : Int) := by omega
                    rw [if_pos ⟨s5, s6⟩] at hd3
                    have hc3 := Aside0.mk (IH.out M E b d2 _ HN2.out HW2.out s5 s6 (by omega) (by omega))
                    have HDD3 := Aside0.mk hd3
                    clear hd3 hab4 hnb4
                    go_wp2_with (go_at_call 41; refine hc3.out.mono ?_; rintro e w' ⟨rfl, hb⟩; have HBB3 := Aside0.mk hb; clear hb)
                    go_end0
                    exact ⟨rfl, by rw [HDD3.out]; exact HBB3.out⟩
                  · have s6z : ¬ (E : Int) < (b : Int) := by omega
                    rw [if_neg (fun h => s6 h.2)] at hd3
                    have HDD3 := Aside0.mk hd3
                    clear hd3 hab4 hnb4
                    go_wp2
                    go_end0
                    exact ⟨rfl, by rw [HDD3.out]; exact HW2.out⟩
                · have s5z : ¬ (M : Int) < (E : Int) := by omega
                  rw [if_neg (fun h => s5 h.1)] at hd3
                  have HDD3 := Aside0.mk hd3
                  clear hd3 hab4 hnb4
                  go_wp2
                  go_end0
                  exact ⟨rfl, by rw [HDD3.out]; exact HW2.out⟩
            · have s3z : ¬ (a : Int) < (S : Int) := by omega
              rw [if_neg (fun h => s3 h.1)] at hd2
              have HDD2 := Aside0.mk hd2
              clear hd2 hab3 hnb3
              go_upto_region 43 with (fail)
              have HW2 := Aside0.mk (show RowW w blk off d2 _ from by rw [HDD2.out]; exact HW1.out)
              have hab4 := HABM.out
              have hnb4 := HNB.out
              have hd3 := HD3.out
              by_cases s5 : M < E
              · have s5z : (M : Int) < (E : Int) := by omega
                by_cases s6 : E < b
                · have s6z : (E : Int) < (b : Int) := by omega
                  rw [if_pos ⟨s5, s6⟩] at hd3
                  have hc3 := Aside0.mk (IH.out M E b d2 _ HN2.out HW2.out s5 s6 (by omega) (by omega))
                  have HDD3 := Aside0.mk hd3
                  clear hd3 hab4 hnb4
                  go_wp2_with (go_at_call 41; refine hc3.out.mono ?_; rintro e w' ⟨rfl, hb⟩; have HBB3 := Aside0.mk hb; clear hb)
                  go_end0
                  exact ⟨rfl, by rw [HDD3.out]; exact HBB3.out⟩
                · have s6z : ¬ (E : Int) < (b : Int) := by omega
                  rw [if_neg (fun h => s6 h.2)] at hd3
                  have HDD3 := Aside0.mk hd3
                  clear hd3 hab4 hnb4
                  go_wp2
                  go_end0
                  exact ⟨rfl, by rw [HDD3.out]; exact HW2.out⟩
              · have s5z : ¬ (M : Int) < (E : Int) := by omega
                rw [if_neg (fun h => s5 h.1)] at hd3
                have HDD3 := Aside0.mk hd3
                clear hd3 hab4 hnb4
                go_wp2
                go_end0
                exact ⟨rfl, by rw [HDD3.out]; exact HW2.out⟩
end Go.Proofs.Ytipejilcocafmaa.X
