/- The library's merge of two sorted neighbours in place (symMerge), by scale.Order. -/
import Derived.Test.YtipejilcocafmaaYins1
namespace Go.Proofs.Ytipejilcocafmaa.X
open Go.RowKit Go.Shelf Go.Lib Go.Sort Go.Proofs.YtipejilcocafmaaW.PrintWords
set_option linter.unusedVariables false
set_option linter.unusedSimpArgs false

/-- 'for ; ..; k++ { swap k, k+1 }', c rounds. -/
def upGo : Nat → Nat → Array U64 → Array U64
  | _, 0, d => d
  | k, c + 1, d => upGo (k + 1) c (swp d k (k + 1))
/-- 'for ; ..; k-- { swap k, k-1 }', c rounds. -/
def dnGo : Nat → Nat → Array U64 → Array U64
  | _, 0, d => d
  | k, c + 1, d => dnGo (k - 1) c (swp d k (k - 1))
theorem upGo_size : ∀ (c k : Nat) (d : Array U64), (upGo k c d).size = d.size
  | 0, _, _ => rfl
  | c + 1, k, d => by show (upGo (k + 1) c _).size = _; rw [upGo_size, size_swp]
theorem dnGo_size : ∀ (c k : Nat) (d : Array U64), (dnGo k c d).size = d.size
  | 0, _, _ => rfl
  | c + 1, k, d => by show (dnGo (k - 1) c _).size = _; rw [dnGo_size, size_swp]
def ltU (x y : U64) : Bool := ltOf cfU x y
/-- where a first element goes among the second part -/
def lowAt (a m b : Nat) (d : Array U64) : Nat := bs (fun h => ltU d[h]! d[a]!) (b - m) m b
/-- where a last element goes among the first part -/
def hiAt (a m : Nat) (d : Array U64) : Nat := bs (fun h => !(ltU d[m]! d[h]!)) (m - a) a m
def symLo (a m b : Nat) : Nat := if m > (a + b) / 2 then (a + b) / 2 + m - b else a
def symHi (a m b : Nat) : Nat := if m > (a + b) / 2 then (a + b) / 2 else m
def symAt (a m b : Nat) (d : Array U64) : Nat := bs (fun c => !(ltU d[(a + b) / 2 + m - 1 - c]! d[c]!)) (symHi a m b - symLo a m b) (symLo a m b) (symHi a m b)
def symGo : Nat → Nat → Nat → Nat → Array U64 → Array U64
  | 0, _, _, _, d => d
  | f + 1, a, m, b, d =>
    if m - a = 1 then upGo a (lowAt a m b d - 1 - a) d
    else if b - m = 1 then dnGo m (m - hiAt a m d) d
    else
      let mid := (a + b) / 2
      let s := symAt a m b d
      let e := mid + m - s
      let d1 := if s < m ∧ m < e then rotGo m (m - s + (e - m)) (m - s) (e - m) d else d
      let d2 := if a < s ∧ s < mid then symGo f a s mid d1 else d1
      if mid < e ∧ e < b then symGo f mid e b d2 else d2
theorem symGo_size : ∀ (f a m b : Nat) (d : Array U64), (symGo f a m b d).size = d.size
  | 0, _, _, _, _ => rfl
  | f + 1, a, m, b, d => by
    unfold symGo
    split
    · exact upGo_size _ _ _
    · split
      · exact dnGo_size _ _ _
      · dsimp only
        have h1 : (if symAt a m b d < m ∧ m < (a + b) / 2 + m - symAt a m b d then rotGo m (m - symAt a m b d + ((a + b) / 2 + m - symAt a m b d - m)) (m - symAt a m b d) ((a + b) / 2 + m - symAt a m b d - m) d else d).size = d.size := by
          split
          · exact rotGo_size _ _ _ _ _
          · rfl
        generalize (if symAt a m b d < m ∧ m < (a + b) / 2 + m - symAt a m b d then rotGo m (m - symAt a m b d + ((a + b) / 2 + m - symAt a m b d - m)) (m - symAt a m b d) ((a + b) / 2 + m - symAt a m b d - m) d else d) = d1 at *
        (repeat' split) <;> (first | exact h1 | (simp only [symGo_size]; exact h1))
/-- What the walks read of the row at one place. -/
theorem row_cell {blk off N : Nat} {d : Array U64} {W : World} (h : Holds encU W blk off d) (hs : d.size = N) (i : Nat) (hi : i < N) : W.cell? ⟨blk, off + i, none⟩ = some (.int .u64 (d[i]!).1) ∧ W.frozen? ⟨blk, off + i, none⟩ = false := h i (by omega)
set_option maxHeartbeats 8000000 in
set_option maxRecDepth 100000 in
theorem sym_low (blk off cap a m b N : Nat) (d0 d : Array U64) (w W : World) (hH : Holds encU w blk off d0) (h0 : d0.size = N) (hN : d.size = N) (hW : RowW w blk off d W) (ham : m = a + 1) (hmb : m < b) (hb : b ≤ N) (hsz : N < 1073741824) :
    Calls Try.prog 41 #[.slice (some ⟨blk, off, none⟩) N cap, .int .i64 a, .int .i64 m, .int .i64 b, .func (.func 13) #[] #[]] W fun e w' =>
      e = .returned (.tuple #[]) ∧ RowW w blk off (upGo a (lowAt a m b d - 1 - a) d) w' := by
  have mixed : Try.prog.follows Departure.mixedOrders = true := by kernel_rfl
  have HB := Aside0.mk (fun (dk : Array U64) (wr : World) (hs : dk.size = N) (h : RowW w blk off dk wr) => h.holds hH (hs.trans h0.symm))
  obtain ⟨I, hI⟩ : ∃ I, I = lowAt a m b d := ⟨_, rfl⟩
  have hIb : m ≤ I ∧ I ≤ b := by rw [hI]; exact bs_le _ _ _ _ (by omega)
  rw [← hI]
  obtain ⟨C, hC⟩ : ∃ C, C = I - 1 - a := ⟨_, rfl⟩
  rw [← hC]
  have HI := Aside0.mk hI
  have HC := Aside0.mk hC
  clear hC
  have HW := Aside0.mk hW
  have HN := Aside0.mk hN
  have e1 : IntKind.i64.wrap ((m : Int) - (a : Int)) = 1 := by rw [IntWalk.i64_in _ ⟨by omega, by omega⟩]; omega
  have e2 : (m : Int) - (a : Int) = 1 := by omega
  have ha : a < N := by omega
  have hm1 : 1 ≤ m := by omega
  have HA := Aside0.mk ham
  clear hI hW hN hH h0 ham
  go_enter Try.func41, Try.ntmps41
  go_wp2
  clear e1 e2
  go_loopg [10, 11] (b - m) (fun kq vi vj wr => ∃ i j : Nat, vi = .int .i64 (i : Int) ∧ vj = .int .i64 (j : Int) ∧ Aside0 (m ≤ i ∧ i ≤ j ∧ j ≤ b ∧ j - i ≤ kq) ∧ Aside0 (bs (fun h => ltU d[h]! d[a]!) kq i j = I) ∧ Aside0 (RowW w blk off d wr))
  case atStart => exact ⟨m, b, rfl, rfl, ⟨by omega⟩, ⟨HI.out.symm⟩, HW⟩
  case round =>
    obtain ⟨i, j, rfl, rfl, hx, HE, hw⟩ := hrel
    have hx1 := hx.out
    by_cases hlt : i < j
    · cases gk with
      | zero => exact absurd hx.out (by omega)
      | succ k2 =>
      have HEV := HE.out
      unfold bs at HEV
      rw [if_pos hlt] at HEV
      clear HE
      have hij : (i : Int) < (j : Int) := by omega
      have hj2 : j ≤ 1073741824 := by omega
      obtain ⟨h, hh⟩ : ∃ h, h = (i + j) / 2 := ⟨_, rfl⟩
      rw [← hh] at HEV
      have hb1 : i ≤ h := by omega
      have hb2 : h < j := by omega
      have hb3 : h < N := by omega
      have hhi : ((h : Nat) : Int) = ((i : Int) + (j : Int)) / 2 := by omega
      have c0' : 0 ≤ (i : Int) := by omega
      have c1' : (i : Int) ≤ 1073741824 := by omega
      have c2' : 0 ≤ (j : Int) := by omega
      have c3' : (j : Int) ≤ 1073741824 := by omega
      have HHI := Aside0.mk hhi
      have HH := Aside0.mk hh
      clear hhi hh
      go_upto_region 5 with (fail)
      rw [← HHI.out]
      have h1z : (h : Int) < (N : Int) := by omega
      have h2z : (a : Int) < (N : Int) := by omega
      have h3z : (h : Int) + 1 ≤ 1073741824 := by omega
      obtain ⟨ch, fh⟩ := row_cell (HB.out d wr HN.out hw.out) HN.out h hb3
      obtain ⟨ca, fa⟩ := row_cell (HB.out d wr HN.out hw.out) HN.out a ha
      have hc := fun n => order_quiet (d[h]!) (d[a]!) (wr.drewN n)
      have HX := Aside0.mk (show (m ≤ h + 1 ∧ h + 1 ≤ j ∧ j ≤ b ∧ j - (h + 1) ≤ k2) ∧ (m ≤ i ∧ i ≤ h ∧ h ≤ b ∧ h - i ≤ k2) by omega)
      clear fh fa hx1 hx
      have hcf : ltU d[h]! d[a]! = decide (cfU d[h]! d[a]! < 0) := rfl
      generalize hxv : d[h]! = xh at ch hc hcf
      generalize hyv : d[a]! = xa at ca hc hcf
      by_cases hlv : cfU xh xa < 0
      · have HV2 := Aside0.mk (show bs (fun h => ltU d[h]! d[a]!) k2 (h + 1) j = I by
          rw [if_pos (by rw [hxv, hyv, hcf]; exact decide_eq_true hlv)] at HEV
          exact HEV)
        clear HEV hxv hyv hcf
        go_wp2_with fail
        go_quiet_o (first | (go_at_call 13; refine Calls.quiet_of (hc _)))
        go_wp2
        (go_roundg k2; (case measure => omega); (case rel => exact ⟨h + 1, j, (by first | rfl | go_num | simp), rfl, ⟨HX.out.1⟩, HV2, ⟨hw.out.drew _⟩⟩))
      · have HV2 := Aside0.mk (show bs (fun h => ltU d[h]! d[a]!) k2 i h = I by
          rw [if_neg (by rw [hxv, hyv, hcf, decide_eq_false hlv]; exact Bool.false_ne_true)] at HEV
          exact HEV)
        have hlb := decide_eq_false hlv
        clear HEV hxv hyv hcf hlv
        go_wp2_with fail
        go_quiet_o (first | (go_at_call 13; refine Calls.quiet_of (hc _)))
        go_wp2
        (go_roundg k2; (case measure => omega); (case rel => exact ⟨i, h, rfl, rfl, ⟨HX.out.2⟩, HV2, ⟨hw.out.drew _⟩⟩))
    · have hIi : I = i := by
        rw [← HE.out]
        cases gk with
        | zero => rfl
        | succ k2 => unfold bs; rw [if_neg hlt]
      have hij : ¬ (i : Int) < (j : Int) := by omega
      obtain ⟨I1, hI1⟩ : ∃ I1 : Nat, I1 = I - 1 := ⟨_, rfl⟩
      have HIi := Aside0.mk hIi
      have e3 : IntKind.i64.wrap ((i : Int) - 1) = (I1 : Int) := by rw [IntWalk.i64_in _ ⟨by omega, by omega⟩]; omega
      have e4 : (i : Int) - 1 = (I1 : Int) := by omega
      have hC0 := HC.out
      have hA0 := HA.out
      have hCI : a + C = I1 := by omega
      have hI1b : I1 < N := by omega
      have HI1 := Aside0.mk hI1
      clear hIi HE hx1 hC0 hI1 hA0
      go_wp2
      clear e3 e4
      go_loopg [13] C (fun g vk wr => ∃ (k : Nat) (dk : Array U64), vk = .int .i64 (k : Int) ∧ Aside0 (k + g = I1) ∧ Aside0 (dk.size = N) ∧ Aside0 (RowW w blk off dk wr) ∧ Aside0 (upGo k g dk = upGo a C d))
      case atStart => exact ⟨a, d, rfl, ⟨hCI⟩, HN, hw, ⟨rfl⟩⟩
      case round =>
        obtain ⟨k, dk, rfl, hk, hs, hwk, hu⟩ := hrel
        have hk0 := hk.out
        have eI : IntKind.i64.wrap ((i : Int) - 1) = (I1 : Int) := by have := HIi.out; have := HI1.out; have := HA.out; rw [IntWalk.i64_in _ ⟨by omega, by omega⟩]; omega
        have eI2 : (i : Int) - 1 = (I1 : Int) := by have := HIi.out; have := HI1.out; have := HA.out; omega
        cases gk with
        | zero =>
          have hend : ¬ (k : Int) < (I1 : Int) := by omega
          clear hk0
          go_wp2
          refine bodyPost_ret (results_none rfl _ _ _) rfl ?_
          exact ⟨rfl, by rw [← hu.out]; exact hwk.out⟩
        | succ g =>
          have hend : (k : Int) < (I1 : Int) := by omega
          obtain ⟨k1, hk1⟩ : ∃ k1, k1 = k + 1 := ⟨_, rfl⟩
          have hk1N : k1 < N := by omega
          have hkN : k < N := by omega
          obtain ⟨ck, fk⟩ := row_cell (HB.out dk wr hs.out hwk.out) hs.out k hkN
          obtain ⟨cl, fl⟩ := row_cell (HB.out dk wr hs.out hwk.out) hs.out k1 hk1N
          generalize hxv : dk[k]! = xk at ck
          generalize hyv : dk[k1]! = xl at cl
          have ne1 : ¬ k1 = k := by omega
          have ne2 : ¬ k = k1 := by omega
          have ek : IntKind.i64.wrap ((k : Int) + 1) = (k1 : Int) := by rw [IntWalk.i64_in _ ⟨by omega, by omega⟩]; omega
          have ek2 : (k : Int) + 1 = (k1 : Int) := by omega
          have kz1 : (k1 : Int) < (N : Int) := by omega
          have kz : (k : Int) < (N : Int) := by omega
          have HK := Aside0.mk hk1
          have XV := Aside0.mk hxv
          have YV := Aside0.mk hyv
          have HK0 := Aside0.mk (show k1 + g = I1 by omega)
          clear hk1 hxv hyv hk0 hk hk1N hkN
          go_wp2_with fail
          go_big_region_o
          all_goals go_wp2
          (go_roundg g; (case measure => omega); (case rel => exact ⟨k1, swp dk k k1, by first | rfl | go_num, HK0, ⟨by rw [size_swp]; exact hs.out⟩, ⟨by
            obtain ⟨q, hq⟩ := hwk.out
            refine ⟨q + 1, ?_⟩
            have := hs.out
            have hKK := HK.out
            have := HK0.out
            rw [hq, ← XV.out, ← YV.out]
            exact swap_worldC encU w blk off dk q k k1 (by omega) (by omega)⟩, ⟨by rw [← hu.out, HK.out]; rfl⟩⟩))
set_option maxHeartbeats 8000000 in
set_option maxRecDepth 100000 in
theorem sym_hi (blk off cap a m b N : Nat) (d0 d : Array U64) (w W : World) (hH : Holds encU w blk off d0) (h0 : d0.size = N) (hN : d.size = N) (hW : RowW w blk off d W) (ham : a + 1 < m) (hmb : b = m + 1) (hb : b ≤ N) (hsz : N < 1073741824) :
    Calls Try.prog 41 #[.slice (some ⟨blk, off, none⟩) N cap, .int .i64 a, .int .i64 m, .int .i64 b, .func (.func 13) #[] #[]] W fun e w' =>
      e = .returned (.tuple #[]) ∧ RowW w blk off (dnGo m (m - hiAt a m d) d) w' := by
  have mixed : Try.prog.follows Departure.mixedOrders = true := by kernel_rfl
  have HB := Aside0.mk (fun (dk : Array U64) (wr : World) (hs : dk.size = N) (h : RowW w blk off dk wr) => h.holds hH (hs.trans h0.symm))
  obtain ⟨I, hI⟩ : ∃ I, I = hiAt a m d := ⟨_, rfl⟩
  have hIb : a ≤ I ∧ I ≤ m := by rw [hI]; exact bs_le _ _ _ _ (by omega)
  rw [← hI]
  obtain ⟨C, hC⟩ : ∃ C, C = m - I := ⟨_, rfl⟩
  rw [← hC]
  have HI := Aside0.mk hI
  have HC := Aside0.mk hC
  clear hC
  have HW := Aside0.mk hW
  have HN := Aside0.mk hN
  obtain ⟨p, hp⟩ : ∃ p : Nat, p = m - a := ⟨_, rfl⟩
  have e1 : IntKind.i64.wrap ((m : Int) - (a : Int)) = (p : Int) := by rw [IntWalk.i64_in _ ⟨by omega, by omega⟩]; omega
  have e2 : (m : Int) - (a : Int) = (p : Int) := by omega
  have e3 : IntKind.i64.wrap ((b : Int) - (m : Int)) = 1 := by rw [IntWalk.i64_in _ ⟨by omega, by omega⟩]; omega
  have e4 : (b : Int) - (m : Int) = 1 := by omega
  have e5 : ((p : Int) == 1) = false := by simp; omega
  have e6 : ¬ (p : Int) = 1 := by omega
  have ha : m < N := by omega
  have hm1 : 1 ≤ m := by omega
  have HA := Aside0.mk ham
  have HMB := Aside0.mk hmb
  clear hI hW hN hH h0 ham hmb hp
  go_enter Try.func41, Try.ntmps41
  go_wp2
  clear e1 e2 e3 e4 e5 e6
  go_loopg [14, 15] (m - a) (fun kq vi vj wr => ∃ i j : Nat, vi = .int .i64 (i : Int) ∧ vj = .int .i64 (j : Int) ∧ Aside0 (a ≤ i ∧ i ≤ j ∧ j ≤ m ∧ j - i ≤ kq) ∧ Aside0 (bs (fun h => !(ltU d[m]! d[h]!)) kq i j = I) ∧ Aside0 (RowW w blk off d wr))
  case atStart => exact ⟨a, m, rfl, rfl, ⟨by have := HA.out; omega⟩, ⟨HI.out.symm⟩, HW⟩
  case round =>
    obtain ⟨i, j, rfl, rfl, hx, HE, hw⟩ := hrel
    have hx1 := hx.out
    by_cases hlt : i < j
    · cases gk with
      | zero => exact absurd hx.out (by omega)
      | succ k2 =>
      have HEV := HE.out
      unfold bs at HEV
      rw [if_pos hlt] at HEV
      clear HE
      have hij : (i : Int) < (j : Int) := by omega
      have hj2 : j ≤ 1073741824 := by omega
      obtain ⟨h, hh⟩ : ∃ h, h = (i + j) / 2 := ⟨_, rfl⟩
      rw [← hh] at HEV
      have hb1 : i ≤ h := by omega
      have hb2 : h < j := by omega
      have hb3 : h < N := by omega
      have hhi : ((h : Nat) : Int) = ((i : Int) + (j : Int)) / 2 := by omega
      have c0' : 0 ≤ (i : Int) := by omega
      have c1' : (i : Int) ≤ 1073741824 := by omega
      have c2' : 0 ≤ (j : Int) := by omega
      have c3' : (j : Int) ≤ 1073741824 := by omega
      have HHI := Aside0.mk hhi
      have HH := Aside0.mk hh
      clear hhi hh
      go_upto_region 17 with (fail)
      rw [← HHI.out]
      have h1z : (h : Int) < (N : Int) := by omega
      have h2z : (m : Int) < (N : Int) := by omega
      have h3z : (h : Int) + 1 ≤ 1073741824 := by omega
      obtain ⟨ch, fh⟩ := row_cell (HB.out d wr HN.out hw.out) HN.out h hb3
      obtain ⟨ca, fa⟩ := row_cell (HB.out d wr HN.out hw.out) HN.out m ha
      have hc := fun n => order_quiet (d[m]!) (d[h]!) (wr.drewN n)
      have HX := Aside0.mk (show (a ≤ h + 1 ∧ h + 1 ≤ j ∧ j ≤ m ∧ j - (h + 1) ≤ k2) ∧ (a ≤ i ∧ i ≤ h ∧ h ≤ m ∧ h - i ≤ k2) by omega)
      clear fh fa hx1 hx
      have hcf : ltU d[m]! d[h]! = decide (cfU d[m]! d[h]! < 0) := rfl
      generalize hxv : d[h]! = xh at ch hc hcf
      generalize hyv : d[m]! = xa at ca hc hcf
      by_cases hlv : cfU xa xh < 0
      · have HV2 := Aside0.mk (show bs (fun h => !(ltU d[m]! d[h]!)) k2 i h = I by
          rw [if_neg (by rw [hxv, hyv, hcf, decide_eq_true hlv]; exact Bool.false_ne_true)] at HEV
          exact HEV)
        have hlb := decide_eq_true hlv
        clear HEV hxv hyv hcf
        go_wp2_with fail
        go_quiet_o (first | (go_at_call 13; refine Calls.quiet_of (hc _)))
        go_wp2
        (go_roundg k2; (case measure => omega); (case rel => exact ⟨i, h, rfl, rfl, ⟨HX.out.2⟩, HV2, ⟨hw.out.drew _⟩⟩))
      · have HV2 := Aside0.mk (show bs (fun h => !(ltU d[m]! d[h]!)) k2 (h + 1) j = I by
          rw [if_pos (by rw [hxv, hyv, hcf, decide_eq_false hlv]; rfl)] at HEV
          exact HEV)
        have hlb := decide_eq_false hlv
        clear HEV hxv hyv hcf hlv
        go_wp2_with fail
        go_quiet_o (first | (go_at_call 13; refine Calls.quiet_of (hc _)))
        go_wp2
        (go_roundg k2; (case measure => omega); (case rel => exact ⟨h + 1, j, (by first | rfl | go_num | simp), rfl, ⟨HX.out.1⟩, HV2, ⟨hw.out.drew _⟩⟩))
    · have hIi : I = i := by
        rw [← HE.out]
        cases gk with
        | zero => rfl
        | succ k2 => unfold bs; rw [if_neg hlt]
      have hij : ¬ (i : Int) < (j : Int) := by omega
      have HIi := Aside0.mk hIi
      have hC0 := HC.out
      have hCI : I + C = m := by omega
      clear hIi HE hx1 hC0
      go_wp2
      go_loopg [17] C (fun g vk wr => ∃ (k : Nat) (dk : Array U64), vk = .int .i64 (k : Int) ∧ Aside0 (I + g = k ∧ k ≤ m) ∧ Aside0 (dk.size = N) ∧ Aside0 (RowW w blk off dk wr) ∧ Aside0 (dnGo k g dk = dnGo m C d))
      case atStart => exact ⟨m, d, rfl, ⟨hCI, Nat.le_refl _⟩, HN, hw, ⟨rfl⟩⟩
      case round =>
        obtain ⟨k, dk, rfl, hk, hs, hwk, hu⟩ := hrel
        have hk0 := hk.out
        have hIi0 := HIi.out
        cases gk with
        | zero =>
          have hend : ¬ (i : Int) < (k : Int) := by omega
          clear hk0 hIi0
          go_wp2
          refine bodyPost_ret (results_none rfl _ _ _) rfl ?_
          exact ⟨rfl, by rw [← hu.out]; exact hwk.out⟩
        | succ g =>
          obtain ⟨k1, rfl⟩ : ∃ k1, k = k1 + 1 := ⟨k - 1, by omega⟩
          have hend : (i : Int) < (k1 : Int) + 1 := by omega
          have hk1N : k1 < N := by omega
          have hkN : k1 + 1 < N := by omega
          obtain ⟨j1, hj1⟩ : ∃ j1, j1 = k1 + 1 := ⟨_, rfl⟩
          obtain ⟨ck, fk⟩ := row_cell (HB.out dk wr hs.out hwk.out) hs.out (k1 + 1) hkN
          obtain ⟨cl, fl⟩ := row_cell (HB.out dk wr hs.out hwk.out) hs.out k1 hk1N
          generalize hxv : dk[k1 + 1]! = xk at ck
          generalize hyv : dk[k1]! = xl at cl
          rw [← hj1] at ck fk
          have ne1 : ¬ k1 = j1 := by omega
          have ne2 : ¬ j1 = k1 := by omega
          have hwp : IntKind.i64.wrap (k1 : Int) = (k1 : Int) := by rw [IntKind.wrap_i64]; omega
          have e0 : ((k1 : Int) + 1).toNat = j1 := by omega
          have p0 : (0 : Int) ≤ (k1 : Int) + 1 := by omega
          have kz1 : (k1 : Int) < (N : Int) := by omega
          have kz : (k1 : Int) + 1 < (N : Int) := by omega
          have HK := Aside0.mk hj1
          have XV := Aside0.mk hxv
          have YV := Aside0.mk hyv
          have HK0 := Aside0.mk (show I + g = k1 ∧ k1 ≤ m by omega)
          have HKN := Aside0.mk hkN
          clear hj1 hxv hyv hk0 hk hk1N hkN hIi0
          go_wp2_with fail
          go_big_region_o
          all_goals go_wp2
          (go_roundg g; (case measure => omega); (case rel => exact ⟨k1, swp dk (k1 + 1) k1, by first | rfl | go_num | (congr 1; omega), HK0, ⟨by rw [size_swp]; exact hs.out⟩, ⟨by
            obtain ⟨q, hq⟩ := hwk.out
            refine ⟨q + 1, ?_⟩
            have := hs.out
            have hKK := HK.out
            have := HKN.out
            rw [hKK, hq, ← XV.out, ← YV.out]
            exact swap_worldC encU w blk off dk q (k1 + 1) k1 (by omega) (by omega)⟩, ⟨by rw [← hu.out]; rfl⟩⟩))
end Go.Proofs.Ytipejilcocafmaa.X
