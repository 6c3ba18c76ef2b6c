/- The library's insertion sort of a part of a row of numbers, by scale.Order. -/
import Derived.Test.YtipejilcocafmaaYsrt
namespace Go.Proofs.Ytipejilcocafmaa.X
open Go.RowKit Go.Shelf Go.Lib Go.Sort Go.Proofs.YtipejilcocafmaaW.PrintWords
set_option linter.unusedVariables false
set_option linter.unusedSimpArgs false

def cfU (x y : U64) : Int := orderF x.1.toNat y.1.toNat
theorem order_quiet (x y : U64) (W : World) : Calls Try.prog 13 #[.int .u64 x.1, .int .u64 y.1] W fun e w' => e = .returned (.int .i64 (cfU x y)) ∧ ∃ q, w' = W.drewN q :=
  (scale_Order.at x.1 y.1 W x.2.1 x.2.2 y.2.1 y.2.2).mono fun e w' ⟨he, hw⟩ => ⟨he, 0, hw⟩
set_option maxHeartbeats 4000000 in
set_option maxRecDepth 100000 in
theorem insertion_row (blk off cap a b N : Nat) (d0 d : Array U64) (w W : World) (hH : Holds encU w blk off d0) (h0 : d0.size = N) (hN : d.size = N) (hW : RowW w blk off d W) (hab : a ≤ b) (hb : b ≤ N) (hsz : N < 4611686018427387904) :
    Calls Try.prog 40 #[.slice (some ⟨blk, off, none⟩) N cap, .int .i64 a, .int .i64 b, .func (.func 13) #[] #[]] W fun e w' =>
      e = .returned (.tuple #[]) ∧ RowW w blk off (Sort.insertionSort (ltOf cfU) d a b) w' := by
  have mixed : Try.prog.follows Departure.mixedOrders = true := by kernel_rfl
  have HB := Aside0.mk (fun (dk : Array U64) (wr : World) (hs : dk.size = N) (h : RowW w blk off dk wr) => h.holds hH (hs.trans h0.symm))
  have HW := Aside0.mk hW
  have HN := Aside0.mk hN
  clear hW hN hH h0
  go_enter Try.func40, Try.ntmps40
  go_wp2
  go_loopg [8] (b - a) (fun g1 vi wr => ∃ (i : Nat) (dk : Array U64), vi = .int .i64 i ∧ a < i ∧ i ≤ b + 1 ∧ b + 1 - i ≤ g1 + 1 ∧ Aside0 (dk.size = N) ∧ Aside0 (RowW w blk off dk wr) ∧ Aside0 (insOuter (ltOf cfU) a b i dk = insOuter (ltOf cfU) a b (a + 1) d))
  case atStart => exact ⟨a + 1, d, by first | rfl | go_num, by omega, by omega, by omega, HN, HW, ⟨rfl⟩⟩
  case round =>
    obtain ⟨i, dk, rfl, hai, hib, hg1, hsk, hwk, HO⟩ := hrel
    by_cases hlt : i < b
    · have hltz : (i : Int) < (b : Int) := by omega
      go_wp2
      go_loopg [9] i (fun g2 vj wr2 => ∃ (j : Nat) (dj : Array U64), vj = .int .i64 j ∧ a ≤ j ∧ j ≤ i ∧ j ≤ g2 ∧ Aside0 (dj.size = N) ∧ Aside0 (RowW w blk off dj wr2) ∧ Aside0 (insInner (ltOf cfU) a j dj = insInner (ltOf cfU) a i dk))
      case atStart => exact ⟨i, dk, rfl, by omega, Nat.le_refl _, Nat.le_refl _, hsk, hwk, ⟨rfl⟩⟩
      case round =>
        obtain ⟨j, dj, rfl, haj, hji, hg2, hsj, hwj, HI⟩ := hrel
        have OUT := Aside0.mk (show (j ≤ a ∨ ltOf cfU dj[j]! dj[j - 1]! = false) → insOuter (ltOf cfU) a b (i + 1) dj = insOuter (ltOf cfU) a b (a + 1) d from fun hs => by
          rw [← HO.out, insOuter_go _ _ _ _ _ hlt, ← HI.out, insInner_stop _ _ _ _ hs])
        by_cases hja : a < j
        · have hHj := HB.out dj wr hsj.out hwj.out
          have hsj0 := hsj.out
          obtain ⟨xj, hxj⟩ : ∃ x, dj[j]! = x := ⟨_, rfl⟩
          obtain ⟨xp, hxp⟩ : ∃ x, dj[j - 1]! = x := ⟨_, rfl⟩
          obtain ⟨cj, fj⟩ := hHj j (by omega)
          obtain ⟨cp, fp⟩ := hHj (j - 1) (by omega)
          rw [hxj] at cj
          rw [hxp] at cp
          obtain ⟨jp, rfl⟩ : ∃ jp, j = jp + 1 := ⟨j - 1, by omega⟩
          simp only [Nat.add_sub_cancel] at cp fp hxp
          have hwp : IntKind.i64.wrap (jp : Int) = (jp : Int) := by rw [IntKind.wrap_i64]; omega
          have jz : (jp : Int) + 1 < (N : Int) := by omega
          have jz1 : (jp : Int) < (N : Int) := by omega
          have hjaz' : (a : Int) < (jp : Int) + 1 := by omega
          have p0 : (0 : Int) ≤ (jp : Int) + 1 := by omega
          have e0 : ((jp : Int) + 1).toNat = jp + 1 := by omega
          have hc := fun n => order_quiet xj xp (wr.drewN n)
          have cj' : wr.cell? ⟨blk, off + (jp + 1), none⟩ = some (.int .u64 xj.1) := cj
          have cp' : wr.cell? ⟨blk, off + jp, none⟩ = some (.int .u64 xp.1) := cp
          have fj' : wr.frozen? ⟨blk, off + (jp + 1), none⟩ = false := fj
          have fp' : wr.frozen? ⟨blk, off + jp, none⟩ = false := fp
          have XJ := Aside0.mk hxj
          have XP := Aside0.mk hxp
          clear cj cp fj fp hHj hsj0 hxj hxp
          by_cases hlv : cfU xj xp < 0
          · go_wp2_with fail
            go_quiet_o (first | (go_at_call 13; refine Calls.quiet_of (hc _)))
            go_wp2_with fail
            have HW2 := Aside0.mk (hwj.out.drew nq)
            have cj2 : (wr.drewN nq).cell? ⟨blk, off + (jp + 1), none⟩ = some (.int .u64 xj.1) := cj'
            have cp2 : (wr.drewN nq).cell? ⟨blk, off + jp, none⟩ = some (.int .u64 xp.1) := cp'
            have fj2 : (wr.drewN nq).frozen? ⟨blk, off + (jp + 1), none⟩ = false := fj'
            have fp2 : (wr.drewN nq).frozen? ⟨blk, off + jp, none⟩ = false := fp'
            clear cj' cp' fj' fp' hc hwj
            generalize wr.drewN nq = wq2 at HW2 cj2 cp2 fj2 fp2 ⊢
            obtain ⟨j1, hj1⟩ : ∃ j1, j1 = jp + 1 := ⟨_, rfl⟩
            rw [← hj1] at cj2 fj2 e0
            have ne1 : ¬ j1 = jp := by omega
            have ne2 : ¬ jp = j1 := by omega
            have J1 := Aside0.mk hj1
            clear hj1
            go_big_region_o
            all_goals go_wp2
            go_roundg jp
            case measure => omega
            case rel =>
              refine ⟨jp, swp dj (jp + 1) jp, by first | rfl | go_num | (congr 1; omega), by omega, by omega, Nat.le_refl _, ⟨by rw [size_swp]; exact hsj.out⟩, ⟨?_⟩, ⟨?_⟩⟩
              · obtain ⟨m, hm⟩ := HW2.out
                refine ⟨m + 1, ?_⟩
                rw [J1.out, hm, ← XP.out, ← XJ.out]
                have := hsj.out
                exact swap_worldC encU w blk off dj m (jp + 1) jp (by omega) (by omega)
              · have := insInner_go (ltOf cfU) a (jp + 1) dj hja (by simp only [Nat.add_sub_cancel]; rw [XJ.out, XP.out]; exact decide_eq_true hlv)
                simp only [Nat.add_sub_cancel] at this
                rw [← HI.out, this]
          · go_wp2_with fail
            go_quiet_o (first | (go_at_call 13; refine Calls.quiet_of (hc _)))
            go_wp2
            go_roundg (b - (i + 1))
            case measure => omega
            case rel => exact ⟨i + 1, dj, by first | rfl | go_num, by omega, by omega, by omega, hsj, ⟨hwj.out.drew _⟩, ⟨OUT.out (Or.inr (by simp only [Nat.add_sub_cancel]; rw [XJ.out, XP.out]; exact decide_eq_false (by omega)))⟩⟩
        · have hjaz : decide ((j : Int) > (a : Int)) = false := decide_eq_false (by omega)
          have hjaz' : ¬ (a : Int) < (j : Int) := by omega
          go_wp2_with fail
          go_big_region_o
          all_goals go_wp2
          go_roundg (b - (i + 1))
          case measure => omega
          case rel => exact ⟨i + 1, dj, by first | rfl | go_num, by omega, by omega, by omega, hsj, ⟨hwj.out.drew 1⟩, ⟨OUT.out (Or.inl (by omega))⟩⟩
    · have hltz : ¬ (i : Int) < (b : Int) := by omega
      go_wp2
      go_end0
      exact ⟨rfl, by unfold Sort.insertionSort; rw [← HO.out, insOuter_stop _ _ _ _ _ hlt]; exact hwk.out⟩
end Go.Proofs.Ytipejilcocafmaa.X
