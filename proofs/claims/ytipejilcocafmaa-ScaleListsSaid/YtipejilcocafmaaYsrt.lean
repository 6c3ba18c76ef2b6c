/- The library's stable sort at []uint64, its walks: swapRange, rotate, insertion sort; the row of cells as an array. -/
import Derived.Test.YtipejilcocafmaaYord
import Derived.Shelf.SlSortCmp.Insertion
namespace Go.Proofs.Ytipejilcocafmaa.X
open Go.RowKit Go.Shelf Go.Lib Go.Sort Go.Proofs.YtipejilcocafmaaW.PrintWords
set_option linter.unusedVariables false
set_option linter.unusedSimpArgs false

/-- A number of 64 bits. -/
abbrev U64 := { x : Int // 0 ≤ x ∧ x < 18446744073709551616 }
instance : Inhabited U64 := ⟨⟨0, by decide⟩⟩
abbrev encU : U64 → Value := fun x => Value.int .u64 x.1
/-- 'for i := 0; i < n; i++ { data[a+i], data[b+i] = data[b+i], data[a+i] }', from i, n - i rounds. -/
def swapGo (a b : Nat) : Nat → Nat → Array U64 → Array U64
  | _, 0, d => d
  | i, k + 1, d => swapGo a b (i + 1) k (swp d (a + i) (b + i))
theorem swapGo_size (a b : Nat) : ∀ (k i : Nat) (d : Array U64), (swapGo a b i k d).size = d.size
  | 0, _, _ => rfl
  | k + 1, i, d => by
    show (swapGo a b (i + 1) k (swp d (a + i) (b + i))).size = d.size
    rw [swapGo_size, size_swp]
set_option maxHeartbeats 4000000 in
set_option maxRecDepth 100000 in
theorem swapRange_calls (blk off cap a b k : Nat) (d : Array U64) (vf : Value) (w : World) (hH : Holds encU w blk off d) (hab : a + k ≤ b) (hb : b + k ≤ d.size) (hsz : d.size < 4611686018427387904) :
    Calls Try.prog 46 #[.slice (some ⟨blk, off, none⟩) d.size cap, .int .i64 a, .int .i64 b, .int .i64 k, vf] w fun e w' =>
      e = .returned (.tuple #[]) ∧ ∃ n, w' = (putRow encU w blk off (swapGo a b 0 k d)).drewN n := by
  have mixed : Try.prog.follows Departure.mixedOrders = true := by kernel_rfl
  have HST : Hid (w = (putRow encU w blk off d).drewN 0) := (putRow_self encU w blk off d hH).symm
  have HH : Hid (Holds encU w blk off d) := hH
  clear hH
  go_enter Try.func46, Try.ntmps46
  go_wp2
  go_loopg [10] k (fun g1 vi wr => ∃ (i n : Nat) (dk : Array U64), vi = .int .i64 i ∧ i ≤ k ∧ k - i ≤ g1 ∧ dk.size = d.size ∧ wr = (putRow encU w blk off dk).drewN n ∧ Hid (swapGo a b i (k - i) dk = swapGo a b 0 k d))
  case atStart => exact ⟨0, 0, d, rfl, by omega, by omega, rfl, HST.out, rfl⟩
  case round =>
    obtain ⟨i, n, dk, rfl, hik, hg1, hsk, rfl, HO⟩ := hrel
    by_cases hlt : i < k
    · have hltz : (i : Int) < (k : Int) := by omega
      have hHk := holds_putRow encU w blk off d dk HH.out hsk
      obtain ⟨ca, fa⟩ := hHk (a + i) (by omega)
      obtain ⟨cb, fb⟩ := hHk (b + i) (by omega)
      obtain ⟨xa, hxa⟩ : ∃ x, dk[a + i]! = x := ⟨_, rfl⟩
      obtain ⟨xb, hxb⟩ : ∃ x, dk[b + i]! = x := ⟨_, rfl⟩
      rw [hxa] at ca
      rw [hxb] at cb
      have ca' : ((putRow encU w blk off dk).drewN n).cell? ⟨blk, off + (a + i), none⟩ = some (.int .u64 xa.1) := ca
      have cb' : ((putRow encU w blk off dk).drewN n).cell? ⟨blk, off + (b + i), none⟩ = some (.int .u64 xb.1) := cb
      have fa' : ((putRow encU w blk off dk).drewN n).frozen? ⟨blk, off + (a + i), none⟩ = false := fa
      have fb' : ((putRow encU w blk off dk).drewN n).frozen? ⟨blk, off + (b + i), none⟩ = false := fb
      clear ca cb fa fb hHk
      obtain ⟨wq, hwq⟩ : ∃ wq, wq = (putRow encU w blk off dk).drewN n := ⟨_, rfl⟩
      rw [← hwq] at ca' cb' fa' fb' ⊢
      have HW : Hid (wq = (putRow encU w blk off dk).drewN n) := hwq
      clear hwq
      obtain ⟨ai, hai⟩ : ∃ ai, ai = a + i := ⟨_, rfl⟩
      obtain ⟨bi, hbi⟩ : ∃ bi, bi = b + i := ⟨_, rfl⟩
      rw [← hai] at ca' fa'
      rw [← hbi] at cb' fb'
      have ai0 : ai < d.size := by omega
      have bi0 : bi < d.size := by omega
      have sa : IntKind.i64.wrap ((a : Int) + (i : Int)) = (ai : Int) := by rw [IntWalk.i64_in _ ⟨by omega, by omega⟩]; omega
      have sb : IntKind.i64.wrap ((b : Int) + (i : Int)) = (bi : Int) := by rw [IntWalk.i64_in _ ⟨by omega, by omega⟩]; omega
      have ai1 : (ai : Int) < (d.size : Int) := by omega
      have ne1 : ¬ ai = bi := by omega
      have ne2 : ¬ bi = ai := by omega
      have bi1 : (bi : Int) < (d.size : Int) := by omega
      have AI : Hid (ai = a + i) := hai
      have BI : Hid (bi = b + i) := hbi
      have XA : Hid (dk[a + i]! = xa) := hxa
      have XB : Hid (dk[b + i]! = xb) := hxb
      clear hai hbi hxa hxb
      go_wp2_with fail
      go_big_region_o
      all_goals go_wp2
      go_roundg (k - (i + 1))
      case measure => omega
      case rel =>
        refine ⟨i + 1, n + 1, swp dk ai bi, by first | rfl | go_num, by omega, by omega, by rw [size_swp]; exact hsk, ?_, (show Hid _ from ?_)⟩
        · rw [HW.out, AI.out, BI.out, ← XA.out, ← XB.out]
          exact swap_worldC encU w blk off dk n (a + i) (b + i) (by omega) (by omega)
        · show _ = _
          rw [← HO.out, show k - i = (k - (i + 1)) + 1 by omega, AI.out, BI.out]
          rfl
    · have hltz : ¬ (i : Int) < (k : Int) := by omega
      go_wp2
      go_end0
      exact ⟨rfl, n, by rw [← HO.out, show k - i = 0 by omega]; rfl⟩
/-- A world in which the row holds d, and all else is as it was but for draws. -/
def RowW (w : World) (blk off : Nat) (d : Array U64) (W : World) : Prop := ∃ n, W = (putRow encU w blk off d).drewN n
theorem RowW.base {w : World} {blk off : Nat} {d : Array U64} (h : Holds encU w blk off d) : RowW w blk off d w := ⟨0, (putRow_self encU w blk off d h).symm⟩
theorem RowW.holds {w W : World} {blk off : Nat} {d0 d : Array U64} (h : RowW w blk off d W) (hH : Holds encU w blk off d0) (hs : d.size = d0.size) : Holds encU W blk off d := by
  obtain ⟨n, rfl⟩ := h
  exact holds_putRow encU w blk off d0 d hH hs
theorem RowW.step {w W W' : World} {blk off : Nat} {d d' : Array U64} (h : RowW w blk off d W) (h' : ∃ n, W' = (putRow encU W blk off d').drewN n) (hs : d'.size = d.size) : RowW w blk off d' W' := by
  obtain ⟨n, rfl⟩ := h
  obtain ⟨m, rfl⟩ := h'
  refine ⟨n + m, ?_⟩
  rw [← World.drewN_drewN]
  show ((putRow encU (putRow encU w blk off d) blk off d').drewN n).drewN m = _
  rw [putRow_putRow _ _ _ _ _ _ hs]
theorem RowW.drew {w W : World} {blk off : Nat} {d : Array U64} (h : RowW w blk off d W) (n : Nat) : RowW w blk off d (W.drewN n) := by
  obtain ⟨m, rfl⟩ := h
  exact ⟨m + n, by rw [World.drewN_drewN]⟩
theorem swap_row (blk off cap a b k N : Nat) (d0 d : Array U64) (vf : Value) (w W : World) (hH : Holds encU w blk off d0) (h0 : d0.size = N) (hN : d.size = N) (hW : RowW w blk off d W) (hab : a + k ≤ b) (hb : b + k ≤ N) (hsz : N < 4611686018427387904) :
    Calls Try.prog 46 #[.slice (some ⟨blk, off, none⟩) N cap, .int .i64 a, .int .i64 b, .int .i64 k, vf] W fun e w' =>
      e = .returned (.tuple #[]) ∧ RowW w blk off (swapGo a b 0 k d) w' := by
  subst hN
  exact (swapRange_calls blk off cap a b k d vf W (hW.holds hH h0.symm) hab hb hsz).mono fun e w' ⟨he, hw⟩ => ⟨he, hW.step hw (swapGo_size a b k 0 d)⟩
/-- rotate: the two parts' lengths that are left. -/
def rotGo (m : Nat) : Nat → Nat → Nat → Array U64 → Array U64
  | 0, _, _, d => d
  | f + 1, i, j, d => if i = j then swapGo (m - i) m 0 i d else if j < i then rotGo m f (i - j) j (swapGo (m - i) m 0 j d) else rotGo m f i (j - i) (swapGo (m - i) (m + j - i) 0 i d)
theorem rotGo_size (m : Nat) : ∀ (f i j : Nat) (d : Array U64), (rotGo m f i j d).size = d.size
  | 0, _, _, _ => rfl
  | f + 1, i, j, d => by
    unfold rotGo
    (repeat' split)
    · exact swapGo_size _ _ _ _ _
    · rw [rotGo_size, swapGo_size]
    · rw [rotGo_size, swapGo_size]
set_option maxHeartbeats 4000000 in
set_option maxRecDepth 100000 in
theorem rotate_row (blk off cap a m b N : Nat) (d0 d : Array U64) (vf : Value) (w W : World) (hH : Holds encU w blk off d0) (h0 : d0.size = N) (hN : d.size = N) (hW : RowW w blk off d W) (ham : a < m) (hmb : m < b) (hb : b ≤ N) (hsz : N < 4611686018427387904) :
    Calls Try.prog 44 #[.slice (some ⟨blk, off, none⟩) N cap, .int .i64 a, .int .i64 m, .int .i64 b, vf] W fun e w' =>
      e = .returned (.tuple #[]) ∧ RowW w blk off (rotGo m (m - a + (b - m)) (m - a) (b - m) d) w' := by
  have SW := Aside0.mk (fun (a b k : Nat) (d : Array U64) (W : World) (hN : d.size = N) (hW : RowW w blk off d W) (hab : a + k ≤ b) (hb : b + k ≤ N) => swap_row blk off cap a b k N d0 d vf w W hH h0 hN hW hab hb hsz)
  obtain ⟨R, hR⟩ : ∃ R, R = rotGo m (m - a + (b - m)) (m - a) (b - m) d := ⟨_, rfl⟩
  rw [← hR]
  have HR := Aside0.mk hR
  have HW := Aside0.mk hW
  have HN := Aside0.mk hN
  clear hR hW hN hH h0
  obtain ⟨p, hp⟩ : ∃ p : Nat, p = m - a := ⟨_, rfl⟩
  obtain ⟨q, hq⟩ : ∃ q : Nat, q = b - m := ⟨_, rfl⟩
  rw [← hp, ← hq] at HR
  have ep : IntKind.i64.wrap ((m : Int) - (a : Int)) = (p : Int) := by rw [IntWalk.i64_in _ ⟨by omega, by omega⟩]; omega
  have eq' : IntKind.i64.wrap ((b : Int) - (m : Int)) = (q : Int) := by rw [IntWalk.i64_in _ ⟨by omega, by omega⟩]; omega
  have ep2 : (m : Int) - (a : Int) = (p : Int) := by omega
  have eq2 : (b : Int) - (m : Int) = (q : Int) := by omega
  have hp1 : 0 < p := by omega
  have hq1 : 0 < q := by omega
  have hpm : p ≤ m := by omega
  have hqb : m + q ≤ N := by omega
  have HP := Aside0.mk hp
  have HQ := Aside0.mk hq
  clear hp hq
  go_enter Try.func44, Try.ntmps44
  go_wp2
  clear ep eq' ep2 eq2
  go_loopg [10, 11] (p + q) (fun g vi vj wr => ∃ (i j : Nat) (dk : Array U64), vi = .int .i64 i ∧ vj = .int .i64 j ∧ 0 < i ∧ 0 < j ∧ i ≤ p ∧ j ≤ q ∧ Aside0 (i + j ≤ g) ∧ Aside0 (dk.size = N) ∧ Aside0 (RowW w blk off dk wr) ∧ Aside0 (rotGo m g i j dk = R))
  case atStart => exact ⟨p, q, d, rfl, rfl, hp1, hq1, Nat.le_refl _, Nat.le_refl _, ⟨Nat.le_refl _⟩, HN, HW, ⟨HR.out.symm⟩⟩
  case round =>
    obtain ⟨i, j, dk, rfl, rfl, hi, hj, hip, hjq, hg, hs, hw, hr⟩ := hrel
    cases gk with
    | zero => exact absurd hg.out (by omega)
    | succ g =>
    have hr0 := hr.out
    have hg0 := hg.out
    unfold rotGo at hr0
    clear hr hg
    obtain ⟨mi, hmi⟩ : ∃ mi : Nat, mi = m - i := ⟨_, rfl⟩
    rw [← hmi] at hr0
    have e1 : IntKind.i64.wrap ((m : Int) - (i : Int)) = (mi : Int) := by rw [IntWalk.i64_in _ ⟨by omega, by omega⟩]; omega
    have e2 : (m : Int) - (i : Int) = (mi : Int) := by omega
    by_cases c1 : i = j
    · rw [if_pos c1] at hr0
      have HR2 := Aside0.mk hr0
      have hs1 := SW.out mi m i dk wr hs.out hw.out (by omega) (by omega)
      have hc := Aside0.mk hs1
      subst c1
      clear hr0 hs1 hg0 hs hw SW HR hmi
      have ht : ((i : Int) != (i : Int)) = false := by simp
      go_wp2_with (go_at_call 46; refine hc.out.mono ?_; rintro e w' ⟨rfl, hb⟩; have HB := Aside0.mk hb; clear hb)
      go_end0
      exact ⟨rfl, by rw [← HR2.out]; exact HB.out⟩
    · rw [if_neg c1] at hr0
      have hne : ((i : Int) != (j : Int)) = true := by simp; omega
      have hne2 : ¬ (i : Int) = (j : Int) := by omega
      by_cases c2 : j < i
      · rw [if_pos c2] at hr0
        have hc := Aside0.mk (SW.out mi m j dk wr hs.out hw.out (by omega) (by omega))
        have hsz2 : (swapGo mi m 0 j dk).size = N := by rw [swapGo_size]; exact hs.out
        obtain ⟨ij, hij⟩ : ∃ ij : Nat, ij = i - j := ⟨_, rfl⟩
        rw [← hij] at hr0
        have e3 : IntKind.i64.wrap ((i : Int) - (j : Int)) = (ij : Int) := by rw [IntWalk.i64_in _ ⟨by omega, by omega⟩]; omega
        have e4 : (i : Int) - (j : Int) = (ij : Int) := by omega
        have c2z : (j : Int) < (i : Int) := by omega
        have b1 : 0 < ij := by omega
        have b2 : ij ≤ p := by omega
        have b3 := Aside0.mk (show ij + j ≤ g by omega)
        have HR2 := Aside0.mk hr0
        have HS2 := Aside0.mk hsz2
        clear hr0 hg0 hs hw hsz2 hij hmi c1
        go_wp2_with (go_at_call 46; refine hc.out.mono ?_; rintro e w' ⟨rfl, hb⟩; have HB := Aside0.mk hb; clear hb)
        (go_roundg g; (case measure => omega); (case rel => exact ⟨ij, j, _, rfl, rfl, b1, hj, b2, hjq, b3, HS2, HB, HR2⟩))
      · rw [if_neg c2] at hr0
        obtain ⟨mj, hmj⟩ : ∃ mj : Nat, mj = m + j - i := ⟨_, rfl⟩
        rw [← hmj] at hr0
        have hc := Aside0.mk (SW.out mi mj i dk wr hs.out hw.out (by omega) (by omega))
        have hsz2 : (swapGo mi mj 0 i dk).size = N := by rw [swapGo_size]; exact hs.out
        obtain ⟨ij, hij⟩ : ∃ ij : Nat, ij = j - i := ⟨_, rfl⟩
        rw [← hij] at hr0
        have e3 : IntKind.i64.wrap ((j : Int) - (i : Int)) = (ij : Int) := by rw [IntWalk.i64_in _ ⟨by omega, by omega⟩]; omega
        have e4 : (j : Int) - (i : Int) = (ij : Int) := by omega
        have e5 : IntKind.i64.wrap ((m : Int) + (j : Int)) = (m : Int) + (j : Int) := by rw [IntWalk.i64_in _ ⟨by omega, by omega⟩]
        have e6 : IntKind.i64.wrap ((m : Int) + (j : Int) - (i : Int)) = (mj : Int) := by rw [IntWalk.i64_in _ ⟨by omega, by omega⟩]; omega
        have e7 : (m : Int) + (j : Int) - (i : Int) = (mj : Int) := by omega
        have c2z : ¬ (j : Int) < (i : Int) := by omega
        have b1 : 0 < ij := by omega
        have b2 : ij ≤ q := by omega
        have b3 := Aside0.mk (show i + ij ≤ g by omega)
        have HR2 := Aside0.mk hr0
        have HS2 := Aside0.mk hsz2
        clear hr0 hg0 hs hw hsz2 hij hmi hmj c1
        go_wp2_with (go_at_call 46; refine hc.out.mono ?_; rintro e w' ⟨rfl, hb⟩; have HB := Aside0.mk hb; clear hb)
        (go_roundg g; (case measure => omega); (case rel => exact ⟨i, ij, _, rfl, rfl, hi, b1, hip, b2, b3, HS2, HB, HR2⟩))
end Go.Proofs.Ytipejilcocafmaa.X
