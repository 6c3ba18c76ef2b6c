/- The library's stable sort (stableCmpFunc, SortStableFunc) of a row of numbers, by scale.Order. -/
import Derived.Test.YtipejilcocafmaaYsymr
namespace Go.Proofs.Ytipejilcocafmaa.X
open Go.RowKit Go.Shelf Go.Lib Go.Sort Go.Proofs.YtipejilcocafmaaW.PrintWords
set_option linter.unusedVariables false
set_option linter.unusedSimpArgs false

def blk1 (n : Nat) : Nat → Nat → Array U64 → Array U64
  | 0, a, d => Sort.insertionSort (ltOf cfU) d a n
  | f + 1, a, d => if a + 20 ≤ n then blk1 n f (a + 20) (Sort.insertionSort (ltOf cfU) d a (a + 20)) else Sort.insertionSort (ltOf cfU) d a n
def mrg (n bs : Nat) : Nat → Nat → Array U64 → Array U64
  | 0, a, d => if a + bs < n then symGo n a (a + bs) n d else d
  | f + 1, a, d => if a + 2 * bs ≤ n then mrg n bs f (a + 2 * bs) (symGo n a (a + bs) (a + 2 * bs) d) else if a + bs < n then symGo n a (a + bs) n d else d
def ph2 (n : Nat) : Nat → Nat → Array U64 → Array U64
  | 0, _, d => d
  | f + 1, bs, d => if bs < n then ph2 n f (2 * bs) (mrg n bs n 0 d) else d
def stabF (n : Nat) (d : Array U64) : Array U64 := ph2 n n 20 (blk1 n n 0 d)
theorem insInner_sz (a : Nat) : ∀ (j : Nat) (d : Array U64), (insInner (ltOf cfU) a j d).size = d.size
  | 0, _ => rfl
  | j + 1, d => by
    unfold insInner
    split
    · rw [insInner_sz, size_swp]
    · rfl
theorem insOuter_sz (a b : Nat) : ∀ (c i : Nat) (d : Array U64), b - i ≤ c → (insOuter (ltOf cfU) a b i d).size = d.size
  | 0, i, d, h => by rw [insOuter_stop _ _ _ _ _ (by omega)]
  | c + 1, i, d, h => by
    by_cases hi : i < b
    · rw [insOuter_go _ _ _ _ _ hi, insOuter_sz a b c (i + 1) _ (by omega), insInner_sz]
    · rw [insOuter_stop _ _ _ _ _ hi]
theorem insertionSort_sz (d : Array U64) (a b : Nat) : (Sort.insertionSort (ltOf cfU) d a b).size = d.size := insOuter_sz a b _ _ d (Nat.le_refl _)
theorem blk1_size (n : Nat) : ∀ (f a : Nat) (d : Array U64), (blk1 n f a d).size = d.size
  | 0, a, d => insertionSort_sz _ _ _
  | f + 1, a, d => by
    unfold blk1
    split
    · rw [blk1_size, insertionSort_sz]
    · exact insertionSort_sz _ _ _
theorem mrg_size (n bs : Nat) : ∀ (f a : Nat) (d : Array U64), (mrg n bs f a d).size = d.size
  | 0, a, d => by
    unfold mrg
    split
    · exact symGo_size _ _ _ _ _
    · rfl
  | f + 1, a, d => by
    unfold mrg
    (repeat' split)
    · rw [mrg_size, symGo_size]
    · exact symGo_size _ _ _ _ _
    · rfl
theorem ph2_size (n : Nat) : ∀ (f bs : Nat) (d : Array U64), (ph2 n f bs d).size = d.size
  | 0, _, _ => rfl
  | f + 1, bs, d => by
    unfold ph2
    split
    · rw [ph2_size, mrg_size]
    · rfl
theorem stabF_size (n : Nat) (d : Array U64) : (stabF n d).size = d.size := by unfold stabF; rw [ph2_size, blk1_size]
set_option maxHeartbeats 8000000 in
set_option maxRecDepth 100000 in
theorem stable_row (blk off cap N : Nat) (d0 d : Array U64) (w W : World) (hH : Holds encU w blk off d0) (h0 : d0.size = N) (hN : d.size = N) (hW : RowW w blk off d W) (hsz : N < 536870912) :
    Calls Try.prog 38 #[.slice (some ⟨blk, off, none⟩) N cap, .int .i64 N, .func (.func 13) #[] #[]] W fun e w' =>
      e = .returned (.tuple #[]) ∧ RowW w blk off (stabF N d) w' := by
  have IN := Aside0.mk (fun (a b : Nat) (d : Array U64) (W : World) (h1 : d.size = N) (h2 : RowW w blk off d W) (h3 : a ≤ b) (h5 : b ≤ N) => insertion_row blk off cap a b N d0 d w W hH h0 h1 h2 h3 h5 (by omega))
  have SM := Aside0.mk (fun (a m b : Nat) (d : Array U64) (W : World) (h1 : d.size = N) (h2 : RowW w blk off d W) (h3 : a < m) (h4 : m < b) (h5 : b ≤ N) => sym_row blk off cap N d0 w hH h0 (by omega) N a m b d W h1 h2 h3 h4 h5 (by omega))
  obtain ⟨D1, hD1⟩ : ∃ D1, D1 = blk1 N N 0 d := ⟨_, rfl⟩
  obtain ⟨D2, hD2⟩ : ∃ D2, D2 = stabF N d := ⟨_, rfl⟩
  rw [← hD2]
  have HD1 := Aside0.mk hD1
  have HD2 := Aside0.mk (show ph2 N N 20 D1 = D2 by rw [hD1, hD2]; rfl)
  have HDS := Aside0.mk (show D1.size = N by rw [hD1, blk1_size, hN])
  have HW := Aside0.mk hW
  have HN := Aside0.mk hN
  have HZ := Aside0.mk hsz
  have hNz : (N : Int) ≤ 536870912 := by omega
  clear hW hN hH h0 hD1 hD2 hsz
  go_enter Try.func38, Try.ntmps38
  go_wp2
  go_loopg [7, 8] N (fun g va vb wr => ∃ (a b : Nat) (dk : Array U64), va = .int .i64 (a : Int) ∧ vb = .int .i64 (b : Int) ∧ Aside0 (b = a + 20 ∧ a ≤ N ∧ N ≤ a + g) ∧ Aside0 (dk.size = N) ∧ Aside0 (RowW w blk off dk wr) ∧ Aside0 (blk1 N g a dk = D1))
  case atStart => exact ⟨0, 20, d, rfl, rfl, ⟨by omega⟩, HN, HW, ⟨HD1.out.symm⟩⟩
  case round =>
    obtain ⟨a, b, dk, rfl, rfl, hx, hs, hw, hr⟩ := hrel
    have hx0 := hx.out
    have hz0 := HZ.out
    by_cases c : b ≤ N
    · cases gk with
      | zero => exact absurd hx0 (by omega)
      | succ g =>
      have hr0 := hr.out
      unfold blk1 at hr0
      rw [if_pos (by omega)] at hr0
      have cz : (b : Int) ≤ (N : Int) := by omega
      have hc := Aside0.mk (IN.out a b dk wr hs.out hw.out (by omega) c)
      obtain ⟨b2, hb2⟩ : ∃ b2 : Nat, b2 = b + 20 := ⟨_, rfl⟩
      have e1 : (b : Int) + 20 = (b2 : Int) := by omega
      have hbz : (b2 : Int) ≤ 1073741824 := by omega
      have HX := Aside0.mk (show b2 = b + 20 ∧ b ≤ N ∧ N ≤ b + g by omega)
      have HR := Aside0.mk (show blk1 N g b (Sort.insertionSort (ltOf cfU) dk a b) = D1 by rw [← hr0, hx0.1])
      have HS := Aside0.mk (show (Sort.insertionSort (ltOf cfU) dk a b).size = N by rw [insertionSort_sz]; exact hs.out)
      clear hr0 hx0 hz0 hx hr hb2
      go_wp2_with (go_at_call 40; refine hc.out.mono ?_; rintro e w' ⟨rfl, hb⟩; have HB := Aside0.mk hb; clear hb)
      (go_roundg g; (case measure => omega); (case rel => exact ⟨b, b2, _, rfl, by first | rfl | (rw [← e1]; rfl), HX, HS, HB, HR⟩))
    · have cz : ¬ (b : Int) ≤ (N : Int) := by omega
      have hr0 : Sort.insertionSort (ltOf cfU) dk a N = D1 := by
        rw [← hr.out]
        cases gk with
        | zero => rfl
        | succ g => unfold blk1; rw [if_neg (by omega)]
      have hc := Aside0.mk (IN.out a N dk wr hs.out hw.out (by omega) (Nat.le_refl _))
      have HR0 := Aside0.mk hr0
      clear hr0 hr hx hx0 hz0
      go_wp2_with (go_at_call 40; refine hc.out.mono ?_; rintro e w' ⟨rfl, hb⟩; have HB := Aside0.mk (show RowW w blk off D1 _ from by rw [← HR0.out]; exact hb); clear hb)
      go_loopg [6] N (fun g vs wr => ∃ (bs : Nat) (dk : Array U64), vs = .int .i64 (bs : Int) ∧ Aside0 (20 ≤ bs ∧ bs ≤ 2 * N + 20 ∧ N ≤ bs + g) ∧ Aside0 (dk.size = N) ∧ Aside0 (RowW w blk off dk wr) ∧ Aside0 (ph2 N g bs dk = D2))
      case atStart => exact ⟨20, D1, rfl, ⟨by omega⟩, HDS, HB, HD2⟩
      case round =>
        obtain ⟨bs, dk2, rfl, hx, hs2, hw2, hr⟩ := hrel
        have hx0 := hx.out
        have hz0 := HZ.out
        by_cases c2 : bs < N
        · cases gk with
          | zero => exact absurd hx0 (by omega)
          | succ g =>
          have hr0 := hr.out
          unfold ph2 at hr0
          rw [if_pos c2] at hr0
          have c2z : (bs : Int) < (N : Int) := by omega
          obtain ⟨b2, hb2⟩ : ∃ b2 : Nat, b2 = 2 * bs := ⟨_, rfl⟩
          have e1 : 2 * (bs : Int) = (b2 : Int) := by omega
          have e2 : (bs : Int) * 2 = (b2 : Int) := by omega
          have hbz : (b2 : Int) ≤ 1073741824 := by omega
          obtain ⟨R2, hR2⟩ : ∃ R2, R2 = mrg N bs N 0 dk2 := ⟨_, rfl⟩
          have HB2 := Aside0.mk hb2
          have HR2 := Aside0.mk hR2
          have HX := Aside0.mk (show 20 ≤ b2 ∧ b2 ≤ 2 * N + 20 ∧ N ≤ b2 + g by omega)
          have HBS := Aside0.mk (show 20 ≤ bs ∧ bs < N ∧ N < 536870912 by omega)
          have HR3 := Aside0.mk (show ph2 N g b2 R2 = D2 by rw [hR2, hb2]; exact hr0)
          have HS3 := Aside0.mk (show R2.size = N by rw [hR2, mrg_size]; exact hs2.out)
          clear hr0 hx0 hz0 hx hr hb2 hR2 e2
          go_wp2
          clear e1
          go_loopg [7, 8] N (fun g2 va vb wr => ∃ (a2 bb : Nat) (dj : Array U64), va = .int .i64 (a2 : Int) ∧ vb = .int .i64 (bb : Int) ∧ Aside0 (bb = a2 + b2 ∧ a2 ≤ N ∧ N ≤ a2 + g2) ∧ Aside0 (dj.size = N) ∧ Aside0 (RowW w blk off dj wr) ∧ Aside0 (mrg N bs g2 a2 dj = R2))
          case atStart => exact ⟨0, b2, dk2, rfl, rfl, ⟨by omega⟩, hs2, hw2, ⟨HR2.out.symm⟩⟩
          case round =>
            obtain ⟨a2, bb, dj, rfl, rfl, hy, hsj, hwj, hrj⟩ := hrel
            have hy0 := hy.out
            have hbs := HBS.out
            have hb20 := HB2.out
            by_cases c3 : bb ≤ N
            · cases gk with
              | zero => exact absurd hy0 (by omega)
              | succ g2 =>
              have hr0 := hrj.out
              unfold mrg at hr0
              rw [if_pos (by omega)] at hr0
              have c3z : (bb : Int) ≤ (N : Int) := by omega
              obtain ⟨am, ham⟩ : ∃ am : Nat, am = a2 + bs := ⟨_, rfl⟩
              have hc2 := Aside0.mk (SM.out a2 am bb dj wr hsj.out hwj.out (by omega) (by omega) c3)
              obtain ⟨b3, hb3⟩ : ∃ b3 : Nat, b3 = bb + b2 := ⟨_, rfl⟩
              have e3 : (a2 : Int) + (bs : Int) = (am : Int) := by omega
              have e4 : (bb : Int) + (b2 : Int) = (b3 : Int) := by omega
              have e5 : 2 * (bs : Int) = (b2 : Int) := by omega
              have hamz : (am : Int) ≤ 1073741824 := by omega
              have hb3z : (b3 : Int) ≤ 2147483648 := by omega
              have HY := Aside0.mk (show b3 = bb + b2 ∧ bb ≤ N ∧ N ≤ bb + g2 by omega)
              have HRJ := Aside0.mk (show mrg N bs g2 bb (symGo N a2 am bb dj) = R2 by rw [← hr0, ham, hy0.1, hb20])
              have HSJ := Aside0.mk (show (symGo N a2 am bb dj).size = N by rw [symGo_size]; exact hsj.out)
              clear hr0 hy0 hy hbs hb20 ham hb3 hrj
              go_wp2_with (go_at_call 41; refine hc2.out.mono ?_; rintro e w' ⟨rfl, hb⟩; have HBJ := Aside0.mk hb; clear hb)
              (go_roundg g2; (case measure => omega); (case rel => exact ⟨bb, b3, _, rfl, by first | rfl | (rw [← e4]; rfl), HY, HSJ, HBJ, HRJ⟩))
            · have c3z : ¬ (bb : Int) ≤ (N : Int) := by omega
              obtain ⟨am, ham⟩ : ∃ am : Nat, am = a2 + bs := ⟨_, rfl⟩
              have hr0 : (if am < N then symGo N a2 am N dj else dj) = R2 := by
                rw [← hrj.out, ham]
                cases gk with
                | zero => rfl
                | succ g2 => unfold mrg; rw [if_neg (show ¬ a2 + 2 * bs ≤ N by omega)]
              have e3 : (a2 : Int) + (bs : Int) = (am : Int) := by omega
              have e2 : (bs : Int) * 2 = (b2 : Int) := by omega
              have hamz : (am : Int) ≤ 1073741824 := by omega
              by_cases c4 : am < N
              · rw [if_pos c4] at hr0
                have c4z : (am : Int) < (N : Int) := by omega
                have hc2 := Aside0.mk (SM.out a2 am N dj wr hsj.out hwj.out (by omega) c4 (Nat.le_refl _))
                have HR0 := Aside0.mk hr0
                clear hr0 hy0 hy hbs hb20 ham hrj
                go_wp2_with (go_at_call 41; refine hc2.out.mono ?_; rintro e w' ⟨rfl, hb⟩; have HBJ := Aside0.mk (show RowW w blk off R2 _ from by rw [← HR0.out]; exact hb); clear hb)
                (go_roundg g; (case measure => omega); (case rel => exact ⟨b2, R2, by first | rfl | (rw [← e2]; rfl), HX, HS3, HBJ, HR3⟩))
              · rw [if_neg c4] at hr0
                have c4z : ¬ (am : Int) < (N : Int) := by omega
                have HBJ := Aside0.mk (show RowW w blk off R2 _ from by rw [← hr0]; exact hwj.out)
                clear hr0 hy0 hy hbs hb20 ham hrj
                go_wp2
                (go_roundg g; (case measure => omega); (case rel => exact ⟨b2, R2, by first | rfl | (rw [← e2]; rfl), HX, HS3, HBJ, HR3⟩))
        · have c2z : ¬ (bs : Int) < (N : Int) := by omega
          have hr0 : dk2 = D2 := by
            rw [← hr.out]
            cases gk with
            | zero => rfl
            | succ g => unfold ph2; rw [if_neg c2]
          have HR0 := Aside0.mk hr0
          clear hr0 hr hx hx0 hz0
          go_wp2
          go_end0
          exact ⟨rfl, by rw [← HR0.out]; exact hw2.out⟩
set_option maxHeartbeats 1000000 in
theorem sortStable_row (blk off cap N : Nat) (d0 d : Array U64) (w W : World) (hH : Holds encU w blk off d0) (h0 : d0.size = N) (hN : d.size = N) (hW : RowW w blk off d W) (hsz : N < 536870912) :
    Calls Try.prog 29 #[.slice (some ⟨blk, off, none⟩) N cap, .func (.func 13) #[] #[]] W fun e w' =>
      e = .returned (.tuple #[]) ∧ RowW w blk off (stabF N d) w' := by
  have hc := Aside0.mk (stable_row blk off cap N d0 d w W hH h0 hN hW hsz)
  clear hH h0 hN hW
  go_enter Try.func29, Try.ntmps29
  go_wp2_with (go_at_call 38; refine hc.out.mono ?_; rintro e w' ⟨rfl, hb⟩; have HB := Aside0.mk hb; clear hb)
  go_end0
  exact ⟨rfl, HB.out⟩
end Go.Proofs.Ytipejilcocafmaa.X
