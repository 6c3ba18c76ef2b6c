/- slices.Values, Collect, SortedStableFunc at []uint64; scale.Sorted: a list in order, in a row of its own. -/
import Derived.Test.YtipejilcocafmaaYstab
import Derived.RangeFuncBox
import Derived.RangeFuncLeaves
import Derived.OwnWalkIn
import Derived.TacticsInMore
import Derived.LoopNIn
import Derived.LoopIn
import Derived.Maps.AppendAt
namespace Go.Proofs.Ytipejilcocafmaa.X
open Go.RowKit Go.Shelf Go.Lib Go.Sort Go.Proofs.YtipejilcocafmaaW.PrintWords
set_option linter.unusedVariables false
set_option linter.unusedSimpArgs false
attribute [local go_sem] Oper.semAt_some

theorem addBlock (a : Addr) (i : Nat) : (a.add i).block = a.block := by unfold Addr.add; split <;> rfl
def upto {α : Type} (f : Nat → α) (k : Nat) : List α := (List.range k).map f
theorem upto_succ {α : Type} (f : Nat → α) (k : Nat) : upto f (k + 1) = upto f k ++ [f k] := by simp [upto, List.range_succ]
theorem upto_length {α : Type} (f : Nat → α) (k : Nat) : (upto f k).length = k := by simp [upto]
theorem upto_all (zs : List Int) : upto (fun j => zs[j]?.getD 0) zs.length = zs := by
  apply List.ext_getElem
  · simp [upto]
  · intro i h1 h2
    simp [upto, h2]
theorem upto_take (zs : List Int) {k : Nat} (hk : k ≤ zs.length) : upto (fun j => zs[j]?.getD 0) k = zs.take k := by
  apply List.ext_getElem
  · simp [upto, hk]
  · intro i h1 h2
    have : i < zs.length := by simp [upto] at h1; omega
    simp [upto, this]
set_option maxRecDepth 100000 in
set_option maxHeartbeats 2000000 in
/-- slices.Values' closure: the elements come in order, whatever a round does that keeps what lay below n0. -/
theorem values1_in (F : Fence) (n : Nat) (h7 : F.fn 30) (hro : F.round = none) (hn : 1 ≤ n) (l Bs n₀ len cap : Nat) (ad : Addr) (zs : List Int) (hreach : len ≤ 1000000000) (hb : ad.block < n₀) (J Jx : List Int → World → Prop)
    (hY : ∀ pre x W, J pre W → pre.length < len → YieldAt F (n - 1) Try.prog l #[.int .u64 x] W fun e W' =>
      (e = .returned (.bool true) ∧ J (pre ++ [x]) W' ∧ Below n₀ W W') ∨ (e = .returned (.bool false) ∧ Jx (pre ++ [x]) W'))
    (W : World) (hBs : W.cell? ⟨Bs, 0, none⟩ = some (.slice (some ad) len cap)) (hc : ∀ j, j < len → W.cell? (ad.add j) = some (.int .u64 (zs[j]?.getD 0))) (h0 : J [] W) :
    CallsIn F n Try.prog 30 #[.func (.yield l) #[] #[], .pointer (some ⟨Bs, 0, none⟩)] W fun e W' => (∃ v, e = .returned v) ∧
      ((∃ ys, ys = upto (fun j => zs[j]?.getD 0) len ∧ J ys W') ∨ (∃ pre, (∃ k, k ≤ len ∧ pre = upto (fun j => zs[j]?.getD 0) k) ∧ Jx pre W')) := by
  refine callsIn_of_wp Try.func30 rfl h7 ?_ hro
  simp only [Try.ntmps30, List.size_toArray, List.length_cons, List.length_nil, Nat.reduceAdd, Nat.reduceSub, Array.replicate_succ, Array.replicate_zero, List.push_toArray, List.append_toArray, List.nil_append, List.cons_append]
  gi_wp2
  gi_loopw [7] (fun i wr => ∃ k : Nat, k ≤ len ∧ i = .int .i64 k ∧ J (upto (fun j => zs[j]?.getD 0) k) wr ∧ Below n₀ W wr)
    (fun i _ => len - (intOf i).toNat)
  case atStart => exact ⟨0, Nat.zero_le _, rfl, h0, Below.refl _ _⟩
  case round =>
    obtain ⟨k, hk, rfl, hJs, hnx⟩ := hrel
    have hcx : k < len → wr.cell? (ad.add k) = some (.int .u64 (zs[k]?.getD 0)) := fun h => (hnx.cell (p := ad.add k) (by rw [addBlock]; exact hb)).trans (hc k h)
    by_cases hlt : k < len
    · obtain ⟨fn, tmps, assign, body, hy, hR⟩ := hY _ (zs[k]?.getD 0) wr hJs (by rw [upto_length]; exact hlt)
      have hcx' := hcx hlt
      gi_wp2
      refine hR.mono ?_
      rintro e W3 (⟨rfl, hJ3, hk3⟩ | ⟨rfl, hJx3⟩)
      · gi_wp2
        go_roundw
        case rel => exact ⟨k + 1, by omega, by simp, by rw [upto_succ]; exact hJ3, hnx.trans hk3⟩
        case measure => simp [intOf]; omega
      · gi_wp2
        refine bodyPost_ret (results_none rfl _ _ _) rfl ?_
        exact ⟨⟨_, rfl⟩, .inr ⟨_, ⟨k + 1, by omega, (upto_succ _ _).symm⟩, hJx3⟩⟩
    · obtain rfl : k = len := by omega
      gi_wp2
      go_end0
      exact ⟨⟨_, rfl⟩, .inl ⟨_, rfl, hJs⟩⟩
set_option maxRecDepth 100000 in
set_option maxHeartbeats 1000000 in
theorem values1_nil_in (F : Fence) (n : Nat) (h7 : F.fn 30) (hro : F.round = none) (l Bs cap : Nat) (A : Option Addr) (J : List Int → World → Prop) (W : World) (hBs : W.cell? ⟨Bs, 0, none⟩ = some (.slice A 0 cap)) (h0 : J [] W) :
    CallsIn F n Try.prog 30 #[.func (.yield l) #[] #[], .pointer (some ⟨Bs, 0, none⟩)] W fun e W' => (∃ v, e = .returned v) ∧ J [] W' := by
  refine callsIn_of_wp Try.func30 rfl h7 ?_ hro
  simp only [Try.ntmps30, List.size_toArray, List.length_cons, List.length_nil, Nat.reduceAdd, Nat.reduceSub, Array.replicate_succ, Array.replicate_zero, List.push_toArray, List.append_toArray, List.nil_append, List.cons_append]
  gi_wp2
  gi_loopw [7] (fun i wr => i = .int .i64 0 ∧ J [] wr) (fun _ _ => 0)
  case atStart => exact ⟨rfl, h0⟩
  case round =>
    obtain ⟨rfl, hJs⟩ := hrel
    gi_wp2
    go_end0
    exact ⟨⟨_, rfl⟩, hJs⟩
/-- A slice value that holds the numbers zs, in a block below n0; or it is empty. -/
def Ints (n₀ : Nat) (W : World) (sv : Value) (zs : List Int) : Prop :=
  (∃ A cap, sv = .slice A 0 cap ∧ zs = []) ∨ ∃ ad cap, sv = .slice (some ad) zs.length cap ∧ ad.block < n₀ ∧ ∀ j, j < zs.length → W.cell? (ad.add j) = some (.int .u64 (zs[j]?.getD 0))
theorem Ints.below {n₀ : Nat} {A B : World} (h : Below n₀ A B) {sv : Value} {zs : List Int} : Ints n₀ A sv zs → Ints n₀ B sv zs
  | .inl e => .inl e
  | .inr ⟨ad, cap, e, hb, hc⟩ => .inr ⟨ad, cap, e, hb, fun j hj => (h.cell (p := ad.add j) (by rw [addBlock]; exact hb)).trans (hc j hj)⟩
theorem values_stops (F : Fence) (n : Nat) (h7 : F.fn 30) (hro : F.round = none) (hn : 1 ≤ n) (Bs n₀ : Nat) (sv : Value) (zs : List Int) (hreach : zs.length ≤ 1000000000) (w : World) (hBs : Bs < w.heap.size) (hn₀ : n₀ ≤ w.heap.size)
    (hc : w.cell? ⟨Bs, 0, none⟩ = some sv) (hI : Ints n₀ w sv zs) :
    SeqStopsK F n Try.prog 30 #[.pointer (some ⟨Bs, 0, none⟩)] (fun x : Int => #[Value.int .u64 x]) (Below n₀) (fun ys => ys = zs) (fun pre => pre <+: zs) zs.length w := fun l J Jx W hW _ _ hY h0 => by
  have hc' := (hW.cell (p := ⟨Bs, 0, none⟩) hBs).trans hc
  rcases hI.below (hW.mono hn₀) with ⟨A, cap, rfl, rfl⟩ | ⟨ad, cap, rfl, hb, hcs⟩
  · exact (values1_nil_in F n h7 hro l Bs cap A J W hc' h0).mono fun e W' ⟨he, hj⟩ => ⟨he, .inl ⟨_, rfl, hj⟩⟩
  · refine (values1_in F n h7 hro hn l Bs n₀ zs.length cap ad zs hreach hb J Jx hY W hc' hcs h0).mono ?_
    rintro e W' ⟨he, ⟨ys, rfl, hj⟩ | ⟨pre, ⟨k, hk, rfl⟩, hj⟩⟩
    · exact ⟨he, .inl ⟨_, upto_all zs, hj⟩⟩
    · exact ⟨he, .inr ⟨_, by rw [upto_take zs hk]; exact List.take_prefix _ _, hj⟩⟩
theorem infoU : (Try.prog.info? 31).map (fun i => (i.zero, i.size, i.bytes)) = some (some (.int .u64 0), 1, 8) := by kernel_rfl
set_option maxRecDepth 100000 in
set_option maxHeartbeats 2000000 in
theorem appendSeq_in (F : Fence) (n : Nat) (h37 : F.fn 37) (h30 : F.fn 30) (hro : F.round = none) (hn : 3 ≤ n) (Bs n₀ : Nat) (sv : Value) (zs : List Int) (hreach : zs.length ≤ 1000000000) (w : World) (hBs : Bs < w.heap.size) (hn₀ : n₀ ≤ w.heap.size)
    (hcb : w.cell? ⟨Bs, 0, none⟩ = some sv) (hI : Ints n₀ w sv zs) :
    CallsIn F n Try.prog 37 #[.slice none 0 0, .func (.func 30) #[] #[.pointer (some ⟨Bs, 0, none⟩)]] w fun e W' => ∃ v, e = .returned v ∧ W'.ownsRow w.heap.size 31 1 v zs.length (zs.map (Value.int .u64)) ∧ (v = .slice none 0 0 ↔ zs = []) ∧ Below w.heap.size w W' := by
  have h1 : 1 ≤ n := by omega
  obtain ⟨i0, hi, hz0, hz1, hz2⟩ := info_parts infoU
  refine callsIn_of_wp_marks Try.func37 rfl h37 ?_ hro
  simp only [Try.ntmps37, List.size_toArray, List.length_cons, List.length_nil, Nat.reduceAdd, Nat.reduceSub, Array.replicate_succ, Array.replicate_zero, List.push_toArray, List.append_toArray, List.nil_append, List.cons_append]
  gi_wp2
  have bO := Boxed.new w 22 (.slice none 0 0)
  have hB0 : Below w.heap.size w (w.alloc (.cells #[.slice none 0 0] 22)) := (Below.refl _ w).alloc (Nat.le_refl _) _
  refine wpIn_rangeFunc_ownG hro h1 (gf := 30) (lb := #[.pointer (some ⟨Bs, 0, none⟩)]) rfl h30 (enters_of Try.func30 (by kernel_rfl) rfl)
    (values_stops F (n - 1) h30 hro (by omega) Bs n₀ sv zs hreach _ (by simp; omega) (by simp; omega) ((hB0.cell (p := ⟨Bs, 0, none⟩) hBs).trans hcb) (hI.below (hB0.mono hn₀))) belowK_t (belowK_b (by simp; omega)) (Below.refl _ _) (fun _ => rfl)
    (fun pre W => (∃ v, Boxed W w.heap.size 22 v ∧ W.ownsRow w.heap.size 31 1 v pre.length (pre.map (Value.int .u64)) ∧ (v = .slice none 0 0 ↔ pre = [])) ∧ Below w.heap.size w W)
    (fun _ _ _ => False)
    (OwnFrom.and (Own.from (holdsRow_own w.heap.size w.heap.size 22 31 1 (fun pre => pre.length) (fun pre => pre.map (Value.int .u64)) (fun pre v => v = .slice none 0 0 ↔ pre = [])) _) (ownFrom_below (Nat.le_refl _) (by simp)))
    (fun _ _ _ _ _ hs _ _ => hs)
    ⟨⟨_, bO, World.ownsRow_nil _ _ _ _, by simp⟩, hB0⟩
    (fun x => { tmps := #[.slice none 0 0, .func (.func 30) #[] #[.pointer (some ⟨Bs, 0, none⟩)], .pointer (some ⟨w.heap.size, 0, none⟩), undef, .slice none 0 0, .int .u64 x, .func (.func 30) #[] #[.pointer (some ⟨Bs, 0, none⟩)], .int .u64 x, undef, undef, undef, undef, undef], defers := [] }) ?assign ?body ?done ?stop
  case assign =>
    intro l x W K hK
    gi_wp2
    exact hK
  case body =>
    rintro l pre x W ⟨⟨v, hv, hrow, hnil⟩, hB⟩ hlt
    have hc := hv.cell
    gi_wp2_with (gi_at_builtin; refine wpListIn_append_own _ rfl _ _ 22 rfl w.heap.size 31 i0 (.int .u64 0) 1 8 Try.underlying22 hi hz0 hz1 hz2 rfl (by decide) _ _ _ rfl (hrow.alloc _) ⟨W.heap.size, 0, none⟩ 1 1 [.int .u64 x] rfl rfl (cell_one_new _ _ _) (by simp [Value.oneCell']) (by unfold maxLen; omega) (by omega) (by have := hB.size; simp; omega) ?_; intro v' w1 hown' hgrow _; obtain ⟨g', cap', rfl⟩ := ownsRow_succ hown'; obtain ⟨hv1, hv2, hr2, hk2, hb2⟩ := hv.appended (by decide) hrow hB.size (Nat.le_refl _) hown' hgrow; have hc1 := hv1.cell; have hf1 := hv1.frozen)
    exact ⟨hk2.from _, hb2.mono hn₀, ⟨_, hv2, by simpa using hr2, by simp⟩, hB.trans hb2⟩
  case done =>
    rintro D ys W hD rfl ⟨⟨v, hv, hrow, hnil⟩, hB⟩ hK
    have hc := hv.cell
    gi_wp2
    refine ⟨by simp, .inl ⟨_, _, rfl, run_takeDeferred hK, ?_⟩⟩
    exact ⟨_, results_tmp rfl _ _ _, v, rfl, ownsRow_putObj hrow _ hK rfl, hnil, hB.trans (belowK_b (w := w) (Nat.le_refl _) W D _ _ (by simp at hD; omega) hK rfl rfl)⟩
  case stop =>
    rintro D c pre W _ _ h _
    exact h.elim
set_option maxRecDepth 100000 in
set_option maxHeartbeats 1000000 in
theorem collect_in (F : Fence) (n : Nat) (h28 : F.fn 28) (h37 : F.fn 37) (h30 : F.fn 30) (hro : F.round = none) (hn : 4 ≤ n) (Bs n₀ : Nat) (sv : Value) (zs : List Int) (hreach : zs.length ≤ 1000000000) (w : World) (hBs : Bs < w.heap.size) (hn₀ : n₀ ≤ w.heap.size)
    (hcb : w.cell? ⟨Bs, 0, none⟩ = some sv) (hI : Ints n₀ w sv zs) :
    CallsIn F n Try.prog 28 #[.func (.func 30) #[] #[.pointer (some ⟨Bs, 0, none⟩)]] w fun e W' => ∃ v, e = .returned v ∧ W'.ownsRow w.heap.size 31 1 v zs.length (zs.map (Value.int .u64)) ∧ (v = .slice none 0 0 ↔ zs = []) ∧ Below w.heap.size w W' := by
  have h1 : 1 ≤ n := by omega
  refine callsIn_of_wp Try.func28 rfl h28 ?_ hro
  simp only [Try.ntmps28, List.size_toArray, List.length_cons, List.length_nil, Nat.reduceAdd, Nat.reduceSub, Array.replicate_succ, Array.replicate_zero, List.push_toArray, List.append_toArray, List.nil_append, List.cons_append]
  gi_wp2_with (gi_at_call 37; refine (appendSeq_in F (n - 1) h37 h30 hro (by omega) Bs n₀ sv zs hreach _ hBs hn₀ hcb hI).mono ?_; rintro e w' ⟨v, rfl, hrow, hnil, hb⟩)
  go_ret
  exact ⟨v, rfl, hrow, hnil, hb⟩
theorem collect_calls (Bs n₀ : Nat) (sv : Value) (zs : List Int) (hreach : zs.length ≤ 1000000000) (w : World) (hBs : Bs < w.heap.size) (hn₀ : n₀ ≤ w.heap.size) (hcb : w.cell? ⟨Bs, 0, none⟩ = some sv) (hI : Ints n₀ w sv zs) :
    Calls Try.prog 28 #[.func (.func 30) #[] #[.pointer (some ⟨Bs, 0, none⟩)]] w fun e W' => ∃ v, e = .returned v ∧ W'.ownsRow w.heap.size 31 1 v zs.length (zs.map (Value.int .u64)) ∧ (v = .slice none 0 0 ↔ zs = []) ∧ Below w.heap.size w W' :=
  callsIn_wide.1 (collect_in Fence.wide 4 trivial trivial trivial rfl (by omega) Bs n₀ sv zs hreach w hBs hn₀ hcb hI)
theorem values_calls (A : Option Addr) (len cap : Nat) (w : World) :
    Calls Try.prog 16 #[.slice A len cap] w fun e w' => e = .returned (.func (.func 30) #[] #[.pointer (some ⟨w.heap.size, 0, none⟩)]) ∧ w' = w.alloc (.cells #[.slice A len cap] 22) := by
  go_enter Try.func16, Try.ntmps16
  go_wp2
  go_ret
  exact ⟨rfl, rfl⟩
theorem cell_of_box_a' (w : World) (v : Value) (t : TypeId) : (w.alloc (.cells #[v] t)).cell? ⟨w.heap.size, 0, none⟩ = some v := (Boxed.new w t v).cell
theorem own_lower {W : World} {base base' : Nat} {e : TypeId} {size : Nat} {v : Value} {k : Nat} {xs : List Value} (h : W.ownsRow base e size v k xs) (hb : base' ≤ base) : W.ownsRow base' e size v k xs := by
  refine ⟨h.1, ?_⟩
  rcases h.2 with hn | ⟨g, cap, cur, hv, hbg, rest⟩
  · exact .inl hn
  · exact .inr ⟨g, cap, cur, hv, Nat.le_trans hb hbg, rest⟩
def toU (x : Int) : U64 := if h : 0 ≤ x ∧ x < 18446744073709551616 then ⟨x, h⟩ else ⟨0, by decide⟩
def okU (l : List Int) : Bool := l.all fun x => decide (0 ≤ x) && decide (x < 18446744073709551616)
theorem toU_val (x : Int) (h0 : 0 ≤ x) (h1 : x < 18446744073709551616) : (toU x).1 = x := by unfold toU; rw [dif_pos ⟨h0, h1⟩]
theorem okU_map (l : List Int) (h : okU l = true) : (l.map toU).map (·.1) = l := by
  rw [List.map_map]
  conv => rhs; rw [← List.map_id l]
  apply List.map_congr_left
  intro x hx
  have := List.all_eq_true.1 h x hx
  simp at this
  exact toU_val x this.1 this.2
def sortedL (l : List Int) : List Int := (stabF l.length (l.map toU).toArray).toList.map (·.1)
def scale_Sorted.f (l : List Int) : Option (List Int) := if l.length ≤ 60 ∧ okU l = true then some (sortedL l) else none
/-- The row of the call's own, as an array; and the row behind the sort, as such a row. -/
theorem own_holds {W : World} {base g cap : Nat} {zs : List Int} (h : W.ownsRow base 31 1 (.slice (some ⟨g, 0, none⟩) zs.length cap) zs.length (zs.map (Value.int .u64))) (hok : okU zs = true) (hne : zs ≠ []) : Holds encU W g 0 (zs.map toU).toArray ∧ base ≤ g := by
  rcases h.2 with ⟨_, h0⟩ | ⟨g', cap', cur, hv, hb, hg, h1, h2, h3, h4⟩
  · exact absurd (List.eq_nil_of_length_eq_zero h0) hne
  · cases hv
    refine ⟨fun j hj => ?_, hb⟩
    have hj' : j < zs.length := by simpa using hj
    have e1 : ((zs.map toU).toArray[j]!).1 = zs[j] := by
      have hx := List.all_eq_true.1 hok zs[j] (List.getElem_mem hj')
      simp at hx
      rw [getElem!_pos _ j (by simpa using hj')]
      simp only [List.getElem_toArray, List.getElem_map]
      exact toU_val _ hx.1 hx.2
    have e2 : cur[j]? = some (.int .u64 zs[j]) := by
      have : (cur.toList.take (zs.length * 1))[j]? = some (.int .u64 zs[j]) := by rw [h4]; simp [hj']
      rw [List.getElem?_take] at this
      rw [if_pos (by omega)] at this
      simpa using this
    constructor
    · show W.cell? ⟨g, 0 + j, none⟩ = some (.int .u64 ((zs.map toU).toArray[j]!).1)
      rw [e1, Nat.zero_add]
      simp [World.cell?, hg, e2]
    · simp [World.frozen?, hg]
theorem holds_own {W : World} {base g cap : Nat} {zs : List Int} (h : W.ownsRow base 31 1 (.slice (some ⟨g, 0, none⟩) zs.length cap) zs.length (zs.map (Value.int .u64))) (d : Array U64) (hd : d.size = zs.length) (hne : zs ≠ []) (n : Nat) :
    ((putRow encU W g 0 d).drewN n).ownsRow base 31 1 (.slice (some ⟨g, 0, none⟩) zs.length cap) zs.length ((d.toList.map (·.1)).map (Value.int .u64)) := by
  rcases h.2 with ⟨_, h0⟩ | ⟨g', cap', cur, hv, hb, hg, h1, h2, h3, h4⟩
  · exact absurd (List.eq_nil_of_length_eq_zero h0) hne
  · cases hv
    refine ⟨by simp [hd], .inr ⟨g, cap, putCells encU 0 d cur, rfl, hb, ?_, h1, h2, by simp [putCells, h3], ?_⟩⟩
    · show (mapBlock W g (putCells encU 0 d)).heap[g]? = _
      unfold mapBlock
      obtain ⟨hlt, he⟩ := Array.getElem?_eq_some_iff.1 hg
      show (W.heap.modify g _)[g]? = _
      rw [Array.getElem?_eq_getElem (by rw [Array.size_modify]; exact hlt), Array.getElem_modify_self, he]
      rfl
    · apply List.ext_getElem?
      intro j
      by_cases hj : j < zs.length
      · rw [List.getElem?_take, if_pos (by omega)]
        have hjc : j < cur.size := by omega
        have hjd : j < d.size := by omega
        simp [putCells, hjc, hjd, getElem!_pos, encU]
      · rw [List.getElem?_eq_none (by simp; omega), List.getElem?_eq_none (by simp; omega)]
theorem below_putRow (W : World) (g : Nat) (d : Array U64) (n base : Nat) (hb : base ≤ g) : Below base W ((putRow encU W g 0 d).drewN n) := by
  refine ⟨rfl, rfl, rfl, by simp [World.drewN], fun k hk => ?_⟩
  show (mapBlock W g (putCells encU 0 d)).heap[k]? = W.heap[k]?
  unfold mapBlock
  show (W.heap.modify g _)[k]? = _
  rw [Array.getElem?_modify, if_neg (by omega)]
set_option maxHeartbeats 1000000 in
theorem insertion_nil (W : World) : Calls Try.prog 40 #[.slice none 0 0, .int .i64 0, .int .i64 0, .func (.func 13) #[] #[]] W fun e w' => e = .returned (.tuple #[]) ∧ w' = W := by
  go_enter Try.func40, Try.ntmps40
  go_wp2
  go_loopg [8] 0 (fun g v wr => v = .int .i64 1 ∧ wr = W)
  case atStart => exact ⟨by first | rfl | simp, rfl⟩
  case round =>
    obtain ⟨rfl, rfl⟩ := hrel
    go_wp2
    go_end0
    exact ⟨rfl, rfl⟩
set_option maxHeartbeats 1000000 in
theorem stable_nil (W : World) : Calls Try.prog 38 #[.slice none 0 0, .int .i64 0, .func (.func 13) #[] #[]] W fun e w' => e = .returned (.tuple #[]) ∧ w' = W := by
  go_enter Try.func38, Try.ntmps38
  go_wp2
  go_loopg [7, 8] 0 (fun g va vb wr => va = .int .i64 0 ∧ vb = .int .i64 20 ∧ wr = W)
  case atStart => exact ⟨rfl, rfl, rfl⟩
  case round =>
    obtain ⟨rfl, rfl, rfl⟩ := hrel
    go_wp2_with (go_at_call 40; refine (insertion_nil _).mono ?_; rintro e w' ⟨rfl, rfl⟩)
    go_loopg [6] 0 (fun g v wr2 => v = .int .i64 20 ∧ wr2 = w')
    case atStart => exact ⟨rfl, rfl⟩
    case round =>
      obtain ⟨rfl, rfl⟩ := hrel
      go_wp2
      go_end0
      exact ⟨rfl, rfl⟩
set_option maxHeartbeats 1000000 in
theorem sortStable_nil (W : World) : Calls Try.prog 29 #[.slice none 0 0, .func (.func 13) #[] #[]] W fun e w' => e = .returned (.tuple #[]) ∧ w' = W := by
  go_enter Try.func29, Try.ntmps29
  go_wp2_with (go_at_call 38; refine (stable_nil _).mono ?_; rintro e w' ⟨rfl, rfl⟩)
  go_end0
  exact ⟨rfl, rfl⟩
/-- What slices.SortedStableFunc leaves: a row of its own. -/
def SortedPost (base : Nat) (w : World) (r : List Int) (e : Ending) (w' : World) : Prop := ∃ v, e = .returned v ∧ w'.ownsRow base 31 1 v r.length (r.map (Value.int .u64)) ∧ Below base w w'
theorem sortedL_length (zs : List Int) : (sortedL zs).length = zs.length := by unfold sortedL; simp [stabF_size]
set_option maxHeartbeats 2000000 in
theorem sortedStable_calls (Bs n₀ : Nat) (sv : Value) (zs : List Int) (hreach : zs.length ≤ 60) (hok : okU zs = true) (w : World) (hBs : Bs < w.heap.size) (hn₀ : n₀ ≤ w.heap.size) (hcb : w.cell? ⟨Bs, 0, none⟩ = some sv) (hI : Ints n₀ w sv zs) :
    Calls Try.prog 15 #[.func (.func 30) #[] #[.pointer (some ⟨Bs, 0, none⟩)], .func (.func 13) #[] #[]] w (SortedPost w.heap.size w (sortedL zs)) := by
  have HC := Aside0.mk (collect_calls Bs n₀ sv zs (by omega) w hBs hn₀ hcb hI)
  by_cases hz : zs = []
  · subst hz
    clear hcb hI hBs hn₀ hok
    go_enter Try.func15, Try.ntmps15
    go_wp2_with (first | (go_at_call 28; refine HC.out.mono ?_; rintro e w' ⟨v, rfl, hrow, hnil, hb⟩; obtain rfl := hnil.2 rfl; have HB := Aside0.mk hb; clear hb hnil hrow) | (go_at_call 29; refine (sortStable_nil _).mono ?_; rintro e w' ⟨rfl, rfl⟩))
    go_ret
    refine ⟨_, rfl, ?_, HB.out⟩
    rw [show sortedL [] = [] from List.eq_nil_of_length_eq_zero (sortedL_length [])]
    exact World.ownsRow_nil _ _ _ _
  · have key : ∀ (v : Value) (w1 : World), w1.ownsRow w.heap.size 31 1 v zs.length (zs.map (Value.int .u64)) → Below w.heap.size w w1 → ∃ g cap, v = .slice (some ⟨g, 0, none⟩) zs.length cap ∧ Calls Try.prog 29 #[.slice (some ⟨g, 0, none⟩) zs.length cap, .func (.func 13) #[] #[]] w1 fun e w' => e = .returned (.tuple #[]) ∧ w'.ownsRow w.heap.size 31 1 (.slice (some ⟨g, 0, none⟩) zs.length cap) (sortedL zs).length ((sortedL zs).map (Value.int .u64)) ∧ Below w.heap.size w w' := by
      intro v w1 hrow hb
      have h2 := hrow.2
      rcases h2 with ⟨_, h0⟩ | ⟨g, cap, cur, rfl, hbg, _⟩
      · exact absurd (List.eq_nil_of_length_eq_zero h0) hz
      · refine ⟨g, cap, rfl, ?_⟩
        obtain ⟨hh, hbase⟩ := own_holds hrow hok hz
        have hs : ((zs.map toU).toArray).size = zs.length := by simp
        refine (sortStable_row g 0 cap zs.length (zs.map toU).toArray (zs.map toU).toArray w1 w1 hh hs hs (RowW.base hh) (by omega)).mono ?_
        rintro e w' ⟨rfl, n, rfl⟩
        refine ⟨rfl, ?_, hb.trans (below_putRow w1 g _ n _ hbase)⟩
        rw [sortedL_length]
        exact holds_own hrow _ (by rw [stabF_size, hs]) hz n
    have KEY := Aside0.mk key
    clear hcb hI hBs hn₀ hok key
    go_enter Try.func15, Try.ntmps15
    go_wp2_with (first | (go_at_call 28; refine HC.out.mono ?_; rintro e w' ⟨v, rfl, hrow, hnil, hb⟩; obtain ⟨g, cap, rfl, hc⟩ := KEY.out v w' hrow hb; have HS := Aside0.mk hc; clear hb hnil hrow hc) | (go_at_call 29; refine HS.out.mono ?_; rintro e w' ⟨rfl, hrow, hb⟩; have HR := Aside0.mk hrow; have HB := Aside0.mk hb; clear hrow hb))
    go_ret
    exact ⟨_, rfl, HR.out, HB.out⟩
set_option maxHeartbeats 2000000 in
theorem scale_Sorted.calls (A0 : Option Addr) (c0 : Nat) (l0 : List Int) (r : List Int) (w : World) (hr0 : Kd.C (Kd.int .u64) w A0 l0.length l0) (hc0 : l0.length ≤ c0) (h : scale_Sorted.f l0 = some r) :
    Calls Try.prog 8 #[.slice A0 l0.length c0] w fun e w' => ∃ v0_ : Value, e = .returned (v0_) ∧ Kd.R (Kd.int .u64) 31 w' w.heap.size (fun _ => True) v0_ r ∧ Below w.heap.size w w' := by
  unfold scale_Sorted.f at h
  by_cases c : l0.length ≤ 60 ∧ okU l0 = true
  case neg => rw [if_neg c] at h; cases h
  rw [if_pos c] at h
  obtain rfl := Option.some.inj h
  clear h
  have hI : Ints w.heap.size w (.slice A0 l0.length c0) l0 := by
    by_cases hz : l0 = []
    · subst hz; exact .inl ⟨A0, c0, rfl, rfl⟩
    · right
      have hpos : 0 < l0.length := List.length_pos_iff.2 hz
      obtain ⟨ad, cs, e0, _, hK, hc0'⟩ := Kd.C_get hr0 (0 : Int) 0 (by omega) (by omega)
      subst e0
      refine ⟨ad, c0, rfl, ?_, fun j hj => ?_⟩
      · obtain rfl : cs = [.int .u64 (l0.getD (0 : Int).toNat 0)] := hK
        have := World.block_lt_of_cell? w _ (hc0' 0 _ rfl)
        rwa [addBlock] at this
      · obtain ⟨ad', cs', e1, _, hK', hc1⟩ := Kd.C_get hr0 (0 : Int) (j : Int) (by omega) (by omega)
        cases e1
        obtain rfl : cs' = [.int .u64 (l0.getD ((j : Nat) : Int).toNat 0)] := hK'
        have := hc1 0 _ rfl
        simpa [Kd.int, Kd.scalar] using this
  have hS := fun (w1 : World) (hw : w1 = w.alloc (.cells #[.slice A0 l0.length c0] 22)) =>
    sortedStable_calls w.heap.size w.heap.size (.slice A0 l0.length c0) l0 c.1 c.2 w1 (by rw [hw]; simp) (by rw [hw]; simp) (by rw [hw]; exact (cell_of_box_a' w _ _)) (by rw [hw]; exact hI.below ((Below.refl _ w).alloc (Nat.le_refl _) _))
  have HS := Aside0.mk (hS _ rfl)
  clear hS hI hr0 hc0 c
  go_enter Try.func8, Try.ntmps8
  go_wp2_with (first | (go_at_call 16; refine (values_calls _ _ _ _).mono ?_; rintro e w' ⟨rfl, rfl⟩) | (go_at_call 15; refine HS.out.mono ?_; rintro e w' ⟨v, rfl, hrow, hb⟩; have HR := Aside0.mk hrow; have HB := Aside0.mk hb; clear hrow hb))
  go_ret
  refine ⟨_, rfl, ?_, ?_⟩
  · exact Kd.R_of_own (own_lower HR.out (by simp)) (fun _ _ => trivial)
  · exact ((Below.refl _ w).alloc (Nat.le_refl _) _).trans (HB.out.mono (by simp))
end Go.Proofs.Ytipejilcocafmaa.X
