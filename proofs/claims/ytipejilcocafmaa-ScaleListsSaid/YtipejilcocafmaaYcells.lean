/- scale.Cells: how many cells a number is: the least whole number that is not below it, from 0 up to 64; else an error. -/
import Derived.Test.YtipejilcocafmaaYflt
import Derived.WalkLawsBesides
namespace Go.Proofs.Ytipejilcocafmaa.X
open Go.RowKit Go.Proofs.YtipejilcocafmaaW.PrintWords
set_option linter.unusedVariables false
set_option linter.unusedSimpArgs false

theorem frombits_run (x : Int) (w : World) : (callFunc 18 #[.int .u64 x]).run Try.prog w = .ok (.value (.float .f64 x.toNat)) w := by kernel_rfl
theorem archCeil_run (n : Nat) (w : World) : (callFunc 32 #[.float .f64 n]).run Try.prog w = (Sem.bind (Extern.MathFloor.toIntegral "math.archCeil" .up #[.float .f64 n]) (fun v => pure (Next.value v)) : Sem Next).run Try.prog w := by kernel_rfl
theorem fl_aux (alt1 : (x : Nat) → Sem Value) (alt2 : (x : Array Value) → Sem Value) (x : Nat) : Extern.MathFloor.toIntegral.match_2 (fun _ => Sem Value) #[Value.float .f64 x] alt1 alt2 = alt1 x := rfl
theorem ceil_cases (n : Nat) (h : (FloatKind.f64.decode n).isNaN = false) : Extern.MathFloor.toIntegral "math.archCeil" .up #[.float .f64 n] = pure (.float .f64 (FloatKind.f64.encode ((FloatKind.f64.decode n).integral .up))) := by
  delta Extern.MathFloor.toIntegral
  rw [fl_aux]
  revert h
  generalize FloatKind.f64.decode n = d
  intro h
  cases d with
  | number s m i => rfl
  | infinity s => rfl
  | nan s t => cases h
theorem archCeil_num (n : Nat) (w : World) (h : rung n ≤ 9218868437227405312) : (callFunc 32 #[.float .f64 n]).run Try.prog w = .ok (.value (.float .f64 (FloatKind.f64.encode ((Ieee.double.read n).integral .up)))) w := by
  have e : FloatKind.f64.decode n = Ieee.double.read n := rfl
  have hn : (FloatKind.f64.decode n).isNaN = false := by
    rw [e, read_double]
    by_cases h1 : rung n < 9218868437227405312
    · rw [if_pos h1]; rfl
    · rw [if_neg h1, if_pos (by omega)]; rfl
  rw [archCeil_run, ceil_cases n hn]
  rfl
theorem ceil_num (n : Nat) (w : World) (h : rung n ≤ 9218868437227405312) : Calls Try.prog 19 #[.float .f64 n] w fun e w' => e = .returned (.float .f64 (FloatKind.f64.encode ((Ieee.double.read n).integral .up))) ∧ w' = w := by
  have h1 := archCeil_num n w h
  go_enter Try.func19, Try.ntmps19
  go_wp2
  go_ret
  exact ⟨rfl, rfl⟩
theorem toInt_ceil (n : Nat) (w : World) (hr : rung n ≤ 4634204016564240384) (hs : sgn n = false ∨ rung n = 0) :
    (convert 40 3 (.float .f64 (FloatKind.f64.encode ((Ieee.double.read n).integral .up)))).run Try.prog w = .ok (.int .i64 (fceil (rung n) : Int)) w := by
  have h := ceil_whole n hr hs
  have hl := fceil_le _ hr
  have e : ∀ b, (convert 40 3 (.float .f64 b)).run Try.prog w = (Conv.floatToInt .f64 b .i64).run Try.prog w := fun b => by kernel_rfl
  rw [e]
  unfold Conv.floatToInt
  have e2 : ∀ b, FloatKind.f64.decode b = Ieee.double.read b := fun _ => rfl
  have e3 : ∀ b, FloatKind.f64.encode b = Ieee.double.write b := fun _ => rfl
  simp only [e2, e3, h]
  have e4 : IntKind.i64.min = -9223372036854775808 := by decide
  have e5 : IntKind.i64.max = 9223372036854775807 := by decide
  rw [e4, e5, if_pos (by omega)]
  rfl
def cellsF (n : Nat) : Int × Int := if rung n = 0 then (0, 0) else if sgn n = true then (0, 41) else if rung n ≤ 4634204016564240384 then ((fceil (rung n) : Int), 0) else (0, 41)
def scale_Cells.f (a0 : Int) : Option (Int × Int) := some (cellsF a0.toNat)
set_option maxHeartbeats 1000000 in
theorem scale_Cells.calls (a0 : Int) (r1 r2 : Int) (w : World) (h : scale_Cells.f a0 = some (r1, r2)) :
    Calls Try.prog 10 #[.int .u64 a0] w fun e w' => e = .returned (.tuple #[.int .i64 r1, .int .i64 r2]) ∧ Drawn0 w w' := by
  have H := Option.some.inj h
  clear h
  have hf := frombits_run
  have o1 := order_nought a0.toNat
  have o2 := order_most a0.toNat
  have e0 : FloatKind.f64.format = Ieee.double := rfl
  have hC := fun W => ceil_num a0.toNat W
  have hT := fun W => toInt_ceil a0.toNat W
  have hz : rung a0.toNat = 0 → fceil (rung a0.toNat) = 0 := fun h => by rw [h]; rfl
  unfold cellsF at H
  have HE := Aside0.mk (show ∀ b, FloatKind.f64.format.order a0.toNat b = Ieee.double.order a0.toNat b from fun _ => rfl)
  clear e0
  by_cases h1 : rung a0.toNat = 0
  · rw [if_pos h1] at H
    obtain ⟨rfl, rfl⟩ := Prod.mk.inj H
    have q1 : FloatKind.f64.format.order a0.toNat 0 = some .eq := by rw [HE.out, o1, if_pos (by omega), if_pos h1]
    have q2 : FloatKind.f64.format.order a0.toNat 4634204016564240384 = some .lt := by
      rw [HE.out, order_double a0.toNat _ (by omega) (by decide)]
      have e : sval a0.toNat = 0 := by unfold sval; rw [h1]; cases sgn a0.toNat <;> rfl
      have e1 : sgn 4634204016564240384 = false := by decide
      have e2 : rung 4634204016564240384 = 4634204016564240384 := by decide
      have hp := @fval_lt 0 4634204016564240384 (by omega)
      rw [e]
      unfold sval
      rw [e1, e2]
      generalize fval 4634204016564240384 = B at hp
      simp only [Bool.false_eq_true, if_false, compare, compareOfLessAndEq]
      rw [if_pos (by omega)]
    have hT2 := fun W => (hT W (by omega) (.inr h1))
    rw [hz h1] at hT2
    have hC2 := Aside0.mk (fun W => hC W (by omega))
    clear o1 o2 hT hC H hz HE
    go_enter Try.func10, Try.ntmps10
    go_wp2_with (go_at_call 19; refine (hC2.out _).mono ?_; rintro e w' ⟨rfl, rfl⟩)
    go_ret2
    exact ⟨rfl, Drawn0.refl _⟩
  · rw [if_neg h1] at H
    by_cases h2 : sgn a0.toNat = true
    · rw [if_pos h2] at H
      obtain ⟨rfl, rfl⟩ := Prod.mk.inj H
      have q1 : FloatKind.f64.format.order a0.toNat 0 = some .lt ∨ FloatKind.f64.format.order a0.toNat 0 = none := by
        rw [HE.out, o1, if_neg h1, if_pos h2]
        split
        · exact .inl rfl
        · exact .inr rfl
      clear o1 o2 hT hC H hz HE h1 h2
      rcases q1 with q1 | q1
      all_goals
        go_enter Try.func10, Try.ntmps10
        go_wp2
        go_ret2
        exact ⟨rfl, Drawn0.refl _⟩
    · rw [if_neg h2] at H
      have hs : sgn a0.toNat = false := by simpa using h2
      by_cases h3 : rung a0.toNat ≤ 4634204016564240384
      · rw [if_pos h3] at H
        obtain ⟨rfl, rfl⟩ := Prod.mk.inj H
        have q1 : FloatKind.f64.format.order a0.toNat 0 = some .gt := by rw [HE.out, o1, if_pos (by omega), if_neg h1, if_neg h2]
        have q2 : FloatKind.f64.format.order a0.toNat 4634204016564240384 = some .lt ∨ FloatKind.f64.format.order a0.toNat 4634204016564240384 = some .eq := by
          rw [HE.out, o2 hs, if_pos (by omega)]
          simp only [compare, compareOfLessAndEq]
          by_cases e : rung a0.toNat = 4634204016564240384
          · right; rw [if_neg (by omega), if_pos (by omega)]
          · left; rw [if_pos (by omega)]
        have hT2 := fun W => (hT W h3 (.inl hs))
        have hC2 := Aside0.mk (fun W => hC W (by omega))
        clear o1 o2 hT hC H hz HE h1 h2 hs h3
        rcases q2 with q2 | q2
        all_goals
          go_enter Try.func10, Try.ntmps10
          go_wp2_with (go_at_call 19; refine (hC2.out _).mono ?_; rintro e w' ⟨rfl, rfl⟩)
          go_ret2
          exact ⟨rfl, Drawn0.refl _⟩
      · rw [if_neg h3] at H
        obtain ⟨rfl, rfl⟩ := Prod.mk.inj H
        have q1 : FloatKind.f64.format.order a0.toNat 0 = some .gt ∨ FloatKind.f64.format.order a0.toNat 0 = none := by
          rw [HE.out, o1, if_neg h1, if_neg h2]
          split
          · exact .inl rfl
          · exact .inr rfl
        have q2 : FloatKind.f64.format.order a0.toNat 4634204016564240384 = some .gt ∨ FloatKind.f64.format.order a0.toNat 4634204016564240384 = none := by
          rw [HE.out, o2 hs]
          split
          · left
            simp only [compare, compareOfLessAndEq]
            rw [if_neg (by omega), if_neg (by omega)]
          · exact .inr rfl
        clear o1 o2 hT hC H hz HE h1 h2 hs h3
        rcases q1 with q1 | q1 <;> rcases q2 with q2 | q2
        all_goals
          go_enter Try.func10, Try.ntmps10
          go_wp2
          go_ret2
          exact ⟨rfl, Drawn0.refl _⟩
end Go.Proofs.Ytipejilcocafmaa.X
