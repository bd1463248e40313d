/- The machine's side of the laws of this seat: each function's plain form and its contract, written by a program of this session out of Lean's print of the loaded functions; no condition beyond what each statement says. -/
import Derived.Test.YtaagimadfhcflaaP0
namespace Go.Proofs.Ytaagimadfhcflaa.P
open Go.RowKit Go.Proofs.YtaagimadfhcflaaW.PrintWords Go.Proofs.YtaagimadfhcflaaW.PrintLast Go.Proofs.YtaagimadfhcflaaW.PrintMore
attribute [local go_sem] max2_int min2_int max_two min_two max_three min_three max_four min_four   -- for this text's walks alone
set_option linter.unusedVariables false
set_option linter.unusedSimpArgs false

attribute [local go_sem] isSome_setCell
/-! ### decay_steps: function 19 -/
def decay_steps.f (a0 : Int) : Option (Int) := if 0 ≤ a0 then (if a0 < 16 then some (rd [65536, 62757, 60097, 57549, 55109, 52773, 50535, 48393, 46341, 44376, 42495, 40693, 38968, 37316, 35734, 34219] a0) else none) else none
theorem decay_steps.at0 (w : World) : Calls Try.prog 19 #[.int .i64 0] w fun e w' => e = .returned (.int .i64 65536) ∧ Drawn0 w w' := by
  have hI : ∀ W : World, (Instr.index 56 (Value.agg #[Value.int IntKind.i64 65536, Value.int IntKind.i64 62757, Value.int IntKind.i64 60097, Value.int IntKind.i64 57549, Value.int IntKind.i64 55109, Value.int IntKind.i64 52773, Value.int IntKind.i64 50535, Value.int IntKind.i64 48393, Value.int IntKind.i64 46341, Value.int IntKind.i64 44376, Value.int IntKind.i64 42495, Value.int IntKind.i64 40693, Value.int IntKind.i64 38968, Value.int IntKind.i64 37316, Value.int IntKind.i64 35734, Value.int IntKind.i64 34219]) (.int .i64 0)).run Try.prog W = .ok (.int .i64 65536) W := fun W => by kernel_rfl
  go_enter Try.func19, Try.ntmps19
  go_wp2
  go_ret
  exact ⟨rfl, Drawn0.refl _⟩
theorem decay_steps.at1 (w : World) : Calls Try.prog 19 #[.int .i64 1] w fun e w' => e = .returned (.int .i64 62757) ∧ Drawn0 w w' := by
  have hI : ∀ W : World, (Instr.index 56 (Value.agg #[Value.int IntKind.i64 65536, Value.int IntKind.i64 62757, Value.int IntKind.i64 60097, Value.int IntKind.i64 57549, Value.int IntKind.i64 55109, Value.int IntKind.i64 52773, Value.int IntKind.i64 50535, Value.int IntKind.i64 48393, Value.int IntKind.i64 46341, Value.int IntKind.i64 44376, Value.int IntKind.i64 42495, Value.int IntKind.i64 40693, Value.int IntKind.i64 38968, Value.int IntKind.i64 37316, Value.int IntKind.i64 35734, Value.int IntKind.i64 34219]) (.int .i64 1)).run Try.prog W = .ok (.int .i64 62757) W := fun W => by kernel_rfl
  go_enter Try.func19, Try.ntmps19
  go_wp2
  go_ret
  exact ⟨rfl, Drawn0.refl _⟩
theorem decay_steps.at2 (w : World) : Calls Try.prog 19 #[.int .i64 2] w fun e w' => e = .returned (.int .i64 60097) ∧ Drawn0 w w' := by
  have hI : ∀ W : World, (Instr.index 56 (Value.agg #[Value.int IntKind.i64 65536, Value.int IntKind.i64 62757, Value.int IntKind.i64 60097, Value.int IntKind.i64 57549, Value.int IntKind.i64 55109, Value.int IntKind.i64 52773, Value.int IntKind.i64 50535, Value.int IntKind.i64 48393, Value.int IntKind.i64 46341, Value.int IntKind.i64 44376, Value.int IntKind.i64 42495, Value.int IntKind.i64 40693, Value.int IntKind.i64 38968, Value.int IntKind.i64 37316, Value.int IntKind.i64 35734, Value.int IntKind.i64 34219]) (.int .i64 2)).run Try.prog W = .ok (.int .i64 60097) W := fun W => by kernel_rfl
  go_enter Try.func19, Try.ntmps19
  go_wp2
  go_ret
  exact ⟨rfl, Drawn0.refl _⟩
theorem decay_steps.at3 (w : World) : Calls Try.prog 19 #[.int .i64 3] w fun e w' => e = .returned (.int .i64 57549) ∧ Drawn0 w w' := by
  have hI : ∀ W : World, (Instr.index 56 (Value.agg #[Value.int IntKind.i64 65536, Value.int IntKind.i64 62757, Value.int IntKind.i64 60097, Value.int IntKind.i64 57549, Value.int IntKind.i64 55109, Value.int IntKind.i64 52773, Value.int IntKind.i64 50535, Value.int IntKind.i64 48393, Value.int IntKind.i64 46341, Value.int IntKind.i64 44376, Value.int IntKind.i64 42495, Value.int IntKind.i64 40693, Value.int IntKind.i64 38968, Value.int IntKind.i64 37316, Value.int IntKind.i64 35734, Value.int IntKind.i64 34219]) (.int .i64 3)).run Try.prog W = .ok (.int .i64 57549) W := fun W => by kernel_rfl
  go_enter Try.func19, Try.ntmps19
  go_wp2
  go_ret
  exact ⟨rfl, Drawn0.refl _⟩
theorem decay_steps.at4 (w : World) : Calls Try.prog 19 #[.int .i64 4] w fun e w' => e = .returned (.int .i64 55109) ∧ Drawn0 w w' := by
  have hI : ∀ W : World, (Instr.index 56 (Value.agg #[Value.int IntKind.i64 65536, Value.int IntKind.i64 62757, Value.int IntKind.i64 60097, Value.int IntKind.i64 57549, Value.int IntKind.i64 55109, Value.int IntKind.i64 52773, Value.int IntKind.i64 50535, Value.int IntKind.i64 48393, Value.int IntKind.i64 46341, Value.int IntKind.i64 44376, Value.int IntKind.i64 42495, Value.int IntKind.i64 40693, Value.int IntKind.i64 38968, Value.int IntKind.i64 37316, Value.int IntKind.i64 35734, Value.int IntKind.i64 34219]) (.int .i64 4)).run Try.prog W = .ok (.int .i64 55109) W := fun W => by kernel_rfl
  go_enter Try.func19, Try.ntmps19
  go_wp2
  go_ret
  exact ⟨rfl, Drawn0.refl _⟩
theorem decay_steps.at5 (w : World) : Calls Try.prog 19 #[.int .i64 5] w fun e w' => e = .returned (.int .i64 52773) ∧ Drawn0 w w' := by
  have hI : ∀ W : World, (Instr.index 56 (Value.agg #[Value.int IntKind.i64 65536, Value.int IntKind.i64 62757, Value.int IntKind.i64 60097, Value.int IntKind.i64 57549, Value.int IntKind.i64 55109, Value.int IntKind.i64 52773, Value.int IntKind.i64 50535, Value.int IntKind.i64 48393, Value.int IntKind.i64 46341, Value.int IntKind.i64 44376, Value.int IntKind.i64 42495, Value.int IntKind.i64 40693, Value.int IntKind.i64 38968, Value.int IntKind.i64 37316, Value.int IntKind.i64 35734, Value.int IntKind.i64 34219]) (.int .i64 5)).run Try.prog W = .ok (.int .i64 52773) W := fun W => by kernel_rfl
  go_enter Try.func19, Try.ntmps19
  go_wp2
  go_ret
  exact ⟨rfl, Drawn0.refl _⟩
theorem decay_steps.at6 (w : World) : Calls Try.prog 19 #[.int .i64 6] w fun e w' => e = .returned (.int .i64 50535) ∧ Drawn0 w w' := by
  have hI : ∀ W : World, (Instr.index 56 (Value.agg #[Value.int IntKind.i64 65536, Value.int IntKind.i64 62757, Value.int IntKind.i64 60097, Value.int IntKind.i64 57549, Value.int IntKind.i64 55109, Value.int IntKind.i64 52773, Value.int IntKind.i64 50535, Value.int IntKind.i64 48393, Value.int IntKind.i64 46341, Value.int IntKind.i64 44376, Value.int IntKind.i64 42495, Value.int IntKind.i64 40693, Value.int IntKind.i64 38968, Value.int IntKind.i64 37316, Value.int IntKind.i64 35734, Value.int IntKind.i64 34219]) (.int .i64 6)).run Try.prog W = .ok (.int .i64 50535) W := fun W => by kernel_rfl
  go_enter Try.func19, Try.ntmps19
  go_wp2
  go_ret
  exact ⟨rfl, Drawn0.refl _⟩
theorem decay_steps.at7 (w : World) : Calls Try.prog 19 #[.int .i64 7] w fun e w' => e = .returned (.int .i64 48393) ∧ Drawn0 w w' := by
  have hI : ∀ W : World, (Instr.index 56 (Value.agg #[Value.int IntKind.i64 65536, Value.int IntKind.i64 62757, Value.int IntKind.i64 60097, Value.int IntKind.i64 57549, Value.int IntKind.i64 55109, Value.int IntKind.i64 52773, Value.int IntKind.i64 50535, Value.int IntKind.i64 48393, Value.int IntKind.i64 46341, Value.int IntKind.i64 44376, Value.int IntKind.i64 42495, Value.int IntKind.i64 40693, Value.int IntKind.i64 38968, Value.int IntKind.i64 37316, Value.int IntKind.i64 35734, Value.int IntKind.i64 34219]) (.int .i64 7)).run Try.prog W = .ok (.int .i64 48393) W := fun W => by kernel_rfl
  go_enter Try.func19, Try.ntmps19
  go_wp2
  go_ret
  exact ⟨rfl, Drawn0.refl _⟩
theorem decay_steps.at8 (w : World) : Calls Try.prog 19 #[.int .i64 8] w fun e w' => e = .returned (.int .i64 46341) ∧ Drawn0 w w' := by
  have hI : ∀ W : World, (Instr.index 56 (Value.agg #[Value.int IntKind.i64 65536, Value.int IntKind.i64 62757, Value.int IntKind.i64 60097, Value.int IntKind.i64 57549, Value.int IntKind.i64 55109, Value.int IntKind.i64 52773, Value.int IntKind.i64 50535, Value.int IntKind.i64 48393, Value.int IntKind.i64 46341, Value.int IntKind.i64 44376, Value.int IntKind.i64 42495, Value.int IntKind.i64 40693, Value.int IntKind.i64 38968, Value.int IntKind.i64 37316, Value.int IntKind.i64 35734, Value.int IntKind.i64 34219]) (.int .i64 8)).run Try.prog W = .ok (.int .i64 46341) W := fun W => by kernel_rfl
  go_enter Try.func19, Try.ntmps19
  go_wp2
  go_ret
  exact ⟨rfl, Drawn0.refl _⟩
theorem decay_steps.at9 (w : World) : Calls Try.prog 19 #[.int .i64 9] w fun e w' => e = .returned (.int .i64 44376) ∧ Drawn0 w w' := by
  have hI : ∀ W : World, (Instr.index 56 (Value.agg #[Value.int IntKind.i64 65536, Value.int IntKind.i64 62757, Value.int IntKind.i64 60097, Value.int IntKind.i64 57549, Value.int IntKind.i64 55109, Value.int IntKind.i64 52773, Value.int IntKind.i64 50535, Value.int IntKind.i64 48393, Value.int IntKind.i64 46341, Value.int IntKind.i64 44376, Value.int IntKind.i64 42495, Value.int IntKind.i64 40693, Value.int IntKind.i64 38968, Value.int IntKind.i64 37316, Value.int IntKind.i64 35734, Value.int IntKind.i64 34219]) (.int .i64 9)).run Try.prog W = .ok (.int .i64 44376) W := fun W => by kernel_rfl
  go_enter Try.func19, Try.ntmps19
  go_wp2
  go_ret
  exact ⟨rfl, Drawn0.refl _⟩
theorem decay_steps.at10 (w : World) : Calls Try.prog 19 #[.int .i64 10] w fun e w' => e = .returned (.int .i64 42495) ∧ Drawn0 w w' := by
  have hI : ∀ W : World, (Instr.index 56 (Value.agg #[Value.int IntKind.i64 65536, Value.int IntKind.i64 62757, Value.int IntKind.i64 60097, Value.int IntKind.i64 57549, Value.int IntKind.i64 55109, Value.int IntKind.i64 52773, Value.int IntKind.i64 50535, Value.int IntKind.i64 48393, Value.int IntKind.i64 46341, Value.int IntKind.i64 44376, Value.int IntKind.i64 42495, Value.int IntKind.i64 40693, Value.int IntKind.i64 38968, Value.int IntKind.i64 37316, Value.int IntKind.i64 35734, Value.int IntKind.i64 34219]) (.int .i64 10)).run Try.prog W = .ok (.int .i64 42495) W := fun W => by kernel_rfl
  go_enter Try.func19, Try.ntmps19
  go_wp2
  go_ret
  exact ⟨rfl, Drawn0.refl _⟩
theorem decay_steps.at11 (w : World) : Calls Try.prog 19 #[.int .i64 11] w fun e w' => e = .returned (.int .i64 40693) ∧ Drawn0 w w' := by
  have hI : ∀ W : World, (Instr.index 56 (Value.agg #[Value.int IntKind.i64 65536, Value.int IntKind.i64 62757, Value.int IntKind.i64 60097, Value.int IntKind.i64 57549, Value.int IntKind.i64 55109, Value.int IntKind.i64 52773, Value.int IntKind.i64 50535, Value.int IntKind.i64 48393, Value.int IntKind.i64 46341, Value.int IntKind.i64 44376, Value.int IntKind.i64 42495, Value.int IntKind.i64 40693, Value.int IntKind.i64 38968, Value.int IntKind.i64 37316, Value.int IntKind.i64 35734, Value.int IntKind.i64 34219]) (.int .i64 11)).run Try.prog W = .ok (.int .i64 40693) W := fun W => by kernel_rfl
  go_enter Try.func19, Try.ntmps19
  go_wp2
  go_ret
  exact ⟨rfl, Drawn0.refl _⟩
theorem decay_steps.at12 (w : World) : Calls Try.prog 19 #[.int .i64 12] w fun e w' => e = .returned (.int .i64 38968) ∧ Drawn0 w w' := by
  have hI : ∀ W : World, (Instr.index 56 (Value.agg #[Value.int IntKind.i64 65536, Value.int IntKind.i64 62757, Value.int IntKind.i64 60097, Value.int IntKind.i64 57549, Value.int IntKind.i64 55109, Value.int IntKind.i64 52773, Value.int IntKind.i64 50535, Value.int IntKind.i64 48393, Value.int IntKind.i64 46341, Value.int IntKind.i64 44376, Value.int IntKind.i64 42495, Value.int IntKind.i64 40693, Value.int IntKind.i64 38968, Value.int IntKind.i64 37316, Value.int IntKind.i64 35734, Value.int IntKind.i64 34219]) (.int .i64 12)).run Try.prog W = .ok (.int .i64 38968) W := fun W => by kernel_rfl
  go_enter Try.func19, Try.ntmps19
  go_wp2
  go_ret
  exact ⟨rfl, Drawn0.refl _⟩
theorem decay_steps.at13 (w : World) : Calls Try.prog 19 #[.int .i64 13] w fun e w' => e = .returned (.int .i64 37316) ∧ Drawn0 w w' := by
  have hI : ∀ W : World, (Instr.index 56 (Value.agg #[Value.int IntKind.i64 65536, Value.int IntKind.i64 62757, Value.int IntKind.i64 60097, Value.int IntKind.i64 57549, Value.int IntKind.i64 55109, Value.int IntKind.i64 52773, Value.int IntKind.i64 50535, Value.int IntKind.i64 48393, Value.int IntKind.i64 46341, Value.int IntKind.i64 44376, Value.int IntKind.i64 42495, Value.int IntKind.i64 40693, Value.int IntKind.i64 38968, Value.int IntKind.i64 37316, Value.int IntKind.i64 35734, Value.int IntKind.i64 34219]) (.int .i64 13)).run Try.prog W = .ok (.int .i64 37316) W := fun W => by kernel_rfl
  go_enter Try.func19, Try.ntmps19
  go_wp2
  go_ret
  exact ⟨rfl, Drawn0.refl _⟩
theorem decay_steps.at14 (w : World) : Calls Try.prog 19 #[.int .i64 14] w fun e w' => e = .returned (.int .i64 35734) ∧ Drawn0 w w' := by
  have hI : ∀ W : World, (Instr.index 56 (Value.agg #[Value.int IntKind.i64 65536, Value.int IntKind.i64 62757, Value.int IntKind.i64 60097, Value.int IntKind.i64 57549, Value.int IntKind.i64 55109, Value.int IntKind.i64 52773, Value.int IntKind.i64 50535, Value.int IntKind.i64 48393, Value.int IntKind.i64 46341, Value.int IntKind.i64 44376, Value.int IntKind.i64 42495, Value.int IntKind.i64 40693, Value.int IntKind.i64 38968, Value.int IntKind.i64 37316, Value.int IntKind.i64 35734, Value.int IntKind.i64 34219]) (.int .i64 14)).run Try.prog W = .ok (.int .i64 35734) W := fun W => by kernel_rfl
  go_enter Try.func19, Try.ntmps19
  go_wp2
  go_ret
  exact ⟨rfl, Drawn0.refl _⟩
theorem decay_steps.at15 (w : World) : Calls Try.prog 19 #[.int .i64 15] w fun e w' => e = .returned (.int .i64 34219) ∧ Drawn0 w w' := by
  have hI : ∀ W : World, (Instr.index 56 (Value.agg #[Value.int IntKind.i64 65536, Value.int IntKind.i64 62757, Value.int IntKind.i64 60097, Value.int IntKind.i64 57549, Value.int IntKind.i64 55109, Value.int IntKind.i64 52773, Value.int IntKind.i64 50535, Value.int IntKind.i64 48393, Value.int IntKind.i64 46341, Value.int IntKind.i64 44376, Value.int IntKind.i64 42495, Value.int IntKind.i64 40693, Value.int IntKind.i64 38968, Value.int IntKind.i64 37316, Value.int IntKind.i64 35734, Value.int IntKind.i64 34219]) (.int .i64 15)).run Try.prog W = .ok (.int .i64 34219) W := fun W => by kernel_rfl
  go_enter Try.func19, Try.ntmps19
  go_wp2
  go_ret
  exact ⟨rfl, Drawn0.refl _⟩
theorem decay_steps.calls (a0 : Int) (r : Int) (w : World) (h : decay_steps.f a0 = some r) :
    Calls Try.prog 19 #[.int .i64 a0] w fun e w' => e = .returned (.int .i64 r) ∧ Drawn0 w w' := by
  unfold decay_steps.f at h
  by_cases h0 : 0 ≤ a0
  · rw [if_pos h0] at h
    by_cases h1 : a0 < 16
    · rw [if_pos h1] at h
      injection h with h
      subst h
      obtain rfl | rfl | rfl | rfl | rfl | rfl | rfl | rfl | rfl | rfl | rfl | rfl | rfl | rfl | rfl | rfl : a0 = 0 ∨ a0 = 1 ∨ a0 = 2 ∨ a0 = 3 ∨ a0 = 4 ∨ a0 = 5 ∨ a0 = 6 ∨ a0 = 7 ∨ a0 = 8 ∨ a0 = 9 ∨ a0 = 10 ∨ a0 = 11 ∨ a0 = 12 ∨ a0 = 13 ∨ a0 = 14 ∨ a0 = 15 := by omega
      · exact decay_steps.at0 w
      · exact decay_steps.at1 w
      · exact decay_steps.at2 w
      · exact decay_steps.at3 w
      · exact decay_steps.at4 w
      · exact decay_steps.at5 w
      · exact decay_steps.at6 w
      · exact decay_steps.at7 w
      · exact decay_steps.at8 w
      · exact decay_steps.at9 w
      · exact decay_steps.at10 w
      · exact decay_steps.at11 w
      · exact decay_steps.at12 w
      · exact decay_steps.at13 w
      · exact decay_steps.at14 w
      · exact decay_steps.at15 w
    · rw [if_neg h1] at h; cases h
  · rw [if_neg h0] at h; cases h

/-! ### decay_Factor: function 10 -/
def decay_Factor.f (a0 : Int) (a1 : Int) : Option (Int × Int × Int) := if a0 < 0 then (some (0, 0, 2)) else (if a0 > 1099511627776 then (some (0, 0, 2)) else (if a1 < 1 then (some (0, 0, 2)) else (if a1 > 1099511627776 then (some (0, 0, 2)) else (if a1 = 0 then (none) else ((decay_steps.f (wrap64 (Int.tdiv (wrap64 ((Int.tmod a0 a1) * 16)) a1))).bind fun t101 => (some (wrap64 (Int.tdiv a0 a1), t101, 0)))))))
set_option maxHeartbeats 8000000 in
set_option maxRecDepth 100000 in
theorem decay_Factor.calls (a0 : Int) (a1 : Int) (r1 : Int) (r2 : Int) (r3 : Int) (w : World) (h : decay_Factor.f a0 a1 = some (r1, r2, r3)) :
    Calls Try.prog 10 #[.int .i64 a0, .int .i64 a1] w fun e w' => e = .returned (.tuple #[.int .i64 r1, .int .i64 r2, .int .i64 r3]) ∧ Drawn0 w w' := by
  have H : (if a0 < 0 then (some (0, 0, 2)) else (if a0 > 1099511627776 then (some (0, 0, 2)) else (if a1 < 1 then (some (0, 0, 2)) else (if a1 > 1099511627776 then (some (0, 0, 2)) else (if a1 = 0 then (none) else ((decay_steps.f (wrap64 (Int.tdiv (wrap64 ((Int.tmod a0 a1) * 16)) a1))).bind fun t101 => (some (wrap64 (Int.tdiv a0 a1), t101, 0)))))))) = some (r1, r2, r3) := h
  clear h
  by_cases c3 : a0 < 0
  · rw [if_pos c3] at H
    have c3b0 : decide (a0 < 0) = true := decide_eq_true c3
    clear c3
    simp only [Option.some.injEq, Prod.mk.injEq] at H
    obtain ⟨rfl, rfl, rfl⟩ := H
    go_enter Try.func10, Try.ntmps10
    go_wp2
    repeat (go_quiet (fail); try go_wp2)
    go_ret3
    exact ⟨by first | rfl | (simp; done) | (simp [*]; done), by repeat (first | exact Drawn0.refl _ | apply Drawn0.step)⟩
  · rw [if_neg c3] at H
    have c3b0 : decide (a0 < 0) = false := decide_eq_false c3
    clear c3
    by_cases c4 : a0 > 1099511627776
    · rw [if_pos c4] at H
      have c4b0 : decide (1099511627776 < a0) = true := decide_eq_true c4
      clear c4
      simp only [Option.some.injEq, Prod.mk.injEq] at H
      obtain ⟨rfl, rfl, rfl⟩ := H
      go_enter Try.func10, Try.ntmps10
      go_wp2
      repeat (go_quiet (fail); try go_wp2)
      go_ret3
      exact ⟨by first | rfl | (simp; done) | (simp [*]; done), by repeat (first | exact Drawn0.refl _ | apply Drawn0.step)⟩
    · rw [if_neg c4] at H
      have c4b0 : decide (1099511627776 < a0) = false := decide_eq_false c4
      clear c4
      by_cases c5 : a1 < 1
      · rw [if_pos c5] at H
        have c5b0 : decide (a1 < 1) = true := decide_eq_true c5
        clear c5
        simp only [Option.some.injEq, Prod.mk.injEq] at H
        obtain ⟨rfl, rfl, rfl⟩ := H
        go_enter Try.func10, Try.ntmps10
        go_wp2
        repeat (go_quiet (fail); try go_wp2)
        go_ret3
        exact ⟨by first | rfl | (simp; done) | (simp [*]; done), by repeat (first | exact Drawn0.refl _ | apply Drawn0.step)⟩
      · rw [if_neg c5] at H
        have c5b0 : decide (a1 < 1) = false := decide_eq_false c5
        clear c5
        by_cases c6 : a1 > 1099511627776
        · rw [if_pos c6] at H
          have c6b0 : decide (1099511627776 < a1) = true := decide_eq_true c6
          clear c6
          simp only [Option.some.injEq, Prod.mk.injEq] at H
          obtain ⟨rfl, rfl, rfl⟩ := H
          go_enter Try.func10, Try.ntmps10
          go_wp2
          repeat (go_quiet (fail); try go_wp2)
          go_ret3
          exact ⟨by first | rfl | (simp; done) | (simp [*]; done), by repeat (first | exact Drawn0.refl _ | apply Drawn0.step)⟩
        · rw [if_neg c6] at H
          have c6b0 : decide (1099511627776 < a1) = false := decide_eq_false c6
          clear c6
          by_cases c7 : a1 = 0
          · rw [if_pos c7] at H
            exact absurd H (by simp)
          · rw [if_neg c7] at H
            have c7b0 : (a1 == 0) = false := beq_eq_false_iff_ne.mpr c7
            have c7b1 : (a1 != 0) = true := bne_iff_ne.mpr c7
            replace H := Option.bind_eq_some_iff.mp H
            obtain ⟨t101, A80, H⟩ := H
            replace H : (some (wrap64 (Int.tdiv a0 a1), t101, 0)) = some (r1, r2, r3) := H
            have A8 := Aside0.mk A80
            clear A80
            simp only [Option.some.injEq, Prod.mk.injEq] at H
            obtain ⟨rfl, rfl, rfl⟩ := H
            go_enter Try.func10, Try.ntmps10
            go_wp2_with (first | (go_at_call 19; (with_reducible refine (decay_steps.calls (wrap64 (Int.tdiv (wrap64 ((Int.tmod a0 a1) * 16)) a1)) t101 _ A8.out).mono ?_); rintro e w' ⟨rfl, ⟨nd, rfl⟩⟩; (try first | exact ⟨rfl, _, World.drewN_drewN _ _ _⟩ | exact ⟨rfl, _, Eq.trans (World.drewN_drewN _ _ _) (congrArg (World.drewN _) (Nat.add_assoc _ _ _))⟩)))
            repeat (go_quiet (first | (go_at_call 19; (with_reducible refine (decay_steps.calls (wrap64 (Int.tdiv (wrap64 ((Int.tmod a0 a1) * 16)) a1)) t101 _ A8.out).mono ?_); rintro e w' ⟨rfl, ⟨nd, rfl⟩⟩; (try first | exact ⟨rfl, _, World.drewN_drewN _ _ _⟩ | exact ⟨rfl, _, Eq.trans (World.drewN_drewN _ _ _) (congrArg (World.drewN _) (Nat.add_assoc _ _ _))⟩))); try go_wp2_with (first | (go_at_call 19; (with_reducible refine (decay_steps.calls (wrap64 (Int.tdiv (wrap64 ((Int.tmod a0 a1) * 16)) a1)) t101 _ A8.out).mono ?_); rintro e w' ⟨rfl, ⟨nd, rfl⟩⟩; (try first | exact ⟨rfl, _, World.drewN_drewN _ _ _⟩ | exact ⟨rfl, _, Eq.trans (World.drewN_drewN _ _ _) (congrArg (World.drewN _) (Nat.add_assoc _ _ _))⟩))))
            go_ret3
            exact ⟨by first | rfl | (simp; done) | (simp [*]; done), by repeat (first | exact Drawn0.refl _ | apply Drawn0.step)⟩

/-! ### gangerref02_step: function 20 -/
def gangerref02_step.f (a0 : Int) : Option (Int) := (some (([65536, 62757, 60097, 57549, 55109, 52773, 50535, 48393, 46341, 44376, 42495, 40693, 38968, 37316, 35734, 34219] : List Int) : List Int)).bind fun y102 => (if 0 ≤ a0 then (if a0 < (y102.length : Int) then (some (rd y102 a0)) else (none)) else (none))
set_option maxHeartbeats 8000000 in
set_option maxRecDepth 100000 in
theorem gangerref02_step.calls (a0 : Int) (r : Int) (w : World) (h : gangerref02_step.f a0 = some r) :
    Calls Try.prog 20 #[.int .i64 a0] w fun e w' => e = .returned (.int .i64 r) ∧ Below w.heap.size w w' := by
  have HB := Aside0.mk (Below.refl w.heap.size w)
  have H : ((some (([65536, 62757, 60097, 57549, 55109, 52773, 50535, 48393, 46341, 44376, 42495, 40693, 38968, 37316, 35734, 34219] : List Int) : List Int)).bind fun y102 => (if 0 ≤ a0 then (if a0 < (y102.length : Int) then (some (rd y102 a0)) else (none)) else (none))) = some r := h
  clear h
  obtain ⟨y102, hy102⟩ : ∃ y_ : List Int, y_ = (([65536, 62757, 60097, 57549, 55109, 52773, 50535, 48393, 46341, 44376, 42495, 40693, 38968, 37316, 35734, 34219] : List Int)) := ⟨_, rfl⟩
  replace H : (if 0 ≤ a0 then (if a0 < (y102.length : Int) then (some (rd y102 a0)) else (none)) else (none)) = some r := by first | (rw [hy102]; with_reducible exact H) | (have H2_ := (Option.bind_some _ _).symm.trans H; rw [hy102]; with_reducible exact H2_) | (have H2_ := (Option.bind_some _ _).symm.trans H; with_reducible exact H2_) | with_reducible exact H | (rw [hy102]; exact H) | exact H
  have Ny102 := Aside0.mk hy102
  clear hy102
  by_cases c2 : 0 ≤ a0
  · rw [if_pos c2] at H
    have c2b0 : decide (0 ≤ a0) = true := decide_eq_true c2
    clear c2
    by_cases c3 : a0 < (y102.length : Int)
    · rw [if_pos c3] at H
      have c3b0 : decide (a0 < (y102.length : Int)) = true := decide_eq_true c3
      clear c3
      obtain rfl := Option.some.inj H
      go_enter Try.func20, Try.ntmps20
      go_wp2_with (first | ((with_reducible refine gate_dst (N := 4) rfl ?_); refine Kd.R_lit (Kd.int .i64) _ 3 ?hg (N := 4) ?hd (xs := ([65536, 62757, 60097, 57549, 55109, 52773, 50535, 48393, 46341, 44376, 42495, 40693, 38968, 37316, 35734, 34219] : List Int)) (inner := [.int .i64 65536, .int .i64 62757, .int .i64 60097, .int .i64 57549, .int .i64 55109, .int .i64 52773, .int .i64 50535, .int .i64 48393, .int .i64 46341, .int .i64 44376, .int .i64 42495, .int .i64 40693, .int .i64 38968, .int .i64 37316, .int .i64 35734, .int .i64 34219]) (ok := fun _ => True) (okp := fun _ => True) ?hr ?hp (fun _ hk => hk) trivial (Below.refl _ _) (Nat.le_refl _) (by simp) ?_; (case hd => rfl); (case hg => rfl); (case hr => first | (go_simp; done) | (go_simp; rfl)); (case hp => exact (Reps.one (show Kd.M (Kd.int .i64) _ _ _ 65536 [.int .i64 65536] from rfl) (Reps.one (show Kd.M (Kd.int .i64) _ _ _ 62757 [.int .i64 62757] from rfl) (Reps.one (show Kd.M (Kd.int .i64) _ _ _ 60097 [.int .i64 60097] from rfl) (Reps.one (show Kd.M (Kd.int .i64) _ _ _ 57549 [.int .i64 57549] from rfl) (Reps.one (show Kd.M (Kd.int .i64) _ _ _ 55109 [.int .i64 55109] from rfl) (Reps.one (show Kd.M (Kd.int .i64) _ _ _ 52773 [.int .i64 52773] from rfl) (Reps.one (show Kd.M (Kd.int .i64) _ _ _ 50535 [.int .i64 50535] from rfl) (Reps.one (show Kd.M (Kd.int .i64) _ _ _ 48393 [.int .i64 48393] from rfl) (Reps.one (show Kd.M (Kd.int .i64) _ _ _ 46341 [.int .i64 46341] from rfl) (Reps.one (show Kd.M (Kd.int .i64) _ _ _ 44376 [.int .i64 44376] from rfl) (Reps.one (show Kd.M (Kd.int .i64) _ _ _ 42495 [.int .i64 42495] from rfl) (Reps.one (show Kd.M (Kd.int .i64) _ _ _ 40693 [.int .i64 40693] from rfl) (Reps.one (show Kd.M (Kd.int .i64) _ _ _ 38968 [.int .i64 38968] from rfl) (Reps.one (show Kd.M (Kd.int .i64) _ _ _ 37316 [.int .i64 37316] from rfl) (Reps.one (show Kd.M (Kd.int .i64) _ _ _ 35734 [.int .i64 35734] from rfl) (Reps.one (show Kd.M (Kd.int .i64) _ _ _ 34219 [.int .i64 34219] from rfl) (Reps.none _ _)))))))))))))))))); intro v103 w4 ho5 hb hg_ hnew_; clear hg_ hnew_; (first | rw [← Ny102.out] at ho5 | (simp only [Int.reduceToNat] at ho5; rw [← Ny102.out] at ho5)); have n0_ := Aside0.mk (Kd.R_lower ho5 (below_size (by repeat (first | (with_reducible first | exact HB.out | apply below_alloc | apply pw_below_drewN | apply below_drew1) | exact HB.out)))); have n1_ := Aside0.mk (below_step (by repeat (first | (with_reducible first | exact HB.out | apply below_alloc | apply pw_below_drewN | apply below_drew1) | exact HB.out)) hb); clear HB; have HO104 := n0_; have HB := n1_; clear n0_ n1_; clear hb ho5; obtain ⟨Ao6, co6, eo6⟩ := Kd.R_slice HO104.out; subst eo6; have p105 : 0 ≤ (a0 : Int) := of_decide_eq_true (by first | (with_reducible assumption) | assumption); have q105 : a0 < (y102.length : Int) := of_decide_eq_true (by first | (with_reducible assumption) | assumption); obtain ⟨ad105, e105, hx105_0⟩ := Kd.at_int (Kd.R_reads' HO104.out).2.2 a0 p105 q105; cases e105; replace p105 := eq_true p105; replace q105 := eq_true q105))
      go_ret
      exact ⟨by first | rfl | (simp [errW_none, errW_some] <;> rfl) | (simp [*, errW_none, errW_some] <;> rfl), by repeat (first | (with_reducible first | exact HB.out | apply below_alloc | apply pw_below_drewN | apply below_drew1) | exact HB.out)⟩
    · rw [if_neg c3] at H
      exact absurd H (by simp)
  · rw [if_neg c2] at H
    exact absurd H (by simp)

/-! ### gangerref02_Factor: function 11 -/
mutual
def gangerref02_Factor.j0 : Nat → Int → Int → Bool → Option (Int × Int × Int)
  | 0, _, _, _ => none
  | k + 1, x0, x1, x23 => if x23 = true then (some (0, 0, 2)) else (if x1 = 0 then (none) else (gangerref02_Factor.l0 k x1 (wrap64 (Int.tdiv x0 x1)) (wrap64 ((wrap64 (x0 - (wrap64 ((wrap64 (Int.tdiv x0 x1)) * x1)))) * 16)) 0))
def gangerref02_Factor.l0 : Nat → Int → Int → Int → Int → Option (Int × Int × Int)
  | 0, _, _, _, _ => none
  | k + 1, x1, x7, x8, x9 => if (wrap64 ((wrap64 (x9 + 1)) * x1)) ≤ x8 then (gangerref02_Factor.l0 k x1 x7 x8 (wrap64 (x9 + 1))) else ((gangerref02_step.f x9).bind fun t106 => (some (x7, t106, 0)))
end
def gangerref02_Factor.f (k : Nat) (a0 : Int) (a1 : Int) : Option (Int × Int × Int) := if a0 < 0 then (gangerref02_Factor.j0 k a0 a1 true) else (if a0 > 1099511627776 then (gangerref02_Factor.j0 k a0 a1 true) else (if a1 < 1 then (gangerref02_Factor.j0 k a0 a1 true) else (gangerref02_Factor.j0 k a0 a1 (decide (a1 > 1099511627776)))))
theorem gangerref02_Factor.mono_l : ∀ k, (∀ y0 y1 y2, LeO (gangerref02_Factor.j0 k y0 y1 y2) (gangerref02_Factor.j0 (k + 1) y0 y1 y2)) ∧ (∀ y0 y1 y2 y3, LeO (gangerref02_Factor.l0 k y0 y1 y2 y3) (gangerref02_Factor.l0 (k + 1) y0 y1 y2 y3))
  | 0 => ⟨fun _ _ _ r h => by simp [gangerref02_Factor.j0] at h, fun _ _ _ _ r h => by simp [gangerref02_Factor.l0] at h⟩
  | k + 1 => by
    obtain ⟨ih0, ih1⟩ := gangerref02_Factor.mono_l k
    refine ⟨?_, ?_⟩
    · intro y0 y1 y2
      unfold gangerref02_Factor.j0
      repeat' first
      | (with_reducible exact ih0 _ _ _)
      | (with_reducible exact ih1 _ _ _ _)
      | (with_reducible exact LeO.refl _)
      | (with_reducible exact LeO.none _)
      | (with_reducible refine LeO.ite ?_ ?_)
      | (with_reducible refine LeO.bind ?_ (fun _ => ?_))
      | exact ih0 _ _ _
      | exact ih1 _ _ _ _
      | exact LeO.none _
      | refine LeO.ite ?_ ?_
      | refine LeO.bind ?_ (fun _ => ?_)
    · intro y0 y1 y2 y3
      unfold gangerref02_Factor.l0
      repeat' first
      | (with_reducible exact ih0 _ _ _)
      | (with_reducible exact ih1 _ _ _ _)
      | (with_reducible exact LeO.refl _)
      | (with_reducible exact LeO.none _)
      | (with_reducible refine LeO.ite ?_ ?_)
      | (with_reducible refine LeO.bind ?_ (fun _ => ?_))
      | exact ih0 _ _ _
      | exact ih1 _ _ _ _
      | exact LeO.none _
      | refine LeO.ite ?_ ?_
      | refine LeO.bind ?_ (fun _ => ?_)
theorem gangerref02_Factor.mono : ∀ a0 a1 k, LeO (gangerref02_Factor.f k a0 a1) (gangerref02_Factor.f (k + 1) a0 a1) := by
  intro a0 a1 k
  obtain ⟨ih0, ih1⟩ := gangerref02_Factor.mono_l k
  unfold gangerref02_Factor.f
  repeat' first
      | (with_reducible exact ih0 _ _ _)
      | (with_reducible exact ih1 _ _ _ _)
      | (with_reducible exact LeO.refl _)
      | (with_reducible exact LeO.none _)
      | (with_reducible refine LeO.ite ?_ ?_)
      | (with_reducible refine LeO.bind ?_ (fun _ => ?_))
      | exact ih0 _ _ _
      | exact ih1 _ _ _ _
      | exact LeO.none _
      | refine LeO.ite ?_ ?_
      | refine LeO.bind ?_ (fun _ => ?_)
set_option maxHeartbeats 8000000 in
set_option maxRecDepth 100000 in
theorem gangerref02_Factor.calls (k : Nat) (a0 : Int) (a1 : Int) (r1 : Int) (r2 : Int) (r3 : Int) (w : World) (h : gangerref02_Factor.f k a0 a1 = some (r1, r2, r3)) :
    Calls Try.prog 11 #[.int .i64 a0, .int .i64 a1] w fun e w' => e = .returned (.tuple #[.int .i64 r1, .int .i64 r2, .int .i64 r3]) ∧ Below w.heap.size w w' := by
  have HB := Aside0.mk (Below.refl w.heap.size w)
  have H : (if a0 < 0 then (gangerref02_Factor.j0 k a0 a1 true) else (if a0 > 1099511627776 then (gangerref02_Factor.j0 k a0 a1 true) else (if a1 < 1 then (gangerref02_Factor.j0 k a0 a1 true) else (gangerref02_Factor.j0 k a0 a1 (decide (a1 > 1099511627776)))))) = some (r1, r2, r3) := h
  clear h
  have HC3 := Aside0.mk H
  clear H
  go_enter Try.func11, Try.ntmps11
  go_upto_region 1 with (fail)
  go_cut [23] (fun v23 wc => ∃ (kq : Nat) (x23_2 : Bool), v23 = .bool x23_2 ∧ Aside0 (gangerref02_Factor.j0 kq a0 a1 x23_2 = some (r1, r2, r3)) ∧ Aside0 (kq ≤ k) ∧ Aside0 (Below w.heap.size w wc))
  case first =>
    have H := HC3.out
    clear HC3
    by_cases c4 : a0 < 0
    · rw [if_pos c4] at H
      have c4b0 : decide (a0 < 0) = true := decide_eq_true c4
      clear c4
      (first | rw [c4b0] | (simp only [i64_w, i32_w]; rw [c4b0]) | skip)
      have H' := Aside0.mk H
      clear H
      go_wp2
      go_meet
      case rel => exact ⟨_, (true), (by first | rfl | (simp; done) | (simp [*]; done)), H', ⟨by first | omega | exact Nat.le_refl _⟩, ⟨by repeat (first | (with_reducible first | exact HB.out | apply below_alloc | apply pw_below_drewN | apply below_drew1) | exact HB.out)⟩⟩
    · rw [if_neg c4] at H
      have c4b0 : decide (a0 < 0) = false := decide_eq_false c4
      clear c4
      (first | rw [c4b0] | (simp only [i64_w, i32_w]; rw [c4b0]) | skip)
      by_cases c5 : a0 > 1099511627776
      · rw [if_pos c5] at H
        have c5b0 : decide (1099511627776 < a0) = true := decide_eq_true c5
        clear c5
        have H' := Aside0.mk H
        clear H
        go_wp2
        go_meet
        case rel => exact ⟨_, (true), (by first | rfl | (simp; done) | (simp [*]; done)), H', ⟨by first | omega | exact Nat.le_refl _⟩, ⟨by repeat (first | (with_reducible first | exact HB.out | apply below_alloc | apply pw_below_drewN | apply below_drew1) | exact HB.out)⟩⟩
      · rw [if_neg c5] at H
        have c5b0 : decide (1099511627776 < a0) = false := decide_eq_false c5
        clear c5
        by_cases c6 : a1 < 1
        · rw [if_pos c6] at H
          have c6b0 : decide (a1 < 1) = true := decide_eq_true c6
          clear c6
          have H' := Aside0.mk H
          clear H
          go_wp2
          go_meet
          case rel => exact ⟨_, (true), (by first | rfl | (simp; done) | (simp [*]; done)), H', ⟨by first | omega | exact Nat.le_refl _⟩, ⟨by repeat (first | (with_reducible first | exact HB.out | apply below_alloc | apply pw_below_drewN | apply below_drew1) | exact HB.out)⟩⟩
        · rw [if_neg c6] at H
          have c6b0 : decide (a1 < 1) = false := decide_eq_false c6
          clear c6
          have H' := Aside0.mk H
          clear H
          go_wp2
          go_meet
          case rel => exact ⟨_, (decide (a1 > 1099511627776)), (by first | rfl | (simp; done) | (simp [*]; done)), H', ⟨by first | omega | exact Nat.le_refl _⟩, ⟨by repeat (first | (with_reducible first | exact HB.out | apply below_alloc | apply pw_below_drewN | apply below_drew1) | exact HB.out)⟩⟩
  case rest =>
    clear HC3
    try clear c1
    try clear p2
    try clear c4
    try clear c4b0
    try clear c5
    try clear c5b0
    try clear c6
    try clear c6b0
    obtain ⟨kq, x23_2, rfl, HA, HJ2, HB⟩ := hcut
    cases kq with
    | zero => exact absurd HA.out (by simp [gangerref02_Factor.j0])
    | succ kj2 =>
      have H := HA.out
      clear HA
      simp only [gangerref02_Factor.j0] at H
      by_cases c7 : x23_2 = true
      · subst c7
        have H1 : (some (0, 0, 2)) = some (r1, r2, r3) := by rw [if_pos rfl] at H; exact H
        clear H
        have H := H1
        clear H1
        simp only [Option.some.injEq, Prod.mk.injEq] at H
        obtain ⟨rfl, rfl, rfl⟩ := H
        go_wp2
        go_ret3
        exact ⟨by first | rfl | (simp [errW_none, errW_some] <;> rfl) | (simp [*, errW_none, errW_some] <;> rfl), by repeat (first | (with_reducible first | exact HB.out | apply below_alloc | apply pw_below_drewN | apply below_drew1) | exact HB.out)⟩
      · replace c7 := Bool.eq_false_iff.mpr c7
        subst c7
        have H1 : (if a1 = 0 then (none) else (gangerref02_Factor.l0 kj2 a1 (wrap64 (Int.tdiv a0 a1)) (wrap64 ((wrap64 (a0 - (wrap64 ((wrap64 (Int.tdiv a0 a1)) * a1)))) * 16)) 0)) = some (r1, r2, r3) := by rw [if_neg (show ¬ (false = true) by decide)] at H; exact H
        clear H
        have H := H1
        clear H1
        by_cases c8 : a1 = 0
        · rw [if_pos c8] at H
          exact absurd H (by simp)
        · rw [if_neg c8] at H
          have c8b0 : (a1 == 0) = false := beq_eq_false_iff_ne.mpr c8
          have c8b1 : (a1 != 0) = true := bne_iff_ne.mpr c8
          have H' := Aside0.mk H
          clear H
          go_wp2
          go_loopg [9] kj2 (fun kq v9 w' => ∃ (x9_2 : Int), v9 = .int .i64 x9_2 ∧ Aside0 (gangerref02_Factor.l0 kq a1 (wrap64 (Int.tdiv a0 a1)) (wrap64 ((wrap64 (a0 - (wrap64 ((wrap64 (Int.tdiv a0 a1)) * a1)))) * 16)) x9_2 = some (r1, r2, r3)) ∧ Aside0 (kq ≤ kj2) ∧ Aside0 (Below w.heap.size w w'))
          case atStart => exact ⟨(0), (by first | rfl | (simp; done) | (simp [*]; done)), H', ⟨Nat.le_refl _⟩, ⟨by repeat (first | (with_reducible first | exact HB.out | apply below_alloc | apply pw_below_drewN | apply below_drew1) | exact HB.out)⟩⟩
          case round =>
            clear H'
            try clear c1
            try clear p2
            try clear c4
            try clear c4b0
            try clear c5
            try clear c5b0
            try clear c6
            try clear c6b0
            try clear p6
            try clear c7
            try clear c8
            try clear c8b0
            try clear c8b1
            try clear p2
            obtain ⟨x9_2, rfl, HA, HK2, HB⟩ := hrel
            cases gk with
            | zero => exact absurd HA.out (by simp [gangerref02_Factor.l0])
            | succ k2 =>
              have H := HA.out
              clear HA
              simp only [gangerref02_Factor.l0] at H
              by_cases c9 : (wrap64 ((wrap64 (x9_2 + 1)) * a1)) ≤ (wrap64 ((wrap64 (a0 - (wrap64 ((wrap64 (Int.tdiv a0 a1)) * a1)))) * 16))
              · rw [if_pos c9] at H
                have c9b0 : decide ((wrap64 ((wrap64 (x9_2 + 1)) * a1)) ≤ (wrap64 ((wrap64 (a0 - (wrap64 ((wrap64 (Int.tdiv a0 a1)) * a1)))) * 16))) = true := decide_eq_true c9
                clear c9
                have H' := Aside0.mk H
                clear H
                go_wp2
                go_roundg k2
                case measure => have := HJ2.out; have := HK2.out; omega
                case rel => exact ⟨(wrap64 (x9_2 + 1)), (by first | rfl | (simp; done) | (simp [*]; done)), H', ⟨by have := HJ2.out; have := HK2.out; omega⟩, ⟨by repeat (first | (with_reducible first | exact HB.out | apply below_alloc | apply pw_below_drewN | apply below_drew1) | exact HB.out)⟩⟩
              · rw [if_neg c9] at H
                have c9b0 : decide ((wrap64 ((wrap64 (x9_2 + 1)) * a1)) ≤ (wrap64 ((wrap64 (a0 - (wrap64 ((wrap64 (Int.tdiv a0 a1)) * a1)))) * 16))) = false := decide_eq_false c9
                clear c9
                replace H := Option.bind_eq_some_iff.mp H
                obtain ⟨t106, A100, H⟩ := H
                replace H : (some ((wrap64 (Int.tdiv a0 a1)), t106, 0)) = some (r1, r2, r3) := H
                have A10 := Aside0.mk A100
                clear A100
                simp only [Option.some.injEq, Prod.mk.injEq] at H
                obtain ⟨rfl, rfl, rfl⟩ := H
                go_wp2_with (first | ((with_reducible refine gate_callee (f := 20) rfl ?_); refine goesL_ (some 43) rfl rfl Try.func20 (by kernel_rfl) rfl #[.int .i64 x9_2] rfl (by (try simp only [List.map_toArray, List.map_cons, List.map_nil]); first | done | rfl | (simp only [List.length_drop, List.length_take]; rfl)) ?_; (with_reducible refine (gangerref02_step.calls x9_2 t106 _ A10.out).mono ?_); rintro e w11 ⟨rfl, hb⟩; refine ⟨_, rfl, ?_⟩; have n0_ := Aside0.mk (below_step (by repeat (first | (with_reducible first | exact HB.out | apply below_alloc | apply pw_below_drewN | apply below_drew1) | exact HB.out)) hb); clear HB; have HB := n0_; clear n0_; (try clear hb); (try clear hb2); (try clear hk); (try clear hi)))
                go_ret3
                exact ⟨by first | rfl | (simp [errW_none, errW_some] <;> rfl) | (simp [*, errW_none, errW_some] <;> rfl), by repeat (first | (with_reducible first | exact HB.out | apply below_alloc | apply pw_below_drewN | apply below_drew1) | exact HB.out)⟩

/-! ### bits_Mul64: function 27 -/
def bits_Mul64.f (a0 : Int) (a1 : Int) : Option (Int × Int) := if 0 ≤ a0 then (if a0 < 18446744073709551616 then (if 0 ≤ a1 then (if a1 < 18446744073709551616 then some (a0 * a1 / 18446744073709551616, a0 * a1 % 18446744073709551616) else none) else none) else none) else none
theorem bits_Mul64.calls (a0 : Int) (a1 : Int) (r1 : Int) (r2 : Int) (w : World) (h : bits_Mul64.f a0 a1 = some (r1, r2)) :
    Calls Try.prog 27 #[.int .u64 a0, .int .u64 a1] w fun e w' => e = .returned (.tuple #[.int .u64 r1, .int .u64 r2]) ∧ Drawn0 w w' := by
  unfold bits_Mul64.f at h
  by_cases h0 : 0 ≤ a0
  · rw [if_pos h0] at h
    by_cases h1 : a0 < 18446744073709551616
    · rw [if_pos h1] at h
      by_cases h2 : 0 ≤ a1
      · rw [if_pos h2] at h
        by_cases h3 : a1 < 18446744073709551616
        · rw [if_pos h3] at h
          obtain ⟨x, rfl⟩ : ∃ x : Nat, a0 = x := ⟨a0.toNat, by omega⟩
          obtain ⟨y, rfl⟩ : ∃ y : Nat, a1 = y := ⟨a1.toNat, by omega⟩
          simp only [Option.some.injEq, Prod.mk.injEq] at h
          obtain ⟨rfl, rfl⟩ := h
          refine (Try.bits_Mul64 x y (by omega) (by omega) w).mono ?_
          rintro e w' ⟨rfl, rfl⟩
          refine ⟨?_, Drawn0.refl _⟩
          rw [Int.natCast_ediv, Int.natCast_emod, Int.natCast_mul]
          rfl
        · rw [if_neg h3] at h; cases h
      · rw [if_neg h2] at h; cases h
    · rw [if_neg h1] at h; cases h
  · rw [if_neg h0] at h; cases h

/-! ### bits_Len64: function 38 -/
def bits_Len64.f (a0 : Int) : Option (Int) := if 0 ≤ a0 then (if a0 ≤ 18446744073709551615 then some ((Lib.bitLen a0.toNat : Nat) : Int) else none) else none
theorem bits_Len64.calls (a0 : Int) (r : Int) (w : World) (h : bits_Len64.f a0 = some r) :
    Calls Try.prog 38 #[.int .u64 a0] w fun e w' => e = .returned (.int .i64 r) ∧ Drawn0 w w' := by
  unfold bits_Len64.f at h
  by_cases h0 : 0 ≤ a0
  · rw [if_pos h0] at h
    by_cases h1 : a0 ≤ 18446744073709551615
    · rw [if_pos h1] at h
      injection h with h
      subst h
      refine (Try.bits_Len64 a0 w h0 h1).mono ?_
      rintro e w' ⟨rfl, rfl⟩
      exact ⟨rfl, Drawn0.refl _⟩
    · rw [if_neg h1] at h; cases h
  · rw [if_neg h0] at h; cases h

/-! ### bits_LeadingZeros64: function 37 -/
def bits_LeadingZeros64.f (a0 : Int) : Option (Int) := (bits_Len64.f a0).bind fun t107 => (some (wrap64 (64 - t107)))
set_option maxHeartbeats 8000000 in
set_option maxRecDepth 100000 in
theorem bits_LeadingZeros64.calls (a0 : Int) (r : Int) (w : World) (h : bits_LeadingZeros64.f a0 = some r) :
    Calls Try.prog 37 #[.int .u64 a0] w fun e w' => e = .returned (.int .i64 r) ∧ Drawn0 w w' := by
  have H : ((bits_Len64.f a0).bind fun t107 => (some (wrap64 (64 - t107)))) = some r := h
  clear h
  replace H := Option.bind_eq_some_iff.mp H
  obtain ⟨t107, A20, H⟩ := H
  replace H : (some (wrap64 (64 - t107))) = some r := H
  have A2 := Aside0.mk A20
  clear A20
  obtain rfl := Option.some.inj H
  go_enter Try.func37, Try.ntmps37
  go_wp2_with (first | ((with_reducible refine gate_callee (f := 38) rfl ?_); refine goesL_ (some 4) rfl rfl Try.func38 (by kernel_rfl) rfl #[.int .u64 a0] rfl (by (try simp only [List.map_toArray, List.map_cons, List.map_nil]); first | done | rfl | (simp only [List.length_drop, List.length_take]; rfl)) ?_; (with_reducible refine (bits_Len64.calls a0 t107 _ A2.out).mono ?_); rintro e w' ⟨rfl, ⟨nd, rfl⟩⟩; refine ⟨_, rfl, ?_⟩))
  go_ret
  exact ⟨by first | rfl | (simp; done) | (simp [*]; done), by repeat (first | exact Drawn0.refl _ | apply Drawn0.step)⟩

end Go.Proofs.Ytaagimadfhcflaa.P
