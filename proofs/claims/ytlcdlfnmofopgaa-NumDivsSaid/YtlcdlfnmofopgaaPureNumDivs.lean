/- NumDivs: of any two numbers the quotient times the divisor, and what is left, are the number. Conditions: none beyond an int's range. -/
import Derived.Test.YtlcdlfnmofopgaaNumCore
import Derived.Test.YtlcdlfnmofopgaaP0
import Derived.Test.YtlcdlfnmofopgaaP1
import Derived.Test.YtlcdlfnmofopgaaP3
import Derived.Test.YtlcdlfnmofopgaaP4
namespace Go.Proofs.Ytlcdlfnmofopgaa.Pure
open Go.RowKit Go.Proofs.YtlcdlfnmofopgaaW.PrintWords Go.Proofs.YtlcdlfnmofopgaaW.PrintLast Go.Proofs.YtlcdlfnmofopgaaW.PrintMore Go.Proofs.Ytlcdlfnmofopgaa.P Go.Proofs.Ytlcdlfnmofopgaa.NumM
set_option linter.unusedVariables false

theorem div_at (a b : Int) (ha : fits a) (hb : fits b) (k : Nat) (h0 : b ≠ 0) (h1 : ¬ (a = -9223372036854775808 ∧ b = -1)) :
    ∃ Q R, num_Div.f (k + 1 + 1) a b = some (Q, R, 0) ∧ b * Q + R = a ∧ 0 ≤ R ∧ R < b.natAbs ∧ fits Q := by
  have hj : num_Div.f (k + 1 + 1) a b = num_Div.j0 (k + 1 + 1) a b := by
    unfold num_Div.f
    rw [if_neg h0]
    by_cases c : a = -9223372036854775808
    · rw [if_pos c, if_neg (fun d => h1 ⟨c, d⟩)]
    · rw [if_neg c]
  rw [hj]
  simp only [num_Div.j0, num_Div.j1]
  rw [if_neg h0]
  have e2 := Int.mul_tdiv_add_tmod a b
  have hq := Int.natAbs_tdiv a b
  have hr : (Int.tmod a b).natAbs = a.natAbs % b.natAbs := Int.natAbs_tmod a b
  have hr1 : (Int.tmod a b).natAbs < b.natAbs := by rw [hr]; exact Nat.mod_lt _ (by omega)
  have hq1 : (Int.tdiv a b).natAbs ≤ a.natAbs := by
    rw [show (Int.tdiv a b).natAbs = a.natAbs / b.natAbs from hq]; exact Nat.div_le_self _ _
  have hq2 : 2 ≤ b.natAbs → (Int.tdiv a b).natAbs ≤ a.natAbs / 2 := by
    intro hb2
    rw [show (Int.tdiv a b).natAbs = a.natAbs / b.natAbs from hq]; exact Nat.div_le_div_left hb2 (by omega)
  generalize hQ : Int.tdiv a b = q at *
  generalize hR : Int.tmod a b = r at *
  clear hQ hR hr hq
  unfold fits at *
  have hone : b.natAbs = 1 → r = 0 := by omega
  have hqr : -9223372036854775808 ≤ q ∧ q ≤ 9223372036854775807 := by
    by_cases c : 2 ≤ b.natAbs
    · have := hq2 c; omega
    · have hr0 := hone (by omega)
      rcases (show b = 1 ∨ b = -1 by omega) with rfl | rfl
      · omega
      · omega
  rw [w64 hqr]
  by_cases c : r < 0
  · have hb2 : 2 ≤ b.natAbs := by
      by_cases d : 2 ≤ b.natAbs
      · exact d
      · have := hone (by omega); omega
    have hq3 := hq2 hb2
    rw [if_pos c]
    by_cases d : b > 0
    · rw [if_pos (by simpa using d), w64 (by omega), w64 (by omega)]
      exact ⟨_, _, rfl, by rw [Int.mul_sub]; omega, by omega, by omega, by omega⟩
    · rw [if_neg (by simpa using d), if_pos c, w64 (by omega), w64 (by omega)]
      exact ⟨_, _, rfl, by rw [Int.mul_add]; omega, by omega, by omega, by omega⟩
  · rw [if_neg c, if_neg (by simp), if_neg c]
    exact ⟨_, _, rfl, e2, by omega, by omega, hqr⟩
theorem div_no (a : Int) (k : Nat) : num_Div.f k a 0 = some (0, 0, 2) := by unfold num_Div.f; rw [if_pos rfl]
theorem div_end (k : Nat) : num_Div.f k (-9223372036854775808) (-1) = some (0, 0, 10) := by unfold num_Div.f; rw [if_neg (by decide), if_pos rfl, if_pos rfl]
theorem hk : Ev (fun n => (gangerlaw01_known.f n).bind fun t => some t) true := Ev.bind known_ev (Ev.now _)
theorem divs_end : Ev (fun n => gangerlaw01_NumDivs.j0 n (-9223372036854775808) (-1) 0 0 10 true) true := by
  refine Ev.step (fun k => by rw [gangerlaw01_NumDivs.j0]) ?_
  simp only [if_true]
  exact hk
theorem divs_go (a b Q R : Int) (ha : fits a) (hb : fits b) (h0 : b ≠ 0) (e : b * Q + R = a) (hR0 : 0 ≤ R) (hR1 : R < b.natAbs) (hQ : fits Q) :
    Ev (fun n => gangerlaw01_NumDivs.j0 n a b Q R 0 false) true := by
  refine Ev.step (fun k => by rw [gangerlaw01_NumDivs.j0]) ?_
  have hR : fits R := by unfold fits at *; omega
  have hk := hk
  simp only [Bool.false_eq_true, if_false, if_true, of_f _ hQ, of_f _ hb, of_f _ hR, Option.bind_some]
  have hla : 0 ≤ (Q.natAbs : Int) ∧ (Q.natAbs : Int) < 18446744073709551616 := by unfold fits at hQ; omega
  have hlb : 0 ≤ (b.natAbs : Int) ∧ (b.natAbs : Int) < 18446744073709551616 := by unfold fits at hb; omega
  refine Ev.bind (product_ev _ _ _ _ _ _ hla hlb) ?_
  have h1 := prod_nn Q b
  have h2 : (Q.natAbs : Int) * b.natAbs / 18446744073709551616 < 9223372036854775808 := by
    have : (Q.natAbs : Int) * b.natAbs ≤ 9223372036854775808 * 9223372036854775808 := Int.mul_le_mul (by unfold fits at hQ; omega) (by unfold fits at hb; omega) hlb.1 (by omega)
    omega
  obtain ⟨m, h, l, ep, p0, p1, l0, l1, hs⟩ := Plus_f (decide (Q < 0) != decide (b < 0)) (decide (R < 0)) ((Q.natAbs : Int) * b.natAbs / 18446744073709551616) ((Q.natAbs : Int) * b.natAbs % 18446744073709551616) 0 R.natAbs (by omega) (by omega) (by omega) (by unfold fits at hR; omega)
  rw [sv_product, sv_of, show Q * b + R = a by rw [Int.mul_comm]; exact e] at hs
  simp only [ep, Option.bind_some]
  have hn := narrow_ev m h l p0 l0 l1
  rw [hs, if_pos ha] at hn
  refine Ev.bind hn ?_
  simp only [if_true, ge_iff_le, if_pos hR0]
  unfold fits at ha hb
  by_cases c : b > 0
  · simp only [if_pos c, if_pos (show R < b by omega)]; exact hk
  · simp only [if_neg c, if_pos (show b < 0 by omega)]
    by_cases d : b = -9223372036854775808
    · simp only [if_pos d]; exact hk
    · simp only [if_neg d, w64 (show -9223372036854775808 ≤ -b ∧ -b ≤ 9223372036854775807 by omega), if_pos (show R < -b by omega)]; exact hk
theorem NumDivs : gangerlaw01_NumDivs.Pure := by
  intro a b ha hb
  have ha := wf64 ha
  have hb := wf64 hb
  apply Ev.rounds (g := fun k => gangerlaw01_NumDivs.f k a b)
  have hk := hk
  by_cases h0 : b = 0
  · subst h0
    refine Ev.congr (fun k => by rw [gangerlaw01_NumDivs.f, div_no, Option.bind_some]) ?_
    simp only [if_true]
    exact hk
  · by_cases h1 : a = -9223372036854775808 ∧ b = -1
    · obtain ⟨rfl, rfl⟩ := h1
      refine Ev.congr (fun k => by rw [gangerlaw01_NumDivs.f, div_end, Option.bind_some]) ?_
      exact divs_end
    · obtain ⟨Q, R, e0, e, r0, r1, q⟩ := div_at a b ha hb 0 h0 h1
      refine Ev.bind (Ev.of (fun k => num_Div.mono _ _ k) e0) ?_
      simp only [if_neg h0]
      by_cases c : a = -9223372036854775808
      · have d : (b == -1) = false := by simpa using fun d => h1 ⟨c, d⟩
        simp only [if_pos c, d]
        exact divs_go a b Q R ha hb h0 e r0 r1 q
      · simp only [if_neg c]
        exact divs_go a b Q R ha hb h0 e r0 r1 q

end Go.Proofs.Ytlcdlfnmofopgaa.Pure
