/- What counts later counts for no more, what is more for no less; whole half-lives: plain arithmetic on the closed form 'after'. Conditions in each statement. -/
import Derived.Test.YtaagimadfhcflaaDecayRef
import Derived.Test.YtaagimadfhcflaaP0
namespace Go.Proofs.Ytaagimadfhcflaa.NumM
open Go.RowKit Go.Proofs.YtaagimadfhcflaaW.PrintWords Go.Proofs.YtaagimadfhcflaaW.PrintLast Go.Proofs.YtaagimadfhcflaaW.PrintMore Go.Proofs.Ytaagimadfhcflaa.P
set_option linter.unusedVariables false
theorem pow_split (e e' : Nat) (h : e < e') : (2 : Int) ^ e' = 2 ^ e * (2 * 2 ^ (e' - e - 1)) := by
  rw [← Int.pow_succ', ← Int.pow_add, show e + (e' - e - 1 + 1) = e' by omega]
theorem after_mono_n {n m t h : Int} (hb : ¬ bad t h) (hn : 0 ≤ n) (hnm : n ≤ m) : after n t h ≤ after m t h := by
  unfold after
  have ht := tab_bd (step_bd hb)
  have h1 : n / 2 ^ (mn (t / h) 63).toNat ≤ m / 2 ^ (mn (t / h) 63).toNat := Int.ediv_le_ediv (pow_pos _) hnm
  have h2 := Int.mul_le_mul_of_nonneg_right h1 (show 0 ≤ tab (step t h) by omega)
  omega
theorem after_mono_t {n t t' h : Int} (hb : ¬ bad t h) (hb' : ¬ bad t' h) (hn : 0 ≤ n ∧ n ≤ 9223372036854775807) (htt : t ≤ t') : after n t' h ≤ after n t h := by
  have hq : 0 ≤ t / h := by unfold bad at hb; exact Int.ediv_nonneg (by omega) (by omega)
  have hq' : 0 ≤ t' / h := by unfold bad at hb'; exact Int.ediv_nonneg (by omega) (by omega)
  have hh : 0 < h := by unfold bad at hb; omega
  have hle : t / h ≤ t' / h := Int.ediv_le_ediv hh htt
  unfold after
  rw [after_cap hn hq, after_cap hn hq']
  have ht := tab_bd (step_bd hb)
  have ht' := tab_bd (step_bd hb')
  by_cases e : t / h = t' / h
  · rw [e]
    have hi : step t h ≤ step t' h := by
      unfold step
      have e1 := Int.mul_ediv_add_emod t h
      have e2 := Int.mul_ediv_add_emod t' h
      rw [e] at e1
      exact Int.ediv_le_ediv hh (by omega)
    have hm := tab_mono (step_bd hb).1 hi (step_bd hb').2
    have hN : 0 ≤ n / 2 ^ (t' / h).toNat := Int.ediv_nonneg hn.1 (Int.le_of_lt (pow_pos _))
    have h2 := Int.mul_le_mul_of_nonneg_left hm hN
    omega
  · have hlt : (t / h).toNat < (t' / h).toNat := by omega
    have hN : 0 ≤ n / 2 ^ (t / h).toNat := Int.ediv_nonneg hn.1 (Int.le_of_lt (pow_pos _))
    have hN' : 0 ≤ n / 2 ^ (t' / h).toNat := Int.ediv_nonneg hn.1 (Int.le_of_lt (pow_pos _))
    have hhalf : n / 2 ^ (t' / h).toNat ≤ n / 2 ^ (t / h).toNat / 2 := by
      rw [pow_split _ _ hlt, ← Int.ediv_ediv_of_nonneg (Int.le_of_lt (pow_pos _)), ← Int.ediv_ediv_of_nonneg (by omega)]
      exact Int.ediv_le_self _ (by omega)
    generalize n / 2 ^ (t / h).toNat = N at *
    generalize n / 2 ^ (t' / h).toNat = N' at *
    have h1 := Int.mul_le_mul_of_nonneg_left ht.1 hN
    have h2 := Int.mul_le_mul_of_nonneg_left ht'.2 hN'
    omega
/-- whole half-lives and what is left -/
theorem after_whole {n w l h : Int} (hh : 1 ≤ h) (hl : 0 ≤ l ∧ l < h) : after n (w * h + l) h = n / 2 ^ (mn w 63).toNat * tab (l * 16 / h) / 65536 := by
  unfold after step
  have e1 : (w * h + l) / h = w := by
    rw [Int.add_comm, Int.add_mul_ediv_right _ _ (by omega), Int.ediv_eq_zero_of_lt hl.1 hl.2, Int.zero_add]
  have e2 : (w * h + l) % h = l := by rw [Int.add_comm, Int.add_mul_emod_self_right, Int.emod_eq_of_lt hl.1 hl.2]
  rw [e1, e2]
theorem after_times {n w h : Int} (hh : 1 ≤ h) : after n (w * h) h = n / 2 ^ (mn w 63).toNat := by
  have := after_whole (n := n) (w := w) (l := 0) hh (by omega)
  rw [Int.add_zero, Int.zero_mul, Int.zero_ediv, tab_0] at this
  rw [this]; omega
theorem after_zero {n h : Int} (hh : 1 ≤ h) : after n 0 h = n := by
  have := after_times (n := n) (w := 0) hh
  rw [Int.zero_mul] at this
  rw [this]; unfold mn; simp
end Go.Proofs.Ytaagimadfhcflaa.NumM
