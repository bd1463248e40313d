/- NumUps: of any number the next power of two is what the reference says; it is not below the number, and half of it is. Conditions: none beyond an int's range. -/
import Derived.Test.YtlcdlfnmofopgaaNumCore
import Derived.Test.YtlcdlfnmofopgaaP0
import Derived.Test.YtlcdlfnmofopgaaP1
import Derived.Test.YtlcdlfnmofopgaaP2
import Derived.Test.YtlcdlfnmofopgaaP3
import Derived.Test.YtlcdlfnmofopgaaP8
namespace Go.Proofs.Ytlcdlfnmofopgaa.Pure
open Go.RowKit Go.Proofs.YtlcdlfnmofopgaaW.PrintWords Go.Proofs.YtlcdlfnmofopgaaW.PrintLast Go.Proofs.YtlcdlfnmofopgaaW.PrintMore Go.Proofs.Ytlcdlfnmofopgaa.P Go.Proofs.Ytlcdlfnmofopgaa.NumM
set_option linter.unusedVariables false
theorem bitLen_aux : ∀ (f x : Nat), x < 2 ^ f → x < 2 ^ Lib.bitLenAux f x ∧ (x > 0 → 2 ^ Lib.bitLenAux f x ≤ 2 * x) ∧ Lib.bitLenAux f x ≤ f := by
  intro f
  induction f with
  | zero => intro x h; simp at h; subst h; simp [Lib.bitLenAux]
  | succ f ih =>
    intro x h
    unfold Lib.bitLenAux
    by_cases c : x = 0
    · rw [if_pos c]; simp [c]
    · rw [if_neg c]
      have h2 := ih (x / 2) (by rw [Nat.pow_succ] at h; omega)
      rw [show 1 + Lib.bitLenAux f (x / 2) = Lib.bitLenAux f (x / 2) + 1 by omega, Nat.pow_succ]
      refine ⟨by omega, fun _ => ?_, by omega⟩
      by_cases z : x / 2 > 0
      · have := h2.2.1 z; omega
      · have hz : x / 2 = 0 := by omega
        rw [hz]
        have : Lib.bitLenAux f 0 = 0 := by cases f <;> simp [Lib.bitLenAux]
        rw [this]; omega
theorem bitLen_spec (x : Nat) (h : x < 2 ^ 64) : x < 2 ^ Lib.bitLen x ∧ (x > 0 → 2 ^ Lib.bitLen x ≤ 2 * x) ∧ Lib.bitLen x ≤ 64 := bitLen_aux 64 x h
theorem ref_up_l (n : Int) (hn : n ≤ 4611686018427387904) (K : Nat) (hK : K ≤ 62) (h1 : n ≤ (2 : Int) ^ K) (h2 : ∀ j, j < K → (2 : Int) ^ j < n) (d : Nat) : ∀ (j : Nat), j + d = K → ∀ k, d < k →
    gangerref01_Up.l0 k n (2 ^ j) j = some ((2 : Int) ^ K, (K : Int)) := by
  induction d with
  | zero =>
    intro j hj k hk
    obtain ⟨k, rfl⟩ : ∃ i, k = i + 1 := ⟨k - 1, by omega⟩
    obtain rfl : j = K := by omega
    simp only [gangerref01_Up.l0]
    rw [if_neg (by omega)]
  | succ d ih =>
    intro j hj k hk
    obtain ⟨k, rfl⟩ : ∃ i, k = i + 1 := ⟨k - 1, by omega⟩
    simp only [gangerref01_Up.l0]
    have := h2 j (by omega)
    have hp : (0 : Int) < 2 ^ j := Int.pow_pos (by omega)
    rw [if_pos this, w64 (x := (2 : Int) ^ j * 2) (by omega), w64 (x := (j : Int) + 1) (by omega), ← Int.pow_succ]
    exact ih (j + 1) (by omega) k (by omega)
theorem hk : Ev (fun n => (gangerlaw01_known.f n).bind fun t => some t) true := Ev.bind known_ev (Ev.now _)
theorem NumUps : gangerlaw01_NumUps.Pure := by
  intro n hn
  have hn := wf64 hn
  apply Ev.rounds (g := fun k => gangerlaw01_NumUps.f k n)
  have hk := hk
  unfold gangerlaw01_NumUps.f
  by_cases c : n < 1
  · have e1 : num_Up.f n = some (0, 0) := by unfold num_Up.f; rw [if_pos c]
    have e2 : gangerref01_Up.f 1 n = some (0, 0) := by unfold gangerref01_Up.f; simp only [gangerref01_Up.j0]; rw [if_pos c, if_pos (by trivial)]
    simp only [e1, Option.bind_some]
    refine Ev.bind (Ev.of (fun k => gangerref01_Up.mono _ k) e2) ?_
    simp only [if_neg (show ¬ n ≥ 1 by omega), if_true]
    exact hk
  · by_cases c2 : n > 4611686018427387904
    · have e1 : num_Up.f n = some (0, 0) := by unfold num_Up.f; rw [if_neg c, if_pos c2]
      have e2 : gangerref01_Up.f 1 n = some (0, 0) := by unfold gangerref01_Up.f; simp only [gangerref01_Up.j0]; rw [if_neg c, if_pos (decide_eq_true c2)]
      simp only [e1, Option.bind_some]
      refine Ev.bind (Ev.of (fun k => gangerref01_Up.mono _ k) e2) ?_
      simp only [if_pos (show n ≥ 1 by omega), if_neg (show ¬ n ≤ 4611686018427387904 by omega), if_true]
      exact hk
    · obtain ⟨x, hx⟩ : ∃ x : Nat, n = x + 1 := ⟨(n - 1).toNat, by omega⟩
      have hb := bitLen_spec x (by omega)
      have hK : Lib.bitLen x ≤ 62 := by
        rcases Nat.lt_or_ge 62 (Lib.bitLen x) with h | h
        · exfalso
          have h63 : 2 ^ 63 ≤ 2 ^ Lib.bitLen x := Nat.pow_le_pow_right (by omega) h
          have := hb.2.1
          by_cases z : x > 0
          · have := this z; omega
          · have hz : x = 0 := by omega
            rw [hz] at h; simp [Lib.bitLen, Lib.bitLenAux] at h
        · exact h
      have e0 : bits_Len64.f (IntKind.u64.wrap (wrap64 (n - 1))) = some ((Lib.bitLen x : Nat) : Int) := by
        rw [w64 (by omega), u64 (by omega)]
        unfold bits_Len64.f
        rw [if_pos (by omega), if_pos (by omega), show (n - 1).toNat = x by omega]
      generalize hKe : Lib.bitLen x = K at *
      have hshl : shl .i64 1 (K : Int) = (2 : Int) ^ K := by
        unfold shl
        have hle : (2 : Int) ^ K ≤ 2 ^ 62 := by
          have := Nat.pow_le_pow_right (n := 2) (by omega) hK
          exact_mod_cast this
        have hp : (0 : Int) < 2 ^ K := Int.pow_pos (by omega)
        rw [Int.one_mul, show min ((K : Int)).toNat (IntKind.bits .i64) = K by rw [Int.toNat_natCast]; simp [IntKind.bits]; omega]
        rw [IntKind.wrap_i64]; omega
      have e1 : num_Up.f n = some ((2 : Int) ^ K, (K : Int)) := by
        unfold num_Up.f
        rw [if_neg c, if_neg c2, e0, Option.bind_some, if_pos (by omega), hshl]
      have hlt : n ≤ (2 : Int) ^ K := by
        have := hb.1
        have h3 : ((x : Nat) : Int) < ((2 ^ K : Nat) : Int) := by exact_mod_cast this
        rw [Int.natCast_pow] at h3
        have h4 : ((2 : Nat) : Int) = 2 := rfl
        rw [h4] at h3
        omega
      have hgt : ∀ j, j < K → (2 : Int) ^ j < n := by
        intro j hj
        have hx0 : x > 0 := by
          by_cases z : x > 0
          · exact z
          · have hz : x = 0 := by omega
            rw [hz] at hKe; simp [Lib.bitLen, Lib.bitLenAux] at hKe; omega
        have h3 := hb.2.1 hx0
        have h5 : 2 ^ (j + 1) ≤ 2 ^ K := Nat.pow_le_pow_right (by omega) hj
        rw [Nat.pow_succ] at h5
        have h6 : ((2 ^ j : Nat) : Int) ≤ (x : Int) := by exact_mod_cast (show 2 ^ j ≤ x by omega)
        rw [Int.natCast_pow] at h6
        have h4 : ((2 : Nat) : Int) = 2 := rfl
        rw [h4] at h6
        omega
      have e2 : gangerref01_Up.f 100 n = some ((2 : Int) ^ K, (K : Int)) := by
        unfold gangerref01_Up.f
        rw [if_neg c, gangerref01_Up.j0, if_neg (by simpa using c2)]
        exact ref_up_l n (by omega) K hK hlt hgt K 0 (by omega) 99 (by omega)
      simp only [e1, Option.bind_some]
      refine Ev.bind (Ev.of (fun k => gangerref01_Up.mono _ k) e2) ?_
      have hhalf : ¬ (Int.tdiv ((2 : Int) ^ K) 2 ≥ n ∧ (2 : Int) ^ K > 1) := by
        intro ⟨ha, hb⟩
        have hp : (0 : Int) < 2 ^ K := Int.pow_pos (by omega)
        rw [Int.tdiv_eq_ediv_of_nonneg (by omega)] at ha
        cases K with
        | zero => simp at hb
        | succ j =>
          have := hgt j (by omega)
          rw [Int.pow_succ] at ha
          omega
      have hle : (2 : Int) ^ K ≤ 4611686018427387904 := by
        have := Nat.pow_le_pow_right (n := 2) (by omega) hK
        have h7 : ((2 ^ K : Nat) : Int) ≤ ((2 ^ 62 : Nat) : Int) := by exact_mod_cast this
        rw [Int.natCast_pow] at h7
        have h4 : ((2 : Nat) : Int) = 2 := rfl
        rw [h4] at h7
        exact h7
      have hp : (0 : Int) < 2 ^ K := Int.pow_pos (by omega)
      have hdv : wrap64 (Int.tdiv ((2 : Int) ^ K) 2) = Int.tdiv ((2 : Int) ^ K) 2 := by
        rw [Int.tdiv_eq_ediv_of_nonneg (by omega)]; exact w64 (by omega)
      simp only [if_pos (show n ≥ 1 by omega), if_pos (show n ≤ 4611686018427387904 by omega), if_neg (show ¬ (2 : Int) ^ K < n by omega), hdv, u64 (show 0 ≤ (K : Int) ∧ (K : Int) < 18446744073709551616 by omega), hshl, if_true, if_pos (show (0 : Int) ≤ K by omega)]
      by_cases h8 : Int.tdiv ((2 : Int) ^ K) 2 ≥ n
      · have h9 : ¬ (2 : Int) ^ K > 1 := fun h => hhalf ⟨h8, h⟩
        simp only [if_pos h8, if_neg h9]
        exact hk
      · simp only [if_neg h8]
        exact hk
end Go.Proofs.Ytlcdlfnmofopgaa.Pure
