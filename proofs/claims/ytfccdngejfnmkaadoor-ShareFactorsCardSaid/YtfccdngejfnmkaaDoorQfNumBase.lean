/- cut to what one law reaches -/
import Derived.Test.YtfccdngejfnmkaaDoorQfNumCut
import Derived.Test.YtfccdngejfnmkaaDoorQfP0
import Derived.Test.YtfccdngejfnmkaaDoorQfP12
import Derived.Test.YtfccdngejfnmkaaDoorQfP14
namespace Go.Proofs.YtfccdngejfnmkaaDoor.NumM
open Go.RowKit Go.Proofs.YtfccdngejfnmkaaDoorW.PrintWords Go.Proofs.YtfccdngejfnmkaaDoorW.PrintLast Go.Proofs.YtfccdngejfnmkaaDoorW.PrintMore Go.Proofs.YtfccdngejfnmkaaDoor.P
set_option linter.unusedVariables false
/-- the value of a wide number -/
def sv (m : Bool) (h l : Int) : Int := if m = true then -(h * 18446744073709551616 + l) else h * 18446744073709551616 + l
theorem of_f (a : Int) (ha : fits a) : gangerref01_Of.f a = some (decide (a < 0), 0, (a.natAbs : Int)) := by
  unfold gangerref01_Of.f gangerref01_size.f
  unfold fits at ha
  by_cases h : a < 0
  · rw [if_pos h, w64 (x := a + 1) (by omega), w64 (x := -(a + 1)) (by omega), u64 (x := -(a + 1)) (by omega), u64 (by omega)]
    simp only [Option.bind_some]
    congr 3
    omega
  · rw [if_neg h, u64 (by omega)]
    simp only [Option.bind_some]
    congr 3
    omega
theorem sv_of (a : Int) : sv (decide (a < 0)) 0 (a.natAbs : Int) = a := by
  unfold sv; by_cases h : a < 0
  · rw [if_pos (by simpa using h)]; omega
  · rw [if_neg (by simpa using h)]; omega
theorem narrow_at (m : Bool) (h l : Int) (hh : 0 ≤ h) (hl : 0 ≤ l) (hl' : l < 18446744073709551616) (k : Nat) :
    gangerref01_Wide_Narrow.f (k + 1 + 1) m h l = some (if fits (sv m h l) then (sv m h l, true) else (0, false)) := by
  unfold gangerref01_Wide_Narrow.f
  simp only [gangerref01_Wide_Narrow.j0, gangerref01_Wide_Narrow.j1]
  by_cases c : h > 0
  · rw [if_pos c, if_pos trivial, if_neg (c := fits _)]
    unfold fits sv; split <;> omega
  · obtain rfl : h = 0 := by omega
    rw [if_neg c]
    by_cases c2 : l > 9223372036854775808
    · rw [if_pos (c := decide _ = true) (by simpa using c2), if_neg (c := fits _)]
      unfold fits sv; split <;> omega
    · rw [if_neg (c := decide _ = true) (by simpa using c2)]
      cases m with
      | true =>
        have e : sv true 0 l = -l := by unfold sv; simp
        rw [e]
        by_cases c3 : l = 9223372036854775808
        · subst c3; simp; decide
        · rw [if_pos rfl, if_neg (by simpa using c3), if_neg (by omega), if_pos rfl, w64 (x := l) (by omega), w64 (x := -l) (by omega)]
          rw [if_pos (by unfold fits; omega)]
      | false =>
        rw [if_neg (by simp), if_neg (by simp)]
        have e : sv false 0 l = l := by unfold sv; simp
        rw [e]
        by_cases c3 : l > 9223372036854775807
        · rw [if_pos c3, if_neg (by unfold fits; omega)]
        · rw [if_neg c3, if_neg (by simp), w64 (by omega), if_pos (by unfold fits; omega)]
theorem narrow_ev (m : Bool) (h l : Int) (hh : 0 ≤ h) (hl : 0 ≤ l) (hl' : l < 18446744073709551616) :
    Ev (fun k => gangerref01_Wide_Narrow.f k m h l) (if fits (sv m h l) then (sv m h l, true) else (0, false)) :=
  ev_at 2 (narrow_at m h l hh hl hl')
theorem told_ev (m : Bool) (h l : Int) (hh : 0 ≤ h) (hl : 0 ≤ l) (hl' : l < 18446744073709551616) :
    Ev (fun k => gangerref01_told.f k m h l) (if fits (sv m h l) then (sv m h l, 0) else (0, 10)) := by
  unfold gangerref01_told.f
  refine Ev.bind (narrow_ev m h l hh hl hl') ?_
  by_cases c : fits (sv m h l)
  · simp only [if_pos c, if_true]; exact Ev.now _
  · simp only [if_neg c]; exact Ev.now _
theorem end_ev (m : Bool) (h l : Int) (hh : 0 ≤ h) (hl : 0 ≤ l) (hl' : l < 18446744073709551616) :
    Ev (fun k => gangerref01_End.f k m h l) (cutoff (sv m h l)) := by
  unfold gangerref01_End.f
  refine Ev.bind (narrow_ev m h l hh hl hl') ?_
  by_cases c : fits (sv m h l)
  · simp only [if_pos c, if_true]
    have e : cutoff (sv m h l) = sv m h l := by unfold cutoff; unfold fits at c; rw [if_neg (by omega), if_neg (by omega)]
    rw [e]; exact Ev.now _
  · simp only [if_neg c]
    have e : cutoff (sv m h l) = if m = true then -9223372036854775808 else 9223372036854775807 := by
      unfold cutoff; unfold fits at c; unfold sv at c ⊢
      cases m
      · simp only [Bool.false_eq_true, if_false] at c ⊢; rw [if_neg (by omega), if_pos (by omega)]
      · simp only [if_true] at c ⊢; rw [if_pos (by omega)]
    rw [e]
    cases m
    · exact Ev.now _
    · exact Ev.now _
theorem plus_f (m m' : Bool) (h l h' l' : Int) (hh : 0 ≤ h ∧ h < 18446744073709551616) (hl : 0 ≤ l ∧ l < 18446744073709551616) (hh' : 0 ≤ h' ∧ h' < 18446744073709551616) (hl' : 0 ≤ l' ∧ l' < 18446744073709551616) :
    gangerref01_plus.f m h l m' h' l' = some (m, ((h * 18446744073709551616 + l + (h' * 18446744073709551616 + l')) / 18446744073709551616) % 18446744073709551616, (h * 18446744073709551616 + l + (h' * 18446744073709551616 + l')) % 18446744073709551616) := by
  unfold gangerref01_plus.f
  simp only [IntKind.wrap_u64]
  by_cases c : (l + l') % 18446744073709551616 < l
  · rw [if_pos c]
    refine congrArg some (Prod.ext rfl (Prod.ext ?_ ?_)) <;> simp only [] <;> omega
  · rw [if_neg c]
    refine congrArg some (Prod.ext rfl (Prod.ext ?_ ?_)) <;> simp only [] <;> omega
theorem less_f (m m' : Bool) (h l h' l' : Int) (hl : 0 ≤ l ∧ l < 18446744073709551616) (hl' : 0 ≤ l' ∧ l' < 18446744073709551616) :
    gangerref01_less.f m h l m' h' l' = some (decide (h * 18446744073709551616 + l < h' * 18446744073709551616 + l')) := by
  unfold gangerref01_less.f
  by_cases c : h < h'
  · rw [if_pos c]; refine congrArg some ?_; symm; rw [decide_eq_true_iff]; omega
  · rw [if_neg c]
    by_cases d : h = h'
    · rw [if_pos d]; refine congrArg some ?_; rw [decide_eq_decide]; omega
    · rw [if_neg d]; refine congrArg some ?_; symm; rw [decide_eq_false_iff_not]; omega
theorem minus_f (m m' : Bool) (h l h' l' : Int) (hh : h < 18446744073709551616) (hl : 0 ≤ l ∧ l < 18446744073709551616) (hh' : 0 ≤ h') (hl' : 0 ≤ l' ∧ l' < 18446744073709551616) (hle : h' * 18446744073709551616 + l' ≤ h * 18446744073709551616 + l) :
    gangerref01_minus.f m h l m' h' l' = some (m, ((h * 18446744073709551616 + l) - (h' * 18446744073709551616 + l')) / 18446744073709551616, ((h * 18446744073709551616 + l) - (h' * 18446744073709551616 + l')) % 18446744073709551616) := by
  unfold gangerref01_minus.f
  simp only [IntKind.wrap_u64]
  by_cases c : l < l'
  · rw [if_pos c]
    refine congrArg some (Prod.ext rfl (Prod.ext ?_ ?_)) <;> simp only [] <;> omega
  · rw [if_neg c]
    refine congrArg some (Prod.ext rfl (Prod.ext ?_ ?_)) <;> simp only [] <;> omega
/-- a sum of wide numbers that don't come near 2^128 -/
theorem Plus_f (m m' : Bool) (h l h' l' : Int) (hh : 0 ≤ h ∧ h < 9223372036854775808) (hl : 0 ≤ l ∧ l < 18446744073709551616) (hh' : 0 ≤ h' ∧ h' < 9223372036854775808) (hl' : 0 ≤ l' ∧ l' < 18446744073709551616) :
    ∃ n a b, gangerref01_Plus.f m h l m' h' l' = some (n, a, b) ∧ 0 ≤ a ∧ a < 18446744073709551616 ∧ 0 ≤ b ∧ b < 18446744073709551616 ∧ sv n a b = sv m h l + sv m' h' l' := by
  unfold gangerref01_Plus.f
  by_cases c : (m == m') = true
  · obtain rfl : m = m' := by simpa using c
    rw [if_pos c, plus_f m m h l h' l' (by omega) hl (by omega) hl']
    simp only [Option.bind_some]
    refine ⟨_, _, _, rfl, by omega, by omega, by omega, by omega, ?_⟩
    unfold sv; split <;> omega
  · rw [if_neg c, less_f m m' h l h' l' hl hl']
    simp only [Option.bind_some]
    by_cases d : h * 18446744073709551616 + l < h' * 18446744073709551616 + l'
    · rw [if_pos (by simpa using d), minus_f m' m h' l' h l (by omega) hl' (by omega) hl (by omega)]
      simp only [Option.bind_some]
      refine ⟨_, _, _, rfl, by omega, by omega, by omega, by omega, ?_⟩
      unfold sv; revert c; cases m <;> cases m' <;> simp <;> omega
    · rw [if_neg (by simpa using d), minus_f m m' h l h' l' (by omega) hl (by omega) hl' (by omega)]
      simp only [Option.bind_some]
      refine ⟨_, _, _, rfl, by omega, by omega, by omega, by omega, ?_⟩
      unfold sv; revert c; cases m <;> cases m' <;> simp <;> omega
/-- doubling, bit by bit: modulo 2^128 -/
theorem double_mod (O X n q : Int) (r : Int) (hn : n = 2 * q + r) (M : Int) :
    (O + X * r + (X + X) % M * q) % M = (O + X * n) % M := by
  have e := Int.mul_ediv_add_emod (X + X) M
  have e2 : (X + X) % M * q = X * q + X * q - M * ((X + X) / M * q) := by
    have : (X + X) % M = X + X - M * ((X + X) / M) := by omega
    rw [this, Int.sub_mul, Int.add_mul, Int.mul_assoc]
  have e3 : X * n = X * q + X * q + X * r := by subst hn; rw [Int.mul_add, ← Int.mul_assoc, Int.mul_comm X 2, Int.mul_assoc]; omega
  rw [e2, e3]
  have : O + X * r + (X * q + X * q - M * ((X + X) / M * q)) = O + (X * q + X * q + X * r) + M * (-((X + X) / M * q)) := by rw [Int.mul_neg]; omega
  rw [this, Int.add_mul_emod_self_left]
theorem product_l (d : Nat) : ∀ (k : Nat) (n : Int) (m1 : Bool) (h1 l1 : Int) (m2 : Bool) (h2 l2 : Int) (mo : Bool) (ho lo : Int) (mx : Bool) (hx lx : Int),
    0 ≤ n → n < 2 ^ d → n < 18446744073709551616 → d < k → 0 ≤ ho ∧ ho < 18446744073709551616 → 0 ≤ lo ∧ lo < 18446744073709551616 → 0 ≤ hx ∧ hx < 18446744073709551616 → 0 ≤ lx ∧ lx < 18446744073709551616 →
    ∃ V : Int, gangerref01_Product.l0 k n m1 h1 l1 m2 h2 l2 mo ho lo mx hx lx = some ((m1 != m2), V / 18446744073709551616, V % 18446744073709551616) ∧
      V = (ho * 18446744073709551616 + lo + (hx * 18446744073709551616 + lx) * n) % 340282366920938463463374607431768211456 := by
  induction d with
  | zero =>
    intro k n m1 h1 l1 m2 h2 l2 mo ho lo mx hx lx hn0 hn hn64 hk ho' hlo hhx hlx
    obtain ⟨k, rfl⟩ : ∃ j, k = j + 1 := ⟨k - 1, by omega⟩
    obtain rfl : n = 0 := by simp at hn; omega
    simp only [gangerref01_Product.l0]
    rw [if_neg (by omega)]
    refine ⟨ho * 18446744073709551616 + lo, ?_, by omega⟩
    refine congrArg some (Prod.ext rfl (Prod.ext ?_ ?_)) <;> simp only [] <;> omega
  | succ d ih =>
    intro k n m1 h1 l1 m2 h2 l2 mo ho lo mx hx lx hn0 hn hn64 hk ho' hlo hhx hlx
    obtain ⟨k, rfl⟩ : ∃ j, k = j + 1 := ⟨k - 1, by omega⟩
    simp only [gangerref01_Product.l0]
    by_cases hz : n > 0
    · rw [if_pos hz]
      have hq : Int.tdiv n 2 = n / 2 := Int.tdiv_eq_ediv_of_nonneg hn0
      have hr : Int.tmod n 2 = n % 2 := Int.tmod_eq_emod_of_nonneg hn0
      have hp : (2 : Int) ^ (d + 1) = 2 * 2 ^ d := by rw [Int.pow_succ, Int.mul_comm]
      have hhalf : n / 2 < 2 ^ d := by omega
      rw [hq, hr, u64 (x := n / 2) (by omega), plus_f mx mx hx lx hx lx hhx hlx hhx hlx, plus_f mo mx ho lo hx lx ho' hlo hhx hlx]
      simp only [Option.bind_some]
      generalize hX : hx * 18446744073709551616 + lx = X
      have hX0 : 0 ≤ X := by omega
      have hX1 : X < 340282366920938463463374607431768211456 := by omega
      by_cases hodd : n % 2 = 1
      · rw [if_pos hodd]
        obtain ⟨V, hV, hval⟩ := ih k (n / 2) m1 h1 l1 m2 h2 l2 mo (((ho * 18446744073709551616 + lo + X) / 18446744073709551616) % 18446744073709551616) ((ho * 18446744073709551616 + lo + X) % 18446744073709551616) mx (((X + X) / 18446744073709551616) % 18446744073709551616) ((X + X) % 18446744073709551616) (by omega) hhalf (by omega) (by omega) (by omega) (by omega) (by omega) (by omega)
        refine ⟨V, hV, ?_⟩
        rw [hval]
        have e1 : (X + X) / 18446744073709551616 % 18446744073709551616 * 18446744073709551616 + (X + X) % 18446744073709551616 = (X + X) % 340282366920938463463374607431768211456 := by omega
        have e2 : ((ho * 18446744073709551616 + lo + X) / 18446744073709551616) % 18446744073709551616 * 18446744073709551616 + (ho * 18446744073709551616 + lo + X) % 18446744073709551616 = (ho * 18446744073709551616 + lo + X) % 340282366920938463463374607431768211456 := by omega
        rw [e1, e2, Int.emod_add_emod]
        have e := double_mod (ho * 18446744073709551616 + lo) X n (n / 2) 1 (by omega) 340282366920938463463374607431768211456
        rw [Int.mul_one] at e
        exact e
      · rw [if_neg hodd]
        obtain ⟨V, hV, hval⟩ := ih k (n / 2) m1 h1 l1 m2 h2 l2 mo ho lo mx (((X + X) / 18446744073709551616) % 18446744073709551616) ((X + X) % 18446744073709551616) (by omega) hhalf (by omega) (by omega) ho' hlo (by omega) (by omega)
        refine ⟨V, hV, ?_⟩
        rw [hval]
        have e1 : (X + X) / 18446744073709551616 % 18446744073709551616 * 18446744073709551616 + (X + X) % 18446744073709551616 = (X + X) % 340282366920938463463374607431768211456 := by omega
        rw [e1]
        have e := double_mod (ho * 18446744073709551616 + lo) X n (n / 2) 0 (by omega) 340282366920938463463374607431768211456
        rw [Int.mul_zero, Int.add_zero] at e
        exact e
    · rw [if_neg hz]
      obtain rfl : n = 0 := by omega
      refine ⟨ho * 18446744073709551616 + lo, ?_, by omega⟩
      refine congrArg some (Prod.ext rfl (Prod.ext ?_ ?_)) <;> simp only [] <;> omega
/-- the product of two numbers below 2^64 -/
theorem product_at (m1 m2 : Bool) (h1 l1 h2 l2 : Int) (hl1 : 0 ≤ l1 ∧ l1 < 18446744073709551616) (hl2 : 0 ≤ l2 ∧ l2 < 18446744073709551616) :
    gangerref01_Product.f 65 m1 h1 l1 m2 h2 l2 = some ((m1 != m2), l1 * l2 / 18446744073709551616, l1 * l2 % 18446744073709551616) := by
  unfold gangerref01_Product.f
  obtain ⟨V, hV, hval⟩ := product_l 64 65 l2 m1 h1 l1 m2 h2 l2 false 0 0 false 0 l1 hl2.1 hl2.2 hl2.2 (by omega) (by omega) (by omega) (by omega) (by omega)
  rw [hV]
  have hb : 0 ≤ l1 * l2 := Int.mul_nonneg hl1.1 hl2.1
  have hb2 : l1 * l2 ≤ 18446744073709551615 * 18446744073709551615 := Int.mul_le_mul (by omega) (by omega) hl2.1 (by omega)
  have e : V = l1 * l2 := by rw [hval]; simp only [Int.zero_mul, Int.zero_add]; omega
  rw [e]
theorem product_ev (m1 m2 : Bool) (h1 l1 h2 l2 : Int) (hl1 : 0 ≤ l1 ∧ l1 < 18446744073709551616) (hl2 : 0 ≤ l2 ∧ l2 < 18446744073709551616) :
    Ev (fun k => gangerref01_Product.f k m1 h1 l1 m2 h2 l2) ((m1 != m2), l1 * l2 / 18446744073709551616, l1 * l2 % 18446744073709551616) :=
  Ev.of (fun k => gangerref01_Product.mono _ _ _ _ _ _ k) (product_at m1 m2 h1 l1 h2 l2 hl1 hl2)
end Go.Proofs.YtfccdngejfnmkaaDoor.NumM
