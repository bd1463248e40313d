/- cut to what one law reaches -/
import Derived.Test.YtfccdngejfnmkaaDoorQfNumBase
import Derived.Test.YtfccdngejfnmkaaDoorQfNumDiv64
import Derived.Test.YtfccdngejfnmkaaDoorQfP0
import Derived.Test.YtfccdngejfnmkaaDoorQfP14
import Derived.Test.YtfccdngejfnmkaaDoorQfP15
namespace Go.Proofs.YtfccdngejfnmkaaDoor.NumM
open Go.RowKit Go.Proofs.YtfccdngejfnmkaaDoorW.PrintWords Go.Proofs.YtfccdngejfnmkaaDoorW.PrintLast Go.Proofs.YtfccdngejfnmkaaDoorW.PrintMore Go.Proofs.YtfccdngejfnmkaaDoor.P
set_option linter.unusedVariables false
/-- bit i of W = high 2^64 + low -/
theorem bit_high {hi lo : Int} (i : Nat) (h0 : 0 ≤ hi) (hl : 0 ≤ lo ∧ lo < 18446744073709551616) (hi64 : 64 ≤ i) : (hi * 18446744073709551616 + lo) / 2 ^ i = hi / 2 ^ (i - 64) := by
  have : (2 : Int) ^ i = 18446744073709551616 * 2 ^ (i - 64) := by
    have : i = 64 + (i - 64) := by omega
    rw [this, Int.pow_add]; simp
  rw [this, ← Int.ediv_ediv_of_nonneg (by omega)]
  congr 1; omega
theorem bit_low {hi lo : Int} (i : Nat) (h0 : 0 ≤ hi) (hl : 0 ≤ lo ∧ lo < 18446744073709551616) (hi64 : i < 64) : (hi * 18446744073709551616 + lo) / 2 ^ i % 2 = lo / 2 ^ i % 2 := by
  have h2 : (18446744073709551616 : Int) = 2 ^ i * (2 * 2 ^ (63 - i)) := by
    rw [← Int.pow_succ', ← Int.pow_add, show i + (63 - i + 1) = 64 by omega]; rfl
  have hp : (0 : Int) < 2 ^ i := Int.pow_pos (by omega)
  rw [h2, show hi * (2 ^ i * (2 * 2 ^ (63 - i))) + lo = lo + 2 ^ i * (hi * (2 * 2 ^ (63 - i))) by rw [Int.mul_left_comm]; omega, Int.add_mul_ediv_left _ _ (by omega), show hi * (2 * (2 : Int) ^ (63 - i)) = 2 * (hi * 2 ^ (63 - i)) by rw [Int.mul_left_comm], Int.add_mul_emod_self_left]
/-- one step of the long division -/
theorem long_step {W c q r : Int} (i : Nat) (hc : 0 < c) (hq : q = W / 2 ^ (i + 1) / c) (hr : r = W / 2 ^ (i + 1) % c) :
    (r * 2 + W / 2 ^ i % 2 ≥ c → q + q + 1 = W / 2 ^ i / c ∧ r * 2 + W / 2 ^ i % 2 - c = W / 2 ^ i % c) ∧ (¬ r * 2 + W / 2 ^ i % 2 ≥ c → q + q = W / 2 ^ i / c ∧ r * 2 + W / 2 ^ i % 2 = W / 2 ^ i % c) := by
  have hp : (0 : Int) < 2 ^ i := Int.pow_pos (by omega)
  have e1 : W / 2 ^ (i + 1) = W / 2 ^ i / 2 := by rw [Int.pow_succ, ← Int.ediv_ediv_of_nonneg (by omega)]
  rw [e1] at hq hr
  generalize W / 2 ^ i = V at *
  have e2 := Int.mul_ediv_add_emod (V / 2) c
  have hr0 := Int.emod_nonneg (V / 2) (show c ≠ 0 by omega)
  have hr1 := Int.emod_lt_of_pos (V / 2) hc
  rw [← hq, ← hr] at e2
  rw [← hr] at hr0 hr1
  have hV : V = (r * 2 + V % 2) + c * (q + q) := by rw [Int.mul_add]; omega
  refine ⟨fun h => ?_, fun h => ?_⟩
  · have hV2 : V = (r * 2 + V % 2 - c) + c * (q + q + 1) := by rw [Int.mul_add, Int.mul_one]; omega
    have a := Int.add_mul_ediv_left (r * 2 + V % 2 - c) (q + q + 1) (show c ≠ 0 by omega)
    have b := Int.add_mul_emod_self_left (r * 2 + V % 2 - c) c (q + q + 1)
    rw [← hV2] at a b
    have c1 : (r * 2 + V % 2 - c) / c = 0 := Int.ediv_eq_zero_of_lt (by omega) (by omega)
    have c2 : (r * 2 + V % 2 - c) % c = r * 2 + V % 2 - c := Int.emod_eq_of_lt (by omega) (by omega)
    rw [a, b, c1, c2]
    exact ⟨by omega, rfl⟩
  · have a := Int.add_mul_ediv_left (r * 2 + V % 2) (q + q) (show c ≠ 0 by omega)
    have b := Int.add_mul_emod_self_left (r * 2 + V % 2) c (q + q)
    rw [← hV] at a b
    have c1 : (r * 2 + V % 2) / c = 0 := Int.ediv_eq_zero_of_lt (by omega) (by omega)
    have c2 : (r * 2 + V % 2) % c = r * 2 + V % 2 := Int.emod_eq_of_lt (by omega) (by omega)
    rw [a, b, c1, c2]
    exact ⟨by omega, rfl⟩
theorem long_l (hi lo c : Int) (mw : Bool) (h0 : 0 ≤ hi ∧ hi < 18446744073709551616) (hl : 0 ≤ lo ∧ lo < 18446744073709551616) (hc : 0 < c ∧ c ≤ 9223372036854775807) (res : Int × Int)
    (d : Nat) : ∀ (q : Int), d ≤ 128 → q = (hi * 18446744073709551616 + lo) / 2 ^ d / c → 
    Ev (fun k => gangerref01_told.f k false (((hi * 18446744073709551616 + lo) / c) / 18446744073709551616) (((hi * 18446744073709551616 + lo) / c) % 18446744073709551616)) res →
    Ev (fun k => gangerref01_MulDiv.l0 k c ((hi * 18446744073709551616 + lo) / 2 ^ d % c) ((d : Int) - 1) mw hi lo false (q / 18446744073709551616) (q % 18446744073709551616)) res := by
  induction d with
  | zero =>
    intro q hd hq hres
    refine Ev.step (fun k => by rw [gangerref01_MulDiv.l0]) ?_
    simp only [if_neg (show ¬ (((0 : Nat) : Int) - 1 ≥ 0) by omega)]
    rw [Int.pow_zero, Int.ediv_one] at hq
    rw [hq]
    exact Ev.bind hres (Ev.now _)
  | succ i ih =>
    intro q hd hq hres
    have hW0 : 0 ≤ hi * 18446744073709551616 + lo := by omega
    have hW1 : hi * 18446744073709551616 + lo < 340282366920938463463374607431768211456 := by omega
    have hq0 : 0 ≤ q := by rw [hq]; exact Int.ediv_nonneg (Int.ediv_nonneg hW0 (Int.le_of_lt (Int.pow_pos (by omega)))) (by omega)
    have hp : (0 : Int) < 2 ^ i := Int.pow_pos (by omega)
    have hqW : q + q + 1 ≤ hi * 18446744073709551616 + lo + 1 := by
      have h1 : q ≤ (hi * 18446744073709551616 + lo) / 2 ^ (i + 1) := by rw [hq]; exact Int.ediv_le_self _ (Int.ediv_nonneg hW0 (Int.le_of_lt (Int.pow_pos (by omega))))
      have e1 : (hi * 18446744073709551616 + lo) / 2 ^ (i + 1) = (hi * 18446744073709551616 + lo) / 2 ^ i / 2 := by rw [Int.pow_succ, ← Int.ediv_ediv_of_nonneg (by omega)]
      have h2 : (hi * 18446744073709551616 + lo) / 2 ^ i ≤ hi * 18446744073709551616 + lo := Int.ediv_le_self _ hW0
      omega
    obtain ⟨hT, hF⟩ := long_step i hc.1 hq rfl
    have hr0 := Int.emod_nonneg ((hi * 18446744073709551616 + lo) / 2 ^ (i + 1)) (show c ≠ 0 by omega)
    have hr1 := Int.emod_lt_of_pos ((hi * 18446744073709551616 + lo) / 2 ^ (i + 1)) hc.1
    have hb : 0 ≤ (hi * 18446744073709551616 + lo) / 2 ^ i % 2 ∧ (hi * 18446744073709551616 + lo) / 2 ^ i % 2 < 2 := by omega
    refine Ev.step (fun k => by rw [gangerref01_MulDiv.l0]) ?_
    have hx : (((i + 1 : Nat) : Int) - 1) = (i : Int) := by omega
    have hw : wrap64 ((i : Int) - 1) = (i : Int) - 1 := w64 (by omega)
    have hpl := plus_f false false (q / 18446744073709551616) (q % 18446744073709551616) (q / 18446744073709551616) (q % 18446744073709551616) (by omega) (by omega) (by omega) (by omega)
    rw [show q / 18446744073709551616 * 18446744073709551616 + q % 18446744073709551616 = q by omega, show (q + q) / 18446744073709551616 % 18446744073709551616 = (q + q) / 18446744073709551616 by omega] at hpl
    have hm : IntKind.u64.wrap (Int.tmod (i : Int) 64) = (i : Int) % 64 := by rw [Int.tmod_eq_emod_of_nonneg (by omega)]; exact u64 (by omega)
    rw [hx, hm]
    simp only [if_pos (show (i : Int) ≥ 0 by omega), if_pos (show (0 : Int) ≤ (i : Int) % 64 by omega), hpl, Option.bind_some, hw, u64 (show 0 ≤ c ∧ c < 18446744073709551616 by omega)]
    have hshr : ∀ (x : Int) (j : Nat), j ≤ 64 → shr .u64 x (j : Int) = x / 2 ^ j := by
      intro x j hj
      unfold shr
      rw [show min ((j : Int)).toNat (IntKind.bits .u64) = j by rw [Int.toNat_natCast]; simp [IntKind.bits]; omega]
    have hgo : ∀ b : Int, b = (hi * 18446744073709551616 + lo) / 2 ^ i % 2 →
        Ev (fun n => if IntKind.u64.wrap (IntKind.u64.wrap ((hi * 18446744073709551616 + lo) / 2 ^ (i + 1) % c * 2) + b) ≥ c then gangerref01_MulDiv.l0 n c (IntKind.u64.wrap (IntKind.u64.wrap (IntKind.u64.wrap ((hi * 18446744073709551616 + lo) / 2 ^ (i + 1) % c * 2) + b) - c)) ((i : Int) - 1) mw hi lo false ((q + q) / 18446744073709551616) (IntKind.u64.wrap ((q + q) % 18446744073709551616 + 1)) else gangerref01_MulDiv.l0 n c (IntKind.u64.wrap (IntKind.u64.wrap ((hi * 18446744073709551616 + lo) / 2 ^ (i + 1) % c * 2) + b)) ((i : Int) - 1) mw hi lo false ((q + q) / 18446744073709551616) ((q + q) % 18446744073709551616)) res := by
      intro b hbe
      subst hbe
      generalize hrr : (hi * 18446744073709551616 + lo) / 2 ^ (i + 1) % c = r at *
      rw [u64 (x := r * 2) (by omega), u64 (x := r * 2 + _) (by omega)]
      by_cases h : r * 2 + (hi * 18446744073709551616 + lo) / 2 ^ i % 2 ≥ c
      · obtain ⟨t1, t2⟩ := hT h
        simp only [if_pos h]
        rw [u64 (x := r * 2 + _ - c) (by omega), u64 (x := (q + q) % 18446744073709551616 + 1) (by omega), t2]
        have h9 := ih (q + q + 1) (by omega) t1 hres
        rw [show (q + q + 1) / 18446744073709551616 = (q + q) / 18446744073709551616 by omega, show (q + q + 1) % 18446744073709551616 = (q + q) % 18446744073709551616 + 1 by omega] at h9
        exact h9
      · obtain ⟨t1, t2⟩ := hF h
        simp only [if_neg h]
        rw [t2]
        exact ih (q + q) (by omega) t1 hres
    by_cases h64 : i ≥ 64
    · simp only [if_pos (show (i : Int) ≥ 64 by omega)]
      have e1 : wrap64 ((i : Int) - 64) = ((i - 64 : Nat) : Int) := by rw [w64 (by omega)]; omega
      rw [e1, u64 (x := ((i - 64 : Nat) : Int)) (by omega), hshr _ (i - 64) (by omega)]
      simp only [if_pos (show (0 : Int) ≤ ((i - 64 : Nat) : Int) by omega)]
      have hp2 : (0 : Int) < 2 ^ (i - 64) := Int.pow_pos (by omega)
      rw [Int.tmod_eq_emod_of_nonneg (Int.ediv_nonneg h0.1 (Int.le_of_lt hp2))]
      exact hgo _ (by rw [bit_high i h0.1 hl h64])
    · simp only [if_neg (show ¬ (i : Int) ≥ 64 by omega)]
      rw [show (i : Int) % 64 = (i : Int) by omega, hshr _ i (by omega), Int.tmod_eq_emod_of_nonneg (Int.ediv_nonneg hl.1 (Int.le_of_lt hp))]
      exact hgo _ (by rw [bit_low i h0.1 hl (by omega)])
theorem refmuldiv_ev (a b c : Int) (ha : fits a) (hb : fits b) (hc : fits c) :
    Ev (fun k => gangerref01_MulDiv.f k a b c) (if a < 0 ∨ b < 0 ∨ c < 1 then (0, 2) else if fits (a * b / c) then (a * b / c, 0) else (0, 10)) := by
  have ha' := ha; have hb' := hb
  unfold fits at ha hb hc
  unfold gangerref01_MulDiv.f
  have hno : Ev (fun k => gangerref01_MulDiv.j0 k a b c true) (0, 2) := by
    refine Ev.step (fun k => by rw [gangerref01_MulDiv.j0]) ?_
    simp only [if_true]; exact Ev.now _
  by_cases h1 : a < 0
  · simp only [if_pos h1, if_pos (show a < 0 ∨ b < 0 ∨ c < 1 from .inl h1)]; exact hno
  · simp only [if_neg h1]
    by_cases h2 : b < 0
    · simp only [if_pos h2, if_pos (show a < 0 ∨ b < 0 ∨ c < 1 from .inr (.inl h2))]; exact hno
    · simp only [if_neg h2]
      by_cases h3 : c < 1
      · rw [decide_eq_true h3, if_pos (show a < 0 ∨ b < 0 ∨ c < 1 from .inr (.inr h3))]; exact hno
      · rw [decide_eq_false h3, if_neg (show ¬ (a < 0 ∨ b < 0 ∨ c < 1) by omega)]
        refine Ev.step (fun k => by rw [gangerref01_MulDiv.j0]) ?_
        simp only [Bool.false_eq_true, if_false, of_f _ ha', of_f _ hb', Option.bind_some]
        refine Ev.bind (product_ev _ _ _ _ _ _ (by omega) (by omega)) ?_
        rw [show (a.natAbs : Int) = a by omega, show (b.natAbs : Int) = b by omega]
        have hab : 0 ≤ a * b := Int.mul_nonneg (by omega) (by omega)
        have hab2 : a * b ≤ 9223372036854775807 * 9223372036854775807 := Int.mul_le_mul (by omega) (by omega) (by omega) (by omega)
        have hcq := Int.ediv_nonneg hab (show 0 ≤ c by omega)
        have ht := told_ev false (a * b / c / 18446744073709551616) (a * b / c % 18446744073709551616) (by omega) (by omega) (by omega)
        have hsv : sv false (a * b / c / 18446744073709551616) (a * b / c % 18446744073709551616) = a * b / c := by unfold sv; simp only [Bool.false_eq_true, if_false]; omega
        rw [hsv] at ht
        have e : a * b / 18446744073709551616 * 18446744073709551616 + a * b % 18446744073709551616 = a * b := by omega
        have hz : a * b / 2 ^ 128 = 0 := Int.ediv_eq_zero_of_lt hab (by omega)
        have hl := long_l (a * b / 18446744073709551616) (a * b % 18446744073709551616) c (decide (a < 0) != decide (b < 0)) (by omega) (by omega) (by omega) _ 128 0 (by omega) (by rw [e, hz]; simp) (by rw [e]; exact ht)
        rw [e, hz, Int.zero_emod] at hl
        exact hl
end Go.Proofs.YtfccdngejfnmkaaDoor.NumM
