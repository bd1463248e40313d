/- The decay layer, as printed: the factor, what counts after some ticks, until when, and a charge: closed forms, for the program and its reference. Conditions: the numbers' ranges. -/
import Derived.Test.YtaagimadfhcflaaNumLong
import Derived.Test.YtaagimadfhcflaaNumSum
import Derived.Test.YtaagimadfhcflaaP0
import Derived.Test.YtaagimadfhcflaaP2
import Derived.Test.YtaagimadfhcflaaP3
import Derived.Test.YtaagimadfhcflaaP4
namespace Go.Proofs.Ytaagimadfhcflaa.NumM
open Go.RowKit Go.Proofs.YtaagimadfhcflaaW.PrintWords Go.Proofs.YtaagimadfhcflaaW.PrintLast Go.Proofs.YtaagimadfhcflaaW.PrintMore Go.Proofs.Ytaagimadfhcflaa.P
set_option linter.unusedVariables false
theorem known_ev : Ev (fun k => gangerlaw02_known.f k) true := Ev.of (fun k => gangerlaw02_known.mono k) (k := 60) (by decide +kernel)
theorem hk : Ev (fun n => (gangerlaw02_known.f n).bind fun t => some t) true := Ev.bind known_ev (Ev.now _)
/-- the table -/
def tab (i : Int) : Int := rd [65536, 62757, 60097, 57549, 55109, 52773, 50535, 48393, 46341, 44376, 42495, 40693, 38968, 37316, 35734, 34219] i
theorem tab_fin : ∀ i : Fin 16, 34219 ≤ tab (i.val : Int) ∧ tab (i.val : Int) ≤ 65536 := by decide
theorem tab_fin2 : ∀ i j : Fin 16, i.val ≤ j.val → tab (j.val : Int) ≤ tab (i.val : Int) := by decide
theorem tab_bd {i : Int} (h : 0 ≤ i ∧ i < 16) : 34219 ≤ tab i ∧ tab i ≤ 65536 := by
  have := tab_fin ⟨i.toNat, by omega⟩
  rwa [show ((i.toNat : Nat) : Int) = i by omega] at this
theorem tab_mono {i j : Int} (hi : 0 ≤ i) (hij : i ≤ j) (hj : j < 16) : tab j ≤ tab i := by
  have := tab_fin2 ⟨i.toNat, by omega⟩ ⟨j.toNat, by omega⟩ (by show i.toNat ≤ j.toNat; omega)
  rwa [show ((i.toNat : Nat) : Int) = i by omega, show ((j.toNat : Nat) : Int) = j by omega] at this
theorem tab_0 : tab 0 = 65536 := by decide
def bad (t h : Int) : Prop := t < 0 ∨ t > 1099511627776 ∨ h < 1 ∨ h > 1099511627776
instance (t h : Int) : Decidable (bad t h) := inferInstanceAs (Decidable (_ ∨ _ ∨ _ ∨ _))
def step (t h : Int) : Int := t % h * 16 / h
theorem step_bd {t h : Int} (hb : ¬ bad t h) : 0 ≤ step t h ∧ step t h < 16 := by
  unfold bad at hb; unfold step
  have h0 := Int.emod_nonneg t (show h ≠ 0 by omega)
  have h1 := Int.emod_lt_of_pos t (show 0 < h by omega)
  exact ⟨Int.ediv_nonneg (by omega) (by omega), Int.ediv_lt_of_lt_mul (by omega) (by omega)⟩
theorem factor_f (t h : Int) : decay_Factor.f t h = some (if bad t h then (0, 0, 2) else (t / h, tab (step t h), 0)) := by
  unfold decay_Factor.f
  by_cases h1 : t < 0
  · rw [if_pos h1, if_pos (show bad t h from .inl h1)]
  · rw [if_neg h1]
    by_cases h2 : t > 1099511627776
    · rw [if_pos h2, if_pos (show bad t h from .inr (.inl h2))]
    · rw [if_neg h2]
      by_cases h3 : h < 1
      · rw [if_pos h3, if_pos (show bad t h from .inr (.inr (.inl h3)))]
      · rw [if_neg h3]
        by_cases h4 : h > 1099511627776
        · rw [if_pos h4, if_pos (show bad t h from .inr (.inr (.inr h4)))]
        · have hb : ¬ bad t h := by unfold bad; omega
          rw [if_neg h4, if_neg (show ¬ h = 0 by omega), if_neg hb]
          have hs := step_bd hb
          unfold step at *
          have m0 := Int.emod_nonneg t (show h ≠ 0 by omega)
          have m1 := Int.emod_lt_of_pos t (show 0 < h by omega)
          have q0 := Int.ediv_nonneg (show 0 ≤ t by omega) (show 0 ≤ h by omega)
          have q1 := Int.ediv_le_self h (show 0 ≤ t by omega)
          rw [Int.tmod_eq_emod_of_nonneg (by omega), Int.tdiv_eq_ediv_of_nonneg (show 0 ≤ t by omega), w64 (x := t % h * 16) (by omega), Int.tdiv_eq_ediv_of_nonneg (show 0 ≤ t % h * 16 by omega), w64 (x := t / h) (by omega), w64 (x := t % h * 16 / h) (by omega)]
          have e : decay_steps.f (t % h * 16 / h) = some (tab (t % h * 16 / h)) := by
            unfold decay_steps.f tab; rw [if_pos hs.1, if_pos hs.2]
          rw [e, Option.bind_some]
theorem refstep_f (i : Int) (h : 0 ≤ i ∧ i < 16) : gangerref02_step.f i = some (tab i) := by
  unfold gangerref02_step.f tab
  simp only [Option.bind_some]
  rw [if_pos h.1, if_pos (by simpa using h.2)]
theorem reffactor_l (h whole left : Int) (hh : 0 < h ∧ h ≤ 1099511627776) (hl : 0 ≤ left ∧ left < h * 16) (d : Nat) : ∀ i : Int, 0 ≤ i → i + d = left / h → Ev (fun k => gangerref02_Factor.l0 k h whole left i) (whole, tab (left / h), 0) := by
  have hq0 := Int.ediv_nonneg hl.1 (show 0 ≤ h by omega)
  have hq1 : left / h < 16 := Int.ediv_lt_of_lt_mul (by omega) (by omega)
  induction d with
  | zero =>
    intro i h0 hi
    obtain rfl : i = left / h := by omega
    refine Ev.step (fun k => by rw [gangerref02_Factor.l0]) ?_
    have e1 := Int.mul_ediv_add_emod left h
    have e2 := Int.emod_lt_of_pos left hh.1
    have e3 : (left / h + 1) * h = h * (left / h) + h := by rw [Int.add_mul, Int.one_mul, Int.mul_comm]
    have e4 : h * (left / h) ≤ left := Int.mul_ediv_self_le (by omega)
    have e5 : 0 ≤ h * (left / h) := Int.mul_nonneg (by omega) hq0
    rw [w64 (x := left / h + 1) (by omega), w64 (x := (left / h + 1) * h) (by omega)]
    simp only [if_neg (show ¬ (left / h + 1) * h ≤ left by omega), refstep_f _ ⟨hq0, hq1⟩, Option.bind_some]
    exact Ev.now _
  | succ d ih =>
    intro i h0 hi
    refine Ev.step (fun k => by rw [gangerref02_Factor.l0]) ?_
    have e4 : h * (left / h) ≤ left := Int.mul_ediv_self_le (by omega)
    have e6 : (i + 1) * h ≤ h * (left / h) := by rw [Int.mul_comm]; exact Int.mul_le_mul_of_nonneg_left (by omega) (by omega)
    have e7 : 0 ≤ (i + 1) * h := Int.mul_nonneg (by omega) (by omega)
    rw [w64 (x := i + 1) (by omega), w64 (x := (i + 1) * h) (by omega)]
    simp only [if_pos (show (i + 1) * h ≤ left by omega)]
    exact ih (i + 1) (by omega) (by omega)
theorem reffactor_ev (t h : Int) (hh : fits h) : Ev (fun k => gangerref02_Factor.f k t h) (if bad t h then (0, 0, 2) else (t / h, tab (step t h), 0)) := by
  unfold gangerref02_Factor.f
  have hno : Ev (fun k => gangerref02_Factor.j0 k t h true) (0, 0, 2) := by
    refine Ev.step (fun k => by rw [gangerref02_Factor.j0]) ?_
    simp only [if_true]; exact Ev.now _
  by_cases h1 : t < 0
  · simp only [if_pos h1, if_pos (show bad t h from .inl h1)]; exact hno
  · simp only [if_neg h1]
    by_cases h2 : t > 1099511627776
    · simp only [if_pos h2, if_pos (show bad t h from .inr (.inl h2))]; exact hno
    · simp only [if_neg h2]
      by_cases h3 : h < 1
      · simp only [if_pos h3, if_pos (show bad t h from .inr (.inr (.inl h3)))]; exact hno
      · simp only [if_neg h3]
        by_cases h4 : h > 1099511627776
        · rw [decide_eq_true h4, if_pos (show bad t h from .inr (.inr (.inr h4)))]; exact hno
        · have hb : ¬ bad t h := by unfold bad; omega
          rw [decide_eq_false h4, if_neg hb]
          refine Ev.step (fun k => by rw [gangerref02_Factor.j0]) ?_
          have m0 := Int.emod_nonneg t (show h ≠ 0 by omega)
          have m1 := Int.emod_lt_of_pos t (show 0 < h by omega)
          have q0 := Int.ediv_nonneg (show 0 ≤ t by omega) (show 0 ≤ h by omega)
          have q1 := Int.ediv_le_self h (show 0 ≤ t by omega)
          have e1 := Int.mul_ediv_add_emod t h
          have e3 : t / h * h = t - t % h := by rw [Int.mul_comm]; omega
          simp only [Bool.false_eq_true, if_false, if_neg (show ¬ h = 0 by omega)]
          rw [Int.tdiv_eq_ediv_of_nonneg (show 0 ≤ t by omega), w64 (x := t / h) (by omega), e3, w64 (x := t - t % h) (by omega), show t - (t - t % h) = t % h by omega, w64 (x := t % h) (by omega), w64 (x := t % h * 16) (by omega)]
          have hs := step_bd hb
          unfold step at *
          exact reffactor_l h (t / h) (t % h * 16) (by omega) (by omega) (t % h * 16 / h).toNat 0 (by omega) (by omega)
/-- what n counts for, t ticks later -/
def after (n t h : Int) : Int := n / 2 ^ (mn (t / h) 63).toNat * tab (step t h) / 65536
theorem pow_pos (n : Nat) : (0 : Int) < 2 ^ n := Int.pow_pos (by omega)
theorem after_bd {n t h : Int} (hb : ¬ bad t h) (hn : 0 ≤ n) : 0 ≤ after n t h ∧ after n t h ≤ n := by
  unfold after
  have hN0 : 0 ≤ n / 2 ^ (mn (t / h) 63).toNat := Int.ediv_nonneg hn (Int.le_of_lt (pow_pos _))
  have hN1 : n / 2 ^ (mn (t / h) 63).toNat ≤ n := Int.ediv_le_self _ hn
  have ht := tab_bd (step_bd hb)
  generalize n / 2 ^ (mn (t / h) 63).toNat = N at *
  generalize tab (step t h) = T at *
  have h1 : 0 ≤ N * T := Int.mul_nonneg hN0 (by omega)
  have h2 : N * T ≤ N * 65536 := Int.mul_le_mul_of_nonneg_left ht.2 hN0
  omega
theorem after_no (n t h : Int) (hb : bad t h) : Ev (fun k => decay_After.f k n t h) (0, 2) := by
  unfold decay_After.f
  simp only [factor_f, if_pos hb, Option.bind_some]
  exact Ev.now _
theorem after_neg (n t h : Int) (hn : n < 0) : Ev (fun k => decay_After.f k n t h) (0, 2) := by
  unfold decay_After.f
  simp only [factor_f, Option.bind_some]
  by_cases hb : bad t h
  · simp only [if_pos hb]; exact Ev.now _
  · simp only [if_neg hb, if_pos hn, if_true]; exact Ev.now _
theorem after_ev (n t h : Int) (hn : 0 ≤ n ∧ n ≤ 9223372036854775807) (hb : ¬ bad t h) : Ev (fun k => decay_After.f k n t h) (after n t h, 0) := by
  unfold decay_After.f
  have hq : 0 ≤ t / h := by unfold bad at hb; exact Int.ediv_nonneg (by omega) (by omega)
  have hm : 0 ≤ mn (t / h) 63 := by unfold mn; split <;> omega
  simp only [factor_f, Option.bind_some, if_neg hb, if_true, if_neg (show ¬ n < 0 by omega), if_pos hm]
  have hN0 : 0 ≤ n / 2 ^ (mn (t / h) 63).toNat := Int.ediv_nonneg hn.1 (Int.le_of_lt (pow_pos _))
  have hN1 : n / 2 ^ (mn (t / h) 63).toNat ≤ n := Int.ediv_le_self _ hn.1
  have ht := tab_bd (step_bd hb)
  have hm := muldiv_ev (n / 2 ^ (mn (t / h) 63).toNat) (tab (step t h)) 65536 (by unfold fits; omega) (by unfold fits; omega) (by unfold fits; omega)
  have ha := after_bd hb hn.1
  unfold after at *
  rw [if_neg (by omega), if_pos (by unfold fits; omega)] at hm
  exact Ev.bind hm (Ev.now _)
/-- Until: the halvings -/
def bl (n : Int) : Int := Lib.bitLenAux 63 n.toNat
theorem until_l (h : Int) (f : Nat) : ∀ (n c : Int), 0 ≤ n → n < 2 ^ f → 0 ≤ c → c + f < 1000 → Ev (fun k => decay_Until.l0 k n h c) (wrap64 ((c + Lib.bitLenAux f n.toNat) * h), 0) := by
  induction f with
  | zero =>
    intro n c h0 h1 hc hcf
    obtain rfl : n = 0 := by simp at h1; omega
    refine Ev.step (fun k => by rw [decay_Until.l0]) ?_
    simp only [if_neg (show ¬ (0 : Int) > 0 by omega), Lib.bitLenAux]
    rw [show c + ((0 : Nat) : Int) = c by omega]; exact Ev.now _
  | succ f ih =>
    intro n c h0 h1 hc hcf
    refine Ev.step (fun k => by rw [decay_Until.l0]) ?_
    rw [Lib.bitLenAux]
    by_cases hz : n > 0
    · simp only [if_pos hz, if_neg (show ¬ n.toNat = 0 by omega)]
      rw [w64 (x := c + 1) (by omega)]
      have := ih (n / 2) (c + 1) (by omega) (by rw [Int.pow_succ] at h1; omega) (by omega) (by omega)
      rw [show (n / 2).toNat = n.toNat / 2 by omega] at this
      rw [show c + ((1 + Lib.bitLenAux f (n.toNat / 2) : Nat) : Int) = c + 1 + (Lib.bitLenAux f (n.toNat / 2) : Nat) by omega]
      exact this
    · simp only [if_neg hz, if_pos (show n.toNat = 0 by omega)]
      rw [show c + ((0 : Nat) : Int) = c by omega]; exact Ev.now _
theorem bl_spec (n : Int) (hn : 0 ≤ n ∧ n ≤ 9223372036854775807) : 0 ≤ bl n ∧ bl n ≤ 63 ∧ n < 2 ^ (bl n).toNat ∧ (n > 0 → 0 < bl n ∧ (2 : Int) ^ ((bl n).toNat - 1) ≤ n) := by
  have hb := bitLen_aux 63 n.toNat (by omega)
  unfold bl
  refine ⟨by omega, by omega, ?_, fun hz => ?_⟩
  · rw [Int.toNat_natCast, ← pow_cast]; omega
  · have h2 := hb.2.1 (by omega)
    have hp : 0 < Lib.bitLenAux 63 n.toNat := by
      rcases Nat.eq_zero_or_pos (Lib.bitLenAux 63 n.toNat) with z | z
      · rw [z] at hb; simp at hb; omega
      · exact z
    refine ⟨by omega, ?_⟩
    rw [Int.toNat_natCast, ← pow_cast]
    have h3 : 2 ^ (Lib.bitLenAux 63 n.toNat) = 2 * 2 ^ (Lib.bitLenAux 63 n.toNat - 1) := by
      rw [← Nat.pow_succ', show (Lib.bitLenAux 63 n.toNat - 1).succ = Lib.bitLenAux 63 n.toNat by omega]
    omega
def ubad (n h : Int) : Prop := n < 0 ∨ h < 1 ∨ h > 4294967296
instance (n h : Int) : Decidable (ubad n h) := inferInstanceAs (Decidable (_ ∨ _ ∨ _))
theorem bl_mul {n h : Int} (hn : 0 ≤ n ∧ n ≤ 9223372036854775807) (hu : ¬ ubad n h) : 0 ≤ bl n * h ∧ bl n * h ≤ 63 * 4294967296 := by
  have hb := bl_spec n hn
  unfold ubad at hu
  exact ⟨Int.mul_nonneg hb.1 (by omega), Int.mul_le_mul hb.2.1 (by omega) (by omega) (by omega)⟩
theorem until_ev (n h : Int) (hn : n ≤ 9223372036854775807) : Ev (fun k => decay_Until.f k n h) (if ubad n h then (0, 2) else (bl n * h, 0)) := by
  unfold decay_Until.f
  have hno : Ev (fun k => decay_Until.j0 k n h true) (0, 2) := by
    refine Ev.step (fun k => by rw [decay_Until.j0]) ?_
    simp only [if_true]; exact Ev.now _
  by_cases h1 : n < 0
  · simp only [if_pos h1, if_pos (show ubad n h from .inl h1)]; exact hno
  · simp only [if_neg h1]
    by_cases h2 : h < 1
    · simp only [if_pos h2, if_pos (show ubad n h from .inr (.inl h2))]; exact hno
    · simp only [if_neg h2]
      by_cases h3 : h > 4294967296
      · rw [decide_eq_true h3, if_pos (show ubad n h from .inr (.inr h3))]; exact hno
      · have hu : ¬ ubad n h := by unfold ubad; omega
        rw [decide_eq_false h3, if_neg hu]
        refine Ev.step (fun k => by rw [decay_Until.j0]) ?_
        simp only [Bool.false_eq_true, if_false]
        have := until_l h 63 n 0 (by omega) (by omega) (by omega) (by omega)
        have hm := bl_mul (by omega) hu
        rw [Int.zero_add] at this
        rw [show (Lib.bitLenAux 63 n.toNat : Int) = bl n from rfl, w64 (by omega)] at this
        exact this
def cbad (n at' now more : Int) : Prop := n < 0 ∨ at' < 0 ∨ at' > now ∨ now > 1099511627776 ∨ more < 0
instance (n a b m : Int) : Decidable (cbad n a b m) := inferInstanceAs (Decidable (_ ∨ _ ∨ _ ∨ _ ∨ _))
theorem sum2_ev (a b : Int) (ha : fits a) (hb : fits b) : Ev (fun k => num_Sum.f k [a, b]) (cutoff (a + b)) := by
  have h := sum_ev [a, b] (fun x hx => by simp at hx; rcases hx with rfl | rfl <;> assumption) (by simp)
  have e : csum [a, b] = cutoff (a + b) := by
    unfold csum
    simp only [List.foldl_cons, List.foldl_nil, Int.zero_add]
    have : cutoff a = a := by unfold cutoff; unfold fits at ha; rw [if_neg (by omega), if_neg (by omega)]
    rw [this]
  rw [e] at h; exact h
theorem charge_ev (n a now more h : Int) (hn : fits n) (ha : fits a) (hnow : fits now) (hm : fits more) :
    Ev (fun k => decay_Charge.f k n a now more h) (if cbad n a now more then (0, 0, 2) else if bad (now - a) h then (0, 0, 2) else (cutoff (after n (now - a) h + more), now, 0)) := by
  unfold decay_Charge.f
  have hno : Ev (fun k => decay_Charge.j0 k now more h true n a) (0, 0, 2) := by
    refine Ev.step (fun k => by rw [decay_Charge.j0]) ?_
    simp only [if_true]; exact Ev.now _
  unfold fits at hn ha hnow hm
  by_cases h1 : n < 0
  · simp only [if_pos h1, if_pos (show cbad n a now more from .inl h1)]; exact hno
  · simp only [if_neg h1]
    by_cases h2 : a < 0
    · simp only [if_pos h2, if_pos (show cbad n a now more from .inr (.inl h2))]; exact hno
    · simp only [if_neg h2]
      by_cases h3 : a > now
      · simp only [if_pos h3, if_pos (show cbad n a now more from .inr (.inr (.inl h3)))]; exact hno
      · simp only [if_neg h3]
        by_cases h4 : now > 1099511627776
        · simp only [if_pos h4, if_pos (show cbad n a now more from .inr (.inr (.inr (.inl h4))))]; exact hno
        · simp only [if_neg h4]
          by_cases h5 : more < 0
          · rw [decide_eq_true h5, if_pos (show cbad n a now more from .inr (.inr (.inr (.inr h5))))]; exact hno
          · have hc : ¬ cbad n a now more := by unfold cbad; omega
            rw [decide_eq_false h5, if_neg hc]
            refine Ev.step (fun k => by rw [decay_Charge.j0]) ?_
            simp only [Bool.false_eq_true, if_false]
            rw [w64 (x := now - a) (by omega)]
            by_cases hb : bad (now - a) h
            · rw [if_pos hb]
              refine Ev.bind (after_no n _ h hb) ?_
              exact Ev.now _
            · rw [if_neg hb]
              refine Ev.bind (after_ev n _ h (by omega) hb) ?_
              simp only [if_true]
              have hab := after_bd hb (show 0 ≤ n by omega)
              refine Ev.bind (sum2_ev _ _ (by unfold fits; omega) (by unfold fits; omega)) ?_
              exact Ev.now _
end Go.Proofs.Ytaagimadfhcflaa.NumM
