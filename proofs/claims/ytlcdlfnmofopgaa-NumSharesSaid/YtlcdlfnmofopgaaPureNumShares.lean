/- NumShares: a product, divided, is at most what it is of more, at least what it is by more; by its own factor it is the other one; the shares of all parts are together at most the whole, and less than it by less than there are parts. Conditions: none beyond what the row says. -/
import Derived.Test.YtlcdlfnmofopgaaNumDiv64
import Derived.Test.YtlcdlfnmofopgaaP0
import Derived.Test.YtlcdlfnmofopgaaP3
import Derived.Test.YtlcdlfnmofopgaaP7
namespace Go.Proofs.Ytlcdlfnmofopgaa.Pure
open Go.RowKit Go.Proofs.YtlcdlfnmofopgaaW.PrintWords Go.Proofs.YtlcdlfnmofopgaaW.PrintLast Go.Proofs.YtlcdlfnmofopgaaW.PrintMore Go.Proofs.Ytlcdlfnmofopgaa.P Go.Proofs.Ytlcdlfnmofopgaa.NumM
set_option linter.unusedVariables false
theorem hk : Ev (fun n => (gangerlaw01_known.f n).bind fun t => some t) true := Ev.bind known_ev (Ev.now _)
theorem rd_at (l : List Int) (i : Nat) (h : i < l.length) : rd l (i : Int) = l[i] := by
  unfold rd; rw [Int.toNat_natCast, List.getD_eq_getElem?_getD, List.getElem?_eq_getElem h]; rfl
theorem sum_step (l : List Int) (i : Nat) (h : i < l.length) : (l.take (i + 1)).sum = (l.take i).sum + rd l i := by
  rw [List.take_succ_eq_append_getElem h, List.sum_append, rd_at l i h]; simp
theorem sum_bound (l : List Int) (hl : ∀ x ∈ l, 0 ≤ x ∧ x ≤ 65535) : 0 ≤ l.sum ∧ l.sum ≤ 65535 * l.length := by
  induction l with
  | nil => simp
  | cons x l ih =>
    have h0 := hl x List.mem_cons_self
    have := ih (fun y hy => hl y (List.mem_cons_of_mem _ hy))
    simp only [List.sum_cons, List.length_cons]; omega
theorem sum_take_le (l : List Int) (hl : ∀ x ∈ l, 0 ≤ x ∧ x ≤ 65535) (i : Nat) : 0 ≤ (l.take i).sum ∧ (l.take i).sum ≤ l.sum := by
  have e : l.sum = (l.take i).sum + (l.drop i).sum := by rw [← List.sum_append, List.take_append_drop]
  have h1 := sum_bound (l.take i) (fun x hx => hl x (List.mem_of_mem_take hx))
  have h2 := sum_bound (l.drop i) (fun x hx => hl x (List.mem_of_mem_drop hx))
  omega
theorem shares_l1 (W : Int) (l : List Int) (hW : 0 ≤ W ∧ W ≤ 9223372036854775807) (hl : ∀ x ∈ l, 0 ≤ x ∧ x ≤ 65535) (hn : l.length ≤ 50) (hA : 0 < l.sum) (d : Nat) :
    ∀ (i : Nat) (D : Int), i + d = l.length → 0 ≤ D → D ≤ W → l.sum * D ≤ W * (l.take i).sum → W * (l.take i).sum ≤ l.sum * D + i * (l.sum - 1) →
    Ev (fun k => gangerlaw01_NumShares.l1 k W l l.sum (W - D) i) true := by
  have hSb := sum_bound l hl
  induction d with
  | zero =>
    intro i D hi hD0 hD1 h1 h2
    refine Ev.step (fun k => by rw [gangerlaw01_NumShares.l1]) ?_
    obtain rfl : i = l.length := by omega
    rw [List.take_length] at h1 h2
    simp only [if_neg (show ¬ ((l.length : Nat) : Int) < l.length by omega)]
    refine Ev.bind (muldiv_ev W l.sum l.sum (by unfold fits; omega) (by unfold fits; omega) (by unfold fits; omega)) ?_
    have e : W * l.sum / l.sum = W := Int.mul_ediv_cancel _ (by omega)
    rw [e, if_neg (show ¬ (W < 0 ∨ l.sum < 0 ∨ l.sum < 1) by omega), if_pos (show fits W by unfold fits; omega)]
    have hlen : 0 < l.length := by
      rcases Nat.eq_zero_or_pos l.length with z | z
      · have : l = [] := List.length_eq_zero_iff.mp z
        subst this; simp at hA
      · exact z
    have hlt : W - D < l.length := by
      have h3 : l.sum * (W - D) < l.sum * l.length := by
        have e3 : (l.length : Int) * (l.sum - 1) = l.sum * l.length - l.length := by rw [Int.mul_sub, Int.mul_one, Int.mul_comm]
        rw [e3, Int.mul_comm W] at h2
        rw [Int.mul_sub]
        omega
      exact Int.lt_of_mul_lt_mul_left h3 (by omega)
    have hmx : mx (l.length : Int) 1 = l.length := by unfold mx; rw [if_neg (by omega)]
    rw [hmx]
    simp only [if_pos (show W - D ≥ 0 by omega), if_pos hlt, if_true]
    exact hk
  | succ d ih =>
    intro i D hi hD0 hD1 h1 h2
    refine Ev.step (fun k => by rw [gangerlaw01_NumShares.l1]) ?_
    have hlt : i < l.length := by omega
    have hp := hl _ (List.getElem_mem hlt)
    rw [← rd_at l i hlt] at hp
    have hst := sum_step l i hlt
    have hle := sum_take_le l hl (i + 1)
    have hle0 := sum_take_le l hl i
    rw [hst] at hle
    generalize hpe : rd l (i : Int) = p at *
    generalize hPe : (l.take i).sum = P at *
    generalize hAe : l.sum = A at *
    rw [w64 (x := p) (by omega), w64 (x := A + 1) (by omega), w64 (x := (i : Int) + 1) (by omega)]
    simp only [if_pos (show (i : Int) < l.length by omega), if_pos (show (0 : Int) ≤ i by omega)]
    have hWp : 0 ≤ W * p := Int.mul_nonneg hW.1 (by omega)
    have hx0 : 0 ≤ W * p / A := Int.ediv_nonneg hWp (by omega)
    have hx1 : W * p / A * A ≤ W * p := Int.ediv_mul_le _ (by omega)
    have hx2 := Int.mul_ediv_add_emod (W * p) A
    have hx3 := Int.emod_lt_of_pos (W * p) hA
    have hy0 : 0 ≤ W * p / (A + 1) := Int.ediv_nonneg hWp (by omega)
    have hy1 : W * p / (A + 1) ≤ W * p / A := by
      rw [Int.le_ediv_iff_mul_le hA]
      have : W * p / (A + 1) * (A + 1) ≤ W * p := Int.ediv_mul_le _ (by omega)
      rw [Int.mul_add, Int.mul_one] at this
      omega
    generalize hye : W * p / (A + 1) = y at *
    generalize hxe : W * p / A = x at *
    have hAx : A * x ≤ W * p := by rw [Int.mul_comm]; exact hx1
    have hAx2 : W * p ≤ A * x + (A - 1) := by omega
    have hnew1 : A * (D + x) ≤ W * (P + p) := by rw [Int.mul_add, Int.mul_add]; omega
    have hnew2 : W * (P + p) ≤ A * (D + x) + ((i + 1 : Nat) : Int) * (A - 1) := by
      rw [Int.mul_add, Int.mul_add, Int.natCast_add, Int.add_mul]; omega
    have hDx : D + x ≤ W := by
      have h3 : A * (D + x) ≤ A * W := by
        have : W * (P + p) ≤ W * A := Int.mul_le_mul_of_nonneg_left hle.2 hW.1
        rw [Int.mul_comm A W]; omega
      exact Int.le_of_mul_le_mul_left h3 hA
    have m1 := muldiv_ev W p A (by unfold fits; omega) (by unfold fits; omega) (by unfold fits; omega)
    have m2 := muldiv_ev W p (A + 1) (by unfold fits; omega) (by unfold fits; omega) (by unfold fits; omega)
    rw [hxe, if_neg (show ¬ (W < 0 ∨ p < 0 ∨ A < 1) by omega), if_pos (show fits x by unfold fits; omega)] at m1
    rw [hye, if_neg (show ¬ (W < 0 ∨ p < 0 ∨ A + 1 < 1) by omega), if_pos (show fits y by unfold fits; omega)] at m2
    refine Ev.bind m1 ?_
    refine Ev.bind m2 ?_
    simp only [if_true, if_neg (show ¬ x < 0 by omega), if_neg (show ¬ x > W - D by omega), if_neg (show ¬ y > x by omega)]
    rw [w64 (x := W - D - x) (by omega), show W - D - x = W - (D + x) by omega]
    exact ih (i + 1) (D + x) (by omega) (by omega) hDx (by rw [hst]; exact hnew1) (by rw [hst]; exact hnew2)
theorem shares_l0 (W : Int) (l : List Int) (hW : 0 ≤ W ∧ W ≤ 9223372036854775807) (hl : ∀ x ∈ l, 0 ≤ x ∧ x ≤ 65535) (hn : l.length ≤ 50) (d : Nat) :
    ∀ (i : Nat), i + d = l.length → Ev (fun k => gangerlaw01_NumShares.l0 k W l (l.take i).sum i) true := by
  have hSb := sum_bound l hl
  induction d with
  | zero =>
    intro i hi
    refine Ev.step (fun k => by rw [gangerlaw01_NumShares.l0]) ?_
    obtain rfl : i = l.length := by omega
    rw [List.take_length]
    simp only [if_neg (show ¬ ((l.length : Nat) : Int) < l.length by omega)]
    by_cases h0 : l.sum = 0
    · simp only [if_pos h0]
      rw [h0]
      refine Ev.bind (muldiv_ev W 1 0 (by unfold fits; omega) (by unfold fits; omega) (by unfold fits; omega)) ?_
      rw [if_pos (show W < 0 ∨ (1 : Int) < 0 ∨ (0 : Int) < 1 by omega)]
      simp only [if_true]
      exact hk
    · simp only [if_neg h0]
      have := shares_l1 W l hW hl hn (by omega) l.length 0 0 (by omega) (by omega) (by omega) (by simp) (by simp)
      rw [Int.sub_zero] at this
      exact this
  | succ d ih =>
    intro i hi
    refine Ev.step (fun k => by rw [gangerlaw01_NumShares.l0]) ?_
    have hlt : i < l.length := by omega
    have hp := hl _ (List.getElem_mem hlt)
    rw [← rd_at l i hlt] at hp
    have hst := sum_step l i hlt
    have hle := sum_take_le l hl (i + 1)
    have hle0 := sum_take_le l hl i
    have ih' := ih (i + 1) (by omega)
    rw [hst] at ih' hle
    simp only [if_pos (show (i : Int) < l.length by omega), if_pos (show (0 : Int) ≤ i by omega)]
    rw [w64 (x := rd l i) (by omega), w64 (x := (l.take i).sum + rd l i) (by omega), w64 (x := (i : Int) + 1) (by omega)]
    exact ih'
theorem NumShares : gangerlaw01_NumShares.Pure := by
  intro W l hW hl1 hl2 hl3
  have hW := wf64 hW
  have hl : ∀ x ∈ l, 0 ≤ x ∧ x ≤ 65535 := by
    intro x hx
    have := hl3 x hx
    simpa [Lit.wf, IntKind.min, IntKind.max, IntKind.signed, IntKind.bits] using this
  apply Ev.rounds (g := fun k => gangerlaw01_NumShares.f k W l)
  unfold gangerlaw01_NumShares.f
  have hno : Ev (fun k => gangerlaw01_NumShares.j0 k W l true) true := by
    refine Ev.step (fun k => by rw [gangerlaw01_NumShares.j0]) ?_
    simp only [if_true]; exact hk
  by_cases h : W < 0
  · simp only [if_pos h]; exact hno
  · simp only [if_neg h]
    by_cases h2 : (l.length : Int) > 50
    · rw [decide_eq_true h2]; exact hno
    · rw [decide_eq_false h2]
      refine Ev.step (fun k => by rw [gangerlaw01_NumShares.j0]) ?_
      simp only [Bool.false_eq_true, if_false]
      have := shares_l0 W l (by omega) hl (by omega) l.length 0 (by omega)
      exact this
end Go.Proofs.Ytlcdlfnmofopgaa.Pure
