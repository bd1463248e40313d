/- NumSums: of any numbers the sum, cut off at each step, is what the reference says; of numbers of one sign it is the same backwards. Conditions: none beyond what the row says. -/
import Derived.Test.YtlcdlfnmofopgaaNumCore
import Derived.Test.YtlcdlfnmofopgaaP0
import Derived.Test.YtlcdlfnmofopgaaP1
import Derived.Test.YtlcdlfnmofopgaaP3
import Derived.Test.YtlcdlfnmofopgaaP6
namespace Go.Proofs.Ytlcdlfnmofopgaa.Pure
open Go.RowKit Go.Proofs.YtlcdlfnmofopgaaW.PrintWords Go.Proofs.YtlcdlfnmofopgaaW.PrintLast Go.Proofs.YtlcdlfnmofopgaaW.PrintMore Go.Proofs.Ytlcdlfnmofopgaa.P Go.Proofs.Ytlcdlfnmofopgaa.NumM
set_option linter.unusedVariables false
/-- one behind the other, cut off -/
def csum (l : List Int) : Int := l.foldl (fun s n => cutoff (s + n)) 0
theorem cut_fits (v : Int) : fits (cutoff v) := by unfold fits cutoff; split <;> (try split) <;> omega
theorem csum_fits (l : List Int) : fits (csum l) := by
  unfold csum
  have : ∀ (l : List Int) (s : Int), fits s → fits (l.foldl (fun s n => cutoff (s + n)) s) := by
    intro l
    induction l with
    | nil => intro s h; exact h
    | cons x l ih => intro s h; exact ih _ (cut_fits _)
  exact this l 0 (by unfold fits; omega)
theorem csum_snoc (l : List Int) (x : Int) : csum (l ++ [x]) = cutoff (csum l + x) := by unfold csum; rw [List.foldl_append]; rfl
theorem rd_at (l : List Int) (i : Nat) (h : i < l.length) : rd l (i : Int) = l[i] := by
  unfold rd; rw [Int.toNat_natCast, List.getD_eq_getElem?_getD, List.getElem?_eq_getElem h]; rfl
theorem csum_step (l : List Int) (i : Nat) (h : i < l.length) : csum (l.take (i + 1)) = cutoff (csum (l.take i) + rd l i) := by
  rw [List.take_succ_eq_append_getElem h, csum_snoc, rd_at l i h]
theorem sum_l (l : List Int) (hl : ∀ x ∈ l, fits x) (hb : l.length < 4611686018427387904) (d : Nat) : ∀ (i : Nat), i + d = l.length → ∀ k, d < k →
    num_Sum.l0 k (csum (l.take i)) l l.length i = some (csum l) := by
  induction d with
  | zero =>
    intro i hi k hk
    obtain ⟨k, rfl⟩ : ∃ j, k = j + 1 := ⟨k - 1, by omega⟩
    simp only [num_Sum.l0]
    rw [if_neg (by omega), List.take_of_length_le (by omega)]
  | succ d ih =>
    intro i hi k hk
    obtain ⟨k, rfl⟩ : ∃ j, k = j + 1 := ⟨k - 1, by omega⟩
    have hlt : i < l.length := by omega
    have hx : fits (rd l i) := by rw [rd_at l i hlt]; exact hl _ (List.getElem_mem hlt)
    have hs := csum_fits (l.take i)
    have hst := csum_step l i hlt
    simp only [num_Sum.l0]
    rw [if_pos (by omega), if_pos (by omega), if_pos (by omega), add_f _ _ hs hx, Option.bind_some]
    have ih' := ih (i + 1) (by omega) k (by omega)
    rw [hst] at ih'
    have hw : wrap64 ((i : Int) + 1) = ((i + 1 : Nat) : Int) := by rw [w64 (by omega)]; omega
    rw [hw]
    by_cases c : fits (csum (l.take i) + rd l i)
    · rw [if_pos c, if_pos rfl]
      have e : cutoff (csum (l.take i) + rd l i) = csum (l.take i) + rd l i := by
        unfold fits at c; unfold cutoff; rw [if_neg (by omega), if_neg (by omega)]
      rw [e] at ih'
      exact ih'
    · rw [if_neg c, if_neg (by decide)]
      unfold fits at c hs hx
      by_cases p : rd l i > 0
      · rw [if_pos p]
        have e : cutoff (csum (l.take i) + rd l i) = 9223372036854775807 := by unfold cutoff; rw [if_neg (by omega), if_pos (by omega)]
        rw [e] at ih'; exact ih'
      · rw [if_neg p]
        have e : cutoff (csum (l.take i) + rd l i) = -9223372036854775808 := by unfold cutoff; rw [if_pos (by omega)]
        rw [e] at ih'; exact ih'
theorem sum_ev (l : List Int) (hl : ∀ x ∈ l, fits x) (hb : l.length < 4611686018427387904) : Ev (fun k => num_Sum.f k l) (csum l) := by
  refine Ev.of (fun k => num_Sum.mono _ k) (k := l.length + 1) ?_
  unfold num_Sum.f
  have h := sum_l l hl hb l.length 0 (by omega) (l.length + 1) (by omega)
  rw [List.take_zero] at h
  exact h
theorem csum_up (l : List Int) (h : ∀ x ∈ l, 0 ≤ x) : csum l = cutoff l.sum ∧ 0 ≤ l.sum := by
  have : ∀ (l : List Int) (s : Int), 0 ≤ s → (∀ x ∈ l, 0 ≤ x) → l.foldl (fun s n => cutoff (s + n)) (cutoff s) = cutoff (s + l.sum) ∧ 0 ≤ l.sum := by
    intro l
    induction l with
    | nil => intro s h _; simp
    | cons x l ih =>
      intro s hs hx
      have h0 := hx x List.mem_cons_self
      have ih' := ih (s + x) (by omega) (fun y hy => hx y (List.mem_cons_of_mem _ hy))
      have e : cutoff (cutoff s + x) = cutoff (s + x) := by unfold cutoff; split <;> (try split) <;> (try split) <;> (try split) <;> omega
      simp only [List.foldl_cons, List.sum_cons]
      rw [e, ih'.1]
      exact ⟨by rw [Int.add_assoc], by omega⟩
  have e := this l 0 (by omega) h
  rw [Int.zero_add] at e
  exact e
theorem csum_down (l : List Int) (h : ∀ x ∈ l, x < 0) : csum l = cutoff l.sum ∧ l.sum ≤ 0 := by
  have : ∀ (l : List Int) (s : Int), s ≤ 0 → (∀ x ∈ l, x < 0) → l.foldl (fun s n => cutoff (s + n)) (cutoff s) = cutoff (s + l.sum) ∧ l.sum ≤ 0 := by
    intro l
    induction l with
    | nil => intro s h _; simp
    | cons x l ih =>
      intro s hs hx
      have h0 := hx x List.mem_cons_self
      have ih' := ih (s + x) (by omega) (fun y hy => hx y (List.mem_cons_of_mem _ hy))
      have e : cutoff (cutoff s + x) = cutoff (s + x) := by unfold cutoff; split <;> (try split) <;> (try split) <;> (try split) <;> omega
      simp only [List.foldl_cons, List.sum_cons]
      rw [e, ih'.1]
      exact ⟨by rw [Int.add_assoc], by omega⟩
  have e := this l 0 (by omega) h
  rw [Int.zero_add] at e
  exact e
theorem csum_back (l : List Int) (h : ∀ x ∈ l, decide (x ≥ 0) = decide (rd l 0 ≥ 0)) : csum l.reverse = csum l := by
  by_cases c : rd l 0 ≥ 0
  · have hp : ∀ x ∈ l, 0 ≤ x := fun x hx => by have := h x hx; rw [decide_eq_decide] at this; omega
    rw [(csum_up l hp).1, (csum_up l.reverse (fun x hx => hp x (List.mem_reverse.mp hx))).1, List.sum_reverse]
  · have hp : ∀ x ∈ l, x < 0 := fun x hx => by have := h x hx; rw [decide_eq_decide] at this; omega
    rw [(csum_down l hp).1, (csum_down l.reverse (fun x hx => hp x (List.mem_reverse.mp hx))).1, List.sum_reverse]
theorem hk : Ev (fun n => (gangerlaw01_known.f n).bind fun t => some t) true := Ev.bind known_ev (Ev.now _)
theorem sums_l (l : List Int) (hl : ∀ x ∈ l, fits x) (hb : l.length ≤ 2000) (d : Nat) : ∀ (i : Nat) (same : Bool), i + d = l.length →
    (same = true → ∀ x ∈ l.take i, decide (x ≥ 0) = decide (rd l 0 ≥ 0)) →
    Ev (fun k => gangerlaw01_NumSums.l0 k l (csum (l.take i)) same (l.reverse.take i) i) true := by
  induction d with
  | zero =>
    intro i same hi hs
    refine Ev.step (fun k => by rw [gangerlaw01_NumSums.l0]) ?_
    rw [List.take_of_length_le (by omega)] at hs
    simp only [if_neg (show ¬ ((i : Int) < l.length) by omega), List.take_of_length_le (show l.length ≤ i by omega), List.take_of_length_le (show l.reverse.length ≤ i by rw [List.length_reverse]; omega)]
    refine Ev.bind (sum_ev l hl (by omega)) ?_
    simp only [if_true]
    cases same with
    | true =>
      simp only [if_true]
      refine Ev.bind (sum_ev l.reverse (fun x hx => hl x (List.mem_reverse.mp hx)) (by rw [List.length_reverse]; omega)) ?_
      rw [csum_back l (hs rfl)]
      simp only [if_true]
      exact hk
    | false => simp only [Bool.false_eq_true, if_false]; exact hk
  | succ d ih =>
    intro i same hi hs
    refine Ev.step (fun k => by rw [gangerlaw01_NumSums.l0]) ?_
    have hlt : i < l.length := by omega
    have hx : fits (rd l i) := by rw [rd_at l i hlt]; exact hl _ (List.getElem_mem hlt)
    have hcs := csum_fits (l.take i)
    simp only [if_pos (show (i : Int) < l.length by omega), if_pos (show (0 : Int) ≤ i by omega), of_f _ hcs, of_f _ hx, Option.bind_some]
    obtain ⟨m, h, lo, ep, p0, p1, l0, l1, hsv⟩ := Plus_f (decide (csum (l.take i) < 0)) (decide (rd l i < 0)) 0 (csum (l.take i)).natAbs 0 (rd l i).natAbs (by omega) (by unfold fits at hcs; omega) (by omega) (by unfold fits at hx; omega)
    rw [sv_of, sv_of] at hsv
    simp only [ep, Option.bind_some]
    have he := end_ev m h lo p0 l0 l1
    rw [hsv, ← csum_step l i hlt] at he
    refine Ev.bind he ?_
    have hw : wrap64 ((i : Int) + 1) = ((i + 1 : Nat) : Int) := by rw [w64 (by omega)]; omega
    have hw2 : wrap64 (wrap64 ((l.length : Int) - 1) - i) = ((l.length - 1 - i : Nat) : Int) := by rw [w64 (x := (l.length : Int) - 1) (by omega), w64 (by omega)]; omega
    have hr : l.reverse.take i ++ [rd l ((l.length - 1 - i : Nat) : Int)] = l.reverse.take (i + 1) := by
      rw [List.take_succ_eq_append_getElem (by rw [List.length_reverse]; omega), rd_at l _ (by omega), List.getElem_reverse]
    have hln : (l.reverse.take i).length < 17592186044416 := by rw [List.length_take, List.length_reverse]; omega
    simp only [hw, hw2, if_pos (show (0 : Int) < l.length by omega), if_pos (show (0 : Int) ≤ ((l.length - 1 - i : Nat) : Int) by omega), if_pos (show ((l.length - 1 - i : Nat) : Int) < l.length by omega), if_pos hln, hr]
    cases same with
    | true =>
      simp only [if_true]
      refine ih (i + 1) _ (by omega) ?_
      intro hsame x hxm
      rw [List.take_succ_eq_append_getElem hlt] at hxm
      rcases List.mem_append.mp hxm with hxm | hxm
      · exact hs rfl x hxm
      · have : x = rd l i := by rw [rd_at l i hlt]; simpa using hxm
        subst this
        simpa using hsame
    | false =>
      simp only [Bool.false_eq_true, if_false]
      exact ih (i + 1) false (by omega) (fun h => by cases h)
theorem NumSums : gangerlaw01_NumSums.Pure := by
  intro l hl1 hl2 hl3
  apply Ev.rounds (g := fun k => gangerlaw01_NumSums.f k l)
  unfold gangerlaw01_NumSums.f
  by_cases c : (l.length : Int) > 2000
  · simp only [if_pos c]; exact hk
  · simp only [if_neg c]
    have h := sums_l l (fun x hx => wf64 (hl3 x hx)) (by omega) l.length 0 true (by omega) (fun _ x hx => by simp at hx)
    simpa [csum] using h
end Go.Proofs.Ytlcdlfnmofopgaa.Pure
