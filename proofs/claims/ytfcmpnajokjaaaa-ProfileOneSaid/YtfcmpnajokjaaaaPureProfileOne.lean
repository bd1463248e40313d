import Derived.Test.YtfcmpnajokjaaaaProfUniq
import Derived.Test.YtfcmpnajokjaaaaP0
import Derived.Test.YtfcmpnajokjaaaaP2
import Derived.Test.YtfcmpnajokjaaaaP13
namespace Go.Proofs.Ytfcmpnajokjaaaa.Pure
open Go.RowKit Go.Proofs.YtfcmpnajokjaaaaW.PrintWords Go.Proofs.YtfcmpnajokjaaaaW.PrintLast Go.Proofs.YtfcmpnajokjaaaaW.PrintMore Go.Proofs.Ytfcmpnajokjaaaa.P Go.Proofs.Ytfcmpnajokjaaaa.Prof
set_option linter.unusedVariables false
theorem many_f (a b : List S39) : gangerlaw05_many.f a b = some (decide (a.length > 100 ∨ b.length > 100)) := by
  unfold gangerlaw05_many.f
  by_cases h : (a.length : Int) > 100
  · rw [if_pos h, decide_eq_true (show a.length > 100 ∨ b.length > 100 by omega)]
  · rw [if_neg h]; congr 1; exact decide_eq_decide.2 (by omega)
theorem one_l1 (a b : List S39) (ha : a.length < 1099511627776) (va : Valid a) (vb : Valid b) (hs : ∀ fl : Bool, fl = decide (a = b) → True) : ∀ (s p : List S39) (fl : Bool), p ++ s = b → b.length < 1099511627776 → (fl && s.all (fun x => stp a x.f0 == x.f1)) = decide (a = b) →
    Ev (fun k => gangerlaw05_ProfileOne.l1 k a b fl (p.length : Int)) true
  | [], p, fl, e, hl, hf => by
    rw [List.append_nil] at e
    subst e
    refine Ev.step (fun k => by rw [gangerlaw05_ProfileOne.l1]) ?_
    simp only [Int.lt_irrefl, if_false]
    refine Ev.bind (same_ev a p ha) ?_
    have : (fl == decide (a = p)) = true := by rw [← hf]; simp
    simp only [this, if_true]
    exact hk
  | x :: r, p, fl, e, hl, hf => by
    refine Ev.step (fun k => by rw [gangerlaw05_ProfileOne.l1]) ?_
    have hlt : (p.length : Int) < (b.length : Int) := by rw [← e]; simp; omega
    have hw : wrap64 ((p.length : Int) + 1) = ((p ++ [x]).length : Int) := by rw [w64 (by omega)]; simp
    have hrd : rd_T39 b (p.length : Int) = x := by rw [← e]; exact rd_mid p x r
    simp only [if_pos hlt, hrd, hw, show (0 : Int) ≤ (p.length : Int) by omega, if_true]
    have ih := fun fl => one_l1 a b ha va vb hs r (p ++ [x]) fl (by rw [← e]; simp) hl
    rw [List.all_cons] at hf
    cases fl with
    | true =>
      simp only [if_true]
      refine Ev.bind (at_ok ha va x.f0) ?_
      exact ih _ (by simpa using hf)
    | false =>
      simp only [Bool.false_eq_true, if_false]
      exact ih _ (by simpa using hf)
theorem one_l0 (a b : List S39) (hb : b.length < 1099511627776) (vb : Valid b) : ∀ (s p : List S39) (fl : Bool), p ++ s = a → a.length < 1099511627776 → (Ev (fun k => gangerlaw05_ProfileOne.l1 k a b (fl && s.all (fun x => stp b x.f0 == x.f1)) 0) true) →
    Ev (fun k => gangerlaw05_ProfileOne.l0 k a b fl (p.length : Int)) true
  | [], p, fl, e, hl, hf => by
    rw [List.append_nil] at e
    subst e
    refine Ev.step (fun k => by rw [gangerlaw05_ProfileOne.l0]) ?_
    simp only [Int.lt_irrefl, if_false]
    simpa using hf
  | x :: r, p, fl, e, hl, hf => by
    refine Ev.step (fun k => by rw [gangerlaw05_ProfileOne.l0]) ?_
    have hlt : (p.length : Int) < (a.length : Int) := by rw [← e]; simp; omega
    have hw : wrap64 ((p.length : Int) + 1) = ((p ++ [x]).length : Int) := by rw [w64 (by omega)]; simp
    have hrd : rd_T39 a (p.length : Int) = x := by rw [← e]; exact rd_mid p x r
    simp only [if_pos hlt, hrd, hw, show (0 : Int) ≤ (p.length : Int) by omega, if_true]
    have ih := fun fl => one_l0 a b hb vb r (p ++ [x]) fl (by rw [← e]; simp) hl
    rw [List.all_cons] at hf
    cases fl with
    | true =>
      simp only [if_true]
      refine Ev.bind (at_ok hb vb x.f0) ?_
      exact ih _ (by simpa using hf)
    | false =>
      simp only [Bool.false_eq_true, if_false]
      exact ih _ (by simpa using hf)
theorem one_j0 (a b : List S39) : Ev (fun k => gangerlaw05_ProfileOne.j0 k a b true) true := by
  refine Ev.step (fun k => by rw [gangerlaw05_ProfileOne.j0]) ?_
  simp only [if_true]; exact hk
theorem ProfileOne : gangerlaw05_ProfileOne.Pure := by
  intro a b ⟨la, _⟩ ⟨lb, _⟩
  apply Ev.rounds (g := fun k => gangerlaw05_ProfileOne.f k a b)
  unfold gangerlaw05_ProfileOne.f
  rw [many_f]
  simp only [Option.bind_some]
  by_cases hm : a.length > 100 ∨ b.length > 100
  · simp only [decide_eq_true hm, if_true]; exact one_j0 a b
  simp only [decide_eq_false hm, Bool.false_eq_true, if_false]
  have ha : a.length < 1099511627776 := by omega
  have hb : b.length < 1099511627776 := by omega
  by_cases h0 : (a.length : Int) = 0
  · simp only [if_pos h0]; exact one_j0 a b
  by_cases h1 : (b.length : Int) = 0
  · simp only [if_neg h0, if_pos h1]; exact one_j0 a b
  simp only [if_neg h0, if_neg h1]
  by_cases va : Valid a
  · refine Ev.bind (check_ok ha va) ?_
    simp only [if_true]
    by_cases vb : Valid b
    · refine Ev.bind (check_ok hb vb) ?_
      simp only [show ((0 : Int) != 0) = false by decide]
      refine Ev.step (fun k => by rw [gangerlaw05_ProfileOne.j0]) ?_
      simp only [Bool.false_eq_true, if_false, show 0 < (a.length : Int) by omega, show 0 < (b.length : Int) by omega, if_true]
      obtain ⟨x, a', rfl⟩ := va.cons
      obtain ⟨y, b', rfl⟩ := vb.cons
      rw [rd_zero, rd_zero]
      refine one_l0 (x :: a') (y :: b') hb vb (x :: a') [] _ rfl ha ?_
      refine one_l1 (x :: a') (y :: b') ha va vb (fun _ _ => trivial) (y :: b') [] _ rfl hb ?_
      by_cases e : x :: a' = y :: b'
      · rw [decide_eq_true e]
        rw [e]
        have : (y :: b').all (fun x => stp (y :: b') x.f0 == x.f1) = true := List.all_eq_true.2 (fun z hz => by rw [stp_mem vb.2.2.1 hz]; simp)
        rw [this]
        injection e with e1 e2
        rw [e1]; simp
      · rw [decide_eq_false e]
        cases h : (((x.f0 == y.f0) && (x :: a').all (fun z => stp (y :: b') z.f0 == z.f1)) && (y :: b').all (fun z => stp (x :: a') z.f0 == z.f1))
        · rfl
        · exfalso
          simp only [Bool.and_eq_true, beq_iff_eq, List.all_eq_true] at h
          obtain ⟨⟨h1, h2⟩, h3⟩ := h
          exact e (uniq a' b' x y va.2.2.1 vb.2.2.1 va.2.2.2 vb.2.2.2 h1 (fun t ht => alike va.2.2.1 vb.2.2.1 h1 h2 h3 t ht))
    · refine Ev.bind (check_no hb vb) ?_
      simp only [show ((50 : Int) != 0) = true by decide]
      exact one_j0 a b
  · refine Ev.bind (check_no ha va) ?_
    simp only [show ¬ (50 : Int) = 0 by decide, if_false]
    exact one_j0 a b
end Go.Proofs.Ytfcmpnajokjaaaa.Pure
