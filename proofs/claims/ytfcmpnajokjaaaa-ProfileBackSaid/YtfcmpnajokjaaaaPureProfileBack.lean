import Derived.Test.YtfcmpnajokjaaaaProfChange
import Derived.Test.YtfcmpnajokjaaaaProfMore
import Derived.Test.YtfcmpnajokjaaaaP0
import Derived.Test.YtfcmpnajokjaaaaP12
namespace Go.Proofs.Ytfcmpnajokjaaaa.Pure
open Go.RowKit Go.Proofs.YtfcmpnajokjaaaaW.PrintWords Go.Proofs.YtfcmpnajokjaaaaW.PrintLast Go.Proofs.YtfcmpnajokjaaaaW.PrintMore Go.Proofs.Ytfcmpnajokjaaaa.P Go.Proofs.Ytfcmpnajokjaaaa.Prof
theorem valid_eq {a b : List S39} (ha : Valid a) (hb : Valid b) {x0 : Int} (h1 : ∃ y r, a = y :: r ∧ y.f0 = x0) (h2 : ∃ y r, b = y :: r ∧ y.f0 = x0) (hs : ∀ s, x0 ≤ s → stp a s = stp b s) : a = b := by
  obtain ⟨y, r, rfl, e1⟩ := h1
  obtain ⟨z, q, rfl, e2⟩ := h2
  exact uniq r q y z ha.2.2.1 hb.2.2.1 ha.2.2.2 hb.2.2.2 (e1.trans e2.symm) (fun t ht => hs t (by omega))
theorem back_j0 (l : List S39) (f len n t o : Int) : Ev (fun k => gangerlaw05_ProfileBack.j0 k l f len n t o true) true := by
  refine Ev.step (fun k => by rw [gangerlaw05_ProfileBack.j0]) ?_
  simp only [if_true]; exact hk
theorem back_j4 (f len n : Int) (c d : List S39) : Ev (fun k => gangerlaw05_ProfileBack.j4 k f len n c d true) true := by
  refine Ev.step (fun k => by rw [gangerlaw05_ProfileBack.j4]) ?_
  simp only [if_true]; exact hk
theorem back_j3 {x y : S39} {r ra : List S39} (hl : (x :: r).length < 200) (hla : (y :: ra).length < 300) (hv : Valid (x :: r)) (ha : Valid (y :: ra)) (hy : y.f0 = x.f0) (f len n o : Int) (hc : cArg x.f0 f len n) (hs : ∀ s, x.f0 ≤ s → stp (y :: ra) s = stp (x :: r) s + shiftV f len n s) :
    Ev (fun k => gangerlaw05_ProfileBack.j3 k (x :: r) f len n o (y :: ra)) true := by
  refine Ev.step (fun k => by rw [gangerlaw05_ProfileBack.j3]) ?_
  obtain ⟨vc, c1, _, c3, c4, _⟩ := change_spec (by omega) ha o len 1
  obtain ⟨vd, d1, _, d3, d4, _⟩ := change_spec (by omega) hv o len 1
  refine Ev.bind c1 ?_
  refine Ev.bind d1 ?_
  by_cases e1 : vc.2 = 0
  · simp only [if_pos e1]
    by_cases e2 : vd.2 = 0
    · simp only [e2, bne_self_eq_false]
      obtain ⟨_, vvc, hdc, sc⟩ := c4 e1
      obtain ⟨_, vvd, ⟨w, rd', hdd, hw0⟩, sd⟩ := d4 e2
      refine Ev.step (fun k => by rw [gangerlaw05_ProfileBack.j4]) ?_
      simp only [Bool.false_eq_true, if_false]
      rw [hdd] at vvd sd d3
      obtain ⟨vq, q1, _, q3, q4, q5⟩ := change_spec (by omega) vvd f len n
      have hcw : cArg w.f0 f len n := by rw [hw0]; exact hc
      have hcx : x.f0 ≤ f := hc.1
      have hq0 := q5 hcw (fun s h1 h2 => by
        have b := stp_bd vvc.2.1 s
        rw [sc s (by omega), hs s (by omega)] at b
        rw [sd s (by omega)]
        have : shiftV f len n s = n := if_pos ⟨h1, h2⟩
        omega)
      obtain ⟨_, vvq, hdq, sq⟩ := q4 hq0
      rw [hdd]
      refine Ev.bind q1 ?_
      simp only [if_pos hq0]
      have heq : vc.1 = vq.1 := valid_eq vvc vvq (x0 := x.f0) (by obtain ⟨a, b, c, d⟩ := hdc; exact ⟨a, b, c, d.trans hy⟩) (by obtain ⟨a, b, c, d⟩ := hdq; exact ⟨a, b, c, d.trans hw0⟩) (fun s h => by
        rw [sc s (by omega), hs s h, sq s (by omega), sd s h]; omega)
      rw [heq]
      refine Ev.bind (same_self vq.1 (by simp at d3 hl q3; omega)) ?_
      simp only [if_true]
      exact hk
    · have : (vd.2 != 0) = true := by simp [e2]
      simp only [this]
      exact back_j4 _ _ _ _ _
  · simp only [if_neg e1]
    exact back_j4 _ _ _ _ _
theorem ProfileBack : gangerlaw05_ProfileBack.Pure := by
  intro l f len n t o ⟨_, _⟩ _ _ _ _ _
  apply Ev.rounds (g := fun k => gangerlaw05_ProfileBack.f k l f len n t o)
  unfold gangerlaw05_ProfileBack.f
  rw [many_f1]
  simp only [Option.bind_some]
  by_cases hm : l.length > 100
  · simp only [decide_eq_true hm, if_true]; exact back_j0 _ _ _ _ _ _
  simp only [decide_eq_false hm, Bool.false_eq_true, if_false]
  by_cases h0 : (l.length : Int) = 0
  · simp only [if_pos h0]; exact back_j0 _ _ _ _ _ _
  simp only [if_neg h0]
  by_cases hv : Valid l
  case neg =>
    refine Ev.bind (check_no (by omega) hv) ?_
    simp only [show ((50 : Int) != 0) = true by decide]
    exact back_j0 _ _ _ _ _ _
  refine Ev.bind (check_ok (by omega) hv) ?_
  simp only [show ((0 : Int) != 0) = false by decide]
  obtain ⟨x, r, rfl⟩ := hv.cons
  refine Ev.step (fun k => by rw [gangerlaw05_ProfileBack.j0]) ?_
  simp only [Bool.false_eq_true, if_false]
  obtain ⟨v, h1, _, h3, h4, _⟩ := change_spec (by omega) hv f len n
  refine Ev.bind h1 ?_
  by_cases e : v.2 = 0
  case neg => simp only [if_neg e]; exact hk
  simp only [if_pos e]
  obtain ⟨hc, va, ⟨y, ra, hya, hy⟩, sa⟩ := h4 e
  rw [hya] at va sa h3 ⊢
  have hc' := hc
  unfold cArg at hc'
  have hx := hv.bd x (by simp)
  have hwn : wrap64 (-n) = -n := w64 (by omega)
  rw [hwn]
  obtain ⟨v2, g1, _, g3, g4, g5⟩ := change_spec (by omega) va f len (-n)
  have hg0 := g5 (by unfold cArg; omega) (fun s a b => by
    have := stp_bd hv.2.1 s
    rw [sa s (by omega)]
    have : shiftV f len n s = n := if_pos ⟨a, b⟩
    omega)
  obtain ⟨_, v2v, hd2, s2⟩ := g4 hg0
  refine Ev.bind g1 ?_
  simp only [if_pos hg0]
  have heq : v2.1 = x :: r := valid_eq v2v hv (x0 := x.f0) (by obtain ⟨a, b, c, d⟩ := hd2; exact ⟨a, b, c, d.trans hy⟩) ⟨x, r, rfl, rfl⟩ (fun s h => by
    rw [s2 s (by omega), sa s h]
    unfold shiftV
    split <;> omega)
  rw [heq]
  refine Ev.bind (same_self (x :: r) (by omega)) ?_
  simp only [if_true]
  refine Ev.bind (check_ok (by omega) va) ?_
  simp only [show ((0 : Int) != 0) = false by decide]
  have hj3 := back_j3 (by omega) (by omega) hv va hy f len n o hc sa
  refine Ev.step (fun k => by rw [gangerlaw05_ProfileBack.j1]) ?_
  simp only [Bool.false_eq_true, if_false, show 0 < ((x :: r).length : Int) by rw [List.length_cons]; omega, if_true, rd_zero]
  by_cases ct : t ≥ x.f0
  case neg => simp only [if_neg ct]; exact hj3
  simp only [if_pos ct, show wrap64 (f + len) = f + len from w64 (by omega)]
  refine Ev.bind (at_ok (by omega) hv t) ?_
  have hst := sa t ct
  have hb := stp_bd va.2.1 t
  have key : Ev (fun k => gangerlaw05_ProfileBack.j2 k (x :: r) f len n t o (y :: ra) (stp (x :: r) t) (decide (f ≤ t ∧ t < f + len))) true := by
    refine Ev.step (fun k => by rw [gangerlaw05_ProfileBack.j2]) ?_
    by_cases c : f ≤ t ∧ t < f + len
    · simp only [decide_eq_true c, if_true]
      have hs : shiftV f len n t = n := if_pos c
      rw [hs] at hst
      refine Ev.bind (at_ok (by omega) va t) ?_
      rw [w64 (by omega)]
      simp only [if_pos hst]
      exact hj3
    · simp only [decide_eq_false c, Bool.false_eq_true, if_false]
      have hs : shiftV f len n t = 0 := if_neg c
      rw [hs, Int.add_zero] at hst
      refine Ev.bind (at_ok (by omega) va t) ?_
      simp only [if_pos hst]
      exact hj3
  by_cases c : t ≥ f
  · simp only [if_pos c]
    rw [show decide (f ≤ t ∧ t < f + len) = decide (t < f + len) from decide_eq_decide.2 (by omega)] at key
    exact key
  · simp only [if_neg c]
    rw [decide_eq_false (show ¬ (f ≤ t ∧ t < f + len) by omega)] at key
    exact key
end Go.Proofs.Ytfcmpnajokjaaaa.Pure
