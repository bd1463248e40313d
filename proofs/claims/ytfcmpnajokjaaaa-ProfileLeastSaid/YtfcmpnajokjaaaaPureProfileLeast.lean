import Derived.Test.YtfcmpnajokjaaaaProfFit
import Derived.Test.YtfcmpnajokjaaaaPureProfileTells
import Derived.Test.YtfcmpnajokjaaaaP0
import Derived.Test.YtfcmpnajokjaaaaP3
import Derived.Test.YtfcmpnajokjaaaaP6
import Derived.Test.YtfcmpnajokjaaaaP16
namespace Go.Proofs.Ytfcmpnajokjaaaa.Pure
open Go.RowKit Go.Proofs.YtfcmpnajokjaaaaW.PrintWords Go.Proofs.YtfcmpnajokjaaaaW.PrintLast Go.Proofs.YtfcmpnajokjaaaaW.PrintMore Go.Proofs.Ytfcmpnajokjaaaa.P Go.Proofs.Ytfcmpnajokjaaaa.Prof
theorem hkn : Ev (fun n => (gangerlaw05_known.f n).bind fun t => some t) true := hk
theorem fit_of {x : S39} {r : List S39} (hl : (x :: r).length < 10000) (hv : Valid (x :: r)) {f len n t : Int} (h : ¬ argBad f len n) (ht : max f x.f0 ≤ t) (hf : Free (x :: r) len n t) : ∃ u, u ≤ t ∧ Ev (fun k => profile_Fit.f k (x :: r) f len n) (u, 0) := by
  obtain ⟨v, h1, _, h3⟩ := fit_ok hl hv h
  rcases h3 with ⟨a, _, _, _, b⟩ | ⟨_, b⟩
  · refine ⟨v.1, ?_, ?_⟩
    · rcases Decidable.em (v.1 ≤ t) with c | c
      · exact c
      · exact absurd hf (b t ht (by omega))
    · rw [← a]; exact h1
  · exact absurd hf (b t ht)
theorem least_j3 {x : S39} {r : List S39} (hl : (x :: r).length < 10000) (hv : Valid (x :: r)) {f len n t later : Int} (h : ¬ argBad f len n) (hfi : FitIs (x :: r) (max f x.f0) len n (t, 0)) : Ev (fun k => gangerlaw05_ProfileLeast.j3 k (x :: r) f len n later t false) true := by
  rcases hfi with ⟨_, g1, _, g2, g3⟩ | ⟨g, _⟩
  case inr => simp at g
  simp only at g1 g2 g3
  refine Ev.step (fun k => by rw [gangerlaw05_ProfileLeast.j3]) ?_
  simp only [Bool.false_eq_true, if_false]
  by_cases hb : argBad later len n
  · obtain ⟨e, he, h1, _⟩ := fit_no hl (l := x :: r) (f := later) (len := len) (n := n) (.inr hb)
    refine Ev.bind h1 ?_
    simp only [if_neg he]
    exact hk
  · obtain ⟨w, h1, _, h3⟩ := fit_ok hl hv hb
    refine Ev.bind h1 ?_
    rcases h3 with ⟨a, b, _, c, d⟩ | ⟨a, b⟩
    · simp only [if_pos a]
      have q1 : later ≥ f → ¬ w.1 < t := fun hh hlt => g3 w.1 (by omega) hlt c
      have q2 : later ≤ f → ¬ w.1 > t := fun hh hlt => d t (by omega) hlt g2
      by_cases c1 : later ≥ f
      · simp only [if_pos c1, if_neg (q1 c1)]
        by_cases c2 : later ≤ f
        · simp only [if_pos c2, if_neg (q2 c2), ite_self]; exact hk
        · simp only [if_neg c2]; exact hk
      · simp only [if_neg c1, if_pos (show later ≤ f by omega), if_neg (q2 (by omega)), ite_self]; exact hk
    · rw [a]
      simp only [show ¬ (5 : Int) = 0 by decide, if_false]
      exact hk
theorem least_l0 {x : S39} {r : List S39} (hl : (x :: r).length < 10000) (hv : Valid (x :: r)) {f len n t less later : Int} (h : ¬ argBad f len n) (ht : t ≤ 1099511627776) (hfi : FitIs (x :: r) (max f x.f0) len n (t, 0)) : ∀ (d : Nat) (i : Int), 1 ≤ i → i + d = 4 →
    Ev (fun k => gangerlaw05_ProfileLeast.l0 k (x :: r) f len n less later t i) true
  | 0, i, hi, hd => by
    unfold argBad at h
    refine Ev.step (fun k => by rw [gangerlaw05_ProfileLeast.l0]) ?_
    have hu : IntKind.u64.wrap len = len := by rw [IntKind.wrap_u64]; omega
    have hm0 : 0 ≤ IntKind.u64.wrap less := by rw [IntKind.wrap_u64]; omega
    have hm : Int.tmod (IntKind.u64.wrap less) len = IntKind.u64.wrap less % len := Int.tmod_eq_emod_of_nonneg hm0
    have hm1 := Int.emod_nonneg (IntKind.u64.wrap less) (show len ≠ 0 by omega)
    have hm2 := Int.emod_lt_of_pos (IntKind.u64.wrap less) (show 0 < len by omega)
    simp only [if_neg (show ¬ i ≤ 3 by omega), hu, if_neg (show ¬ len = 0 by omega), hm]
    rw [w64 (x := IntKind.u64.wrap less % len) (by omega), w64 (x := 1 + IntKind.u64.wrap less % len) (by omega)]
    have hfi' := hfi
    rcases hfi with ⟨_, g1, _, g2, g3⟩ | ⟨g, _⟩
    case inr => simp at g
    simp only at g1 g2 g3
    obtain ⟨u, hu1, hu2⟩ := fit_of hl hv (f := f) (len := 1 + IntKind.u64.wrap less % len) (n := n) (t := t) (by unfold argBad; omega) g1 (fun s a b => g2 s a (by omega))
    have hmn : 0 ≤ mn (mx less 0) n ∧ mn (mx less 0) n ≤ n := by rw [mn_le, mx_max]; split <;> omega
    obtain ⟨w, hw1, hw2⟩ := fit_of hl hv (f := f) (len := len) (n := mn (mx less 0) n) (t := t) (by unfold argBad; omega) g1 (fun s a b => by have := g2 s a b; omega)
    refine Ev.bind hu2 ?_
    refine Ev.bind hw2 ?_
    simp only [if_true, if_neg (show ¬ u > t by omega), decide_eq_false (show ¬ w > t by omega)]
    exact least_j3 hl hv (by unfold argBad; omega) hfi'
  | d + 1, i, hi, hd => by
    have ih := least_l0 hl hv (less := less) (later := later) h ht hfi d (i + 1) (by omega) (by omega)
    unfold argBad at h
    have hx := hv.bd x (by simp)
    rcases hfi with ⟨_, g1, _, g2, g3⟩ | ⟨g, _⟩
    case inr => simp at g
    simp only at g1 g2 g3
    refine Ev.step (fun k => by rw [gangerlaw05_ProfileLeast.l0]) ?_
    simp only [if_pos (show i ≤ 3 by omega), show wrap64 (t - i) = t - i from w64 (by omega), show wrap64 (i + 1) = i + 1 from w64 (by omega), show 0 < ((x :: r).length : Int) by rw [List.length_cons]; omega, if_true, rd_zero]
    by_cases c : t - i ≥ f
    · simp only [if_pos c]
      by_cases e : t - i ≥ x.f0
      · simp only [if_pos e]
        obtain ⟨v, h1, _, h3, h4⟩ := least_ok (by omega) hv (f := t - i) (len := len) e (by omega)
        refine Ev.bind h1 ?_
        have hm1 : mn (t - i) 1099511627776 = t - i := by rw [mn_le, if_pos (by omega)]
        have hm2 : mn len 1099511627776 = len := by rw [mn_le, if_pos (by omega)]
        rw [hm1, hm2] at h3
        have : ¬ v ≥ n := fun hh => g3 (t - i) (by omega) (by omega) ((h3 n (by omega)).1 hh)
        simp only [if_neg this]
        exact ih
      · simp only [if_neg e]; exact ih
    · simp only [if_neg c]; exact ih
theorem ProfileLeast : gangerlaw05_ProfileLeast.Pure := by
  intro l f len n less later ⟨_, _⟩ _ _ _ _ _
  apply Ev.rounds (g := fun k => gangerlaw05_ProfileLeast.f k l f len n less later)
  unfold gangerlaw05_ProfileLeast.f
  rw [many_f1]
  simp only [Option.bind_some]
  by_cases hm : l.length > 100
  · simp only [decide_eq_true hm, if_true]; exact hk
  simp only [decide_eq_false hm, Bool.false_eq_true, if_false]
  have hl : l.length < 10000 := by omega
  by_cases h : ¬ Valid l ∨ argBad f len n
  · obtain ⟨e, he, h1, _⟩ := fit_no hl h
    refine Ev.bind h1 ?_
    simp only [if_neg he]
    exact hk
  · have hv : Valid l := Classical.byContradiction fun hn => h (.inl hn)
    obtain ⟨x, r, rfl⟩ := hv.cons
    have hna : ¬ argBad f len n := fun hb => h (.inr hb)
    obtain ⟨v, h1, _, h3⟩ := fit_ok hl hv hna
    refine Ev.bind h1 ?_
    rcases h3 with ⟨a, g1, gM, g2, g3⟩ | ⟨a, b⟩
    · have hfi : FitIs (x :: r) (max f x.f0) len n (v.1, 0) := .inl ⟨rfl, g1, gM, g2, g3⟩
      have hna' := hna
      unfold argBad at hna'
      simp only [if_pos a, show ¬ ((x :: r).length : Int) = 0 by rw [List.length_cons]; omega, if_false, decide_eq_false (show ¬ len < 1 by omega)]
      refine Ev.step (fun k => by rw [gangerlaw05_ProfileLeast.j0]) ?_
      simp only [Bool.false_eq_true, if_false]
      obtain ⟨w, e1, _, e3, e4⟩ := least_ok (by omega) hv (f := v.1) (len := len) (by omega) (by omega)
      refine Ev.bind e1 ?_
      have hm1 : mn v.1 1099511627776 = v.1 := by rw [mn_le, if_pos gM]
      have hm2 : mn len 1099511627776 = len := by rw [mn_le, if_pos (by omega)]
      rw [hm1, hm2] at e3
      have hn : n ≤ 1099511627776 := by
        have e5 := g2 v.1 (Int.le_refl _) (by omega)
        have e6 := stp_le hv v.1
        omega
      have hw : ¬ w < n := by have := (e3 n hn).2 g2; omega
      simp only [if_neg hw, decide_eq_false (show ¬ v.1 < f by omega)]
      refine Ev.step (fun k => by rw [gangerlaw05_ProfileLeast.j1]) ?_
      simp only [Bool.false_eq_true, if_false]
      exact least_l0 hl hv hna gM hfi 3 1 (by omega) (by omega)
    · rw [a]
      simp only [show ¬ (5 : Int) = 0 by decide, if_false]
      exact hk
end Go.Proofs.Ytfcmpnajokjaaaa.Pure
