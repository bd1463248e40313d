import Derived.Test.YtfcmpnajokjaaaaProfMeet
import Derived.Test.YtfcmpnajokjaaaaProfMore
import Derived.Test.YtfcmpnajokjaaaaP0
import Derived.Test.YtfcmpnajokjaaaaP5
import Derived.Test.YtfcmpnajokjaaaaP19
namespace Go.Proofs.Ytfcmpnajokjaaaa.Pure
open Go.RowKit Go.Proofs.YtfcmpnajokjaaaaW.PrintWords Go.Proofs.YtfcmpnajokjaaaaW.PrintLast Go.Proofs.YtfcmpnajokjaaaaW.PrintMore Go.Proofs.Ytfcmpnajokjaaaa.P Go.Proofs.Ytfcmpnajokjaaaa.Prof
theorem ProfileMeets : gangerlaw05_ProfileMeets.Pure := by
  intro a b t ⟨_, _⟩ ⟨_, _⟩ _
  apply Ev.rounds (g := fun k => gangerlaw05_ProfileMeets.f k a b t)
  unfold gangerlaw05_ProfileMeets.f
  rw [many_f]
  simp only [Option.bind_some]
  by_cases hm : a.length > 100 ∨ b.length > 100
  · simp only [decide_eq_true hm, if_true]; exact hk
  simp only [decide_eq_false hm, Bool.false_eq_true, if_false]
  by_cases hv : Valid a ∧ Valid b
  case neg =>
    obtain ⟨h1, h2⟩ := meet_no (by omega) (by omega) hv
    obtain ⟨h3, _⟩ := meet_no (a := b) (b := a) (by omega) (by omega) (fun h => hv ⟨h.2, h.1⟩)
    refine Ev.bind h1 ?_
    refine Ev.bind h2 ?_
    refine Ev.bind h3 ?_
    refine Ev.bind (same_self [] (by simp)) ?_
    simp only [if_true]
    refine Ev.bind (same_self [] (by simp)) ?_
    simp only [if_true, bne_self_eq_false]
    refine Ev.step (fun k => by rw [gangerlaw05_ProfileMeets.j0]) ?_
    simp only [Bool.false_eq_true, if_false, show ¬ (50 : Int) = 0 by decide]
    exact hk
  obtain ⟨va, vb⟩ := hv
  obtain ⟨x, r, rfl⟩ := va.cons
  obtain ⟨y, q, rfl⟩ := vb.cons
  obtain ⟨s, h1, h2, hr, hT, hs, hn⟩ := meet_ok (by omega) (by omega) va vb
  obtain ⟨s', h3, _, hr', hT', hs', hn'⟩ := meet_ok (by omega) (by omega) vb va
  have hss : s = s' := by
    have e : s.map (·.f0) = s'.map (·.f0) := by
      refine up_ext _ _ (up_ticks hr) (up_ticks hr') (fun u => ?_)
      have e1 : u ∈ s.map (·.f0) ↔ T s u := List.mem_map
      have e2 : u ∈ s'.map (·.f0) ↔ T s' u := List.mem_map
      rw [e1, e2, hT, hT', Int.max_comm y.f0 x.f0]
      exact or_congr Iff.rfl or_comm
    have t1 := told (s := s) (g := fun u => mn (stp (x :: r) u) (stp (y :: q) u)) hs
    have t2 := told (s := s') (g := fun u => mn (stp (x :: r) u) (stp (y :: q) u)) (fun z hz => by rw [hs' z hz, mn_comm])
    rw [e] at t1
    exact t1.trans t2.symm
  subst hss
  have hlc := cf_len s
  refine Ev.bind h1 ?_
  refine Ev.bind h2 ?_
  refine Ev.bind h3 ?_
  refine Ev.bind (same_self (cf s) (by omega)) ?_
  simp only [if_true]
  refine Ev.bind (same_self (cf s) (by omega)) ?_
  simp only [if_true, bne_self_eq_false]
  refine Ev.step (fun k => by rw [gangerlaw05_ProfileMeets.j0]) ?_
  simp only [Bool.false_eq_true, if_false, if_true, show 0 < ((x :: r).length : Int) by rw [List.length_cons]; omega, show 0 < ((y :: q).length : Int) by rw [List.length_cons]; omega, rd_zero]
  by_cases c1 : t ≥ x.f0
  case neg => simp only [if_neg c1]; exact hk
  simp only [if_pos c1]
  by_cases c2 : t ≥ y.f0
  case neg => simp only [if_neg c2]; exact hk
  simp only [if_pos c2]
  obtain ⟨zt, hzt, hzt0⟩ := (hT (max x.f0 y.f0)).2 (.inl rfl)
  have hge : ∀ z ∈ s, max x.f0 y.f0 ≤ z.f0 := fun z hz => by
    rcases (hT z.f0).1 ⟨z, hz, rfl⟩ with h | h | h
    · omega
    · omega
    · omega
  have hos : ∀ z ∈ s, ok1 z := fun z hz => by
    have b1 := stp_bd va.2.1 z.f0
    have b2 := stp_bd vb.2.1 z.f0
    have b3 : 0 ≤ z.f0 ∧ z.f0 ≤ 1099511627776 := by
      rcases (hT z.f0).1 ⟨z, hz, rfl⟩ with h | ⟨⟨w, hw, h⟩, _⟩ | ⟨⟨w, hw, h⟩, _⟩
      · have := va.bd x (by simp); have := vb.bd y (by simp); omega
      · have := va.bd w hw; omega
      · have := vb.bd w hw; omega
    have b4 := hs z hz
    unfold ok1
    rw [b4, mn_le]
    refine ⟨b3.1, b3.2, ?_⟩
    split <;> omega
  have hvs : Valid (cf s) := by
    cases s with
    | nil => simp at hzt
    | cons h w => exact cf_valid hr hos
  refine Ev.bind (at_ok (by omega) hvs t) ?_
  refine Ev.bind (at_ok (by omega) va t) ?_
  refine Ev.bind (at_ok (by omega) vb t) ?_
  have key : stp (cf s) t = mn (stp (x :: r) t) (stp (y :: q) t) := by
    rw [cf_stp hr]
    obtain ⟨P, u, R, e, hu, hR⟩ := split' hr hzt (show zt.f0 ≤ t by omega)
    have hus : u ∈ s := by rw [e]; simp
    have h0 := hge u hus
    have lift : ∀ l : List S39, (∀ w, T l w → max x.f0 y.f0 < w → T s w) → stp l u.f0 = stp l t := fun l hl => by
      refine stp_congr (fun z hz => ⟨fun h => by omega, fun h => ?_⟩)
      rcases Decidable.em (max x.f0 y.f0 < z.f0) with d | d
      · obtain ⟨w, hw, hw0⟩ := hl z.f0 ⟨z, hz, rfl⟩ d
        rw [e] at hw hr
        have := tick_le hr hR hw (by omega)
        omega
      · omega
    rw [← lift (x :: r) (fun w h h' => (hT w).2 (.inr (.inl ⟨h, h'⟩))), ← lift (y :: q) (fun w h h' => (hT w).2 (.inr (.inr ⟨h, h'⟩))), ← hs u hus, e]
    exact stp_mid hu hR
  simp only [if_pos key]
  exact hk
end Go.Proofs.Ytfcmpnajokjaaaa.Pure
