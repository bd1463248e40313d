/- Where it fits: both sides tell the least tick from which on enough are free for long enough, or that there is none. -/
import Derived.Test.YtfcmpnajokjaaaaProfLeast
import Derived.Test.YtfcmpnajokjaaaaProfEnds
import Derived.Test.YtfcmpnajokjaaaaP0
import Derived.Test.YtfcmpnajokjaaaaP2
import Derived.Test.YtfcmpnajokjaaaaP3
import Derived.Test.YtfcmpnajokjaaaaP8
namespace Go.Proofs.Ytfcmpnajokjaaaa.Prof
open Go.RowKit Go.Proofs.YtfcmpnajokjaaaaW.PrintWords Go.Proofs.YtfcmpnajokjaaaaW.PrintLast Go.Proofs.YtfcmpnajokjaaaaW.PrintMore Go.Proofs.Ytfcmpnajokjaaaa.P
/-- enough are free for long enough -/
def Free (l : List S39) (len n t : Int) : Prop := ∀ s, t ≤ s → s < t + len → n ≤ stp l s
/-- what fits: the least one, or none -/
def FitIs (l : List S39) (start len n : Int) (v : Int × Int) : Prop :=
  (v.2 = 0 ∧ start ≤ v.1 ∧ v.1 ≤ 1099511627776 ∧ Free l len n v.1 ∧ ∀ s, start ≤ s → s < v.1 → ¬ Free l len n s) ∨ (v = (0, 5) ∧ ∀ s, start ≤ s → ¬ Free l len n s)
theorem fit_uniq {l : List S39} {start len n : Int} {v w : Int × Int} (h : FitIs l start len n v) (h' : FitIs l start len n w) : v = w := by
  rcases h with ⟨h1, h2, _, h3, h4⟩ | ⟨h1, h2⟩ <;> rcases h' with ⟨g1, g2, _, g3, g4⟩ | ⟨g1, g2⟩
  · have : v.1 = w.1 := by
      rcases Int.lt_trichotomy v.1 w.1 with c | c | c
      · exact absurd h3 (g4 v.1 h2 c)
      · exact c
      · exact absurd g3 (h4 w.1 g2 c)
    cases v; cases w; simp at this h1 g1; rw [this, h1, g1]
  · exact absurd h3 (g2 v.1 h2)
  · exact absurd g3 (h2 w.1 g2)
  · rw [h1, g1]
theorem fit_l (l : List S39) (hl : l.length < 10000) (hv : Valid l) (len n : Int) (hlen : 1 ≤ len ∧ len ≤ 1099511627776) (st0 : Int) : ∀ (r p : List S39) (z : S39) (start : Int), p ++ z :: r = l → 0 ≤ start → start ≤ 1099511627776 → st0 ≤ start →
    (∀ s, st0 ≤ s → s < start → ¬ Free l len n s) → (∀ s, start ≤ s → s < z.f0 → n ≤ stp l s) → z.f0 < start + len → (∀ y ∈ r, start < y.f0) →
    ∃ v, Ev (fun k => profile_Fit.l0 k l len n start (p.length : Int)) v ∧ FitIs l st0 len n v
  | r, p, z, start, e, h0, hM, hst, hA, hB, hz, hnx => by
    have hr : Rise l := hv.2.2.1
    have hrz : Rise (z :: r) := by rw [← e] at hr; exact (List.pairwise_append.1 hr).2.1
    have hq : p.length + 1 + r.length = l.length := by rw [← e]; simp; omega
    have hw : wrap64 ((p.length : Int) + 1) = ((p.length + 1 : Nat) : Int) := by rw [w64 (by omega)]; simp
    have hrd : rd_T39 l (p.length : Int) = z := by rw [← e]; exact rd_mid p z r
    have hzok := hv.bd z (by rw [← e]; simp)
    have hstz : ∀ s, z.f0 ≤ s → (∀ y ∈ r, s < y.f0) → stp l s = z.f1 := fun s hs hy => by rw [← e]; exact stp_mid hs hy
    have bad : z.f1 < n → ∀ s, st0 ≤ s → (∀ y ∈ r, s < y.f0) → ¬ Free l len n s := fun hn s hs hy hf => by
      rcases Decidable.em (s < start) with c | c
      · exact hA s hs c hf
      · rcases Decidable.em (s < z.f0) with d | d
        · have h1 := hf z.f0 (by omega) (by omega)
          rw [hstz z.f0 (Int.le_refl _) (fun y hy' => (List.pairwise_cons.1 hrz).1 y hy')] at h1
          omega
        · have h1 := hf s (Int.le_refl _) (by omega)
          rw [hstz s (by omega) hy] at h1
          omega
    have good : ¬ z.f1 < n → ∀ s, start ≤ s → (∀ y ∈ r, s < y.f0) → n ≤ stp l s := fun hn s hs hy => by
      rcases Decidable.em (s < z.f0) with d | d
      · exact hB s hs d
      · rw [hstz s (by omega) hy]; omega
    have tolo : ∀ v, Ev (fun k => profile_Fit.j1 k l len n start (p.length : Int) (decide (z.f1 < n ∧ r = []))) v → Ev (fun k => profile_Fit.l0 k l len n start (p.length : Int)) v := fun v h => by
      refine Ev.step (fun k => by rw [profile_Fit.l0]) ?_
      simp only [show (p.length : Int) < (l.length : Int) by omega, show (0 : Int) ≤ (p.length : Int) by omega, if_true, hrd, hw]
      by_cases c : z.f1 < n
      · simp only [if_pos c]
        have : (((p.length + 1 : Nat) : Int) == (l.length : Int)) = decide (z.f1 < n ∧ r = []) := by
          by_cases d : r = []
          · subst d
            rw [decide_eq_true ⟨c, rfl⟩]; simp at hq ⊢; omega
          · rw [decide_eq_false (fun h => d h.2)]
            have : r.length ≠ 0 := fun h => d (List.length_eq_zero_iff.1 h)
            simp; omega
        rw [this]; exact h
      · simp only [if_neg c]
        rw [decide_eq_false (fun h => c h.1)] at h
        exact h
    by_cases c : z.f1 < n
    · cases r with
      | nil =>
        refine ⟨(0, 5), tolo _ ?_, .inr ⟨rfl, fun s hs => bad c s hs (by simp)⟩⟩
        rw [decide_eq_true ⟨c, rfl⟩]
        refine Ev.step (fun k => by rw [profile_Fit.j1]) ?_
        simp only [if_true]
        exact Ev.now _
      | cons y r =>
        have hy := (List.pairwise_cons.1 hrz).1 y (by simp)
        have hyok := hv.bd y (by rw [← e]; simp)
        have hsy := hnx y (by simp)
        have hrd2 : rd_T39 l ((p.length + 1 : Nat) : Int) = y := by
          have := rd_mid (p ++ [z]) y r
          rw [List.append_assoc, List.singleton_append, e] at this
          simpa using this
        obtain ⟨v, hv1, hv2⟩ := fit_l l hl hv len n hlen st0 r (p ++ [z]) y y.f0 (by rw [← e]; simp) (by omega) (by omega) (by omega) (fun s hs h1 => by
          rcases Decidable.em (s < start) with c' | c'
          · exact hA s hs c'
          · exact bad c s hs (fun q hq' => by have := head_le (List.pairwise_cons.1 hrz).2 q hq'; omega)) (fun s h1 h2 => by omega) (by omega) (List.pairwise_cons.1 (List.pairwise_cons.1 hrz).2).1
        refine ⟨v, tolo _ ?_, hv2⟩
        rw [decide_eq_false (by simp)]
        refine Ev.step (fun k => by rw [profile_Fit.j1]) ?_
        simp only [Bool.false_eq_true, if_false, show (p.length : Int) < (l.length : Int) by omega, show (0 : Int) ≤ (p.length : Int) by omega, if_true, hrd, if_pos c, hw, show (0 : Int) ≤ ((p.length + 1 : Nat) : Int) by omega, show ((p.length + 1 : Nat) : Int) < (l.length : Int) by simp at hq; omega, hrd2]
        simpa using hv1
    · have fin : (∀ s, start ≤ s → s < start + len → ∀ y ∈ r, s < y.f0) → FitIs l st0 len n (start, 0) := fun h =>
        .inl ⟨rfl, hst, hM, fun s h1 h2 => good c s h1 (h s h1 h2), fun s h1 h2 => hA s h1 h2⟩
      cases r with
      | nil =>
        refine ⟨(start, 0), tolo _ ?_, fin (by simp)⟩
        rw [decide_eq_false (fun h => c h.1)]
        refine Ev.step (fun k => by rw [profile_Fit.j1]) ?_
        simp only [Bool.false_eq_true, if_false, show (p.length : Int) < (l.length : Int) by omega, show (0 : Int) ≤ (p.length : Int) by omega, if_true, hrd, if_neg c, hw, show ((p.length + 1 : Nat) : Int) = (l.length : Int) by simp at hq; omega]
        exact Ev.now _
      | cons y r =>
        have hy := (List.pairwise_cons.1 hrz).1 y (by simp)
        have hyok := hv.bd y (by rw [← e]; simp)
        have hsy := hnx y (by simp)
        have hrd2 : rd_T39 l ((p.length + 1 : Nat) : Int) = y := by
          have := rd_mid (p ++ [z]) y r
          rw [List.append_assoc, List.singleton_append, e] at this
          simpa using this
        have hj : ∀ v, Ev (fun k => if y.f0 - start ≥ len then some (start, 0) else profile_Fit.l0 k l len n start ((p.length + 1 : Nat) : Int)) v → Ev (fun k => profile_Fit.l0 k l len n start (p.length : Int)) v := fun v h => by
          refine tolo v ?_
          rw [decide_eq_false (by simp)]
          refine Ev.step (fun k => by rw [profile_Fit.j1]) ?_
          simp only [Bool.false_eq_true, if_false, show (p.length : Int) < (l.length : Int) by omega, show (0 : Int) ≤ (p.length : Int) by omega, if_true, hrd, if_neg c, hw, show ¬ ((p.length + 1 : Nat) : Int) = (l.length : Int) by simp at hq; omega, show (0 : Int) ≤ ((p.length + 1 : Nat) : Int) by omega, show ((p.length + 1 : Nat) : Int) < (l.length : Int) by simp at hq; omega, hrd2, show wrap64 (y.f0 - start) = y.f0 - start from w64 (by omega)]
          exact h
        by_cases d : y.f0 - start ≥ len
        · refine ⟨(start, 0), hj _ ?_, fin (fun s h1 h2 q hq' => by have := head_le (List.pairwise_cons.1 hrz).2 q hq'; omega)⟩
          simp only [if_pos d]
          exact Ev.now _
        · obtain ⟨v, hv1, hv2⟩ := fit_l l hl hv len n hlen st0 r (p ++ [z]) y start (by rw [← e]; simp) h0 hM hst hA (fun s h1 h2 => good c s h1 (fun q hq' => by have := head_le (List.pairwise_cons.1 hrz).2 q hq'; omega)) (by omega) (fun q hq' => by have := (List.pairwise_cons.1 (List.pairwise_cons.1 hrz).2).1 q hq'; omega)
          refine ⟨v, hj _ ?_, hv2⟩
          simp only [if_neg d]
          simpa using hv1
termination_by r => r.length
theorem mx_max (a b : Int) : mx a b = max a b := by unfold mx; split <;> omega
/-- a tick that fits: so does the last tick of a level ahead of it -/
theorem tick_free {x : S39} {r : List S39} (hr : Rise (x :: r)) {len n st s : Int} (hx : x.f0 ≤ st) (hs : st ≤ s) (hf : Free (x :: r) len n s) (at_ : List Int) (hat : ∀ u, u ∈ at_ ↔ u = st ∨ ∃ z ∈ x :: r, z.f0 = u ∧ st < z.f0) (hlen : 1 ≤ len) : ∃ u ∈ at_, u ≤ s ∧ Free (x :: r) len n u := by
  obtain ⟨p, y, q, e, h1, h2⟩ := split r x s hr (by omega)
  have key : ∀ u, y.f0 ≤ u → st ≤ u → u ≤ s → Free (x :: r) len n u := fun u hu _ hus w hw1 hw2 => by
    rcases Decidable.em (s ≤ w) with c | c
    · exact hf w c (by omega)
    · have g1 : stp (x :: r) w = y.f1 := by rw [e]; exact stp_mid (by omega) (fun z hz => by have := h2 z hz; omega)
      have g2 : stp (x :: r) s = y.f1 := by rw [e]; exact stp_mid h1 h2
      rw [g1, ← g2]
      exact hf s (Int.le_refl _) (by omega)
  rcases Decidable.em (y.f0 ≤ st) with c | c
  · exact ⟨st, (hat st).2 (.inl rfl), hs, key st c (Int.le_refl _) hs⟩
  · exact ⟨y.f0, (hat y.f0).2 (.inr ⟨y, by rw [e]; simp, rfl, by omega⟩), h1, key y.f0 (Int.le_refl _) (by omega) h1⟩
theorem rfit_l {x : S39} {r : List S39} (hl : (x :: r).length < 10000) (hv : Valid (x :: r)) {len n st : Int} (hlen : 1 ≤ len ∧ len ≤ 1099511627776) (hx : x.f0 ≤ st) (hst : st ≤ 1099511627776) (at_ : List Int) (hup : Up at_) (hatl : at_.length < 100000) (hat : ∀ u, u ∈ at_ ↔ u = st ∨ ∃ z ∈ x :: r, z.f0 = u ∧ st < z.f0) : ∀ (s p : List Int), p ++ s = at_ → (∀ u ∈ p, ¬ Free (x :: r) len n u) →
    ∃ v, Ev (fun k => gangerref05_Fit.l0 k (x :: r) len n at_ (p.length : Int)) v ∧ FitIs (x :: r) st len n v
  | [], p, e, hp => by
    rw [List.append_nil] at e
    subst e
    refine ⟨(0, 5), ?_, .inr ⟨rfl, fun s hs hf => ?_⟩⟩
    · refine Ev.step (fun k => by rw [gangerref05_Fit.l0]) ?_
      simp only [Int.lt_irrefl, if_false]
      exact Ev.now _
    · obtain ⟨u, hu, _, hfu⟩ := tick_free hv.2.2.1 hx hs hf p hat hlen.1
      exact hp u hu hfu
  | u :: s, p, e, hp => by
    have hq : p.length + 1 + s.length = at_.length := by rw [← e]; simp; omega
    have hw : wrap64 ((p.length : Int) + 1) = ((p ++ [u]).length : Int) := by rw [w64 (by omega)]; simp
    have hrd : rd at_ (p.length : Int) = u := by rw [← e]; exact rd_midI p u s
    have hu : u ∈ at_ := by rw [← e]; simp
    have hu2 : st ≤ u ∧ u ≤ 1099511627776 := by
      rcases (hat u).1 hu with rfl | ⟨z, hz, rfl, h3⟩
      · exact ⟨Int.le_refl _, hst⟩
      · have := hv.bd z hz; omega
    obtain ⟨w, _, hw2, hw3, hw4⟩ := least_ok (by omega) hv (f := u) (len := len) (by omega) hlen.1
    have hm1 : mn u 1099511627776 = u := by rw [mn_le, if_pos hu2.2]
    have hm2 : mn len 1099511627776 = len := by rw [mn_le, if_pos hlen.2]
    rw [hm1, hm2] at hw3
    have hfw : w ≥ n ↔ Free (x :: r) len n u := by
      rcases Decidable.em (n ≤ 1099511627776) with c | c
      · exact hw3 n c
      · constructor
        · intro h
          exfalso
          omega
        · intro h
          exfalso
          have h1 := h u (Int.le_refl _) (by omega)
          have := stp_le hv u
          omega
    by_cases c : w ≥ n
    · refine ⟨(u, 0), ?_, .inl ⟨rfl, hu2.1, hu2.2, hfw.1 c, fun s' h1 h2 hf => ?_⟩⟩
      · refine Ev.step (fun k => by rw [gangerref05_Fit.l0]) ?_
        simp only [show (p.length : Int) < (at_.length : Int) by omega, if_true, show (0 : Int) ≤ (p.length : Int) by omega, hrd]
        refine Ev.bind hw2 ?_
        simp only [if_pos c]
        exact Ev.now _
      · obtain ⟨u', hu', hle, hfu⟩ := tick_free hv.2.2.1 hx h1 hf at_ hat hlen.1
        rw [← e] at hu' hup
        rcases List.mem_append.1 hu' with h3 | h3
        · exact hp u' h3 hfu
        · rcases List.mem_cons.1 h3 with rfl | h3
          · omega
          · have := (List.pairwise_cons.1 (List.pairwise_append.1 hup).2.1).1 u' h3; omega
    · obtain ⟨v, hv1, hv2⟩ := rfit_l hl hv hlen hx hst at_ hup hatl hat s (p ++ [u]) (by rw [← e]; simp) (fun u' hu' => by
        rcases List.mem_append.1 hu' with h | h
        · exact hp u' h
        · have : u' = u := by simpa using h
          rw [this]
          exact fun hf => c (hfw.2 hf))
      refine ⟨v, ?_, hv2⟩
      refine Ev.step (fun k => by rw [gangerref05_Fit.l0]) ?_
      simp only [show (p.length : Int) < (at_.length : Int) by omega, if_true, show (0 : Int) ≤ (p.length : Int) by omega, hrd, hw]
      refine Ev.bind hw2 ?_
      simp only [if_neg c]
      exact hv1
def argBad (from_ len n : Int) : Prop := len < 1 ∨ len > 1099511627776 ∨ from_ < 0 ∨ from_ > 1099511627776 ∨ n < 0
instance (a b c : Int) : Decidable (argBad a b c) := inferInstanceAs (Decidable (_ ∨ _))
theorem fit_no {l : List S39} (hl : l.length < 10000) {f len n : Int} (h : ¬ Valid l ∨ argBad f len n) : ∃ e, e ≠ 0 ∧ Ev (fun k => profile_Fit.f k l f len n) (0, e) ∧ Ev (fun k => gangerref05_Fit.f k l f len n) (0, e) := by
  unfold profile_Fit.f gangerref05_Fit.f
  by_cases hv : Valid l
  · have hb : argBad f len n := by
      rcases h with h | h
      · exact absurd hv h
      · exact h
    refine ⟨2, by decide, Ev.bind (check_ok (by omega) hv) ?_, Ev.bind (rcheck_ok (by omega) hv) ?_⟩
    all_goals
      simp only [if_true]
      by_cases c1 : len < 1
      · simp only [if_pos c1]; exact Ev.now _
      by_cases c2 : len > 1099511627776
      · simp only [if_neg c1, if_pos c2]; exact Ev.now _
      by_cases c3 : f < 0
      · simp only [if_neg c1, if_neg c2, if_pos c3]; exact Ev.now _
      by_cases c4 : f > 1099511627776
      · simp only [if_neg c1, if_neg c2, if_neg c3, if_pos c4]; exact Ev.now _
      by_cases c5 : n < 0
      · simp only [if_neg c1, if_neg c2, if_neg c3, if_neg c4, if_pos c5]; exact Ev.now _
      · exact absurd hb (by unfold argBad; omega)
  · refine ⟨50, by decide, Ev.bind (check_no (by omega) hv) ?_, Ev.bind (rcheck_no (by omega) hv) ?_⟩
    all_goals
      simp only [show ¬ (50 : Int) = 0 by decide, if_false]
      exact Ev.now _
theorem fit_ok {x : S39} {r : List S39} (hl : (x :: r).length < 10000) (hv : Valid (x :: r)) {f len n : Int} (h : ¬ argBad f len n) :
    ∃ v, Ev (fun k => profile_Fit.f k (x :: r) f len n) v ∧ Ev (fun k => gangerref05_Fit.f k (x :: r) f len n) v ∧ FitIs (x :: r) (max f x.f0) len n v := by
  unfold argBad at h
  have hx := hv.bd x (by simp)
  obtain ⟨p, y, q, e, h1, h2⟩ := split r x (max f x.f0) hv.2.2.1 (by omega)
  obtain ⟨v, hv1, hv2⟩ := fit_l (x :: r) hl hv len n (by omega) (max f x.f0) q p y (max f x.f0) e.symm (by omega) (by omega) (by omega) (fun s a b => by omega) (fun s a b => by omega) (by omega) h2
  have hat : ∀ u, u ∈ ends (x :: r) [] (max f x.f0) ↔ u = max f x.f0 ∨ ∃ z ∈ x :: r, z.f0 = u ∧ max f x.f0 < z.f0 := fun u => by
    rw [mem_ends]; simp
  obtain ⟨w, hw1, hw2⟩ := rfit_l hl hv (len := len) (n := n) (st := max f x.f0) (by omega) (by omega) (by omega) (ends (x :: r) [] (max f x.f0)) (up_ends _ _ _) (by have := len_ends (x :: r) [] (max f x.f0); simp at this hl ⊢; omega) hat _ [] rfl (by simp)
  obtain rfl := fit_uniq hv2 hw2
  refine ⟨v, ?_, ?_, hv2⟩
  · unfold profile_Fit.f
    refine Ev.bind (check_ok (by omega) hv) ?_
    simp only [if_true, if_neg (show ¬ len < 1 by omega), if_neg (show ¬ len > 1099511627776 by omega), if_neg (show ¬ f < 0 by omega), if_neg (show ¬ f > 1099511627776 by omega), if_neg (show ¬ n < 0 by omega), show 0 < ((x :: r).length : Int) by rw [List.length_cons]; omega, rd_zero, mx_max]
    have hf : Ev (fun k => profile_find.f k (x :: r) (max f x.f0)) (p.length : Int) := by
      have hl' := hl
      have hv' := hv
      rw [e] at hl' hv'
      have := find_ev p y q (max f x.f0) (by omega) hv'.2.2.1 hv'.bd (by omega) h1 h2
      rwa [← e] at this
    exact Ev.bind hf hv1
  · unfold gangerref05_Fit.f
    refine Ev.bind (rcheck_ok (by omega) hv) ?_
    simp only [if_true, if_neg (show ¬ len < 1 by omega), if_neg (show ¬ len > 1099511627776 by omega), if_neg (show ¬ f < 0 by omega), if_neg (show ¬ f > 1099511627776 by omega), if_neg (show ¬ n < 0 by omega), show 0 < ((x :: r).length : Int) by rw [List.length_cons]; omega, rd_zero, mx_max]
    exact Ev.bind (ends_ev (x :: r) [] _ hl (by simp)) hw1
end Go.Proofs.Ytfcmpnajokjaaaa.Prof
