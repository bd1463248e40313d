/- The least that is free at some ticks: both sides, and what it says. -/
import Derived.Test.YtfcmpnajokjaaaaProfUniq
import Derived.Test.YtfcmpnajokjaaaaP0
import Derived.Test.YtfcmpnajokjaaaaP7
import Derived.Test.YtfcmpnajokjaaaaP15
namespace Go.Proofs.Ytfcmpnajokjaaaa.Prof
open Go.RowKit Go.Proofs.YtfcmpnajokjaaaaW.PrintWords Go.Proofs.YtfcmpnajokjaaaaW.PrintLast Go.Proofs.YtfcmpnajokjaaaaW.PrintMore Go.Proofs.Ytfcmpnajokjaaaa.P
def lsC (acc e : Int) : List S39 → Int
  | [] => acc
  | z :: s => if z.f0 ≥ e then acc else lsC (mn acc z.f1) e s
theorem lsC_ge (n e : Int) : ∀ (s : List S39) (acc : Int), Rise s → (n ≤ lsC acc e s ↔ n ≤ acc ∧ ∀ z ∈ s, z.f0 < e → n ≤ z.f1)
  | [], acc, _ => by simp [lsC]
  | z :: s, acc, h => by
    unfold lsC
    by_cases c : z.f0 ≥ e
    · rw [if_pos c]
      constructor
      · intro hn
        refine ⟨hn, fun q hq hlt => ?_⟩
        have := head_le h q hq; omega
      · exact fun hh => hh.1
    · rw [if_neg c, lsC_ge n e s _ (List.pairwise_cons.1 h).2]
      have : n ≤ mn acc z.f1 ↔ n ≤ acc ∧ n ≤ z.f1 := by unfold mn; split <;> omega
      rw [this]
      constructor
      · rintro ⟨⟨h1, h2⟩, h3⟩
        refine ⟨h1, fun q hq hlt => ?_⟩
        rcases List.mem_cons.1 hq with rfl | hq
        · exact h2
        · exact h3 q hq hlt
      · rintro ⟨h1, h2⟩
        exact ⟨⟨h1, h2 z (by simp) (by omega)⟩, fun q hq => h2 q (by simp [hq])⟩
theorem least_l (f len : Int) (hf : 0 ≤ f ∧ f ≤ 1099511627776) (hlen : 0 ≤ len ∧ len ≤ 1099511627776) (l : List S39) (hl : l.length < 1099511627776) : ∀ (s p : List S39) (acc : Int), p ++ s = l → Ev (fun k => profile_Least.l0 k f len acc l (l.length : Int) (p.length : Int)) (lsC acc (f + len) s)
  | [], p, acc, e => by
    rw [List.append_nil] at e
    subst e
    refine Ev.step (fun k => by rw [profile_Least.l0]) ?_
    simp only [Int.lt_irrefl, if_false]
    exact Ev.now _
  | x :: r, p, acc, e => by
    refine Ev.step (fun k => by rw [profile_Least.l0]) ?_
    have hlt : (p.length : Int) < (l.length : Int) := by rw [← e]; simp; omega
    have hw : wrap64 ((p.length : Int) + 1) = ((p ++ [x]).length : Int) := by rw [w64 (by omega)]; simp
    have hrd : rd_T39 l (p.length : Int) = x := by rw [← e]; exact rd_mid p x r
    have ih := fun acc => least_l f len hf hlen l hl r (p ++ [x]) acc (by rw [← e]; simp)
    simp only [if_pos hlt, hrd, hw, show (0 : Int) ≤ (p.length : Int) by omega, if_true, show wrap64 (f + len) = f + len from w64 (by omega)]
    unfold lsC
    by_cases c : x.f0 ≥ f + len
    · simp only [if_pos c]; exact Ev.now _
    · simp only [if_neg c]; exact ih _
theorem rleast_no (f len : Int) (l : List S39) (h : ∀ x ∈ l, x.f0 ≥ f + len) (acc : Int) : lsC acc (f + len) l = acc := by
  cases l with
  | nil => rfl
  | cons x r => unfold lsC; rw [if_pos (h x (by simp))]
theorem rleast_l (f len : Int) (hf : 0 ≤ f ∧ f ≤ 1099511627776) (hlen : 0 ≤ len ∧ len ≤ 1099511627776) (l : List S39) (hl : l.length < 1099511627776) : ∀ (s p : List S39) (acc : Int), p ++ s = l → Rise s → (∀ z ∈ s, f < z.f0) → Ev (fun k => gangerref05_Least.l0 k l f len acc (p.length : Int)) (lsC acc (f + len) s)
  | [], p, acc, e, _, _ => by
    rw [List.append_nil] at e
    subst e
    refine Ev.step (fun k => by rw [gangerref05_Least.l0]) ?_
    simp only [Int.lt_irrefl, if_false]
    exact Ev.now _
  | x :: r, p, acc, e, hr, hz => by
    refine Ev.step (fun k => by rw [gangerref05_Least.l0]) ?_
    have hlt : (p.length : Int) < (l.length : Int) := by rw [← e]; simp; omega
    have hw : wrap64 ((p.length : Int) + 1) = ((p ++ [x]).length : Int) := by rw [w64 (by omega)]; simp
    have hrd : rd_T39 l (p.length : Int) = x := by rw [← e]; exact rd_mid p x r
    have ih := fun acc => rleast_l f len hf hlen l hl r (p ++ [x]) acc (by rw [← e]; simp) (List.pairwise_cons.1 hr).2 (fun z h => hz z (by simp [h]))
    have hxf : x.f0 > f := hz x (by simp)
    simp only [if_pos hlt, hrd, hw, show (0 : Int) ≤ (p.length : Int) by omega, if_true, show wrap64 (f + len) = f + len from w64 (by omega), if_pos hxf]
    rw [lsC]
    by_cases c : x.f0 < f + len
    · simp only [if_pos c, if_neg (show ¬ x.f0 ≥ f + len by omega)]
      by_cases d : x.f1 < acc
      · simp only [if_pos d]; have := ih x.f1; rwa [show mn acc x.f1 = x.f1 by unfold mn; split <;> omega]
      · simp only [if_neg d]; have := ih acc; rwa [show mn acc x.f1 = acc by unfold mn; split <;> omega]
    · simp only [if_neg c, if_pos (show x.f0 ≥ f + len by omega)]
      have := ih acc
      rwa [rleast_no f len r (fun z h => by have := (List.pairwise_cons.1 hr).1 z h; omega)] at this
theorem rleast_skip (f len : Int) (l : List S39) (hl : l.length < 1099511627776) (r : List S39) (acc v : Int) : ∀ (s p : List S39), p ++ (s ++ r) = l → (∀ z ∈ s, z.f0 ≤ f) → Ev (fun k => gangerref05_Least.l0 k l f len acc ((p ++ s).length : Int)) v → Ev (fun k => gangerref05_Least.l0 k l f len acc (p.length : Int)) v
  | [], p, e, _, h => by simpa using h
  | x :: s, p, e, hz, h => by
    refine Ev.step (fun k => by rw [gangerref05_Least.l0]) ?_
    have hlt : (p.length : Int) < (l.length : Int) := by rw [← e]; simp; omega
    have hw : wrap64 ((p.length : Int) + 1) = ((p ++ [x]).length : Int) := by rw [w64 (by omega)]; simp
    have hrd : rd_T39 l (p.length : Int) = x := by rw [← e]; exact rd_mid p x (s ++ r)
    have hx := hz x (by simp)
    simp only [if_pos hlt, hrd, hw, show (0 : Int) ≤ (p.length : Int) by omega, if_true, if_neg (show ¬ x.f0 > f by omega)]
    exact rleast_skip f len l hl r acc v s (p ++ [x]) (by rw [← e]; simp) (fun z h => hz z (by simp [h])) (by simpa using h)
theorem mn_pos {t : Int} (h : 0 ≤ t) : 0 ≤ mn t 1099511627776 ∧ mn t 1099511627776 ≤ 1099511627776 := by rw [mn_le]; split <;> omega
theorem window {p r : List S39} {y : S39} {f e n : Int} (hr : Rise (p ++ y :: r)) (hy : y.f0 ≤ f) (hz : ∀ z ∈ r, f < z.f0) (hfe : f < e) :
    (n ≤ y.f1 ∧ ∀ z ∈ r, z.f0 < e → n ≤ z.f1) ↔ ∀ s, f ≤ s → s < e → n ≤ stp (p ++ y :: r) s := by
  have hry : Rise (y :: r) := (List.pairwise_append.1 hr).2.1
  constructor
  · rintro ⟨h1, h2⟩ s hs he
    obtain ⟨q, u, r', e', hu, hr'⟩ := split r y s hry (by omega)
    rw [e', ← List.append_assoc, stp_mid hu hr']
    have hm : u ∈ y :: r := by rw [e']; simp
    rcases List.mem_cons.1 hm with rfl | hm
    · exact h1
    · exact h2 u hm (by omega)
  · intro h
    refine ⟨?_, fun z hz' hlt => ?_⟩
    · have := h f (Int.le_refl _) hfe
      rwa [stp_mid hy hz] at this
    · have := h z.f0 (Int.le_of_lt (hz z hz')) hlt
      rwa [stp_mem hr (by simp [hz'])] at this
theorem stp_bd {l : List S39} (h : ∀ z ∈ l, ok1 z) (t : Int) : 0 ≤ stp l t ∧ stp l t ≤ 1099511627776 := by
  have : ∀ n, 0 ≤ n ∧ n ≤ 1099511627776 → 0 ≤ stpA n l t ∧ stpA n l t ≤ 1099511627776 := by
    induction l with
    | nil => exact fun n h => h
    | cons x r ih =>
      intro n hn
      have hx := h x (by simp)
      unfold ok1 at hx
      exact ih (fun z hz => h z (by simp [hz])) (if x.f0 ≤ t then x.f1 else n) (by split <;> omega)
  exact this 0 (by omega)
theorem stp_le {l : List S39} (h : Valid l) (t : Int) : stp l t ≤ 1099511627776 := (stp_bd h.2.1 t).2
theorem least_ok {x : S39} {r : List S39} (hl : (x :: r).length < 1099511627776) (hv : Valid (x :: r)) {f len : Int} (hf : x.f0 ≤ f) (hlen : 1 ≤ len) :
    ∃ v, Ev (fun k => profile_Least.f k (x :: r) f len) v ∧ Ev (fun k => gangerref05_Least.f k (x :: r) f len) v ∧ (∀ n, n ≤ 1099511627776 → (n ≤ v ↔ ∀ s, mn f 1099511627776 ≤ s → s < mn f 1099511627776 + mn len 1099511627776 → n ≤ stp (x :: r) s)) ∧ v ≤ 1099511627776 := by
  have hx := hv.bd x (by simp)
  have hm := mn_pos (t := f) (by omega)
  have hm2 := mn_pos (t := len) (by omega)
  have hm3 : 1 ≤ mn len 1099511627776 := by rw [mn_le]; split <;> omega
  have hm4 : x.f0 ≤ mn f 1099511627776 := by rw [mn_le]; split <;> omega
  obtain ⟨p, y, q, e, h1, h2⟩ := split r x (mn f 1099511627776) hv.2.2.1 hm4
  have hy : y ∈ x :: r := by rw [e]; simp
  have hok := hv.2.1 y hy
  have hrq : Rise (p ++ y :: q) := by rw [← e]; exact hv.2.2.1
  have hryq : Rise (y :: q) := (List.pairwise_append.1 hrq).2.1
  have hpy : ∀ z ∈ p, z.f0 < y.f0 := fun z hz => (List.pairwise_append.1 hrq).2.2 z hz y (by simp)
  refine ⟨lsC 1099511627776 (mn f 1099511627776 + mn len 1099511627776) (y :: q), ?_, ?_, ?_, ((lsC_ge _ _ _ _ hryq).1 (Int.le_refl _)).1⟩
  · unfold profile_Least.f
    refine Ev.bind (check_ok hl hv) ?_
    simp only [if_true, if_neg (show ¬ len < 1 by omega), show 0 < ((x :: r).length : Int) by rw [List.length_cons]; omega, rd_zero, decide_eq_false (show ¬ f < x.f0 by omega)]
    refine Ev.step (fun k => by rw [profile_Least.j0]) ?_
    simp only [Bool.false_eq_true, if_false]
    have hl' := hl
    have hv' := hv
    rw [e] at hl' hv' ⊢
    refine Ev.bind (find_ev p y q _ hl' hrq hv'.bd (by omega) h1 h2) ?_
    simp only [show (0 : Int) ≤ (p.length : Int) by omega, if_true, show (p.length : Int) ≤ ((p ++ y :: q).length : Int) by simp; omega, Int.toNat_natCast, List.drop_left, Option.bind_some]
    exact least_l _ _ hm hm2 (y :: q) (by simp at hl' ⊢; omega) (y :: q) [] _ rfl
  · unfold gangerref05_Least.f
    refine Ev.bind (rcheck_ok hl hv) ?_
    simp only [if_true, if_neg (show ¬ len < 1 by omega), show 0 < ((x :: r).length : Int) by rw [List.length_cons]; omega, rd_zero, decide_eq_false (show ¬ f < x.f0 by omega)]
    refine Ev.step (fun k => by rw [gangerref05_Least.j0]) ?_
    simp only [Bool.false_eq_true, if_false]
    refine Ev.bind (rat_ok hl hv _) ?_
    rw [lsC, if_neg (by omega), show mn 1099511627776 y.f1 = y.f1 by unfold ok1 at hok; unfold mn; split <;> omega]
    have hl' := hl
    rw [e] at hl' ⊢
    rw [stp_mid h1 h2]
    refine rleast_skip _ _ _ hl' q _ _ (p ++ [y]) [] (by simp) (fun z hz => ?_) ?_
    · rcases List.mem_append.1 hz with hz | hz
      · have := hpy z hz; omega
      · have : z = y := by simpa using hz
        rw [this]; exact h1
    · exact rleast_l _ _ hm hm2 _ hl' q (p ++ [y]) _ (by simp) (List.pairwise_cons.1 hryq).2 h2
  · intro n hn
    rw [lsC_ge n _ _ _ hryq, e, ← window hrq h1 h2 (by omega)]
    constructor
    · rintro ⟨_, h⟩
      exact ⟨h y (by simp) (by omega), fun z hz => h z (by simp [hz])⟩
    · rintro ⟨ha, hb⟩
      refine ⟨hn, fun z hz hlt => ?_⟩
      rcases List.mem_cons.1 hz with rfl | hz
      · exact ha
      · exact hb z hz hlt
theorem least_no {l : List S39} (hl : l.length < 1099511627776) {f len : Int} (h : ¬ Valid l ∨ len < 1 ∨ ∃ x r, l = x :: r ∧ f < x.f0) : Ev (fun k => profile_Least.f k l f len) 0 ∧ Ev (fun k => gangerref05_Least.f k l f len) 0 := by
  have j1 : Ev (fun k => profile_Least.j0 k l f len true) 0 := by
    refine Ev.step (fun k => by rw [profile_Least.j0]) ?_
    simp only [if_true]; exact Ev.now _
  have j2 : Ev (fun k => gangerref05_Least.j0 k l f len true) 0 := by
    refine Ev.step (fun k => by rw [gangerref05_Least.j0]) ?_
    simp only [if_true]; exact Ev.now _
  unfold profile_Least.f gangerref05_Least.f
  by_cases hv : Valid l
  · constructor
    · refine Ev.bind (check_ok hl hv) ?_
      simp only [if_true]
      by_cases c : len < 1
      · simp only [if_pos c]; exact j1
      · rcases h with h | h | ⟨x, r, rfl, h⟩
        · exact absurd hv h
        · exact absurd h c
        · simp only [if_neg c, show 0 < ((x :: r).length : Int) by rw [List.length_cons]; omega, if_true, rd_zero, decide_eq_true h]; exact j1
    · refine Ev.bind (rcheck_ok hl hv) ?_
      simp only [if_true]
      by_cases c : len < 1
      · simp only [if_pos c]; exact j2
      · rcases h with h | h | ⟨x, r, rfl, h⟩
        · exact absurd hv h
        · exact absurd h c
        · simp only [if_neg c, show 0 < ((x :: r).length : Int) by rw [List.length_cons]; omega, if_true, rd_zero, decide_eq_true h]; exact j2
  · constructor
    · refine Ev.bind (check_no hl hv) ?_
      simp only [show ¬ (50 : Int) = 0 by decide, if_false]; exact j1
    · refine Ev.bind (rcheck_no hl hv) ?_
      simp only [show ¬ (50 : Int) = 0 by decide, if_false]; exact j2
theorem least_both {l : List S39} (hl : l.length < 1099511627776) (f len : Int) : ∃ v, Ev (fun k => profile_Least.f k l f len) v ∧ Ev (fun k => gangerref05_Least.f k l f len) v := by
  by_cases hv : Valid l
  · obtain ⟨x, r, rfl⟩ := hv.cons
    by_cases c : len < 1
    · exact ⟨0, least_no hl (.inr (.inl c))⟩
    · by_cases d : f < x.f0
      · exact ⟨0, least_no hl (.inr (.inr ⟨x, r, rfl, d⟩))⟩
      · obtain ⟨v, h1, h2, _, _⟩ := least_ok hl hv (f := f) (len := len) (by omega) (by omega)
        exact ⟨v, h1, h2⟩
  · exact ⟨0, least_no hl (.inl hv)⟩
end Go.Proofs.Ytfcmpnajokjaaaa.Prof
