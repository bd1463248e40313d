/- A profile is told by what it says from its first tick on. -/
import Derived.Test.YtfcmpnajokjaaaaProfStep
import Derived.Test.YtfcmpnajokjaaaaP0
namespace Go.Proofs.Ytfcmpnajokjaaaa.Prof
open Go.RowKit Go.Proofs.YtfcmpnajokjaaaaW.PrintWords Go.Proofs.YtfcmpnajokjaaaaW.PrintLast Go.Proofs.YtfcmpnajokjaaaaW.PrintMore Go.Proofs.Ytfcmpnajokjaaaa.P
set_option linter.unusedVariables false
theorem stpA_indep {l : List S39} {x : S39} {t : Int} (h : x.f0 ≤ t) (n m : Int) : stpA n (x :: l) t = stpA m (x :: l) t := by
  unfold stpA; rw [List.foldl_cons, List.foldl_cons, if_pos h, if_pos h]
theorem stp_cons2 {l : List S39} {x y : S39} {t : Int} (h : y.f0 ≤ t) : stp (x :: y :: l) t = stp (y :: l) t := by
  unfold stp
  show stpA (if x.f0 ≤ t then x.f1 else 0) (y :: l) t = _
  exact stpA_indep h _ _
theorem stp_first {x : S39} {r : List S39} {t : Int} (hx : x.f0 ≤ t) (h : ∀ y ∈ r, t < y.f0) : stp (x :: r) t = x.f1 := stp_mid (p := []) hx h
theorem stp_head {x : S39} {r : List S39} (h : Rise (x :: r)) : stp (x :: r) x.f0 = x.f1 := stp_mid (p := []) (Int.le_refl _) (List.pairwise_cons.1 h).1
theorem stp_mem {l : List S39} (h : Rise l) {x : S39} (hx : x ∈ l) : stp l x.f0 = x.f1 := by
  obtain ⟨p, r, rfl⟩ := List.append_of_mem hx
  exact stp_mid (Int.le_refl _) (fun y hy => (List.pairwise_cons.1 (List.pairwise_append.1 h).2.1).1 y hy)
theorem uniq_head {a b : List S39} {x y : S39} (ra : Rise (x :: a)) (rb : Rise (y :: b)) (h0 : x.f0 = y.f0) (hs : ∀ t, x.f0 ≤ t → stp (x :: a) t = stp (y :: b) t) : x = y := by
  have e1 : x.f1 = y.f1 := by
    have := hs x.f0 (Int.le_refl _)
    rw [stp_head ra, h0, stp_head rb] at this; exact this
  cases x; cases y; simp at h0 e1; rw [h0, e1]
theorem uniq (a : List S39) : ∀ (b : List S39) (x y : S39), Rise (x :: a) → Rise (y :: b) → Adj (x :: a) → Adj (y :: b) → x.f0 = y.f0 → (∀ t, x.f0 ≤ t → stp (x :: a) t = stp (y :: b) t) → x :: a = y :: b := by
  induction a with
  | nil =>
    intro b x y ra rb ja jb h0 hs
    obtain rfl := uniq_head ra rb h0 hs
    cases b with
    | nil => rfl
    | cons z b' =>
      exfalso
      have hz := (List.pairwise_cons.1 rb).1 z (by simp)
      have := hs z.f0 (by omega)
      rw [stp_mem rb (x := z) (by simp), stp_first (x := x) (by omega) (by simp)] at this
      exact jb.1 this
  | cons w a' ih =>
    intro b x y ra rb ja jb h0 hs
    obtain rfl := uniq_head ra rb h0 hs
    cases b with
    | nil =>
      exfalso
      have hz := (List.pairwise_cons.1 ra).1 w (by simp)
      have := hs w.f0 (by omega)
      rw [stp_mem ra (x := w) (by simp), stp_first (x := x) (by omega) (by simp)] at this
      exact ja.1 this.symm
    | cons z b' =>
      have hw := (List.pairwise_cons.1 ra).1 w (by simp)
      have hz := (List.pairwise_cons.1 rb).1 z (by simp)
      have ra' := (List.pairwise_cons.1 ra).2
      have rb' := (List.pairwise_cons.1 rb).2
      rcases Int.lt_trichotomy w.f0 z.f0 with c | c | c
      · exfalso
        have := hs w.f0 (by omega)
        rw [stp_mem ra (x := w) (by simp), stp_first (x := x) (by omega) (fun q hq => by have := head_le rb' q hq; omega)] at this
        exact ja.1 this.symm
      · have := ih b' w z ra' rb' ja.2 jb.2 c (fun t ht => by
          have := hs t (by omega)
          rwa [stp_cons2 ht, stp_cons2 (show z.f0 ≤ t by omega)] at this)
        rw [this]
      · exfalso
        have := hs z.f0 (by omega)
        rw [stp_mem rb (x := z) (by simp), stp_first (x := x) (by omega) (fun q hq => by have := head_le ra' q hq; omega)] at this
        exact jb.1 this
theorem alike {a b : List S39} {x y : S39} (ra : Rise (x :: a)) (rb : Rise (y :: b)) (h0 : x.f0 = y.f0) (h1 : ∀ z ∈ x :: a, stp (y :: b) z.f0 = z.f1) (h2 : ∀ z ∈ y :: b, stp (x :: a) z.f0 = z.f1) (t : Int) (ht : x.f0 ≤ t) : stp (x :: a) t = stp (y :: b) t := by
  obtain ⟨p, u, r, ea, hu, hr⟩ := split a x t ra ht
  obtain ⟨q, v, s, eb, hv, hs⟩ := split b y t rb (by omega)
  have g1 := h1 u (by rw [ea]; simp)
  have g2 := h2 v (by rw [eb]; simp)
  rw [ea, eb] at *
  rw [stp_mid hu hr, stp_mid hv hs]
  by_cases c : v.f0 ≤ u.f0
  · rw [stp_mid c (fun z hz => by have := hs z hz; omega)] at g1; exact g1.symm
  · rw [stp_mid (show u.f0 ≤ v.f0 by omega) (fun z hz => by have := hr z hz; omega)] at g2; exact g2
end Go.Proofs.Ytfcmpnajokjaaaa.Prof
