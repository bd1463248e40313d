/- Profiles, plainly: what the printed functions check, look up and tell, as closed forms over lists. Conditions: a list's length is below 2^40. -/
import Derived.Test.YtfcmpnajokjaaaaP0
import Derived.Test.YtfcmpnajokjaaaaP2
import Derived.Test.YtfcmpnajokjaaaaP6
namespace Go.Proofs.Ytfcmpnajokjaaaa.Prof
open Go.RowKit Go.Proofs.YtfcmpnajokjaaaaW.PrintWords Go.Proofs.YtfcmpnajokjaaaaW.PrintLast Go.Proofs.YtfcmpnajokjaaaaW.PrintMore Go.Proofs.Ytfcmpnajokjaaaa.P
set_option linter.unusedVariables false
theorem wf64 {a : Int} (h : (Lit.int .i64 a).wf = true) : -9223372036854775808 ≤ a ∧ a ≤ 9223372036854775807 := by
  simpa [Lit.wf, IntKind.min, IntKind.max, IntKind.signed, IntKind.bits] using h
theorem w64 {x : Int} (h : -9223372036854775808 ≤ x ∧ x ≤ 9223372036854775807) : wrap64 x = x := by unfold wrap64; omega
theorem ev_at {α : Type} {g : Nat → Option α} {r : α} (n : Nat) (h : ∀ k, g (k + n) = some r) : Ev g r :=
  ⟨n, fun k hk => by obtain ⟨j, rfl⟩ : ∃ j, k = j + n := ⟨k - n, by omega⟩; exact h j⟩
theorem known_ev : Ev (fun k => gangerlaw05_known.f k) true := Ev.of (fun k => gangerlaw05_known.mono k) (k := 60) (by decide +kernel)
theorem hk : Ev (fun n => (gangerlaw05_known.f n).bind fun t => some t) true := Ev.bind known_ev (Ev.now _)

instance : DecidableEq S39 := fun a b => if h : a.f0 = b.f0 ∧ a.f1 = b.f1 then isTrue (by cases a; cases b; simp_all) else isFalse (by intro e; subst e; exact h ⟨rfl, rfl⟩)
abbrev M : Int := 1099511627776
def ok1 (x : S39) : Prop := 0 ≤ x.f0 ∧ x.f0 ≤ 1099511627776 ∧ 0 ≤ x.f1 ∧ x.f1 ≤ 1099511627776
instance (x : S39) : Decidable (ok1 x) := inferInstanceAs (Decidable (_ ∧ _))
theorem rd_mid (p : List S39) (x : S39) (r : List S39) : rd_T39 (p ++ x :: r) (p.length : Int) = x := by
  unfold rd_T39; simp
def prv : Option S39 → S39 → Bool
  | none, _ => true
  | some y, x => decide (y.f0 < x.f0) && decide (y.f1 ≠ x.f1)
def chk (pr : Option S39) (l : List S39) : Bool := match l with
  | [] => true
  | x :: r => decide (ok1 x) && prv pr x && chk (some x) r
theorem chk_cons (pr : Option S39) (x : S39) (r : List S39) : chk pr (x :: r) = (decide (ok1 x) && prv pr x && chk (some x) r) := rfl
theorem bad_ok {x : S39} {a b : Bool} (h : ¬ ok1 x) : ¬ (decide (ok1 x) && a && b) = true := by simp [h]
theorem snoc_or (p : List S39) : p = [] ∨ ∃ q y, p = q ++ [y] := by
  rcases List.eq_nil_or_concat p with h | ⟨q, y, h⟩
  · exact .inl h
  · exact .inr ⟨q, y, by rw [h, List.concat_eq_append]⟩
theorem check_l : ∀ (s p : List S39), (p ++ s).length < 1099511627776 →
    Ev (fun k => profile_Check.l0 k (p ++ s) (p ++ s) ((p ++ s).length : Int) (p.length : Int)) (if chk p.getLast? s = true then (if (p ++ s).length = 0 then 50 else 0) else 50)
  | [], p, hl => by
    refine Ev.step (fun k => by rw [profile_Check.l0]) ?_
    simp only [List.append_nil, Int.lt_irrefl, if_false, chk, if_true]
    by_cases e : p.length = 0
    · rw [if_pos e]; simp only [show (p.length : Int) = 0 by omega, if_true]; exact Ev.now _
    · rw [if_neg e]; simp only [show ¬ (p.length : Int) = 0 by omega, if_false]; exact Ev.now _
  | x :: r, p, hl => by
    refine Ev.step (fun k => by rw [profile_Check.l0]) ?_
    have hlt : (p.length : Int) < ((p ++ x :: r).length : Int) := by simp; omega
    have h0 : 0 ≤ (p.length : Int) := by omega
    have hn0 : ¬ (p ++ x :: r).length = 0 := by simp
    have hw : wrap64 ((p.length : Int) + 1) = ((p ++ [x]).length : Int) := by rw [w64 (by simp at hl; omega)]; simp
    have ih := check_l r (p ++ [x]) (by simpa using hl)
    rw [List.append_assoc, List.singleton_append, if_neg hn0] at ih
    simp only [if_pos hlt, if_pos h0, rd_mid, hn0, if_false, hw]
    rw [chk_cons]
    by_cases c0 : x.f0 < 0
    · simp only [if_pos c0]; rw [if_neg (bad_ok (by unfold ok1; omega))]; exact Ev.now _
    by_cases c1 : x.f0 > 1099511627776
    · simp only [if_neg c0, if_pos c1]; rw [if_neg (bad_ok (by unfold ok1; omega))]; exact Ev.now _
    by_cases c2 : x.f1 < 0
    · simp only [if_neg c0, if_neg c1, if_pos c2]; rw [if_neg (bad_ok (by unfold ok1; omega))]; exact Ev.now _
    by_cases c3 : x.f1 > 1099511627776
    · simp only [if_neg c0, if_neg c1, if_neg c2, if_pos c3]; rw [if_neg (bad_ok (by unfold ok1; omega))]; exact Ev.now _
    have hok : decide (ok1 x) = true := decide_eq_true (by unfold ok1; omega)
    simp only [if_neg c0, if_neg c1, if_neg c2, if_neg c3, hok, Bool.true_and]
    rcases snoc_or p with rfl | ⟨q, y, rfl⟩
    · simp only [List.length_nil, show ¬ (((0 : Nat) : Int) > 0) by omega, if_false, List.getLast?_nil, prv, Bool.true_and]
      exact ih
    · have hq : wrap64 (((q ++ [y]).length : Int) - 1) = (q.length : Int) := by rw [w64 (by simp at hl ⊢; omega)]; simp
      have hrd : rd_T39 ((q ++ [y]) ++ x :: r) (q.length : Int) = y := by rw [List.append_assoc]; exact rd_mid q y (x :: r)
      have hq0 : 0 ≤ (q.length : Int) := by omega
      have hqlt : (q.length : Int) < (((q ++ [y]) ++ x :: r).length : Int) := by simp; omega
      simp only [show ((q ++ [y]).length : Int) > 0 by rw [List.length_append, List.length_singleton]; omega, if_true, hq, if_pos hq0, if_pos hqlt, hrd, List.getLast?_append, List.getLast?_singleton, Option.some_or, prv]
      simp only [List.getLast?_append, List.getLast?_singleton, Option.some_or] at ih
      by_cases d0 : x.f0 ≤ y.f0
      · simp only [if_pos d0]; rw [if_neg (by simp; omega)]; exact Ev.now _
      by_cases d1 : x.f1 = y.f1
      · simp only [if_neg d0, if_pos d1]; rw [if_neg (by simp [d1])]; exact Ev.now _
      · have e1 : decide (y.f0 < x.f0) = true := by simp; omega
        have e2 : decide (y.f1 ≠ x.f1) = true := by simp; omega
        simp only [if_neg d0, if_neg d1, e1, e2, Bool.true_and]
        exact ih
theorem check_ev (l : List S39) (hl : l.length < 1099511627776) : Ev (fun k => profile_Check.f k l) (if chk none l = true then (if l.length = 0 then 50 else 0) else 50) := by
  unfold profile_Check.f
  exact check_l l [] hl
theorem rcheck_l : ∀ (s p : List S39), (p ++ s).length < 1099511627776 →
    Ev (fun k => gangerref05_Check.l0 k (p ++ s) (p.length : Int)) (if chk p.getLast? s = true then 0 else 50)
  | [], p, hl => by
    refine Ev.step (fun k => by rw [gangerref05_Check.l0]) ?_
    simp only [List.append_nil, Int.lt_irrefl, if_false, chk, if_true]
    exact Ev.now _
  | x :: r, p, hl => by
    refine Ev.step (fun k => by rw [gangerref05_Check.l0]) ?_
    have hlt : (p.length : Int) < ((p ++ x :: r).length : Int) := by simp; omega
    have h0 : 0 ≤ (p.length : Int) := by omega
    have hw : wrap64 ((p.length : Int) + 1) = ((p ++ [x]).length : Int) := by rw [w64 (by simp at hl; omega)]; simp
    have ih := rcheck_l r (p ++ [x]) (by simpa using hl)
    rw [List.append_assoc, List.singleton_append] at ih
    simp only [if_pos hlt, if_pos h0, rd_mid]
    rw [chk_cons]
    have hbad : ¬ ok1 x → Ev (fun k => gangerref05_Check.j1 k (p ++ x :: r) (p.length : Int) true) (if (decide (ok1 x) && prv p.getLast? x && chk (some x) r) = true then 0 else 50) := fun h => by
      refine Ev.step (fun k => by rw [gangerref05_Check.j1]) ?_
      rw [if_neg (by simp [h])]
      simp only [if_true]; exact Ev.now _
    by_cases c0 : x.f0 < 0
    · simp only [if_pos c0]; exact hbad (by unfold ok1; omega)
    by_cases c1 : x.f0 > 1099511627776
    · simp only [if_neg c0, if_pos c1]; exact hbad (by unfold ok1; omega)
    by_cases c2 : x.f1 < 0
    · simp only [if_neg c0, if_neg c1, if_pos c2]; exact hbad (by unfold ok1; omega)
    by_cases c3 : x.f1 > 1099511627776
    · simp only [if_neg c0, if_neg c1, if_neg c2, decide_eq_true c3]; exact hbad (by unfold ok1; omega)
    have hok : decide (ok1 x) = true := decide_eq_true (by unfold ok1; omega)
    simp only [if_neg c0, if_neg c1, if_neg c2, decide_eq_false c3, hok, Bool.true_and]
    refine Ev.step (fun k => by rw [gangerref05_Check.j1]) ?_
    simp only [Bool.false_eq_true, if_false, if_pos hlt, if_pos h0, rd_mid, hw]
    rcases snoc_or p with rfl | ⟨q, y, rfl⟩
    · simp only [List.length_nil, show ¬ (((0 : Nat) : Int) > 0) by omega, if_false, List.getLast?_nil, prv, Bool.true_and]
      exact ih
    · have hq : wrap64 (((q ++ [y]).length : Int) - 1) = (q.length : Int) := by rw [w64 (by simp at hl ⊢; omega)]; simp
      have hrd : rd_T39 ((q ++ [y]) ++ x :: r) (q.length : Int) = y := by rw [List.append_assoc]; exact rd_mid q y (x :: r)
      have hq0 : 0 ≤ (q.length : Int) := by omega
      have hqlt : (q.length : Int) < (((q ++ [y]) ++ x :: r).length : Int) := by simp; omega
      simp only [show ((q ++ [y]).length : Int) > 0 by rw [List.length_append, List.length_singleton]; omega, if_true, hq, if_pos hq0, if_pos hqlt, hrd, List.getLast?_append, List.getLast?_singleton, Option.some_or, prv]
      simp only [List.getLast?_append, List.getLast?_singleton, Option.some_or] at ih
      by_cases d0 : y.f0 ≥ x.f0
      · simp only [if_pos d0]; rw [if_neg (by simp; omega)]; exact Ev.now _
      by_cases d1 : y.f1 = x.f1
      · simp only [if_neg d0, if_pos d1]; rw [if_neg (by simp [d1])]; exact Ev.now _
      · have e1 : decide (y.f0 < x.f0) = true := by simp; omega
        have e2 : decide (y.f1 ≠ x.f1) = true := by simp; omega
        simp only [if_neg d0, if_neg d1, e1, e2, Bool.true_and]
        exact ih
theorem rcheck_ev (l : List S39) (hl : l.length < 1099511627776) : Ev (fun k => gangerref05_Check.f k l) (if chk none l = true then (if l.length = 0 then 50 else 0) else 50) := by
  unfold gangerref05_Check.f
  by_cases e : l.length = 0
  · obtain rfl : l = [] := List.length_eq_zero_iff.1 e
    simp only [List.length_nil, Int.ofNat_zero, Int.natCast_zero, if_true, chk]
    exact Ev.now _
  · simp only [show ¬ (l.length : Int) = 0 by omega, if_false, e]
    exact rcheck_l l [] hl
/-- rising ticks -/
def Rise (l : List S39) : Prop := l.Pairwise (fun x y => x.f0 < y.f0)
/-- neighbours are not alike -/
def Adj : List S39 → Prop
  | [] => True
  | [_] => True
  | x :: y :: r => x.f1 ≠ y.f1 ∧ Adj (y :: r)
/-- a profile -/
def Valid (l : List S39) : Prop := l ≠ [] ∧ (∀ x ∈ l, ok1 x) ∧ Rise l ∧ Adj l
theorem chk_some : ∀ (l : List S39) (y : S39), chk (some y) l = true ↔ (∀ x ∈ l, ok1 x) ∧ Rise (y :: l) ∧ Adj (y :: l)
  | [], y => by simp [chk, Rise, Adj]
  | x :: r, y => by
    rw [chk_cons]
    have ih := chk_some r x
    constructor
    · intro h
      simp only [prv, Bool.and_eq_true, decide_eq_true_eq] at h
      obtain ⟨⟨h1, h2, h3⟩, h4⟩ := h
      obtain ⟨i1, i2, i3⟩ := ih.1 h4
      refine ⟨?_, ?_, h3, i3⟩
      · intro z hz
        rcases List.mem_cons.1 hz with rfl | hz
        · exact h1
        · exact i1 z hz
      · unfold Rise at i2 ⊢
        refine List.pairwise_cons.2 ⟨?_, i2⟩
        intro z hz
        rcases List.mem_cons.1 hz with rfl | hz
        · exact h2
        · have := (List.pairwise_cons.1 i2).1 z hz; omega
    · rintro ⟨h1, h2, h3, h4⟩
      simp only [prv, Bool.and_eq_true, decide_eq_true_eq]
      refine ⟨⟨h1 x (by simp), (List.pairwise_cons.1 h2).1 x (by simp), h3⟩, ih.2 ⟨fun z hz => h1 z (by simp [hz]), (List.pairwise_cons.1 h2).2, h4⟩⟩
theorem chk_none (l : List S39) : (chk none l = true ∧ ¬ l.length = 0) ↔ Valid l := by
  cases l with
  | nil => simp [Valid]
  | cons x r =>
    rw [chk_cons]
    simp only [prv, Bool.and_true, Bool.and_eq_true, decide_eq_true_eq, chk_some, Valid]
    constructor
    · rintro ⟨⟨h1, h2, h3, h4⟩, _⟩
      refine ⟨by simp, ?_, h3, h4⟩
      intro z hz
      rcases List.mem_cons.1 hz with rfl | hz
      · exact h1
      · exact h2 z hz
    · rintro ⟨_, h1, h2, h3⟩
      exact ⟨⟨h1 x (by simp), fun z hz => h1 z (by simp [hz]), h2, h3⟩, by simp⟩
theorem check_ok {l : List S39} (hl : l.length < 1099511627776) (hv : Valid l) : Ev (fun k => profile_Check.f k l) 0 := by
  have h := check_ev l hl
  obtain ⟨h1, h2⟩ := (chk_none l).2 hv
  rw [if_pos h1, if_neg h2] at h; exact h
theorem check_no {l : List S39} (hl : l.length < 1099511627776) (hv : ¬ Valid l) : Ev (fun k => profile_Check.f k l) 50 := by
  have h := check_ev l hl
  by_cases h1 : chk none l = true
  · by_cases h2 : l.length = 0
    · rw [if_pos h1, if_pos h2] at h; exact h
    · exact absurd ((chk_none l).1 ⟨h1, h2⟩) hv
  · rw [if_neg h1] at h; exact h
theorem rcheck_ok {l : List S39} (hl : l.length < 1099511627776) (hv : Valid l) : Ev (fun k => gangerref05_Check.f k l) 0 := by
  have h := rcheck_ev l hl
  obtain ⟨h1, h2⟩ := (chk_none l).2 hv
  rw [if_pos h1, if_neg h2] at h; exact h
theorem rcheck_no {l : List S39} (hl : l.length < 1099511627776) (hv : ¬ Valid l) : Ev (fun k => gangerref05_Check.f k l) 50 := by
  have h := rcheck_ev l hl
  by_cases h1 : chk none l = true
  · by_cases h2 : l.length = 0
    · rw [if_pos h1, if_pos h2] at h; exact h
    · exact absurd ((chk_none l).1 ⟨h1, h2⟩) hv
  · rw [if_neg h1] at h; exact h
end Go.Proofs.Ytfcmpnajokjaaaa.Prof
