/- The step function of levels, the level of a tick, how many are free at a tick, and whether two lists are the same. Conditions: in each statement. -/
import Derived.Test.YtfcmpnajokjaaaaProfBase
import Derived.Test.YtfcmpnajokjaaaaP0
import Derived.Test.YtfcmpnajokjaaaaP2
import Derived.Test.YtfcmpnajokjaaaaP5
import Derived.Test.YtfcmpnajokjaaaaP6
import Derived.Test.YtfcmpnajokjaaaaP7
namespace Go.Proofs.Ytfcmpnajokjaaaa.Prof
open Go.RowKit Go.Proofs.YtfcmpnajokjaaaaW.PrintWords Go.Proofs.YtfcmpnajokjaaaaW.PrintLast Go.Proofs.YtfcmpnajokjaaaaW.PrintMore Go.Proofs.Ytfcmpnajokjaaaa.P
set_option linter.unusedVariables false
/-- what the last level at or ahead of a tick tells -/
def stpA (n : Int) (l : List S39) (t : Int) : Int := l.foldl (fun n x => if x.f0 ≤ t then x.f1 else n) n
def stp (l : List S39) (t : Int) : Int := stpA 0 l t
theorem stpA_no {l : List S39} {t : Int} (h : ∀ y ∈ l, t < y.f0) (n : Int) : stpA n l t = n := by
  induction l generalizing n with
  | nil => rfl
  | cons x r ih =>
    have := h x (by simp)
    unfold stpA
    rw [List.foldl_cons, if_neg (by omega)]
    exact ih (fun y hy => h y (by simp [hy])) n
theorem stpA_mid {p r : List S39} {x : S39} {t : Int} (hx : x.f0 ≤ t) (h : ∀ y ∈ r, t < y.f0) (n : Int) : stpA n (p ++ x :: r) t = x.f1 := by
  unfold stpA
  rw [List.foldl_append, List.foldl_cons, if_pos hx]
  exact stpA_no h x.f1
theorem stp_mid {p r : List S39} {x : S39} {t : Int} (hx : x.f0 ≤ t) (h : ∀ y ∈ r, t < y.f0) : stp (p ++ x :: r) t = x.f1 := stpA_mid hx h 0
theorem stp_no {l : List S39} {t : Int} (h : ∀ y ∈ l, t < y.f0) : stp l t = 0 := stpA_no h 0
theorem stp_congr {l : List S39} {t t' : Int} (h : ∀ x ∈ l, x.f0 ≤ t ↔ x.f0 ≤ t') : stp l t = stp l t' := by
  unfold stp
  generalize (0 : Int) = n
  induction l generalizing n with
  | nil => rfl
  | cons x r ih =>
    unfold stpA
    rw [List.foldl_cons, List.foldl_cons]
    have hx := h x (by simp)
    by_cases c : x.f0 ≤ t
    · rw [if_pos c, if_pos (hx.1 c)]; exact ih (fun y hy => h y (by simp [hy])) _
    · rw [if_neg c, if_neg (fun d => c (hx.2 d))]; exact ih (fun y hy => h y (by simp [hy])) _
theorem split : ∀ (l : List S39) (x : S39) (t : Int), Rise (x :: l) → x.f0 ≤ t → ∃ p y r, x :: l = p ++ y :: r ∧ y.f0 ≤ t ∧ ∀ z ∈ r, t < z.f0
  | [], x, t, _, hx => ⟨[], x, [], rfl, hx, by simp⟩
  | y :: r, x, t, hr, hx => by
    by_cases c : y.f0 ≤ t
    · obtain ⟨p, z, q, e, h1, h2⟩ := split r y t (List.pairwise_cons.1 hr).2 c
      exact ⟨x :: p, z, q, by rw [e]; rfl, h1, h2⟩
    · refine ⟨[], x, y :: r, rfl, hx, fun z hz => ?_⟩
      rcases List.mem_cons.1 hz with rfl | hz
      · omega
      · have := (List.pairwise_cons.1 (List.pairwise_cons.1 hr).2).1 z hz; omega
theorem rd_get (l : List S39) (j : Nat) (h : j < l.length) : rd_T39 l (j : Int) = l[j] := by
  unfold rd_T39; simp [h]
theorem bs_l (l : List S39) (t : Int) (c : Nat) (hl : l.length < 1099511627776) (hc : c ≤ l.length) (hm : ∀ j (h : j < l.length), l[j].f0 < t ↔ j < c) (hw : ∀ j (h : j < l.length), wrap64 (l[j].f0 - t) = l[j].f0 - t) :
    ∀ d lo hi : Nat, hi - lo ≤ d → lo ≤ c → c ≤ hi → hi ≤ l.length → Ev (fun k => api_Level_int.l0 k l t (l.length : Int) (lo : Int) (hi : Int)) ((c : Int), if h : c < l.length then (l[c].f0 - t == 0) else false)
  | 0, lo, hi, hd, h1, h2, h3 => by
    obtain rfl : lo = c := by omega
    obtain rfl : hi = lo := by omega
    refine Ev.step (fun k => by rw [api_Level_int.l0]) ?_
    simp only [Int.lt_irrefl, if_false]
    by_cases hb : hi < l.length
    · simp only [show (hi : Int) < (l.length : Int) by omega, if_true, show 0 ≤ (hi : Int) by omega, dif_pos hb, rd_get l hi hb, profile_find_1.f, Option.bind_some, hw hi hb]
      exact Ev.now _
    · simp only [show ¬ (hi : Int) < (l.length : Int) by omega, if_false, dif_neg hb]
      exact Ev.now _
  | d + 1, lo, hi, hd, h1, h2, h3 => by
    by_cases he : lo = hi
    · exact bs_l l t c hl hc hm hw 0 lo hi (by omega) h1 h2 h3
    refine Ev.step (fun k => by rw [api_Level_int.l0]) ?_
    have e1 : wrap64 ((lo : Int) + (hi : Int)) = ((lo + hi : Nat) : Int) := by rw [w64 (by omega)]; simp
    have e2 : wrap64 ((IntKind.u64.wrap ((lo + hi : Nat) : Int)) / 2) = (((lo + hi) / 2 : Nat) : Int) := by
      rw [IntKind.wrap_u64, show ((lo + hi : Nat) : Int) % 18446744073709551616 = ((lo + hi : Nat) : Int) by omega, w64 (by omega)]; omega
    have hmid : (lo + hi) / 2 < l.length := by omega
    have e3 : wrap64 ((((lo + hi) / 2 : Nat) : Int) + 1) = (((lo + hi) / 2 + 1 : Nat) : Int) := by rw [w64 (by omega)]; simp
    simp only [show (lo : Int) < (hi : Int) by omega, if_true, e1, e2, show (0 : Int) ≤ (((lo + hi) / 2 : Nat) : Int) by omega, show (((lo + hi) / 2 : Nat) : Int) < (l.length : Int) by omega, rd_get l _ hmid, profile_find_1.f, Option.bind_some, hw _ hmid, e3]
    have hmm := hm _ hmid
    by_cases cc : l[(lo + hi) / 2].f0 - t < 0
    · simp only [if_pos cc]
      exact bs_l l t c hl hc hm hw d _ hi (by omega) (hmm.1 (by omega)) h2 h3
    · simp only [if_neg cc]
      exact bs_l l t c hl hc hm hw d lo _ (by omega) h1 (by have : ¬ (lo + hi) / 2 < c := fun h => cc (by have := hmm.2 h; omega); omega) (by omega)
theorem get_mid (p : List S39) (x : S39) (r : List S39) (j : Nat) (h : j < (p ++ x :: r).length) : (j < p.length ∧ (p ++ x :: r)[j] ∈ p) ∨ (j = p.length ∧ (p ++ x :: r)[j] = x) ∨ (p.length < j ∧ (p ++ x :: r)[j] ∈ r) := by
  rcases Nat.lt_trichotomy j p.length with c | c | c
  · exact .inl ⟨c, by rw [List.getElem_append_left c]; exact List.getElem_mem c⟩
  · subst c; exact .inr (.inl ⟨rfl, by simp⟩)
  · refine .inr (.inr ⟨c, ?_⟩)
    obtain ⟨i, rfl⟩ : ∃ i, j = p.length + 1 + i := ⟨j - p.length - 1, by omega⟩
    rw [List.getElem_append_right (by omega)]
    have e : p.length + 1 + i - p.length = i + 1 := by omega
    simp only [e, List.getElem_cons_succ]
    exact List.getElem_mem _
theorem find_ev (p : List S39) (x : S39) (r : List S39) (t : Int) (hl : (p ++ x :: r).length < 1099511627776) (hr : Rise (p ++ x :: r)) (hb : ∀ z ∈ p ++ x :: r, 0 ≤ z.f0 ∧ z.f0 ≤ 1099511627776) (ht : 0 ≤ t ∧ t ≤ 1099511627776 * 4) (hx : x.f0 ≤ t) (hz : ∀ y ∈ r, t < y.f0) :
    Ev (fun k => profile_find.f k (p ++ x :: r) t) (p.length : Int) := by
  have hp : ∀ y ∈ p, y.f0 < x.f0 := fun y hy => (List.pairwise_append.1 hr).2.2 y hy x (by simp)
  have hlen : (p ++ x :: r).length = p.length + 1 + r.length := by simp; omega
  unfold profile_find.f api_Level_int.f
  have hw : ∀ j (h : j < (p ++ x :: r).length), wrap64 ((p ++ x :: r)[j].f0 - t) = (p ++ x :: r)[j].f0 - t := fun j h => by
    have := hb _ (List.getElem_mem h); rw [w64]; omega
  by_cases e : x.f0 = t
  · have h := bs_l (p ++ x :: r) t p.length hl (by omega) (fun j hj => by
      rcases get_mid p x r j hj with ⟨c, h⟩ | ⟨c, h⟩ | ⟨c, h⟩
      · have := hp _ h; omega
      · rw [h]; omega
      · have := hz _ h; omega) hw (p ++ x :: r).length 0 (p ++ x :: r).length (by omega) (by omega) (by omega) (by omega)
    refine Ev.bind h ?_
    have hlt : p.length < (p ++ x :: r).length := by omega
    have hg : (p ++ x :: r)[p.length] = x := by simp
    simp only [dif_pos hlt, hg, e, Int.sub_self, BEq.rfl, if_true]
    exact Ev.now _
  · have h := bs_l (p ++ x :: r) t (p.length + 1) hl (by omega) (fun j hj => by
      rcases get_mid p x r j hj with ⟨c, h⟩ | ⟨c, h⟩ | ⟨c, h⟩
      · have := hp _ h; omega
      · rw [h]; omega
      · have := hz _ h; omega) hw (p ++ x :: r).length 0 (p ++ x :: r).length (by omega) (by omega) (by omega) (by omega)
    refine Ev.bind h ?_
    have hf : (if h : p.length + 1 < (p ++ x :: r).length then ((p ++ x :: r)[p.length + 1].f0 - t == 0) else false) = false := by
      split
      · rename_i hq
        rcases get_mid p x r _ hq with ⟨c, h⟩ | ⟨c, h⟩ | ⟨c, h⟩
        · omega
        · omega
        · have := hz _ h
          simp only [beq_eq_false_iff_ne, ne_eq]
          omega
      · rfl
    simp only [hf, Bool.false_eq_true, if_false]
    rw [show wrap64 (((p.length + 1 : Nat) : Int) - 1) = (p.length : Int) by rw [w64 (by omega)]; omega]
    exact Ev.now _
theorem Valid.cons {l : List S39} (h : Valid l) : ∃ x r, l = x :: r := by
  cases l with
  | nil => exact absurd rfl h.1
  | cons x r => exact ⟨x, r, rfl⟩
theorem rd_zero (x : S39) (r : List S39) : rd_T39 (x :: r) 0 = x := by have h := rd_mid [] x r; simpa using h
theorem Valid.bd {l : List S39} (h : Valid l) : ∀ z ∈ l, 0 ≤ z.f0 ∧ z.f0 ≤ 1099511627776 := fun z hz => ⟨(h.2.1 z hz).1, (h.2.1 z hz).2.1⟩
theorem head_le {x : S39} {r : List S39} (h : Rise (x :: r)) : ∀ y ∈ x :: r, x.f0 ≤ y.f0 := fun y hy => by
  rcases List.mem_cons.1 hy with rfl | hy
  · exact Int.le_refl _
  · exact Int.le_of_lt ((List.pairwise_cons.1 h).1 y hy)
theorem mn_le (t : Int) (m : Int) : mn t m = if t ≤ m then t else m := by unfold mn; split <;> split <;> omega
theorem at_ok {l : List S39} (hl : l.length < 1099511627776) (hv : Valid l) (t : Int) : Ev (fun k => profile_At.f k l t) (stp l t) := by
  obtain ⟨x, r, rfl⟩ := hv.cons
  unfold profile_At.f
  refine Ev.bind (check_ok hl hv) ?_
  simp only [if_true, show 0 < ((x :: r).length : Int) by rw [List.length_cons]; omega, rd_zero]
  by_cases c : t < x.f0
  · simp only [if_pos c]
    rw [stp_no (fun y hy => by have := head_le hv.2.2.1 y hy; omega)]
    exact Ev.now _
  · simp only [if_neg c]
    have hx := hv.bd x (by simp)
    have hm : mn t 1099511627776 ≤ 1099511627776 ∧ x.f0 ≤ mn t 1099511627776 ∧ 0 ≤ mn t 1099511627776 := by rw [mn_le]; split <;> omega
    obtain ⟨p, y, q, e, h1, h2⟩ := split r x (mn t 1099511627776) hv.2.2.1 hm.2.1
    have hs : stp (x :: r) t = y.f1 := by
      rw [stp_congr (t' := mn t 1099511627776) (fun z hz => by have := hv.bd z hz; rw [mn_le]; split <;> omega), e]
      exact stp_mid h1 h2
    rw [hs, e]
    rw [e] at hl hv
    refine Ev.bind (find_ev p y q _ hl hv.2.2.1 hv.bd (by omega) h1 h2) ?_
    simp only [show (0 : Int) ≤ (p.length : Int) by omega, if_true, show (p.length : Int) < ((p ++ y :: q).length : Int) by simp; omega, rd_mid]
    exact Ev.now _
theorem at_no {l : List S39} (hl : l.length < 1099511627776) (hv : ¬ Valid l) (t : Int) : Ev (fun k => profile_At.f k l t) 0 := by
  unfold profile_At.f
  refine Ev.bind (check_no hl hv) ?_
  simp only [show ¬ (50 : Int) = 0 by omega, if_false]
  exact Ev.now _
theorem rat_l (t : Int) : ∀ (s p : List S39) (n : Int), (p ++ s).length < 1099511627776 → Ev (fun k => gangerref05_At.l0 k (p ++ s) t 0 n (p.length : Int)) (stpA n s t)
  | [], p, n, hl => by
    refine Ev.step (fun k => by rw [gangerref05_At.l0]) ?_
    simp only [List.append_nil, Int.lt_irrefl, if_false]
    refine Ev.step (fun k => by rw [gangerref05_At.j1]) ?_
    simp only [Bool.false_eq_true, if_false]
    exact Ev.now _
  | x :: r, p, n, hl => by
    have hlt : (p.length : Int) < ((p ++ x :: r).length : Int) := by simp; omega
    have hw : wrap64 ((p.length : Int) + 1) = ((p ++ [x]).length : Int) := by rw [w64 (by simp at hl; omega)]; simp
    refine Ev.step (fun k => by rw [gangerref05_At.l0]) ?_
    simp only [if_pos hlt, BEq.rfl]
    refine Ev.step (fun k => by rw [gangerref05_At.j1]) ?_
    simp only [if_true, show (0 : Int) ≤ (p.length : Int) by omega, if_pos hlt, rd_mid, hw]
    have ih := fun n => rat_l t r (p ++ [x]) n (by simpa using hl)
    simp only [List.append_assoc, List.singleton_append] at ih
    unfold stpA
    rw [List.foldl_cons]
    by_cases c : x.f0 ≤ t
    · simp only [if_pos c]; exact ih _
    · simp only [if_neg c]; exact ih _
theorem rat_ok {l : List S39} (hl : l.length < 1099511627776) (hv : Valid l) (t : Int) : Ev (fun k => gangerref05_At.f k l t) (stp l t) := by
  unfold gangerref05_At.f
  refine Ev.bind (rcheck_ok hl hv) ?_
  exact rat_l t l [] 0 hl
theorem rat_no {l : List S39} (hl : l.length < 1099511627776) (hv : ¬ Valid l) (t : Int) : Ev (fun k => gangerref05_At.f k l t) 0 := by
  unfold gangerref05_At.f
  refine Ev.bind (rcheck_no hl hv) ?_
  refine Ev.step (fun k => by rw [gangerref05_At.l0]) ?_
  simp only [show ((50 : Int) == 0) = false by decide, ite_self]
  refine Ev.step (fun k => by rw [gangerref05_At.j1]) ?_
  simp only [Bool.false_eq_true, if_false]
  exact Ev.now _
theorem same_l : ∀ (s s' p : List S39), s.length = s'.length → (p ++ s).length < 1099511627776 → Ev (fun k => gangerref05_Same.l0 k (p ++ s) (p ++ s') (p.length : Int)) (decide (s = s'))
  | [], s', p, he, hl => by
    obtain rfl : s' = [] := List.length_eq_zero_iff.1 he.symm
    refine Ev.step (fun k => by rw [gangerref05_Same.l0]) ?_
    simp only [List.append_nil, Int.lt_irrefl, if_false, decide_true]
    exact Ev.now _
  | x :: r, [], p, he, hl => by simp at he
  | x :: r, y :: r', p, he, hl => by
    have hlt : (p.length : Int) < ((p ++ x :: r).length : Int) := by simp; omega
    have hlt' : (p.length : Int) < ((p ++ y :: r').length : Int) := by simp; omega
    have hw : wrap64 ((p.length : Int) + 1) = ((p ++ [x]).length : Int) := by rw [w64 (by simp at hl; omega)]; simp
    refine Ev.step (fun k => by rw [gangerref05_Same.l0]) ?_
    simp only [if_pos hlt, if_pos hlt', show (0 : Int) ≤ (p.length : Int) by omega, if_true, rd_mid, hw]
    by_cases e : x = y
    · subst e
      have ih := same_l r r' (p ++ [x]) (by simpa using he) (by simpa using hl)
      simp only [List.append_assoc, List.singleton_append] at ih
      simp only [BEq.rfl, Bool.not_true, Bool.or_self, Bool.false_eq_true, if_false]
      rw [show decide (x :: r = x :: r') = decide (r = r') by simp]
      exact ih
    · have hne : (!(x.f0 == y.f0) || !(x.f1 == y.f1)) = true := by
        cases x; cases y
        simp at e ⊢
        omega
      simp only [hne, if_true]
      rw [show decide (x :: r = y :: r') = false by simp [e]]
      exact Ev.now _
theorem same_ev (a b : List S39) (ha : a.length < 1099511627776) : Ev (fun k => gangerref05_Same.f k a b) (decide (a = b)) := by
  unfold gangerref05_Same.f
  by_cases e : a.length = b.length
  · simp only [show (a.length : Int) = (b.length : Int) by omega, if_true]
    exact same_l a b [] e ha
  · simp only [show ¬ (a.length : Int) = (b.length : Int) by omega, if_false]
    rw [show decide (a = b) = false by simp; intro h; exact e (by rw [h])]
    exact Ev.now _
theorem same_self (a : List S39) (ha : a.length < 1099511627776) : Ev (fun k => gangerref05_Same.f k a a) true := by
  have h := same_ev a a ha
  rwa [decide_eq_true rfl] at h
theorem stp_bd {l : List S39} (h : ∀ z ∈ l, ok1 z) (t : Int) : 0 ≤ stp l t ∧ stp l t ≤ 1099511627776 := by
  have : ∀ n, 0 ≤ n ∧ n ≤ 1099511627776 → 0 ≤ stpA n l t ∧ stpA n l t ≤ 1099511627776 := by
    induction l with
    | nil => exact fun n h => h
    | cons x r ih =>
      intro n hn
      have hx := h x (by simp)
      unfold ok1 at hx
      exact ih (fun z hz => h z (by simp [hz])) (if x.f0 ≤ t then x.f1 else n) (by split <;> omega)
  exact this 0 (by omega)
theorem stp_le {l : List S39} (h : Valid l) (t : Int) : stp l t ≤ 1099511627776 := (stp_bd h.2.1 t).2
end Go.Proofs.Ytfcmpnajokjaaaa.Prof
