/- The reference's reader: marks, and the whole text. -/
import Derived.Test.YtpkococfmohmiaaDoorIdxRef
import Derived.Test.YtpkococfmohmiaaDoorP0
import Derived.Test.YtpkococfmohmiaaDoorP2
import Derived.Test.YtpkococfmohmiaaDoorP5
import Derived.Test.YtpkococfmohmiaaDoorP6
namespace Go.Proofs.YtpkococfmohmiaaDoor.Idx
open Go.RowKit Go.Proofs.YtpkococfmohmiaaDoorW.PrintWords Go.Proofs.YtpkococfmohmiaaDoorW.PrintLast Go.Proofs.YtpkococfmohmiaaDoorW.PrintMore Go.Proofs.YtpkococfmohmiaaDoor.P
set_option linter.unusedVariables false
set_option linter.unusedSimpArgs false
def bm (p : Nat → Bool) : List Bool := (List.range 1001).map p
theorem bm_len (p : Nat → Bool) : (bm p).length = 1001 := by simp [bm]
theorem bm_set (p : Nat → Bool) (n : Nat) : (bm p).set n true = bm (fun j => p j || j == n) := by
  apply List.ext_getElem (by simp [bm])
  intro i h1 h2
  rw [List.getElem_set]
  by_cases e : n = i
  · subst e; simp [bm]
  · have : (i == n) = false := beq_eq_false_iff_ne.2 (fun q => e q.symm)
    simp [bm, e, this]
theorem bm_congr {p q : Nat → Bool} (h : ∀ j, p j = q j) : bm p = bm q := by rw [funext h]
def run (n t st : Nat) (j : Nat) : Bool := decide ((n : Int) ≤ (j : Int)) && decide ((j : Int) ≤ (t : Int)) && decide (((j : Int) - n) % st = 0)
theorem run_step (n t st j : Nat) (hs : 0 < st) (hn : n ≤ t) : (j == n || run (n + st) t st j) = run n t st j := by
  unfold run
  have e1 : ((j : Int) - ((n + st : Nat) : Int)) % (st : Int) = ((j : Int) - n) % st := by
    rw [show (j : Int) - ((n + st : Nat) : Int) = ((j : Int) - n) - st by omega, Int.sub_emod_right]
  rw [e1]
  by_cases hj : j = n
  · subst hj; simp [hn]
  · have : (j == n) = false := beq_eq_false_iff_ne.2 hj
    rw [this, Bool.false_or]
    by_cases h2 : n ≤ j
    · by_cases h3 : n + st ≤ j
      · rw [decide_eq_true (by omega : ((n + st : Nat) : Int) ≤ (j : Int)), decide_eq_true (by omega : (n : Int) ≤ (j : Int))]
      · have : ¬ ((j : Int) - n) % st = 0 := by
          rw [Int.emod_eq_of_lt (by omega) (by omega)]; omega
        rw [decide_eq_false this, Bool.and_false, Bool.and_false]
    · rw [decide_eq_false (by omega : ¬ ((n + st : Nat) : Int) ≤ (j : Int)), decide_eq_false (by omega : ¬ (n : Int) ≤ (j : Int))]
theorem mark_l0 (t st : Nat) (hs : 0 < st) (hs2 : st ≤ 1000) (ht : t ≤ 1000) : ∀ (m n : Nat) (p : Nat → Bool), t + 1 ≤ n + m → n ≤ 2000 → Ev (fun k => gangerref06_mark.l0 k (bm p) (t : Int) (st : Int) (n : Int)) (true, bm fun j => p j || run n t st j)
  | 0, n, p, hm, hn => by
    refine Ev.step (fun k => by rw [gangerref06_mark.l0]) ?_
    refine ev_neg (by omega) ?_
    have : (fun j => p j || run n t st j) = p := by
      funext j
      have : run n t st j = false := by
        unfold run
        by_cases h : n ≤ j
        · rw [decide_eq_false (by omega : ¬ (j : Int) ≤ (t : Int))]; simp
        · rw [decide_eq_false (by omega : ¬ (n : Int) ≤ (j : Int))]; simp
      rw [this, Bool.or_false]
    rw [this]
    exact Ev.now _
  | m + 1, n, p, hm, hn => by
    by_cases h : n ≤ t
    · refine Ev.step (fun k => by rw [gangerref06_mark.l0]) ?_
      refine ev_pos (by omega) (ev_pos (by omega) (ev_pos (by rw [bm_len]; omega) ?_))
      rw [Int.toNat_natCast, bm_set, w64 (by omega)]
      have ih := mark_l0 t st hs hs2 ht m (n + st) (fun j => p j || j == n) (by omega) (by omega)
      rw [show (n : Int) + (st : Int) = ((n + st : Nat) : Int) by omega]
      have e : (fun j => p j || run n t st j) = fun j => (p j || j == n) || run (n + st) t st j := by
        funext j
        rw [← run_step n t st j hs h, Bool.or_assoc]
      rw [e]
      exact ih
    · exact mark_l0 t st hs hs2 ht 0 n p (by omega) hn
theorem mark_eq (y : S53) (f t st : Nat) (hf1 : y.f1 = f) (hf2 : y.f2 = t) (hf3 : y.f3 = st) (h4 : y.f4 = false) (p : Nat → Bool) : Ev (fun k => gangerref06_mark.f k (bm p) (f : Int) (t : Int) (st : Int)) (if bad y = true then (false, bm p) else (true, bm fun j => p j || inI y j)) := by
  have J : Ev (fun k => gangerref06_mark.j0 k (bm p) (f : Int) (t : Int) (st : Int) true) (false, bm p) := ev_at 1 fun k => rfl
  have hb : bad y = (decide (1000 < (f : Int)) || decide (1000 < (t : Int)) || decide ((t : Int) < f) || decide ((st : Int) = 0) || decide (1000 < (st : Int))) := by
    unfold bad; rw [hf1, hf2, hf3, h4]; simp
  unfold gangerref06_mark.f
  by_cases h1 : (f : Int) > 1000
  · rw [if_pos (by rw [hb]; simp; omega)]; exact ev_pos h1 J
  · refine ev_neg h1 ?_
    by_cases h2 : (t : Int) > 1000
    · rw [if_pos (by rw [hb]; simp; omega)]; exact ev_pos h2 J
    · refine ev_neg h2 ?_
      by_cases h3 : (st : Int) > 1000
      · rw [if_pos (by rw [hb]; simp; omega)]; exact ev_pos h3 J
      · refine ev_neg h3 ?_
        by_cases h5 : (t : Int) < f
        · rw [if_pos (by rw [hb]; simp; omega)]; exact ev_pos h5 J
        · refine ev_neg h5 ?_
          by_cases h6 : (st : Int) = 0
          · rw [if_pos (by rw [hb]; simp; omega), h6]; rw [h6] at J; exact J
          · rw [if_neg (by rw [hb]; simp; omega), beq_eq_false_iff_ne.2 h6]
            refine Ev.step (fun k => by rw [gangerref06_mark.j0]) ?_
            refine ev_neg (by simp) ?_
            have e : (fun j => p j || inI y j) = fun j => p j || run f t st j := by
              funext j; unfold inI run; rw [hf1, hf2, hf3]
            rw [e]
            exact mark_l0 t st (by omega) (by omega) (by omega) (t + 1) f p (by omega) (by omega)
/-- what has been seen of the items -/
def Seen (acc : List S53) (p : Nat → Bool) (b : Int) : Prop :=
  (b = -1 ∧ acc.find? bad = none ∧ ∀ j, p j = hit acc j) ∨ (0 ≤ b ∧ ∃ x, acc.find? bad = some x ∧ x.f0 = b)
theorem filter_succ (p : Nat → Bool) (n : Nat) : ((List.range (n + 1)).filter p).map (fun j : Nat => (j : Int)) = ((List.range n).filter p).map (fun j : Nat => (j : Int)) ++ (if p n = true then [(n : Int)] else []) := by
  rw [List.range_succ, List.filter_append, List.map_append]
  by_cases h : p n = true
  · simp [h]
  · simp [h]
theorem parse_l1 (p : Nat → Bool) (m : Int) : ∀ (i n : Nat), n + i = 1001 → Ev (fun k => gangerref06_Parse.l1 k (bm p) (n : Int) (((List.range n).filter p).map fun j : Nat => (j : Int)) m) (listOf p, m, 0, 0)
  | 0, n, h => by
    obtain rfl : n = 1001 := by omega
    refine Ev.step (fun k => by rw [gangerref06_Parse.l1]) ?_
    exact ev_neg (by omega) (Ev.now _)
  | i + 1, n, h => by
    refine Ev.step (fun k => by rw [gangerref06_Parse.l1]) ?_
    refine ev_pos (by omega) (ev_pos (by omega) (ev_pos (by rw [bm_len]; omega) ?_))
    have hr : rdOf false (bm p) (n : Int) = p n := by
      unfold rdOf
      simp [bm, List.getD, show n < 1001 by omega]
    rw [hr, w64 (by omega)]
    have ih := parse_l1 p m i (n + 1) (by omega)
    rw [filter_succ] at ih
    have hlen : (((List.range n).filter p).map fun j : Nat => (j : Int)).length ≤ 1001 := by
      rw [List.length_map]
      exact Nat.le_trans (List.length_filter_le _ _) (by simp; omega)
    by_cases hp : p n = true
    · refine ev_pos hp (ev_pos (by omega) ?_)
      rw [if_pos hp] at ih
      exact ih
    · refine ev_neg hp ?_
      rw [if_neg hp, List.append_nil] at ih
      exact ih
theorem parse_j4 (s : List UInt8) (p : Nat → Bool) (b m : Int) (acc : List S53) (e : Nat) (he : e ≤ s.length) (hS : Seen acc p b) (hm : acc.find? bad = none → m = lim acc 0) :
    Ev (fun k => gangerref06_Parse.j4 k (mk s) (bm p) b (e : Int) m) (if e < s.length then ([], 0, (e : Int), 60) else final acc) := by
  refine Ev.step (fun k => by rw [gangerref06_Parse.j4]) ?_
  rw [mk_size]
  by_cases h : e < s.length
  · rw [if_pos h]; exact ev_pos (by omega) (Ev.now _)
  · rw [if_neg h]
    refine ev_neg (by omega) ?_
    rcases hS with ⟨rfl, hf, hp⟩ | ⟨hb, x, hf, rfl⟩
    · refine ev_neg (by omega) ?_
      rw [final, hf, hm hf]
      have := parse_l1 p (lim acc 0) 1001 0 (by omega)
      rw [funext hp] at this ⊢
      exact this
    · refine ev_pos hb ?_
      rw [final, hf]; exact Ev.now _
theorem seen_ok {acc : List S53} {p : Nat → Bool} {b : Int} (h : Seen acc p b) {y : S53} (hy : bad y = false) (h4 : y.f4 = false) : Seen (acc ++ [y]) (fun j => p j || inI y j) b := by
  rcases h with ⟨h1, h2, h3⟩ | ⟨h1, x, h2, h3⟩
  · refine Or.inl ⟨h1, ?_, fun j => ?_⟩
    · rw [List.find?_append, h2, List.find?_cons_of_neg (by rw [hy]; simp)]; rfl
    · show (p j || inI y j) = _
      rw [hit_snoc, h3, h4]; simp
  · refine Or.inr ⟨h1, x, ?_, h3⟩
    rw [List.find?_append, h2]; rfl
theorem seen_lim {acc : List S53} {p : Nat → Bool} {b : Int} (h : Seen acc p b) {y : S53} (hy : bad y = false) (h4 : y.f4 = true) : Seen (acc ++ [y]) p b := by
  rcases h with ⟨h1, h2, h3⟩ | ⟨h1, x, h2, h3⟩
  · refine Or.inl ⟨h1, ?_, fun j => ?_⟩
    · rw [List.find?_append, h2, List.find?_cons_of_neg (by rw [hy]; simp)]; rfl
    · rw [hit_snoc, h3, h4]; simp
  · refine Or.inr ⟨h1, x, ?_, h3⟩
    rw [List.find?_append, h2]; rfl
theorem seen_bad {acc : List S53} {p : Nat → Bool} {b : Int} (h : Seen acc p b) {y : S53} (hy : bad y = true) (at_ : Nat) (h0 : y.f0 = (at_ : Int)) : Seen (acc ++ [y]) p (if b < 0 then (at_ : Int) else b) := by
  rcases h with ⟨h1, h2, h3⟩ | ⟨h1, x, h2, h3⟩
  · refine Or.inr ⟨by rw [if_pos (by omega)]; omega, y, ?_, ?_⟩
    · rw [List.find?_append, h2, List.find?_cons_of_pos hy]; rfl
    · rw [if_pos (by omega), h0]
  · rw [if_neg (by omega)]
    refine Or.inr ⟨h1, x, ?_, h3⟩
    rw [List.find?_append, h2]; rfl
theorem seen_neg {acc : List S53} {p : Nat → Bool} {b : Int} (h : Seen acc p b) : b = -1 ∨ 0 ≤ b := by
  rcases h with ⟨h1, _⟩ | ⟨h1, _⟩
  · exact Or.inl h1
  · exact Or.inr h1
theorem parse_j2 (s : List UInt8) (hl : s.length ≤ 100000) (p : Nat → Bool) (b : Int) (acc : List S53) (y : S53) (e : Nat) (he : e ≤ s.length) (hS : Seen (acc ++ [y]) p b) (hm : lim (acc ++ [y]) 0 = 0) (z0 z1 z2 z3 : Int)
    (go : (s.drop e).head? = some 44 → Ev (fun k => gangerref06_Parse.l0 k (mk s) (bm p) b ((e + 1 : Nat) : Int)) (say (acc ++ [y]) (scan (s.drop (e + 1)) (e + 1) (itemAt 44 e) 0 0 0))) :
    Ev (fun k => gangerref06_Parse.j2 k (mk s) (bm p) b z0 z1 z2 (e : Int) z3) (say acc (fin (s.drop e) e y)) := by
  have w1 : wrap64 ((e : Int) + 1) = ((e + 1 : Nat) : Int) := by rw [w64 (by omega)]; omega
  refine Ev.step (fun k => by rw [gangerref06_Parse.j2]) ?_
  by_cases h1 : (s.drop e).head? = some 44
  · obtain ⟨d1, lt1⟩ := drop_head h1
    simp only [is_eq s e 44 44 rfl, Option.bind_some, decide_eq_true h1, w1]
    refine ev_pos (by trivial) ?_
    rw [d1, fin, if_pos (Or.inl rfl), say_econs]
    exact go h1
  · simp only [is_eq s e 44 44 rfl, Option.bind_some, decide_eq_false h1, w1]
    refine ev_neg (by simp) ?_
    by_cases h2 : (s.drop e).head? = some 37
    · obtain ⟨d2, lt2⟩ := drop_head h2
      simp only [is_eq s e 37 37 rfl, Option.bind_some, decide_eq_true h2]
      refine ev_pos (by trivial) ?_
      rw [d2, fin, if_pos (Or.inr rfl), say_econs]
      obtain ⟨n, c, e1⟩ : ∃ n c, nscan 0 0 (s.drop (e + 1)) = (n, c) := ⟨_, _, rfl⟩
      have N1 := number_eq s (by omega) (e + 1) (by omega)
      have S1 := scan_after (s.drop (e + 1)) (e + 1) (itemAt 37 e) 0 0 0 (by omega)
      have L1 := nscan_le (s.drop (e + 1)) 0 0 (by omega)
      rw [e1] at N1 S1 L1
      simp only [Nat.sub_zero, List.drop_drop, List.length_drop] at N1 S1 L1
      rw [S1]
      refine Ev.bind N1 ?_
      by_cases z : c = 0
      · subst z
        refine ev_pos rfl ?_
        have : after (s.drop (e + 1 + 0)) (e + 1 + 0) (itemAt 37 e) 0 0 n = .error (e + 1) := by
          cases hd : s.drop (e + 1 + 0) with
          | nil => simp [after]
          | cons c r => simp [after]
        rw [this]; exact Ev.now _
      · refine ev_neg (by simp; omega) ?_
        obtain ⟨yl, hyl⟩ : ∃ yl : S53, yl = ⟨(e : Int), n, n, 1, true⟩ := ⟨_, rfl⟩
        have ha : after (s.drop (e + 1 + c)) (e + 1 + c) (itemAt 37 e) 0 c n = if e + 1 + c < s.length then .error (e + 1 + c) else .ok [yl] := by
          by_cases hlt : e + 1 + c < s.length
          · rw [if_pos hlt, List.drop_eq_getElem_cons hlt, after, if_neg z]
            simp [itemAt]
          · rw [if_neg hlt, List.drop_eq_nil_of_le (by omega), after, if_neg z, hyl]; rfl
        rw [ha]
        have hsay : say (acc ++ [y]) (if e + 1 + c < s.length then .error (e + 1 + c) else .ok [yl]) = if e + 1 + c < s.length then ([], 0, ((e + 1 + c : Nat) : Int), 60) else final (acc ++ [y] ++ [yl]) := by
          split <;> rfl
        rw [hsay]
        have hlim : lim (acc ++ [y] ++ [yl]) 0 = n := by rw [lim_append, hyl]; rfl
        have hbad : bad yl = (decide (n = 0) || decide (1000 < n)) := by
          rw [hyl, bad]
          simp only [if_true]
          congr 1
          · exact decide_eq_decide.2 (by omega)
          · exact decide_eq_decide.2 (by omega)
        have tail : ∀ (x : Bool), x = (bad yl && decide (b < 0)) → Ev (fun k => gangerref06_Parse.j3 k (mk s) (bm p) b ((e + 1 + c : Nat) : Int) (n : Int) (e : Int) x) (if e + 1 + c < s.length then ([], 0, ((e + 1 + c : Nat) : Int), 60) else final (acc ++ [y] ++ [yl])) := by
          intro x hx
          refine Ev.step (fun k => by rw [gangerref06_Parse.j3]) ?_
          by_cases hb : bad yl = true
          · have hS2 := seen_bad hS hb e (by rw [hyl])
            have := parse_j4 s p _ n _ (e + 1 + c) (by omega) hS2 (fun _ => hlim.symm)
            by_cases hb0 : b < 0
            · rw [if_pos hb0] at this
              exact ev_pos (by rw [hx, hb, decide_eq_true hb0]; rfl) this
            · rw [if_neg hb0] at this
              exact ev_neg (by rw [hx, hb, decide_eq_false hb0]; simp) this
          · have hb' : bad yl = false := by simpa using hb
            have hS2 := seen_lim hS hb' (by rw [hyl])
            have := parse_j4 s p _ n _ (e + 1 + c) (by omega) hS2 (fun _ => hlim.symm)
            exact ev_neg (by rw [hx, hb']; simp) this
        by_cases hz : n = 0
        · refine ev_pos (by simp [hz]) (tail _ ?_)
          rw [hbad, decide_eq_true hz]; rfl
        · refine ev_neg (by simp [hz]) ?_
          by_cases hg : 1000 < n
          · refine ev_pos (by simp; omega) (tail _ ?_)
            rw [hbad, decide_eq_true hg]; simp
          · refine ev_neg (by simp; omega) (tail _ ?_)
            rw [hbad, decide_eq_false hg, decide_eq_false hz]; rfl
    · simp only [is_eq s e 37 37 rfl, Option.bind_some, decide_eq_false h2]
      refine ev_neg (by simp) ?_
      have := parse_j4 s p b 0 (acc ++ [y]) e he hS (fun _ => hm.symm)
      have hf : say acc (fin (s.drop e) e y) = if e < s.length then ([], 0, (e : Int), 60) else final (acc ++ [y]) := by
        by_cases hlt : e < s.length
        · rw [if_pos hlt]
          rw [List.drop_eq_getElem_cons hlt, List.head?_cons] at h1 h2
          rw [List.drop_eq_getElem_cons hlt, fin, if_neg (by rintro (h | h) <;> simp_all)]; rfl
        · rw [if_neg hlt, List.drop_eq_nil_of_le (by omega)]; rfl
      rw [hf]
      exact this
theorem parse_l0 (s : List UInt8) (hl : s.length ≤ 100000) : ∀ (m at_ : Nat) (acc : List S53) (p : Nat → Bool) (b : Int) (x : S53), s.length ≤ at_ + m → at_ ≤ s.length → Seen acc p b → lim acc 0 = 0 → x.f4 = false → x.f0 = (at_ : Int) →
    Ev (fun k => gangerref06_Parse.l0 k (mk s) (bm p) b (at_ : Int)) (say acc (scan (s.drop at_) at_ x 0 0 0)) := by
  intro m
  induction m with
  | zero =>
    intro at_ acc p b x h1 h2 hS hL h4 h0
    obtain ⟨o, hE, hO⟩ := one_eq s hl at_ h2 x h4
    refine Ev.step (fun k => by rw [gangerref06_Parse.l0]) (Ev.bind hE ?_)
    rcases hO with ⟨v, hv, hs⟩ | ⟨f, t, st, e, ho, q1, q2, _⟩
    · rw [hs]
      refine ev_pos (by rw [hv]; omega) ?_
      rw [hv]; exact Ev.now _
    · omega
  | succ m ih =>
    intro at_ acc p b x h1 h2 hS hL h4 h0
    obtain ⟨o, hE, hO⟩ := one_eq s hl at_ h2 x h4
    refine Ev.step (fun k => by rw [gangerref06_Parse.l0]) (Ev.bind hE ?_)
    rcases hO with ⟨v, hv, hs⟩ | ⟨f, t, st, e, ho, q1, q2, hs⟩
    · rw [hs]
      refine ev_pos (by rw [hv]; omega) ?_
      rw [hv]; exact Ev.now _
    · rw [hs, ho]
      refine ev_neg (by simp) ?_
      obtain ⟨y, hy⟩ : ∃ y : S53, y = ⟨x.f0, f, t, st, false⟩ := ⟨_, rfl⟩
      rw [← hy]
      have hM := mark_eq y f t st (by rw [hy]) (by rw [hy]) (by rw [hy]) (by rw [hy]) p
      have hlim : lim (acc ++ [y]) 0 = 0 := by rw [lim_append, hL, hy]; rfl
      have rest : ∀ (p' : Nat → Bool) (b' : Int), Seen (acc ++ [y]) p' b' → Ev (fun k => gangerref06_Parse.j2 k (mk s) (bm p') b' (f : Int) (t : Int) (st : Int) (e : Int) (-1)) (say acc (fin (s.drop e) e y)) := by
        intro p' b' hS'
        refine parse_j2 s hl p' b' acc y e q2 hS' hlim _ _ _ _ (fun hc => ?_)
        obtain ⟨_, lt⟩ := drop_head hc
        exact ih (e + 1) (acc ++ [y]) p' b' (itemAt 44 e) (by omega) (by omega) hS' hlim rfl (by simp [itemAt])
      refine Ev.bind hM ?_
      by_cases hb : bad y = true
      · rw [if_pos hb]
        dsimp only
        refine ev_neg (by simp) ?_
        have hS' := seen_bad hS hb at_ (by rw [hy]; exact h0)
        refine Ev.step (fun k => by rw [gangerref06_Parse.j1]) ?_
        by_cases hb0 : b < 0
        · rw [if_pos hb0] at hS'
          refine ev_pos (by simp [hb0]) ?_
          exact rest p _ hS'
        · rw [if_neg hb0] at hS'
          refine ev_neg (by simp [hb0]) ?_
          exact rest p _ hS'
      · have hb' : bad y = false := by simpa using hb
        rw [if_neg hb]
        dsimp only
        refine ev_pos rfl ?_
        refine Ev.step (fun k => by rw [gangerref06_Parse.j1]) ?_
        refine ev_neg (by simp) ?_
        exact (rest _ b (seen_ok hS hb' (by rw [hy])))
theorem rparse_PR (s : List UInt8) (hl : s.length ≤ 100000) : Ev (fun k => gangerref06_Parse.f k (mk s)) (PR s) := by
  unfold gangerref06_Parse.f
  refine ev_pos (by decide) ?_
  have := parse_l0 s hl s.length 0 [] (fun _ => false) (-1) x0 (by omega) (by omega) (Or.inl ⟨rfl, rfl, fun j => by simp [hit]⟩) rfl rfl rfl
  have e : bm (fun _ => false) = List.replicate 1001 false := by
    unfold bm
    rw [List.map_const']; simp
  rw [e] at this
  exact this
end Go.Proofs.YtpkococfmohmiaaDoor.Idx
