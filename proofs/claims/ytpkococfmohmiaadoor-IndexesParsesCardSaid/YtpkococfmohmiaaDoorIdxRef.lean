/- The reference's reader: item by item. -/
import Derived.Test.YtpkococfmohmiaaDoorIdxSay
import Derived.Test.YtpkococfmohmiaaDoorP0
import Derived.Test.YtpkococfmohmiaaDoorP2
import Derived.Test.YtpkococfmohmiaaDoorP4
import Derived.Test.YtpkococfmohmiaaDoorP5
namespace Go.Proofs.YtpkococfmohmiaaDoor.Idx
open Go.RowKit Go.Proofs.YtpkococfmohmiaaDoorW.PrintWords Go.Proofs.YtpkococfmohmiaaDoorW.PrintLast Go.Proofs.YtpkococfmohmiaaDoorW.PrintMore Go.Proofs.YtpkococfmohmiaaDoor.P
set_option linter.unusedVariables false
set_option linter.unusedSimpArgs false
/-- a sign behind a number that has ended -/
def after : List UInt8 → Nat → S53 → Nat → Nat → Nat → Except Nat (List S53)
  | [], pos, x, p, d, n => if d = 0 then .error pos else .ok [numN x p n]
  | c :: r, pos, x, p, d, n =>
    if d = 0 then .error pos
    else if c = 45 ∧ p = 0 ∧ x.f4 = false then scan r (pos + 1) (numN x p n) 1 0 0
    else if c = 58 ∧ p = 1 then scan r (pos + 1) (numN x p n) 2 0 0
    else if (c = 44 ∨ c = 37) ∧ x.f4 = false then econs (numN x p n) (scan r (pos + 1) (itemAt c pos) 0 0 0)
    else .error pos
theorem not_sign {c : UInt8} (h : isD c = true) : c ≠ 45 ∧ c ≠ 58 ∧ c ≠ 44 ∧ c ≠ 37 := by
  refine ⟨?_, ?_, ?_, ?_⟩ <;> (intro e; subst e; exact absurd h (by decide))
theorem scan_after : ∀ (r : List UInt8) (pos : Nat) (x : S53) (p c n : Nat), c ≤ 4 → scan r pos x p c n = after (r.drop ((nscan c n r).2 - c)) (pos + ((nscan c n r).2 - c)) x p (nscan c n r).2 (nscan c n r).1
  | [], pos, x, p, c, n, hc => by simp [scan, nscan, after]
  | b :: r, pos, x, p, c, n, hc => by
    rw [scan]
    by_cases hD : isD b = true
    · rw [if_pos hD]
      by_cases hs : c = 4 ∨ (0 < c ∧ n = 0)
      · have e0 : nscan c n (b :: r) = (n, c) := by rw [nscan, if_neg (by rintro ⟨h1, _, h3⟩; rcases hs with h | h <;> omega)]
        rw [if_pos hs, e0]
        obtain ⟨q1, q2, q3, q4⟩ := not_sign hD
        simp only [Nat.sub_self, List.drop_zero, Nat.add_zero, after, q1, q2, q3, q4, false_and, or_self, if_false]
        split <;> rfl
      · have hcond : c < 4 ∧ isD b = true ∧ ¬ (0 < c ∧ n = 0) := ⟨by omega, hD, fun h => hs (Or.inr h)⟩
        have e0 : nscan c n (b :: r) = nscan (c + 1) (10 * n + (b.toNat - 48)) r := by rw [nscan, if_pos hcond]
        rw [if_neg hs, e0, scan_after r (pos + 1) x p (c + 1) (10 * n + (b.toNat - 48)) (by omega)]
        have hle := nscan_le r (c + 1) (10 * n + (b.toNat - 48)) (by omega)
        have e1 : (nscan (c + 1) (10 * n + (b.toNat - 48)) r).2 - c = ((nscan (c + 1) (10 * n + (b.toNat - 48)) r).2 - (c + 1)) + 1 := by omega
        rw [e1, List.drop_succ_cons]
        congr 1
        omega
    · have e0 : nscan c n (b :: r) = (n, c) := by rw [nscan, if_neg (fun h => hD h.2.1)]
      rw [if_neg hD, e0]
      simp only [Nat.sub_self, List.drop_zero, Nat.add_zero, after]
/-- the end of an item: nothing, a comma, or the limit's sign -/
def fin : List UInt8 → Nat → S53 → Except Nat (List S53)
  | [], pos, y => .ok [y]
  | c :: r, pos, y => if c = 44 ∨ c = 37 then econs y (scan r (pos + 1) (itemAt c pos) 0 0 0) else .error pos
theorem is_eq (s : List UInt8) (i : Nat) (c : UInt8) (n : Int) (hn : n = (c.toNat : Int)) : gangerref06_is.f (mk s) (i : Int) n = some (decide ((s.drop i).head? = some c)) := by
  unfold gangerref06_is.f
  rw [mk_size]
  by_cases h : i < s.length
  · rw [if_pos (by omega), if_pos (by omega), bt_mk s i h, List.drop_eq_getElem_cons h, List.head?_cons, hn]
    congr 1
    by_cases e : s[i] = c
    · simp [e]
    · have : s[i].toNat ≠ c.toNat := fun q => e (UInt8.toNat_inj.1 q)
      rw [beq_eq_false_iff_ne.2 (by omega)]
      simp [e]
  · rw [if_neg (by omega), List.drop_eq_nil_of_le (by omega)]; rfl
theorem drop_head {s : List UInt8} {i : Nat} {c : UInt8} (h : (s.drop i).head? = some c) : s.drop i = c :: s.drop (i + 1) ∧ i < s.length := by
  have hlt : i < s.length := by
    rcases Nat.lt_or_ge i s.length with q | q
    · exact q
    · rw [List.drop_eq_nil_of_le q] at h; cases h
  rw [List.drop_eq_getElem_cons hlt] at h ⊢
  rw [List.head?_cons] at h
  rw [Option.some.inj h]
  exact ⟨rfl, hlt⟩
theorem after_fin {r : List UInt8} {pos : Nat} {x : S53} {p d n : Nat} (hd : d ≠ 0) (hx : x.f4 = false) (h1 : ¬ (p = 0 ∧ r.head? = some 45)) (h2 : ¬ (p = 1 ∧ r.head? = some 58)) : after r pos x p d n = fin r pos (numN x p n) := by
  cases r with
  | nil => rw [after, if_neg hd, fin]
  | cons c r =>
    rw [after, if_neg hd, fin, if_neg (by rintro ⟨rfl, hp, _⟩; exact h1 ⟨hp, rfl⟩), if_neg (by rintro ⟨rfl, hp⟩; exact h2 ⟨hp, rfl⟩)]
    simp only [hx, and_true]
/-- what one item of the reference says -/
def OneIs (s : List UInt8) (at_ : Nat) (x : S53) (o : Int × Int × Int × Int × Int) : Prop :=
  (∃ v : Nat, o.2.2.2.2 = (v : Int) ∧ scan (s.drop at_) at_ x 0 0 0 = .error v) ∨
  (∃ f t st e : Nat, o = ((f : Int), (t : Int), (st : Int), (e : Int), -1) ∧ at_ < e ∧ e ≤ s.length ∧ scan (s.drop at_) at_ x 0 0 0 = fin (s.drop e) e ⟨x.f0, f, t, st, false⟩)
theorem one_eq (s : List UInt8) (hl : s.length ≤ 100000) (at_ : Nat) (h : at_ ≤ s.length) (x : S53) (hx : x.f4 = false) : ∃ o, Ev (fun k => gangerref06_one.f k (mk s) (at_ : Int)) o ∧ OneIs s at_ x o := by
  unfold gangerref06_one.f
  obtain ⟨n1, c1, e1⟩ : ∃ n1 c1, nscan 0 0 (s.drop at_) = (n1, c1) := ⟨_, _, rfl⟩
  have N1 := number_eq s (by omega) at_ h
  have S1 := scan_after (s.drop at_) at_ x 0 0 0 (by omega)
  have L1 := nscan_le (s.drop at_) 0 0 (by omega)
  rw [e1] at N1 S1 L1
  simp only [Nat.sub_zero, List.drop_drop, List.length_drop] at N1 S1 L1
  by_cases z1 : c1 = 0
  · subst z1
    refine ⟨((n1 : Int), (n1 : Int), 1, ((at_ + 0 : Nat) : Int), (at_ : Int)), Ev.bind N1 (ev_pos (by simp) (Ev.now _)), Or.inl ⟨at_, rfl, ?_⟩⟩
    rw [S1]
    cases hd : s.drop (at_ + 0) with
    | nil => simp [after]
    | cons c r => simp [after]
  · have hx1 : (numN x 0 n1) = ⟨x.f0, n1, n1, 1, false⟩ := by rw [← hx]; rfl
    have w1 : wrap64 (((at_ + c1 : Nat) : Int) + 1) = ((at_ + c1 + 1 : Nat) : Int) := by rw [w64 (by omega)]; omega
    by_cases m1 : (s.drop (at_ + c1)).head? = some 45
    · obtain ⟨d1, lt1⟩ := drop_head m1
      obtain ⟨n2, c2, e2⟩ : ∃ n2 c2, nscan 0 0 (s.drop (at_ + c1 + 1)) = (n2, c2) := ⟨_, _, rfl⟩
      have N2 := number_eq s (by omega) (at_ + c1 + 1) (by omega)
      have S2 := scan_after (s.drop (at_ + c1 + 1)) (at_ + c1 + 1) (numN x 0 n1) 1 0 0 (by omega)
      have L2 := nscan_le (s.drop (at_ + c1 + 1)) 0 0 (by omega)
      rw [e2] at N2 S2 L2
      simp only [Nat.sub_zero, List.drop_drop, List.length_drop] at N2 S2 L2
      have A1 : scan (s.drop at_) at_ x 0 0 0 = scan (s.drop (at_ + c1 + 1)) (at_ + c1 + 1) (numN x 0 n1) 1 0 0 := by
        rw [S1, d1, after, if_neg z1, if_pos ⟨rfl, rfl, hx⟩]; rfl
      have hx2 : (numN (numN x 0 n1) 1 n2) = ⟨x.f0, n1, n2, 1, false⟩ := by rw [hx1]; rfl
      by_cases z2 : c2 = 0
      · subst z2
        refine ⟨((n1 : Int), (n2 : Int), 1, ((at_ + c1 : Nat) : Int), ((at_ + c1 + 1 + 0 : Nat) : Int)), ?_, Or.inl ⟨at_ + c1 + 1, rfl, ?_⟩⟩
        · refine Ev.bind N1 (ev_neg (by simp; omega) ?_)
          simp only [is_eq s (at_ + c1) 45 45 rfl, Option.bind_some, decide_eq_true m1, w1]
          exact ev_pos (by trivial) (Ev.bind N2 (ev_pos rfl (Ev.now _)))
        · rw [A1, S2]
          cases hd : s.drop (at_ + c1 + 1 + 0) with
          | nil => simp [after]
          | cons c r => simp [after]
      · have w2 : wrap64 (((at_ + c1 + 1 + c2 : Nat) : Int) + 1) = ((at_ + c1 + 1 + c2 + 1 : Nat) : Int) := by rw [w64 (by omega)]; omega
        by_cases m2 : (s.drop (at_ + c1 + 1 + c2)).head? = some 58
        · obtain ⟨d2, lt2⟩ := drop_head m2
          obtain ⟨n3, c3, e3⟩ : ∃ n3 c3, nscan 0 0 (s.drop (at_ + c1 + 1 + c2 + 1)) = (n3, c3) := ⟨_, _, rfl⟩
          have N3 := number_eq s (by omega) (at_ + c1 + 1 + c2 + 1) (by omega)
          have S3 := scan_after (s.drop (at_ + c1 + 1 + c2 + 1)) (at_ + c1 + 1 + c2 + 1) (numN (numN x 0 n1) 1 n2) 2 0 0 (by omega)
          have L3 := nscan_le (s.drop (at_ + c1 + 1 + c2 + 1)) 0 0 (by omega)
          rw [e3] at N3 S3 L3
          simp only [Nat.sub_zero, List.drop_drop, List.length_drop] at N3 S3 L3
          have A2 : scan (s.drop at_) at_ x 0 0 0 = scan (s.drop (at_ + c1 + 1 + c2 + 1)) (at_ + c1 + 1 + c2 + 1) (numN (numN x 0 n1) 1 n2) 2 0 0 := by
            rw [A1, S2, d2, after, if_neg z2, if_neg (by simp), if_pos ⟨rfl, rfl⟩]; rfl
          have hx3 : (numN (numN (numN x 0 n1) 1 n2) 2 n3) = ⟨x.f0, n1, n2, n3, false⟩ := by rw [hx2]; rfl
          by_cases z3 : c3 = 0
          · subst z3
            refine ⟨((n1 : Int), (n2 : Int), (n3 : Int), ((at_ + c1 + 1 + c2 : Nat) : Int), ((at_ + c1 + 1 + c2 + 1 + 0 : Nat) : Int)), ?_, Or.inl ⟨at_ + c1 + 1 + c2 + 1, rfl, ?_⟩⟩
            · refine Ev.bind N1 (ev_neg (by simp; omega) ?_)
              simp only [is_eq s (at_ + c1) 45 45 rfl, Option.bind_some, decide_eq_true m1, w1]
              refine ev_pos (by trivial) (Ev.bind N2 (ev_neg (by simp; omega) ?_))
              simp only [is_eq s (at_ + c1 + 1 + c2) 58 58 rfl, Option.bind_some, decide_eq_true m2, w2]
              exact ev_pos (by trivial) (Ev.bind N3 (ev_pos rfl (Ev.now _)))
            · rw [A2, S3]
              cases hd : s.drop (at_ + c1 + 1 + c2 + 1 + 0) with
              | nil => simp [after]
              | cons c r => simp [after]
          · refine ⟨((n1 : Int), (n2 : Int), (n3 : Int), ((at_ + c1 + 1 + c2 + 1 + c3 : Nat) : Int), -1), ?_, Or.inr ⟨n1, n2, n3, at_ + c1 + 1 + c2 + 1 + c3, rfl, by omega, by omega, ?_⟩⟩
            · refine Ev.bind N1 (ev_neg (by simp; omega) ?_)
              simp only [is_eq s (at_ + c1) 45 45 rfl, Option.bind_some, decide_eq_true m1, w1]
              refine ev_pos (by trivial) (Ev.bind N2 (ev_neg (by simp; omega) ?_))
              simp only [is_eq s (at_ + c1 + 1 + c2) 58 58 rfl, Option.bind_some, decide_eq_true m2, w2]
              exact ev_pos (by trivial) (Ev.bind N3 (ev_neg (by simp; omega) (Ev.now _)))
            · rw [A2, S3, after_fin z3 (by rw [hx2]) (by simp) (by simp)]; exact congrArg _ hx3
        · refine ⟨((n1 : Int), (n2 : Int), 1, ((at_ + c1 + 1 + c2 : Nat) : Int), -1), ?_, Or.inr ⟨n1, n2, 1, at_ + c1 + 1 + c2, rfl, by omega, by omega, ?_⟩⟩
          · refine Ev.bind N1 (ev_neg (by simp; omega) ?_)
            simp only [is_eq s (at_ + c1) 45 45 rfl, Option.bind_some, decide_eq_true m1, w1]
            refine ev_pos (by trivial) (Ev.bind N2 (ev_neg (by simp; omega) ?_))
            simp only [is_eq s (at_ + c1 + 1 + c2) 58 58 rfl, Option.bind_some, decide_eq_false m2]
            exact ev_neg (by simp) (Ev.now _)
          · rw [A1, S2, after_fin z2 (by rw [hx1]) (by simp) (fun q => m2 q.2)]; exact congrArg _ hx2
    · refine ⟨((n1 : Int), (n1 : Int), 1, ((at_ + c1 : Nat) : Int), -1), ?_, Or.inr ⟨n1, n1, 1, at_ + c1, rfl, by omega, by omega, ?_⟩⟩
      · refine Ev.bind N1 (ev_neg (by simp; omega) ?_)
        simp only [is_eq s (at_ + c1) 45 45 rfl, Option.bind_some, decide_eq_false m1]
        exact ev_neg (by simp) (Ev.now _)
      · rw [S1, after_fin z1 hx (fun q => m1 q.2) (by simp)]; exact congrArg _ hx1
end Go.Proofs.YtpkococfmohmiaaDoor.Idx
