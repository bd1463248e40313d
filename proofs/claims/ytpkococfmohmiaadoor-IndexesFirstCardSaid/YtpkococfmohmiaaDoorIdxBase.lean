/- Indexes, plainly: what the chapter's examples fix. -/
import Derived.Test.YtpkococfmohmiaaDoorP0
import Derived.Test.YtpkococfmohmiaaDoorP2
import Derived.Test.YtpkococfmohmiaaDoorP3
import Derived.Test.YtpkococfmohmiaaDoorP4
import Derived.Test.YtpkococfmohmiaaDoorP8
namespace Go.Proofs.YtpkococfmohmiaaDoor.Idx
open Go.RowKit Go.Proofs.YtpkococfmohmiaaDoorW.PrintWords Go.Proofs.YtpkococfmohmiaaDoorW.PrintLast Go.Proofs.YtpkococfmohmiaaDoorW.PrintMore Go.Proofs.YtpkococfmohmiaaDoor.P
set_option linter.unusedVariables false
set_option linter.unusedSimpArgs false
theorem wf64 {a : Int} (h : (Lit.int .i64 a).wf = true) : -9223372036854775808 ≤ a ∧ a ≤ 9223372036854775807 := by
  simpa [Lit.wf, IntKind.min, IntKind.max, IntKind.signed, IntKind.bits] using h
theorem w64 {x : Int} (h : -9223372036854775808 ≤ x ∧ x ≤ 9223372036854775807) : wrap64 x = x := by unfold wrap64; omega
theorem ev_at {α : Type} {g : Nat → Option α} {r : α} (n : Nat) (h : ∀ k, g (k + n) = some r) : Ev g r :=
  ⟨n, fun k hk => by obtain ⟨j, rfl⟩ : ∃ j, k = j + n := ⟨k - n, by omega⟩; exact h j⟩
theorem p1 : indexes_Parse.f (⟨#[48, 45, 56, 58, 52, 44, 50, 48, 37, 51]⟩ : ByteArray) = some ([0, 4, 8, 20], 3, 0, 0) := by decide +kernel
theorem p2 : indexes_Parse.f (⟨#[49, 44, 44, 50]⟩ : ByteArray) = some ([], 0, 2, 60) := by decide +kernel
theorem p3 : indexes_Parse.f (⟨#[53, 45, 51]⟩ : ByteArray) = some ([], 0, 0, 2) := by decide +kernel
theorem known_ev : Ev (fun k => gangerlaw06_known.f k) true := Ev.of (fun k => gangerlaw06_known.mono k) (k := 60) (by decide +kernel)
theorem hk : Ev (fun n => (gangerlaw06_known.f n).bind fun t => some t) true := Ev.bind known_ev (Ev.now _)
theorem ev_pos {α : Type} {c : Prop} [Decidable c] {f g : Nat → Option α} {r : α} (hc : c) (h : Ev f r) : Ev (fun k => if c then f k else g k) r := by simpa only [if_pos hc] using h
theorem ev_neg {α : Type} {c : Prop} [Decidable c] {f g : Nat → Option α} {r : α} (hc : ¬ c) (h : Ev g r) : Ev (fun k => if c then f k else g k) r := by simpa only [if_neg hc] using h
/-- rising, up to 1000 -/
def good (pr : Int) : List Int → Bool
  | [] => true
  | x :: r => decide (pr < x) && decide (x ≤ 1000) && good x r
theorem rd_mid (p : List Int) (x : Int) (r : List Int) : rd (p ++ x :: r) (p.length : Int) = x := by
  unfold rd; simp [List.getD]
theorem check_l0 : ∀ (r p : List Int) (pr : Int), (p ++ r).length < 1000000 → Ev (fun k => indexes_Check.l0 k pr (p ++ r) ((p ++ r).length : Int) (p.length : Int)) (if good pr r = true then 0 else 2)
  | [], p, pr, hl => by
    refine ev_at 1 fun k => ?_
    rw [indexes_Check.l0, if_neg (by simp)]; rfl
  | x :: r, p, pr, hl => by
    refine Ev.step (fun k => by rw [indexes_Check.l0]) ?_
    refine ev_pos (by simp; omega) (ev_pos (by omega) (ev_pos (by simp; omega) ?_))
    rw [rd_mid]
    by_cases h1 : x ≤ pr
    · refine ev_pos h1 ?_
      have : good pr (x :: r) = false := by simp [good]; omega
      rw [this]; exact Ev.now _
    · refine ev_neg h1 ?_
      by_cases h2 : x > 1000
      · refine ev_pos h2 ?_
        have : good pr (x :: r) = false := by simp [good]; omega
        rw [this]; exact Ev.now _
      · refine ev_neg h2 ?_
        have e : good pr (x :: r) = good x r := by
          have a1 : pr < x := by omega
          have a2 : x ≤ 1000 := by omega
          simp [good, a1, a2]
        have hw : wrap64 ((p.length : Int) + 1) = ((p ++ [x]).length : Int) := by rw [w64 (by simp at hl; omega)]; simp
        have ih := check_l0 r (p ++ [x]) x (by simpa using hl)
        rw [e, hw]
        simpa using ih
theorem check_eq (l : List Int) (m : Int) (hl : l.length < 1000000) : Ev (fun k => indexes_Check.f k l m) (if l = [] ∨ m < 0 ∨ m > 1000 ∨ good (-1) l = false then 2 else 0) := by
  have J1 : Ev (fun k => indexes_Check.j0 k true l m) 2 := ev_at 1 fun k => rfl
  unfold indexes_Check.f
  by_cases h0 : l = []
  · rw [if_pos (Or.inl h0)]
    exact ev_pos (by rw [h0]; rfl) J1
  · refine ev_neg (by have := List.length_pos_iff.2 h0; omega) ?_
    by_cases h1 : m < 0
    · rw [if_pos (Or.inr (Or.inl h1))]
      exact ev_pos h1 J1
    · refine ev_neg h1 ?_
      by_cases h2 : m > 1000
      · rw [if_pos (Or.inr (Or.inr (Or.inl h2))), decide_eq_true h2]
        exact J1
      · rw [decide_eq_false h2]
        refine Ev.step (fun k => by rw [indexes_Check.j0]) ?_
        have ih := check_l0 l [] (-1) (by simpa using hl)
        simp only [Bool.false_eq_true, if_false]
        cases hg : good (-1) l with
        | true =>
          rw [hg] at ih
          rw [if_neg (by simp [h0, h1, h2])]
          simpa using ih
        | false =>
          rw [hg] at ih
          rw [if_pos (Or.inr (Or.inr (Or.inr rfl)))]
          simpa using ih
/-- the last one, below nought at the beginning -/
def lastOf (p : List Int) : Int := (p.getLast?).getD (-1)
theorem lastOf_snoc (p : List Int) (x : Int) : lastOf (p ++ [x]) = x := by simp [lastOf]
theorem rcheck_bad (a : Int) (l : List Int) (m : Int) : Ev (fun k => gangerref06_Check.j2 k a true l m) 2 := ev_at 1 fun k => rfl
theorem rcheck_go {a : Int} {l : List Int} {m : Int} {r : Int} (h : Ev (fun k => gangerref06_Check.l0 k (wrap64 (a + 1)) l m) r) : Ev (fun k => gangerref06_Check.j2 k a false l m) r := by
  refine Ev.step (fun k => by rw [gangerref06_Check.j2]) ?_
  exact ev_neg (by simp) h
theorem rcheck_l0 : ∀ (r p : List Int) (m : Int), (p ++ r).length < 1000000 → (∀ x ∈ p, 0 ≤ x) → Ev (fun k => gangerref06_Check.l0 k (p.length : Int) (p ++ r) m) (if good (lastOf p) r = true then 0 else 2)
  | [], p, m, hl, hp => by
    refine ev_at 1 fun k => ?_
    rw [gangerref06_Check.l0, if_neg (by simp)]; rfl
  | x :: r, p, m, hl, hp => by
    have hw : wrap64 ((p.length : Int) + 1) = ((p ++ [x]).length : Int) := by rw [w64 (by simp at hl; omega)]; simp
    refine Ev.step (fun k => by rw [gangerref06_Check.l0]) ?_
    refine ev_pos (by simp; omega) (ev_pos (by omega) ?_)
    rw [rd_mid]
    have hlast : -1 ≤ lastOf p := by
      unfold lastOf
      cases e : p.getLast? with
      | none => simp
      | some y => have := hp y (List.mem_of_getLast? e); simp; omega
    by_cases h1 : x < 0
    · refine ev_pos h1 ?_
      have : good (lastOf p) (x :: r) = false := by simp [good]; omega
      rw [this]; exact rcheck_bad _ _ _
    · refine ev_neg h1 ?_
      by_cases h2 : x > 1000
      · refine ev_pos h2 ?_
        have : good (lastOf p) (x :: r) = false := by simp [good]; omega
        rw [this]; exact rcheck_bad _ _ _
      · refine ev_neg h2 ?_
        have ih := rcheck_l0 r (p ++ [x]) m (by simpa using hl) (by
          intro y hy
          rcases List.mem_append.mp hy with h | h
          · exact hp y h
          · simp at h; omega)
        rw [lastOf_snoc] at ih
        rw [← hw] at ih
        have a2 : x ≤ 1000 := by omega
        rcases List.eq_nil_or_concat p with rfl | ⟨q, y, rfl⟩
        · refine ev_neg (by simp) (rcheck_go ?_)
          have e : good (lastOf []) (x :: r) = good x r := by
            have a1 : lastOf [] < x := by simp [lastOf]; omega
            simp [good, a1, a2]
          rw [e]
          simpa using ih
        · refine ev_pos (by simp) ?_
          have hq : wrap64 (((q.concat y).length : Int) - 1) = (q.length : Int) := by
            rw [w64 (by simp at hl ⊢; omega)]; simp
          rw [hq]
          refine ev_pos (by omega) (ev_pos (by simp; omega) ?_)
          have hr : rd (q.concat y ++ x :: r) (q.length : Int) = y := by
            rw [List.concat_eq_append, List.append_assoc]
            exact rd_mid q y (x :: r)
          rw [hr]
          have hy : lastOf (q.concat y) = y := by rw [List.concat_eq_append]; exact lastOf_snoc q y
          by_cases h3 : x ≤ y
          · rw [decide_eq_true h3]
            have : good (lastOf (q.concat y)) (x :: r) = false := by rw [hy]; simp [good]; omega
            rw [this]; exact rcheck_bad _ _ _
          · rw [decide_eq_false h3]
            refine rcheck_go ?_
            have e : good (lastOf (q.concat y)) (x :: r) = good x r := by
              rw [hy]
              have a1 : y < x := by omega
              simp [good, a1, a2]
            rw [e]
            simpa using ih
theorem rcheck_eq (l : List Int) (m : Int) (hl : l.length < 1000000) : Ev (fun k => gangerref06_Check.f k l m) (if l = [] ∨ m < 0 ∨ m > 1000 ∨ good (-1) l = false then 2 else 0) := by
  have J1 : Ev (fun k => gangerref06_Check.j0 k true l m) 2 := ev_at 1 fun k => rfl
  unfold gangerref06_Check.f
  by_cases h0 : l = []
  · rw [if_pos (Or.inl h0)]
    exact ev_pos (by rw [h0]; decide) J1
  · refine ev_neg (by have := List.length_pos_iff.2 h0; omega) ?_
    by_cases h1 : m < 0
    · rw [if_pos (Or.inr (Or.inl h1))]
      exact ev_pos h1 J1
    · refine ev_neg h1 ?_
      by_cases h2 : m > 1000
      · rw [if_pos (Or.inr (Or.inr (Or.inl h2))), decide_eq_true h2]
        exact J1
      · rw [decide_eq_false h2]
        refine Ev.step (fun k => by rw [gangerref06_Check.j0]) ?_
        have ih := rcheck_l0 l [] m (by simpa using hl) (by simp)
        simp only [Bool.false_eq_true, if_false]
        have e : lastOf [] = -1 := rfl
        rw [e] at ih
        cases hg : good (-1) l with
        | true =>
          rw [hg] at ih
          rw [if_neg (by simp [h0, h1, h2])]
          simpa using ih
        | false =>
          rw [hg] at ih
          rw [if_pos (Or.inr (Or.inr (Or.inr rfl)))]
          simpa using ih
end Go.Proofs.YtpkococfmohmiaaDoor.Idx
