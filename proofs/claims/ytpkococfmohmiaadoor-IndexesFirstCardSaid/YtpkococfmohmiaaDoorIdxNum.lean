/- The number that begins at a place: of at most four digits, none behind a leading nought. -/
import Derived.Test.YtpkococfmohmiaaDoorIdxDig
import Derived.Test.YtpkococfmohmiaaDoorP0
import Derived.Test.YtpkococfmohmiaaDoorP5
namespace Go.Proofs.YtpkococfmohmiaaDoor.Idx
open Go.RowKit Go.Proofs.YtpkococfmohmiaaDoorW.PrintWords Go.Proofs.YtpkococfmohmiaaDoorW.PrintLast Go.Proofs.YtpkococfmohmiaaDoorW.PrintMore Go.Proofs.YtpkococfmohmiaaDoor.P
set_option linter.unusedVariables false
set_option linter.unusedSimpArgs false
/-- value and digits: as many as may be -/
def nscan : Nat → Nat → List UInt8 → Nat × Nat
  | c, n, [] => (n, c)
  | c, n, b :: r => if c < 4 ∧ isD b = true ∧ ¬ (0 < c ∧ n = 0) then nscan (c + 1) (10 * n + (b.toNat - 48)) r else (n, c)
theorem nscan_le : ∀ (r : List UInt8) (c n : Nat), c ≤ 4 → (nscan c n r).2 ≤ 4 ∧ c ≤ (nscan c n r).2 ∧ (nscan c n r).2 ≤ c + r.length
  | [], c, n, h => by simp [nscan]; exact h
  | b :: r, c, n, h => by
    rw [nscan]
    split
    · rename_i hc
      have := nscan_le r (c + 1) (10 * n + (b.toNat - 48)) (by omega)
      simp only [List.length_cons]
      omega
    · simp; omega
theorem number_l0 (l : List UInt8) (hl : l.length ≤ 1000000) (at_ : Nat) : ∀ (m c n : Nat), at_ + c + m = l.length → c ≤ 4 → n < 10 ^ c →
    Ev (fun k => gangerref06_number.l0 k (mk l) (at_ : Int) (n : Int) ((at_ + c : Nat) : Int)) (((nscan c n (l.drop (at_ + c))).1 : Int), ((at_ + (nscan c n (l.drop (at_ + c))).2 : Nat) : Int)) := by
  intro m
  induction m with
  | zero =>
    intro c n hm hc hn
    have hd : l.drop (at_ + c) = [] := List.drop_eq_nil_of_le (by omega)
    rw [hd, nscan]
    refine Ev.step (fun k => by rw [gangerref06_number.l0]) ?_
    refine ev_neg (by rw [mk_size]; omega) ?_
    exact ev_at 1 fun k => rfl
  | succ m ih =>
    intro c n hm hc hn
    have hlt : at_ + c < l.length := by omega
    have hd : l.drop (at_ + c) = l[at_ + c] :: l.drop (at_ + c + 1) := List.drop_eq_getElem_cons hlt
    rw [hd, nscan]
    have stop : ∀ x : Nat, Ev (fun k => gangerref06_number.j1 k (mk l) (at_ : Int) (n : Int) ((at_ + c : Nat) : Int) false) ((n : Int), ((at_ + c : Nat) : Int)) := fun _ => ev_at 1 fun k => rfl
    have hw4 : wrap64 ((at_ : Int) + 4) = (at_ : Int) + 4 := w64 (by omega)
    refine Ev.step (fun k => by rw [gangerref06_number.l0]) ?_
    refine ev_pos (by rw [mk_size]; omega) ?_
    rw [hw4]
    clear hw4
    by_cases h4 : c < 4
    · refine ev_pos (by omega) (ev_pos (by omega) ?_)
      rw [bt_mk l (at_ + c) hlt]
      by_cases hD : isD l[at_ + c] = true
      · have hb : 48 ≤ l[at_ + c].toNat ∧ l[at_ + c].toNat ≤ 57 := by simpa [isD] using hD
        refine ev_pos (by omega) ?_
        rw [decide_eq_true (by omega : ((l[at_ + c].toNat : Nat) : Int) ≤ 57)]
        refine Ev.step (fun k => by rw [gangerref06_number.j1]) ?_
        simp only [if_true]
        have hp : 10 ^ c ≤ 10 ^ 3 := Nat.pow_le_pow_right (by omega) (by omega)
        have hn3 : n < 1000 := by omega
        have e1 : ∀ _ : Unit, wrap64 (wrap64 (wrap64 ((n : Int) * 10) + wrap64 (bt (mk l) ((at_ + c : Nat) : Int))) - 48) = ((10 * n + (l[at_ + c].toNat - 48) : Nat) : Int) := fun _ => by
          rw [bt_mk l (at_ + c) hlt, w64 (x := (n : Int) * 10) (by omega), w64 (x := ((l[at_ + c].toNat : Nat) : Int)) (by omega), w64 (x := (n : Int) * 10 + _) (by omega), w64 (by omega)]
          omega
        have e2 : ∀ _ : Unit, wrap64 (((at_ + c : Nat) : Int) + 1) = ((at_ + (c + 1) : Nat) : Int) := fun _ => by rw [w64 (by omega)]; omega
        have hn' : 10 * n + (l[at_ + c].toNat - 48) < 10 ^ (c + 1) := by rw [Nat.pow_succ]; omega
        have go := ih (c + 1) (10 * n + (l[at_ + c].toNat - 48)) (by omega) (by omega) hn'
        rw [show at_ + (c + 1) = at_ + c + 1 by omega] at go
        by_cases hz : 0 < c ∧ n = 0
        · rw [if_neg (fun h => h.2.2 hz)]
          refine ev_pos (by omega) (ev_pos (by omega) ?_)
          exact Ev.now _
        · rw [if_pos ⟨h4, hD, hz⟩]
          have fin : Ev (fun k => if (0 : Int) ≤ ((at_ + c : Nat) : Int) then (if ((at_ + c : Nat) : Int) < ((mk l).size : Int) then (gangerref06_number.l0 k (mk l) (at_ : Int) (wrap64 ((wrap64 ((wrap64 ((n : Int) * 10)) + (wrap64 (bt (mk l) ((at_ + c : Nat) : Int))))) - 48)) (wrap64 (((at_ + c : Nat) : Int) + 1))) else (none)) else (none)) (((nscan (c + 1) (10 * n + (l[at_ + c].toNat - 48)) (l.drop (at_ + c + 1))).1 : Int), ((at_ + (nscan (c + 1) (10 * n + (l[at_ + c].toNat - 48)) (l.drop (at_ + c + 1))).2 : Nat) : Int)) := by
            refine ev_pos (by omega) (ev_pos (by rw [mk_size]; omega) ?_)
            rw [e1 (), e2 (), show at_ + (c + 1) = at_ + c + 1 by omega]
            exact go
          by_cases hc0 : 0 < c
          · refine ev_pos (by omega) (ev_neg (by omega) ?_)
            exact fin
          · refine ev_neg (by omega) ?_
            exact fin
      · rw [if_neg (fun h => hD h.2.1)]
        by_cases h8 : ((l[at_ + c].toNat : Nat) : Int) ≥ 48
        · refine ev_pos h8 ?_
          have : ¬ ((l[at_ + c].toNat : Nat) : Int) ≤ 57 := by
            intro h; apply hD; simp [isD]; omega
          rw [decide_eq_false this]
          exact stop 0
        · exact ev_neg h8 (stop 0)
    · rw [if_neg (fun h => h4 h.1)]
      exact ev_neg (by omega) (stop 0)
theorem number_eq (l : List UInt8) (hl : l.length ≤ 1000000) (at_ : Nat) (h : at_ ≤ l.length) : Ev (fun k => gangerref06_number.f k (mk l) (at_ : Int)) (((nscan 0 0 (l.drop at_)).1 : Int), ((at_ + (nscan 0 0 (l.drop at_)).2 : Nat) : Int)) := by
  have := number_l0 l hl at_ (l.length - at_) 0 0 (by omega) (by omega) (by omega)
  simpa [gangerref06_number.f] using this
end Go.Proofs.YtpkococfmohmiaaDoor.Idx
