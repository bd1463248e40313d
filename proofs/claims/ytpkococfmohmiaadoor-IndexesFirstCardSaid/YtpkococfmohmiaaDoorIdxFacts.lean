/- What holds of whatever a text says. -/
import Derived.Test.YtpkococfmohmiaaDoorIdxBody
import Derived.Test.YtpkococfmohmiaaDoorIdxSame
import Derived.Test.YtpkococfmohmiaaDoorP0
import Derived.Test.YtpkococfmohmiaaDoorP2
namespace Go.Proofs.YtpkococfmohmiaaDoor.Idx
open Go.RowKit Go.Proofs.YtpkococfmohmiaaDoorW.PrintWords Go.Proofs.YtpkococfmohmiaaDoorW.PrintLast Go.Proofs.YtpkococfmohmiaaDoorW.PrintMore Go.Proofs.YtpkococfmohmiaaDoor.P
set_option linter.unusedVariables false
set_option linter.unusedSimpArgs false
theorem numN_f0 (x : S53) (p n : Int) : (numN x p n).f0 = x.f0 := by
  unfold numN
  split
  · rfl
  · split <;> rfl
theorem n4 (x : S53) (p n : Int) : (numN x p n).f4 = x.f4 := by
  unfold numN
  split
  · rfl
  · split <;> rfl
/-- where a text is wrong, and where its items begin -/
def Inside (pos n : Nat) : Except Nat (List S53) → Prop
  | .error e => pos ≤ e ∧ e ≤ pos + n
  | .ok l => ∀ y ∈ l, 0 ≤ y.f0 ∧ y.f0 ≤ ((pos + n : Nat) : Int)
theorem Inside.up {pos n : Nat} {e : Except Nat (List S53)} (h : Inside (pos + 1) n e) : Inside pos (n + 1) e := by
  cases e with
  | error q => simp only [Inside] at h ⊢; omega
  | ok l =>
    intro y hy
    have := h y hy
    omega
theorem scan_places : ∀ (r : List UInt8) (pos : Nat) (x : S53) (p d n : Nat), 0 ≤ x.f0 → x.f0 ≤ (pos : Int) → Inside pos r.length (scan r pos x p d n)
  | [], pos, x, p, d, n, h1, h2 => by
    rw [scan]
    by_cases hd : d = 0
    · rw [if_pos hd]; simp [Inside]
    · rw [if_neg hd]
      intro y hy
      rw [List.mem_singleton.1 hy, numN_f0]
      simp; omega
  | c :: r, pos, x, p, d, n, h1, h2 => by
    have go : ∀ (x' : S53) (p' d' n' : Nat), 0 ≤ x'.f0 → x'.f0 ≤ ((pos + 1 : Nat) : Int) → Inside pos (r.length + 1) (scan r (pos + 1) x' p' d' n') := fun x' p' d' n' a b => (scan_places r (pos + 1) x' p' d' n' a b).up
    have done : Inside pos (r.length + 1) (Except.error pos) := by simp [Inside]
    rw [scan, List.length_cons]
    split
    · split
      · exact done
      · exact go x p _ _ h1 (by omega)
    · split
      · exact done
      · split
        · exact go _ _ _ _ (by rw [numN_f0]; exact h1) (by rw [numN_f0]; omega)
        · split
          · exact go _ _ _ _ (by rw [numN_f0]; exact h1) (by rw [numN_f0]; omega)
          · split
            · have := go (itemAt c pos) 0 0 0 (by simp only [itemAt]; split <;> omega) (by simp only [itemAt]; split <;> omega)
              cases e : scan r (pos + 1) (itemAt c pos) 0 0 0 with
              | error q => rw [e] at this; exact this
              | ok l =>
                rw [e] at this
                intro y hy
                rcases List.mem_cons.1 hy with q | q
                · rw [q, numN_f0]; omega
                · exact this y q
            · exact done
/-- the first item is no limit -/
theorem scan_first : ∀ (r : List UInt8) (pos : Nat) (x : S53) (p d n : Nat) (l : List S53), x.f4 = false → scan r pos x p d n = .ok l → ∃ y q, l = y :: q ∧ y.f4 = false
  | [], pos, x, p, d, n, l, hx, h => by
    rw [scan] at h
    split at h
    · cases h
    · cases h; exact ⟨_, _, rfl, by rw [n4]; exact hx⟩
  | c :: r, pos, x, p, d, n, l, hx, h => by
    rw [scan] at h
    split at h
    · split at h
      · cases h
      · exact scan_first r _ _ _ _ _ l hx h
    · split at h
      · cases h
      · split at h
        · exact scan_first r _ _ _ _ _ l (by rw [n4]; exact hx) h
        · split at h
          · exact scan_first r _ _ _ _ _ l (by rw [n4]; exact hx) h
          · split at h
            · cases e : scan r (pos + 1) (itemAt c pos) 0 0 0 with
              | error q => rw [e] at h; cases h
              | ok l' =>
                rw [e] at h
                cases h
                exact ⟨_, _, rfl, by rw [n4]; exact hx⟩
            · cases h
theorem lim_le : ∀ (l : List S53) (m : Int), (∀ x ∈ l, bad x = false) → (∀ x ∈ l, Fine x) → 0 ≤ m → m ≤ 1000 → 0 ≤ lim l m ∧ lim l m ≤ 1000
  | [], m, _, _, h1, h2 => ⟨h1, h2⟩
  | x :: r, m, hb, hf, h1, h2 => by
    rw [lim]
    have b := hb x (List.mem_cons_self ..)
    have f := hf x (List.mem_cons_self ..)
    refine lim_le r _ (fun y hy => hb y (List.mem_cons_of_mem _ hy)) (fun y hy => hf y (List.mem_cons_of_mem _ hy)) ?_ ?_
    · split
      · exact f.1
      · exact h1
    · split
      · rename_i h4
        rw [bad, if_pos h4] at b
        simp at b; omega
      · exact h2
theorem find_some {l : List S53} {x : S53} (h : l.find? bad = some x) : x ∈ l := List.mem_of_find?_eq_some h
theorem find_all {l : List S53} (h : l.find? bad = none) : ∀ x ∈ l, bad x = false := by
  intro x hx
  have := List.find?_eq_none.1 h x hx
  simpa using this
theorem hit_inI {x : S53} (hb : bad x = false) (hf : Fine x) (h4 : x.f4 = false) : x.f1.toNat < 1001 ∧ inI x x.f1.toNat = true := by
  obtain ⟨f1, f2, f3⟩ := hf
  rw [bad, if_neg (by rw [h4]; simp)] at hb
  simp at hb
  refine ⟨by omega, ?_⟩
  rw [inI, toNat_cast f1]
  simp; omega
/-- what a text says may be; if it says nothing there is nothing, and the place is within it -/
theorem PR_facts (s : List UInt8) : ((PR s).2.2.2 = 0 ∧ (PR s).2.2.1 = 0 ∧ okA (PR s).1 (PR s).2.1) ∨ ((PR s).2.2.2 ≠ 0 ∧ (PR s).1 = [] ∧ (PR s).2.1 = 0 ∧ 0 ≤ (PR s).2.2.1 ∧ (PR s).2.2.1 ≤ (s.length : Int)) := by
  have hp := scan_places s 0 x0 0 0 0 (by simp [x0]) (by simp [x0])
  unfold PR
  cases e : scan s 0 x0 0 0 0 with
  | error q =>
    rw [e] at hp
    refine Or.inr ⟨by simp [say], rfl, rfl, ?_, ?_⟩
    · simp [say]
    · simp only [say]; simp only [Inside] at hp; omega
  | ok l =>
    rw [e] at hp
    have hF := scan_fine s 0 x0 0 0 0 l (by simp [x0, Fine]) e
    obtain ⟨y, q, rfl, hy⟩ := scan_first s 0 x0 0 0 0 l rfl e
    simp only [say, List.nil_append]
    unfold final
    cases hf : (y :: q).find? bad with
    | some x =>
      have := hp x (find_some hf)
      refine Or.inr ⟨by simp, rfl, rfl, this.1, ?_⟩
      simpa using this.2
    | none =>
      have hall := find_all hf
      obtain ⟨l1, l2⟩ := lim_le (y :: q) 0 hall hF (by omega) (by omega)
      refine Or.inl ⟨rfl, rfl, ?_⟩
      dsimp only
      unfold okA
      have hin := hit_inI (hall y (List.mem_cons_self ..)) (hF y (List.mem_cons_self ..)) hy
      have hmem : (y.f1.toNat : Int) ∈ listOf (hit (y :: q)) := (mem_listOf _ _).2 ⟨_, hin.1, by simp [hit, hy, hin.2], rfl⟩
      rintro (h | h | h | h)
      · rw [h] at hmem; cases hmem
      · omega
      · omega
      · rw [good_listOf] at h; cases h
end Go.Proofs.YtpkococfmohmiaaDoor.Idx
