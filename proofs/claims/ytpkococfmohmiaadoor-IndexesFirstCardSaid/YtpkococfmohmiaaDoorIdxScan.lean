/- What the reader of a text computes: its items, or the place where the text is wrong. -/
import Derived.Test.YtpkococfmohmiaaDoorIdxNum
import Derived.Test.YtpkococfmohmiaaDoorP0
import Derived.Test.YtpkococfmohmiaaDoorP2
namespace Go.Proofs.YtpkococfmohmiaaDoor.Idx
open Go.RowKit Go.Proofs.YtpkococfmohmiaaDoorW.PrintWords Go.Proofs.YtpkococfmohmiaaDoorW.PrintLast Go.Proofs.YtpkococfmohmiaaDoorW.PrintMore Go.Proofs.YtpkococfmohmiaaDoor.P
set_option linter.unusedVariables false
set_option linter.unusedSimpArgs false
/-- the item that begins behind a comma, or at the sign of the limit -/
def itemAt (c : UInt8) (pos : Nat) : S53 := ⟨if c = 37 then (pos : Int) else (pos : Int) + 1, 0, 0, 0, decide (c = 37)⟩
def econs (x : S53) : Except Nat (List S53) → Except Nat (List S53)
  | .error e => .error e
  | .ok l => .ok (x :: l)
/-- the items of a text's rest, or where it is wrong: x is being read, its part p has had d digits, of the value n -/
def scan : List UInt8 → Nat → S53 → Nat → Nat → Nat → Except Nat (List S53)
  | [], pos, x, p, d, n => if d = 0 then .error pos else .ok [numN x p n]
  | c :: r, pos, x, p, d, n =>
    if isD c = true then (if d = 4 ∨ (0 < d ∧ n = 0) then .error pos else scan r (pos + 1) x p (d + 1) (10 * n + (c.toNat - 48)))
    else if d = 0 then .error pos
    else if c = 45 ∧ p = 0 ∧ x.f4 = false then scan r (pos + 1) (numN x p n) 1 0 0
    else if c = 58 ∧ p = 1 then scan r (pos + 1) (numN x p n) 2 0 0
    else if (c = 44 ∨ c = 37) ∧ x.f4 = false then econs (numN x p n) (scan r (pos + 1) (itemAt c pos) 0 0 0)
    else .error pos
def told (l : List S53) : Except Nat (List S53) → Option (List Int × Int × Int × Int)
  | .error e => some ([], 0, (e : Int), 60)
  | .ok is => sayF (l ++ is) (fun _ => false) 0
theorem told_econs (l : List S53) (x : S53) (e : Except Nat (List S53)) : told l (econs x e) = told (l ++ [x]) e := by
  cases e with
  | error e => rfl
  | ok is => simp [told, econs]
theorem get_mk (l : List UInt8) (i : Nat) (h : i < (mk l).size) : (mk l)[i]'h = l[i]'(by rwa [mk_size] at h) := rfl
theorem get_mid (pre : List UInt8) (c : UInt8) (r : List UInt8) (h : pre.length < (mk (pre ++ c :: r)).size) : (mk (pre ++ c :: r))[pre.length]'h = c := by
  rw [get_mk]; simp
theorem toNat_eq {c : UInt8} {n : Nat} (hn : n < 256) : (((c.toNat : Nat) : Int) = (n : Int)) ↔ c = UInt8.ofNat n := by
  constructor
  · intro h
    have : c.toNat = n := by omega
    rw [← this]; simp
  · intro h; subst h; simp [UInt8.toNat_ofNat]; omega
theorem c45 {c : UInt8} : (((c.toNat : Nat) : Int) = 45) ↔ c = 45 := toNat_eq (n := 45) (by decide)
theorem c58 {c : UInt8} : (((c.toNat : Nat) : Int) = 58) ↔ c = 58 := toNat_eq (n := 58) (by decide)
theorem c44 {c : UInt8} : (((c.toNat : Nat) : Int) = 44) ↔ c = 44 := toNat_eq (n := 44) (by decide)
theorem c37 {c : UInt8} : (((c.toNat : Nat) : Int) = 37) ↔ c = 37 := toNat_eq (n := 37) (by decide)
theorem isD_iff {c : UInt8} : isD c = true ↔ 48 ≤ c.toNat ∧ c.toNat ≤ 57 := by simp [isD]
theorem prs_scan : ∀ (r pre : List UInt8) (k : Nat) (l : List S53) (x : S53) (p d n : Nat), pre.length + r.length ≤ 100000 → r.length < k → l.length + r.length < 900000 → d ≤ 4 → n < 10 ^ d →
    prs k (mk (pre ++ r)) pre.length l x (p : Int) (d : Int) (n : Int) = told l (scan r pre.length x p d n)
  | [], pre, k + 1, l, x, p, d, n, h1, h2, h3, h4, h5 => by
    rw [prs, dif_neg (by rw [mk_size]; simp), scan]
    by_cases hd : d = 0
    · rw [if_pos (by omega), if_pos hd, mk_size]; simp [told]
    · rw [if_neg (by omega), if_neg hd, if_pos (by simp at h3; omega)]; rfl
  | c :: r, pre, k + 1, l, x, p, d, n, h1, h2, h3, h4, h5 => by
    rw [prs, dif_pos (by rw [mk_size]; simp), scan]
    simp only [get_mid]
    have ih := fun l x p d n h3 h4 h5 => prs_scan r (pre ++ [c]) k l x p d n (by simp at h1 ⊢; omega) (by simp at h2; omega) h3 h4 h5
    simp only [List.append_assoc, List.singleton_append, List.length_append, List.length_singleton] at ih
    simp only [List.length_cons] at h1 h2 h3
    by_cases hD : isD c = true
    · rw [if_pos (isD_iff.1 hD), if_pos hD]
      have hb := isD_iff.1 hD
      by_cases hs : d = 4 ∨ (0 < d ∧ n = 0)
      · rw [if_pos (by omega), if_pos hs]; rfl
      · rw [if_neg (by omega), if_neg hs]
        have hp : 10 ^ d ≤ 10 ^ 3 := Nat.pow_le_pow_right (by omega) (by omega)
        have e1 : wrap64 ((d : Int) + 1) = ((d + 1 : Nat) : Int) := by rw [w64 (by omega)]; omega
        have e2 : wrap64 (wrap64 (10 * (n : Int)) + (((c.toNat : Nat) : Int) - 48)) = ((10 * n + (c.toNat - 48) : Nat) : Int) := by
          rw [w64 (x := 10 * (n : Int)) (by omega), w64 (by omega)]; omega
        rw [e1, e2]
        refine ih l x p (d + 1) (10 * n + (c.toNat - 48)) (by omega) (by omega) ?_
        rw [Nat.pow_succ]; omega
    · rw [if_neg (fun h => hD (isD_iff.2 h)), if_neg hD]
      have z0 : ((0 : Nat) : Int) = 0 := rfl
      by_cases h128 : 128 ≤ c.toNat
      · rw [if_pos h128]
        have q1 : ¬ c = 45 := fun h => by subst h; exact absurd h128 (by decide)
        have q2 : ¬ c = 58 := fun h => by subst h; exact absurd h128 (by decide)
        have q3 : ¬ c = 44 := fun h => by subst h; exact absurd h128 (by decide)
        have q4 : ¬ c = 37 := fun h => by subst h; exact absurd h128 (by decide)
        simp only [q1, q2, q3, q4, false_and, or_self, if_false]
        split <;> rfl
      · rw [if_neg h128]
        unfold signF
        by_cases hd : d = 0
        · rw [if_pos (by omega), if_pos hd]; rfl
        · rw [if_neg (by omega), if_neg hd]
          have hp0 : ((p : Int) = 0) ↔ p = 0 := by omega
          have hp1 : ((p : Int) = 1) ↔ p = 1 := by omega
          simp only [c45, c58, c44, c37, hp0, hp1]
          by_cases g1 : c = 45 ∧ p = 0 ∧ x.f4 = false
          · rw [if_pos g1, if_pos g1]
            exact ih l (numN x p n) 1 0 0 (by omega) (by omega) (by omega)
          · rw [if_neg g1, if_neg g1]
            by_cases g2 : c = 58 ∧ p = 1
            · rw [if_pos g2, if_pos g2]
              exact ih l (numN x p n) 2 0 0 (by omega) (by omega) (by omega)
            · rw [if_neg g2, if_neg g2]
              by_cases g3 : (c = 44 ∨ c = 37) ∧ x.f4 = false
              · rw [if_pos g3, if_pos g3, if_pos (by omega), told_econs]
                have e : (⟨if c = 37 then (pre.length : Int) else wrap64 ((pre.length : Int) + 1), 0, 0, 0, decide (c = 37)⟩ : S53) = itemAt c pre.length := by
                  rw [w64 (by omega)]; rfl
                rw [e]
                exact ih (l ++ [numN x p n]) (itemAt c pre.length) 0 0 0 (by simp; omega) (by omega) (by omega)
              · rw [if_neg g3, if_neg g3]; rfl
def x0 : S53 := ⟨0, 0, 0, 0, false⟩
theorem parse_scan (l : List UInt8) (hl : l.length ≤ 100000) : indexes_Parse.f (mk l) = told [] (scan l 0 x0 0 0 0) := by
  have := prs_scan l [] ((mk l).size + 1) [] x0 0 0 0 (by simpa using hl) (by rw [mk_size]; omega) (by simp; omega) (by omega) (by omega)
  unfold indexes_Parse.f
  simpa [x0] using this
end Go.Proofs.YtpkococfmohmiaaDoor.Idx
