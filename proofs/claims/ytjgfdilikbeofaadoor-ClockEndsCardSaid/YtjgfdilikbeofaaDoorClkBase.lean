/- Texts of time limits, plainly: numbers of one to six digits, a text's parts and the signs between them. -/
import Derived.Test.YtjgfdilikbeofaaDoorP0
import Derived.Test.YtjgfdilikbeofaaDoorP1
import Derived.Test.YtjgfdilikbeofaaDoorP4
namespace Go.Proofs.YtjgfdilikbeofaaDoor.Clk
open Go.RowKit Go.Proofs.YtjgfdilikbeofaaDoorW.PrintWords Go.Proofs.YtjgfdilikbeofaaDoorW.PrintLast Go.Proofs.YtjgfdilikbeofaaDoorW.PrintMore Go.Proofs.YtjgfdilikbeofaaDoor.P
set_option linter.unusedVariables false
set_option linter.unusedSimpArgs false
theorem wf64 {a : Int} (h : (Lit.int .i64 a).wf = true) : -9223372036854775808 ≤ a ∧ a ≤ 9223372036854775807 := by
  simpa [Lit.wf, IntKind.min, IntKind.max, IntKind.signed, IntKind.bits] using h
theorem w64 {x : Int} (h : -9223372036854775808 ≤ x ∧ x ≤ 9223372036854775807) : wrap64 x = x := by unfold wrap64; omega
theorem ev_at {α : Type} {g : Nat → Option α} {r : α} (n : Nat) (h : ∀ k, g (k + n) = some r) : Ev g r :=
  ⟨n, fun k hk => by obtain ⟨j, rfl⟩ : ∃ j, k = j + n := ⟨k - n, by omega⟩; exact h j⟩
def mk (l : List UInt8) : ByteArray := ⟨l.toArray⟩
theorem mk_data (l : List UInt8) : (mk l).data.toList = l := rfl
theorem mk_size (l : List UInt8) : (mk l).size = l.length := rfl
theorem mk_toList (l : List UInt8) : (mk l).toList = l := by rw [ByteArray.toList_eq]; rfl
theorem mk_self (a : ByteArray) : a = mk a.data.toList := by obtain ⟨⟨x⟩⟩ := a; rfl
theorem mk_append (a b : List UInt8) : mk a ++ mk b = mk (a ++ b) := by
  have h : (mk a ++ mk b).data.toList = (mk (a ++ b)).data.toList := by simp [mk]
  rw [mk_self (mk a ++ mk b), h]; rfl
theorem mk_extract (l : List UInt8) (a b : Nat) : (mk l).extract a b = mk ((l.drop a).take (b - a)) := by
  rw [mk_self ((mk l).extract a b), Lib.extract_data]; rfl
theorem bt_mk (l : List UInt8) (i : Nat) (h : i < l.length) : bt (mk l) (i : Int) = ((l[i]).toNat : Int) := by
  have : (i : Int).toNat < (mk l).size := by simpa [mk_size] using h
  rw [bt, dif_pos this]; rfl
/-! ### numbers -/
def isD (c : UInt8) : Bool := decide (48 ≤ c.toNat) && decide (c.toNat ≤ 57)
def val : List UInt8 → Nat → Nat
  | [], n => n
  | c :: r, n => val r (10 * n + (c.toNat - 48))
def num (l : List UInt8) : Option Nat := if l ≠ [] ∧ l.length ≤ 6 ∧ l.all isD = true then some (val l 0) else none
theorem val_lt : ∀ (l : List UInt8) (n m : Nat), l.all isD = true → n < m → val l n < m * 10 ^ l.length
  | [], n, m, _, h => by simpa [val] using h
  | c :: r, n, m, hd, h => by
    rw [List.all_cons, Bool.and_eq_true] at hd
    have hc : c.toNat - 48 < 10 := by simp [isD] at hd; omega
    have := val_lt r (10 * n + (c.toNat - 48)) (m * 10) hd.2 (by omega)
    rw [val, List.length_cons, Nat.pow_succ']
    rw [Nat.mul_assoc] at this
    exact this
theorem num_lt {l : List UInt8} {n : Nat} (h : num l = some n) : n ≤ 999999 := by
  unfold num at h
  split at h
  · rename_i hc
    obtain ⟨_, h6, hd⟩ := hc
    have := val_lt l 0 1 hd (by omega)
    have h2 : 10 ^ l.length ≤ 10 ^ 6 := Nat.pow_le_pow_right (by omega) h6
    have e := Option.some.inj h
    omega
  · cases h
/-- the number as the program counts -/
def valw : List UInt8 → Int → Int
  | [], n => n
  | c :: r, n => valw r (wrap64 (wrap64 (10 * n) + ((c.toNat : Int) - 48)))
theorem valw_eq : ∀ (l : List UInt8) (n : Nat), l.all isD = true → n < 10 ^ 6 → l.length ≤ 6 → valw l n = (val l n : Nat) := by
  have key : ∀ (l : List UInt8) (n j : Nat), l.all isD = true → n < 10 ^ j → j + l.length ≤ 18 → valw l n = (val l n : Nat) := by
    intro l
    induction l with
    | nil => intro n j _ _ _; rfl
    | cons c r ih =>
      intro n j hd hn hj
      rw [List.all_cons, Bool.and_eq_true] at hd
      have hc : 48 ≤ c.toNat ∧ c.toNat ≤ 57 := by simpa [isD] using hd.1
      have h17 : 10 ^ j ≤ 10 ^ 17 := Nat.pow_le_pow_right (by omega) (by simp at hj; omega)
      rw [valw, val, w64 (x := 10 * (n : Int)) (by omega), w64 (by omega)]
      rw [show 10 * (n : Int) + ((c.toNat : Int) - 48) = ((10 * n + (c.toNat - 48) : Nat) : Int) by omega]
      exact ih _ (j + 1) hd.2 (by rw [Nat.pow_succ]; omega) (by simp at hj; omega)
  intro l n hd hn hl
  exact key l n 6 hd hn (by omega)
theorem digs_eq (l : List UInt8) : ∀ (fuel i : Nat) (n : Int), i ≤ l.length → l.length < i + fuel → digs fuel (mk l) i n = if (l.drop i).all isD = true then some (valw (l.drop i) n) else none
  | 0, i, n, h1, h2 => by omega
  | fuel + 1, i, n, h1, h2 => by
    rw [digs]
    by_cases h : i < (mk l).size
    · have hl : i < l.length := h
      rw [dif_pos h, List.drop_eq_getElem_cons hl]
      have e : ((mk l)[i]'h) = l[i] := rfl
      rw [e, List.all_cons]
      by_cases hd : l[i].toNat < 48 ∨ 57 < l[i].toNat
      · rw [if_pos hd]
        have : isD l[i] = false := by simp [isD]; omega
        simp [this]
      · rw [if_neg hd, digs_eq l fuel (i + 1) _ (by omega) (by omega)]
        have : isD l[i] = true := by simp [isD]; omega
        rw [this, Bool.true_and]
        rfl
    · have hl : l.length = i := by have : ¬ i < l.length := h; omega
      rw [dif_neg h, List.drop_eq_nil_of_le (by omega)]
      rfl
theorem part_eq (l : List UInt8) : ∃ n : Int, ∃ b : Bool, clock_part.f (mk l) = some (n, b) ∧ (num l = none → b = false) ∧ ∀ m, num l = some m → n = (m : Int) ∧ b = true := by
  unfold clock_part.f
  rw [digs_eq l _ 0 0 (by omega) (by rw [mk_size]; omega), List.drop_zero]
  by_cases hd : l.all isD = true
  · rw [if_pos hd]
    refine ⟨_, _, rfl, ?_, ?_⟩
    · intro hn
      unfold num at hn
      split at hn
      · cases hn
      · rename_i hc
        rw [mk_toList, mk_size]
        by_cases h0 : l = []
        · subst h0; rfl
        · have : ¬ l.length ≤ 6 := fun h => hc ⟨h0, h, hd⟩
          simp; omega
    · intro m hm
      unfold num at hm
      split at hm
      · rename_i hc
        obtain rfl := Option.some.inj hm
        refine ⟨valw_eq l 0 hd (by omega) hc.2.1, ?_⟩
        rw [mk_toList, mk_size]
        have h0 : l.isEmpty = false := by simpa using hc.1
        simp [h0]; omega
      · cases hm
  · rw [if_neg hd]
    refine ⟨0, false, rfl, fun _ => rfl, fun m hm => ?_⟩
    unfold num at hm
    rw [if_neg (fun h => hd h.2.2)] at hm
    cases hm
theorem numl (l : List UInt8) : ∀ (fuel i : Nat) (n : Nat), i ≤ l.length → l.length < i + fuel → n < 10 ^ i → l.length ≤ 17 → gangerref07_number.l0 fuel (mk l) n i = some (if (l.drop i).all isD = true then (((val (l.drop i) n : Nat) : Int), true) else (0, false))
  | 0, i, n, h1, h2, _, _ => by omega
  | fuel + 1, i, n, h1, h2, hn, hj => by
    rw [gangerref07_number.l0]
    by_cases h : i < l.length
    · have hi : (i : Int) < ((mk l).size : Int) := by rw [mk_size]; omega
      rw [if_pos hi, if_pos (by omega), bt_mk l i h, List.drop_eq_getElem_cons h, List.all_cons]
      by_cases h8 : (l[i].toNat : Int) < 48
      · have : isD l[i] = false := by simp [isD]; omega
        rw [if_pos h8]; simp [this]
      · by_cases h7 : (l[i].toNat : Int) > 57
        · have : isD l[i] = false := by simp [isD]; omega
          rw [if_neg h8, if_pos h7]; simp [this]
        · have : isD l[i] = true := by simp [isD]; omega
          have hp : 10 ^ i ≤ 10 ^ 16 := Nat.pow_le_pow_right (by omega) (by omega)
          rw [if_neg h8, if_neg h7, w64 (x := (i : Int) + 1) (by omega), w64 (x := (n : Int) * 10) (by omega), w64 (x := ((l[i].toNat : Nat) : Int)) (by omega), w64 (x := (n : Int) * 10 + _) (by omega), w64 (by omega)]
          rw [show (n : Int) * 10 + (l[i].toNat : Int) - 48 = ((10 * n + (l[i].toNat - 48) : Nat) : Int) by omega, show (i : Int) + 1 = ((i + 1 : Nat) : Int) by omega]
          rw [numl l fuel (i + 1) _ (by omega) (by omega) (by rw [Nat.pow_succ]; omega) (by omega), this, Bool.true_and]
          rfl
    · have hi : ¬ (i : Int) < ((mk l).size : Int) := by rw [mk_size]; omega
      rw [if_neg hi, List.drop_eq_nil_of_le (by omega)]
      rfl
theorem number_eq (l : List UInt8) : Ev (fun k => gangerref07_number.f k (mk l)) (match num l with | some n => ((n : Int), true) | none => (0, false)) := by
  refine ev_at (l.length + 3) fun k => ?_
  rw [gangerref07_number.f, mk_size]
  by_cases h0 : (l.length : Int) < 1
  · have : l = [] := List.length_eq_zero_iff.1 (by omega)
    subst this
    rw [if_pos h0]; rfl
  · rw [if_neg h0]
    rw [show k + (l.length + 3) = (k + l.length + 2) + 1 by omega, gangerref07_number.j0]
    have hne : l ≠ [] := by intro e; subst e; simp at h0
    by_cases h6 : (l.length : Int) > 6
    · rw [if_pos (by simpa using h6)]
      have : num l = none := by unfold num; rw [if_neg (by intro h; omega)]
      rw [this]
    · rw [if_neg (by simpa using h6)]
      have := numl l (k + l.length + 2) 0 0 (by omega) (by omega) (by omega) (by omega)
      rw [show ((0 : Nat) : Int) = 0 from rfl] at this
      rw [this, List.drop_zero]
      unfold num
      by_cases hd : l.all isD = true
      · rw [if_pos hd, if_pos ⟨hne, by omega, hd⟩]
      · rw [if_neg hd, if_neg (fun h => hd h.2.2)]
end Go.Proofs.YtjgfdilikbeofaaDoor.Clk
