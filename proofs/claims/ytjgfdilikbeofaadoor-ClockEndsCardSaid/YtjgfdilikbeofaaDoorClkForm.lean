/- Texts of time limits put together out of digits: what each form says. -/
import Derived.Test.YtjgfdilikbeofaaDoorClkPrint
import Derived.Test.YtjgfdilikbeofaaDoorP0
import Derived.Test.YtjgfdilikbeofaaDoorP2
import Derived.Test.YtjgfdilikbeofaaDoorP4
namespace Go.Proofs.YtjgfdilikbeofaaDoor.Clk
open Go.RowKit Go.Proofs.YtjgfdilikbeofaaDoorW.PrintWords Go.Proofs.YtjgfdilikbeofaaDoorW.PrintLast Go.Proofs.YtjgfdilikbeofaaDoorW.PrintMore Go.Proofs.YtjgfdilikbeofaaDoor.P
set_option linter.unusedVariables false
set_option linter.unusedSimpArgs false
theorem ev_pos {α : Type} {c : Prop} [Decidable c] {f g : Nat → Option α} {r : α} (hc : c) (h : Ev f r) : Ev (fun k => if c then f k else g k) r := by simpa only [if_pos hc] using h
theorem ev_neg {α : Type} {c : Prop} [Decidable c] {f g : Nat → Option α} {r : α} (hc : ¬ c) (h : Ev g r) : Ev (fun k => if c then f k else g k) r := by simpa only [if_neg hc] using h
theorem ev_ite {α : Type} {c : Prop} [Decidable c] {f g : Nat → Option α} {r : α} (h1 : c → Ev f r) (h2 : ¬ c → Ev g r) : Ev (fun k => if c then f k else g k) r := by
  by_cases hc : c
  · exact ev_pos hc (h1 hc)
  · exact ev_neg hc (h2 hc)
theorem s58 : (⟨#[58]⟩ : ByteArray) = mk [58] := rfl
theorem s45 : (⟨#[45]⟩ : ByteArray) = mk [45] := rfl
theorem dn45 (n : Nat) : (45 : UInt8) ∉ dec n := nod (dec_all n) rfl
theorem dn58 (n : Nat) : (58 : UInt8) ∉ dec n := nod (dec_all n) rfl
theorem toks_dec (n : Nat) : toks (dec n) = ([dec n], []) := toks_end _ (dn45 n) (dn58 n)
theorem toks_d45 (n : Nat) (r : List UInt8) : toks (dec n ++ 45 :: r) = (dec n :: (toks r).1, 45 :: (toks r).2) := toks_cons r _ (dn45 n) (dn58 n) (Or.inl rfl)
theorem toks_d58 (n : Nat) (r : List UInt8) : toks (dec n ++ 58 :: r) = (dec n :: (toks r).1, 58 :: (toks r).2) := toks_cons r _ (dn45 n) (dn58 n) (Or.inr rfl)
def fv (d h m s : Int) (wrong : Bool) : Int × Int := rpAll d h m s wrong
theorem pf_m (m : Nat) (hm : m ≤ 999999) : PT (toks (dec m)).1 (toks (dec m)).2 = rpAll 0 0 m 0 false := by
  rw [toks_dec]
  unfold PT
  simp only [nums, num_dec hm, Option.map_some]
  rw [if_neg (by simp)]; rfl
theorem pf_ms (m s : Nat) (hm : m ≤ 999999) (hs : s ≤ 999999) (l : List UInt8) (hl : l = dec m ++ 58 :: dec s) : PT (toks l).1 (toks l).2 = rpAll 0 0 m s false := by
  rw [hl, toks_d58, toks_dec]
  unfold PT
  simp only [nums, num_dec hm, num_dec hs, Option.map_some]
  rw [if_neg (by simp)]; rfl
theorem pf_hms (h m s : Nat) (hh : h ≤ 999999) (hm : m ≤ 999999) (hs : s ≤ 999999) (l : List UInt8) (hl : l = dec h ++ 58 :: (dec m ++ 58 :: dec s)) : PT (toks l).1 (toks l).2 = rpAll 0 h m s (decide ((m : Int) > 59)) := by
  rw [hl, toks_d58, toks_d58, toks_dec]
  unfold PT
  simp only [nums, num_dec hh, num_dec hm, num_dec hs, Option.map_some]
  rw [if_neg (by simp)]; rfl
theorem pf_dh (d h : Nat) (hd : d ≤ 999999) (hh : h ≤ 999999) (l : List UInt8) (hl : l = dec d ++ 45 :: dec h) : PT (toks l).1 (toks l).2 = rpAll d h 0 0 (decide ((0 : Int) > 59) || decide ((h : Int) > 23)) := by
  rw [hl, toks_d45, toks_dec]
  unfold PT
  simp only [nums, num_dec hd, num_dec hh, Option.map_some]
  rw [if_neg (by simp)]; rfl
theorem pf_dhm (d h m : Nat) (hd : d ≤ 999999) (hh : h ≤ 999999) (hm : m ≤ 999999) (l : List UInt8) (hl : l = dec d ++ 45 :: (dec h ++ 58 :: dec m)) : PT (toks l).1 (toks l).2 = rpAll d h m 0 (decide ((m : Int) > 59) || decide ((h : Int) > 23)) := by
  rw [hl, toks_d45, toks_d58, toks_dec]
  unfold PT
  simp only [nums, num_dec hd, num_dec hh, num_dec hm, Option.map_some]
  rw [if_neg (by simp)]; rfl
theorem pf_dhms (d h m s : Nat) (hd : d ≤ 999999) (hh : h ≤ 999999) (hm : m ≤ 999999) (hs : s ≤ 999999) (l : List UInt8) (hl : l = dec d ++ 45 :: (dec h ++ 58 :: (dec m ++ 58 :: dec s))) : PT (toks l).1 (toks l).2 = rpAll d h m s (decide ((m : Int) > 59) || decide ((h : Int) > 23)) := by
  rw [hl, toks_d45, toks_d58, toks_d58, toks_dec]
  unfold PT
  simp only [nums, num_dec hd, num_dec hh, num_dec hm, num_dec hs, Option.map_some]
  rw [if_neg (by simp)]; rfl
/-- a right text's value -/
theorem rpv (d h m s : Int) (wrong : Bool) (n : Int) (hw : wrong = false) (hs : s ≤ 59) (hn : n = ((d * 24 + h) * 60 + m) * 60 + s) (h0 : 0 ≤ n) (h1 : n ≤ 1073741824) : rpAll d h m s wrong = if n = 0 then (0, 2) else (n, 0) := by
  rw [rpa d h m s wrong n hn False (by rw [hw]; simp; omega) h0, if_neg (fun h => h)]
  by_cases hz : n = 0
  · rw [if_pos hz, if_pos (by omega)]
  · rw [if_neg hz, if_neg (by omega)]
/-- a part that is too great -/
theorem rpw (d h m s : Int) (wrong : Bool) (hw : wrong = true ∨ s > 59) : rpAll d h m s wrong = (0, 2) := by
  unfold rpAll
  rw [if_pos (hw.elim Or.inl fun e => Or.inr (Or.inl e))]
theorem parse_is (l : List UInt8) (hl : l.length ≤ 1000000) (r : Int × Int) (h : PT (toks l).1 (toks l).2 = r) : Ev (fun k => clock_Parse.f k (mk l)) r := h ▸ parse_eq l hl
theorem wfu16 {a : Int} (h : (Lit.int .u16 a).wf = true) : 0 ≤ a ∧ a ≤ 65535 := by
  simpa [Lit.wf, IntKind.min, IntKind.max, IntKind.signed, IntKind.bits] using h
theorem wtm (a m : Nat) (hm : m ≤ 65535) (h : a ≤ 65535) : wrap64 (Int.tmod (a : Int) (m : Int)) = ((a % m : Nat) : Int) := by
  rw [tmn]
  have := Nat.mod_le a m
  exact wn _ (by omega)
end Go.Proofs.YtjgfdilikbeofaaDoor.Clk
