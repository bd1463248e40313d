/- Texts of time limits: a text's parts and signs, as the document's answer has them; a text cut, split, counted at one sign. -/
import Derived.Test.YtjgfdilikbeofaaDoorClkBase
import Derived.Test.YtjgfdilikbeofaaDoorP0
import Derived.Test.YtjgfdilikbeofaaDoorP3
import Derived.Test.YtjgfdilikbeofaaDoorP4
namespace Go.Proofs.YtjgfdilikbeofaaDoor.Clk
open Go.RowKit Go.Proofs.YtjgfdilikbeofaaDoorW.PrintWords Go.Proofs.YtjgfdilikbeofaaDoorW.PrintLast Go.Proofs.YtjgfdilikbeofaaDoorW.PrintMore Go.Proofs.YtjgfdilikbeofaaDoor.P
set_option linter.unusedVariables false
set_option linter.unusedSimpArgs false
def hdc (c : UInt8) : List (List UInt8) → List (List UInt8)
  | [] => [[c]]
  | p :: q => (c :: p) :: q
def toks : List UInt8 → List (List UInt8) × List UInt8
  | [] => ([[]], [])
  | c :: r => if c = 45 ∨ c = 58 then ([] :: (toks r).1, c :: (toks r).2) else (hdc c (toks r).1, (toks r).2)
def prep (c : List UInt8) : List (List UInt8) → List (List UInt8)
  | [] => [c]
  | p :: q => (c ++ p) :: q
theorem toks_ne : ∀ l : List UInt8, ∃ p q, (toks l).1 = p :: q
  | [] => ⟨_, _, rfl⟩
  | c :: r => by
    rw [toks]
    split
    · exact ⟨_, _, rfl⟩
    · cases (toks r).1 with
      | nil => exact ⟨_, _, rfl⟩
      | cons p q => exact ⟨_, _, rfl⟩
theorem prep_hdc (c : List UInt8) (x : UInt8) (t : List (List UInt8)) : prep c (hdc x t) = prep (c ++ [x]) t := by
  cases t <;> simp [prep, hdc]
def nums : List (List UInt8) → Option (List Int)
  | [] => some []
  | p :: r => match num p with
    | none => none
    | some n => (nums r).map fun l => (n : Int) :: l
def PT (ps : List (List UInt8)) (ss : List UInt8) : Int × Int :=
  if ps.length > 4 then (0, 60) else match nums ps with
    | none => (0, 60)
    | some l => rpFin (l.getD 0 0) (l.getD 1 0) (l.getD 2 0) (l.getD 3 0) (mk ss)
/-! ### the document's answer -/
theorem cutl (l : List UInt8) (hl : l.length ≤ 1000000) : ∀ (fuel i f : Nat) (out : List ByteArray) (sg : List UInt8), f ≤ i → i ≤ l.length → l.length < i + fuel → out.length ≤ i → sg.length ≤ i →
    gangerref07_cut.l0 fuel (mk l) out (mk sg) f i = some (out ++ (prep ((l.drop f).take (i - f)) (toks (l.drop i)).1).map mk, mk (sg ++ (toks (l.drop i)).2))
  | 0, i, f, out, sg, _, _, _, _, _ => by omega
  | fuel + 1, i, f, out, sg, hf, hi, hk, ho, hs => by
    rw [gangerref07_cut.l0]
    by_cases h : i < l.length
    · have hi' : (i : Int) < ((mk l).size : Int) := by rw [mk_size]; omega
      have hx : (mk l).extract (i : Int).toNat ((i : Int) + 1).toNat = mk [l[i]] := by
        rw [mk_extract, show ((i : Int) + 1).toNat - (i : Int).toNat = 1 by omega, show (i : Int).toNat = i by omega, List.drop_eq_getElem_cons h]; rfl
      have hy : (mk l).extract (f : Int).toNat (i : Int).toNat = mk ((l.drop f).take (i - f)) := by rw [mk_extract]; rfl
      rw [if_pos hi', if_pos (by omega), bt_mk l i h]
      rw [w64 (x := (i : Int) + 1) (by omega)]
      have hd : (toks (l.drop i)) = if l[i] = 45 ∨ l[i] = 58 then ([] :: (toks (l.drop (i + 1))).1, l[i] :: (toks (l.drop (i + 1))).2) else (hdc l[i] (toks (l.drop (i + 1))).1, (toks (l.drop (i + 1))).2) := by
        rw [List.drop_eq_getElem_cons h, toks]
      have e45 : ((l[i].toNat : Nat) : Int) = 45 ↔ l[i] = 45 := by
        constructor
        · intro e; apply UInt8.toNat_inj.mp; have : l[i].toNat = 45 := by omega
          exact this
        · intro e; rw [e]; rfl
      have e58 : ((l[i].toNat : Nat) : Int) = 58 ↔ l[i] = 58 := by
        constructor
        · intro e; apply UInt8.toNat_inj.mp; have : l[i].toNat = 58 := by omega
          exact this
        · intro e; rw [e]; rfl
      have hstep : ∀ ch, l[i] = ch → (ch = 45 ∨ ch = 58) → gangerref07_cut.l0 fuel (mk l) (out ++ [mk ((l.drop f).take (i - f))]) (mk sg ++ mk [l[i]]) ((i : Int) + 1) ((i : Int) + 1) = some (out ++ (prep ((l.drop f).take (i - f)) (toks (l.drop i)).1).map mk, mk (sg ++ (toks (l.drop i)).2)) := by
        intro ch hc hcc
        rw [mk_append, show (i : Int) + 1 = ((i + 1 : Nat) : Int) by omega]
        rw [cutl l hl fuel (i + 1) (i + 1) _ (sg ++ [l[i]]) (Nat.le_refl _) (by omega) (by omega) (by simp; omega) (by simp; omega)]
        rw [hd, if_pos (by rw [hc]; exact hcc)]
        obtain ⟨p, q, hpq⟩ := toks_ne (l.drop (i + 1))
        simp [prep, List.append_assoc, hpq]
      by_cases h45 : l[i] = 45
      · rw [if_pos (e45.mpr h45), if_pos (by omega), if_pos (by omega), if_pos (by rw [mk_size]; omega), if_pos (by omega), if_pos (by omega), if_pos (by rw [mk_size]; omega), if_pos (by rw [hx, mk_size, mk_size]; simp; omega), hx, hy]
        exact hstep _ rfl (Or.inl h45)
      · rw [if_neg (fun e => h45 (e45.mp e))]
        by_cases h58 : l[i] = 58
        · rw [if_pos (e58.mpr h58), if_pos (by omega), if_pos (by omega), if_pos (by rw [mk_size]; omega), if_pos (by omega), if_pos (by omega), if_pos (by rw [mk_size]; omega), if_pos (by rw [hx, mk_size, mk_size]; simp; omega), hx, hy]
          exact hstep _ rfl (Or.inr h58)
        · rw [if_neg (fun e => h58 (e58.mp e)), show (i : Int) + 1 = ((i + 1 : Nat) : Int) by omega]
          rw [cutl l hl fuel (i + 1) f out sg (by omega) (by omega) (by omega) (by omega) (by omega), hd, if_neg (by simp [h45, h58])]
          simp only
          rw [prep_hdc]
          have : (l.drop f).take (i + 1 - f) = (l.drop f).take (i - f) ++ [l[i]] := by
            rw [show i + 1 - f = (i - f) + 1 by omega, List.take_add_one]
            congr 1
            rw [List.getElem?_drop, show f + (i - f) = i by omega, List.getElem?_eq_getElem h]; rfl
          rw [this]
    · have hi' : ¬ (i : Int) < ((mk l).size : Int) := by rw [mk_size]; omega
      have hil : i = l.length := by omega
      rw [if_neg hi', if_pos (by omega), if_pos (by rw [mk_size]; omega), if_pos (by omega)]
      have hdr : l.drop i = [] := List.drop_eq_nil_of_le (by omega)
      rw [hdr, toks, mk_extract, mk_size]
      simp [prep, hil]
theorem cut_eq (l : List UInt8) (hl : l.length ≤ 1000000) : Ev (fun k => gangerref07_cut.f k (mk l)) ((toks l).1.map mk, mk (toks l).2) := by
  refine ev_at (l.length + 1) fun k => ?_
  have := cutl l hl (k + (l.length + 1)) 0 0 [] [] (by omega) (by omega) (by omega) (by simp) (by simp)
  rw [gangerref07_cut.f]
  refine this.trans ?_
  simp only [List.nil_append, List.drop_zero, Nat.sub_zero, List.take_zero]
  have : prep [] (toks l).1 = (toks l).1 := by
    cases l with
    | nil => rfl
    | cons c r =>
      rw [toks]
      split
      · rfl
      · cases h : (toks r).1 <;> simp [hdc, prep]
  rw [this]
theorem rpNums_eq : ∀ ps : List (List UInt8), Ev (fun k => rpNums k (ps.map mk)) (nums ps)
  | [] => Ev.now _
  | p :: r => by
    simp only [List.map_cons, rpNums]
    refine Ev.bind (number_eq p) ?_
    unfold nums
    cases h : num p with
    | none => exact Ev.now _
    | some n =>
      have hn := num_lt h
      have h0 : (0 : Int) ≤ (n : Int) := by omega
      have h9 : (n : Int) ≤ 999999 := by omega
      simp only [if_true, if_pos h0, if_pos h9]
      exact Ev.bind (rpNums_eq r) (Ev.now _)
theorem refParse_eq (l : List UInt8) (hl : l.length ≤ 1000000) : Ev (fun k => gangerref07_Parse.f k (mk l)) (PT (toks l).1 (toks l).2) := by
  unfold gangerref07_Parse.f
  refine Ev.bind (cut_eq l hl) ?_
  unfold PT
  simp only [List.length_map]
  by_cases h : (toks l).1.length > 4
  · rw [if_pos h]; simp only [if_pos h]; exact Ev.now _
  · rw [if_neg h]; simp only [if_neg h]
    refine Ev.bind (rpNums_eq _) ?_
    cases nums (toks l).1 with
    | none => exact Ev.now _
    | some l => exact Ev.now _
end Go.Proofs.YtjgfdilikbeofaaDoor.Clk
