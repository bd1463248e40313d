/- What items say. -/
import Derived.Test.YtpkococfmohmiaaDoorIdxScan
import Derived.Test.YtpkococfmohmiaaDoorP0
import Derived.Test.YtpkococfmohmiaaDoorP1
import Derived.Test.YtpkococfmohmiaaDoorP2
namespace Go.Proofs.YtpkococfmohmiaaDoor.Idx
open Go.RowKit Go.Proofs.YtpkococfmohmiaaDoorW.PrintWords Go.Proofs.YtpkococfmohmiaaDoorW.PrintLast Go.Proofs.YtpkococfmohmiaaDoorW.PrintMore Go.Proofs.YtpkococfmohmiaaDoor.P
set_option linter.unusedVariables false
set_option linter.unusedSimpArgs false
/-- may an item not be? -/
def bad (x : S53) : Bool := if x.f4 = true then decide (x.f1 = 0) || decide (1000 < x.f1) else decide (1000 < x.f1) || decide (1000 < x.f2) || decide (x.f2 < x.f1) || decide (x.f3 = 0) || decide (1000 < x.f3)
def Fine (x : S53) : Prop := 0 ≤ x.f1 ∧ 0 ≤ x.f2 ∧ 0 ≤ x.f3
def inI (x : S53) (j : Nat) : Bool := decide (x.f1 ≤ (j : Int)) && decide ((j : Int) ≤ x.f2) && decide (((j : Int) - x.f1) % x.f3 = 0)
/-- the numbers that items say -/
def hit (l : List S53) (j : Nat) : Bool := l.any fun x => !x.f4 && inI x j
/-- the limit that items say -/
def lim : List S53 → Int → Int
  | [], m => m
  | x :: r, m => lim r (if x.f4 = true then x.f1 else m)
def listOf (p : Nat → Bool) : List Int := ((List.range 1001).filter p).map fun j : Nat => (j : Int)
def final (l : List S53) : List Int × Int × Int × Int :=
  match l.find? bad with
  | some x => ([], 0, x.f0, 2)
  | none => (listOf (hit l), lim l 0, 0, 0)
theorem wrong_eq (x : S53) : indexes_item_wrong.f x.f0 x.f1 x.f2 x.f3 x.f4 = some (bad x) := by
  unfold indexes_item_wrong.f bad
  repeat' split
  all_goals simp_all
  all_goals (intro h; omega)
theorem hit_snoc (a : List S53) (x : S53) (j : Nat) : hit (a ++ [x]) j = (hit a j || (!x.f4 && inI x j)) := by simp [hit]
theorem lim_append : ∀ (a b : List S53) (m : Int), lim (a ++ b) m = lim b (lim a m)
  | [], b, m => rfl
  | x :: a, b, m => by rw [List.cons_append, lim, lim_append a b]; rfl
theorem listOf_congr {p q : Nat → Bool} (h : ∀ j, j < 1001 → p j = q j) : listOf p = listOf q := by
  unfold listOf
  rw [List.filter_congr (fun j hj => h j (List.mem_range.1 hj))]
theorem sayF_eq : ∀ (l a : List S53) (p : Nat → Bool) (m : Int), (∀ x ∈ l, Fine x) → (∀ x ∈ a, bad x = false) → (∀ j, p j = hit a j) → m = lim a 0 → sayF l p m = some (final (a ++ l))
  | [], a, p, m, hl, ha, hp, hm => by
    have hf : (a ++ []).find? bad = none := by
      rw [List.append_nil, List.find?_eq_none]
      intro x hx; rw [ha x hx]; simp
    rw [sayF, final, hf, List.append_nil, hm]
    have : p = hit a := funext hp
    rw [this]; rfl
  | x :: r, a, p, m, hl, ha, hp, hm => by
    rw [sayF, wrong_eq, Option.bind_some]
    by_cases hb : bad x = true
    · rw [if_pos hb]
      have hf : (a ++ x :: r).find? bad = some x := by
        rw [List.find?_append, List.find?_eq_none.2 (fun y hy => by rw [ha y hy]; simp), List.find?_cons_of_pos hb]; rfl
      rw [final, hf]
    · rw [if_neg hb]
      have hb' : bad x = false := by simpa using hb
      have ha' : ∀ y ∈ a ++ [x], bad y = false := by
        intro y hy
        rcases List.mem_append.1 hy with h | h
        · exact ha y h
        · rw [List.mem_singleton.1 h]; exact hb'
      have e : a ++ x :: r = (a ++ [x]) ++ r := by simp
      by_cases h4 : x.f4 = true
      · rw [if_pos h4, e]
        refine sayF_eq r (a ++ [x]) p x.f1 (fun y hy => hl y (List.mem_cons_of_mem _ hy)) ha' (fun j => ?_) ?_
        · rw [hit_snoc, hp, h4]; simp
        · rw [lim_append]; simp [lim, h4]
      · have h4' : x.f4 = false := by simpa using h4
        have hF := hl x (List.mem_cons_self ..)
        unfold Fine at hF
        unfold bad at hb'
        rw [if_neg h4] at hb'
        simp only [Bool.or_eq_false_iff, decide_eq_false_iff_not] at hb'
        rw [if_neg h4, if_pos (by omega), e]
        refine sayF_eq r (a ++ [x]) _ m (fun y hy => hl y (List.mem_cons_of_mem _ hy)) ha' (fun j => ?_) ?_
        · rw [hit_snoc, runP, hp, h4', inI]; simp
        · rw [lim_append]; simp [lim, h4', hm]
theorem numN_fine {x : S53} (h : Fine x) (p n : Nat) : Fine (numN x p n) := by
  unfold numN Fine at *
  split
  · simp
  · split
    · simp; omega
    · simp; omega
theorem scan_fine : ∀ (r : List UInt8) (pos : Nat) (x : S53) (p d n : Nat) (l : List S53), Fine x → scan r pos x p d n = .ok l → ∀ y ∈ l, Fine y
  | [], pos, x, p, d, n, l, hx, h => by
    rw [scan] at h
    split at h
    · cases h
    · cases h
      intro y hy
      rw [List.mem_singleton.1 hy]; exact numN_fine hx p n
  | c :: r, pos, x, p, d, n, l, hx, h => by
    rw [scan] at h
    split at h
    · split at h
      · cases h
      · exact scan_fine r _ _ _ _ _ l hx h
    · split at h
      · cases h
      · split at h
        · exact scan_fine r _ _ _ _ _ l (numN_fine hx p n) h
        · split at h
          · exact scan_fine r _ _ _ _ _ l (numN_fine hx p n) h
          · split at h
            · cases e : scan r (pos + 1) (itemAt c pos) 0 0 0 with
              | error q => rw [e] at h; cases h
              | ok l' =>
                rw [e] at h
                cases h
                intro y hy
                rcases List.mem_cons.1 hy with q | q
                · rw [q]; exact numN_fine hx p n
                · exact scan_fine r _ _ _ _ _ l' (by simp [itemAt, Fine]) e y q
            · cases h
/-- the end of an item: nothing, a comma, or the limit's sign -/
def fin : List UInt8 → Nat → S53 → Except Nat (List S53)
  | [], pos, y => .ok [y]
  | c :: r, pos, y => if c = 44 ∨ c = 37 then econs y (scan r (pos + 1) (itemAt c pos) 0 0 0) else .error pos
/-- what a text says, behind items that are said already -/
def say (a : List S53) : Except Nat (List S53) → List Int × Int × Int × Int
  | .error e => ([], 0, (e : Int), 60)
  | .ok l => final (a ++ l)
theorem say_econs (a : List S53) (x : S53) (e : Except Nat (List S53)) : say a (econs x e) = say (a ++ [x]) e := by
  cases e with
  | error e => rfl
  | ok is => simp [say, econs]
/-- what a text says -/
def PR (s : List UInt8) : List Int × Int × Int × Int := say [] (scan s 0 x0 0 0 0)
theorem parse_PR (l : List UInt8) (hl : l.length ≤ 100000) : indexes_Parse.f (mk l) = some (PR l) := by
  rw [parse_scan l hl]
  unfold PR
  cases e : scan l 0 x0 0 0 0 with
  | error q => rfl
  | ok is =>
    have hF := scan_fine l 0 x0 0 0 0 is (by simp [x0, Fine]) e
    exact sayF_eq is [] _ 0 hF (by simp) (fun j => by simp [hit]) rfl
end Go.Proofs.YtpkococfmohmiaaDoor.Idx
