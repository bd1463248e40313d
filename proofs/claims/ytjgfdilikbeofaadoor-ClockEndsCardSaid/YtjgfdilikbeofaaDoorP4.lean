/- The machine's side of the laws of this seat: each function's plain form and its contract, written by a program of this session out of Lean's print of the loaded functions; no condition beyond what each statement says. -/
import Derived.Test.YtjgfdilikbeofaaDoorP0
import Derived.Test.YtjgfdilikbeofaaDoorP2
import Derived.Test.YtjgfdilikbeofaaDoorP3
namespace Go.Proofs.YtjgfdilikbeofaaDoor.P
open Go.RowKit Go.Proofs.YtjgfdilikbeofaaDoorW.PrintWords Go.Proofs.YtjgfdilikbeofaaDoorW.PrintLast Go.Proofs.YtjgfdilikbeofaaDoorW.PrintMore
attribute [local go_sem] max2_int min2_int max_two min_two max_three min_three max_four min_four   -- for this text's walks alone
set_option linter.unusedVariables false
set_option linter.unusedSimpArgs false

attribute [local go_sem] isSome_setCell
/-! ### gangerref07_number: function 23 -/
mutual
def gangerref07_number.j0 : Nat → ByteArray → Int → Bool → Option (Int × Bool)
  | 0, _, _, _ => none
  | k + 1, x0, x4, x13 => if x13 = true then (some (0, false)) else (gangerref07_number.l0 k x0 x4 0)
def gangerref07_number.l0 : Nat → ByteArray → Int → Int → Option (Int × Bool)
  | 0, _, _, _ => none
  | k + 1, x0, x4, x5 => if x5 < (x0.size : Int) then (if 0 ≤ x5 then (if (bt x0 x5) < 48 then (some (0, false)) else (if (bt x0 x5) > 57 then (some (0, false)) else (gangerref07_number.l0 k x0 (wrap64 ((wrap64 ((wrap64 (x4 * 10)) + (wrap64 (bt x0 x5)))) - 48)) (wrap64 (x5 + 1))))) else (none)) else (some (x4, true))
end
def gangerref07_number.f (k : Nat) (a0 : ByteArray) : Option (Int × Bool) := if (a0.size : Int) < 1 then (gangerref07_number.j0 k a0 0 true) else (gangerref07_number.j0 k a0 0 (decide ((a0.size : Int) > 6)))
theorem gangerref07_number.mono_l : ∀ k, (∀ y0 y1 y2, LeO (gangerref07_number.j0 k y0 y1 y2) (gangerref07_number.j0 (k + 1) y0 y1 y2)) ∧ (∀ y0 y1 y2, LeO (gangerref07_number.l0 k y0 y1 y2) (gangerref07_number.l0 (k + 1) y0 y1 y2))
  | 0 => ⟨fun _ _ _ r h => by simp [gangerref07_number.j0] at h, fun _ _ _ r h => by simp [gangerref07_number.l0] at h⟩
  | k + 1 => by
    obtain ⟨ih0, ih1⟩ := gangerref07_number.mono_l k
    refine ⟨?_, ?_⟩
    · intro y0 y1 y2
      unfold gangerref07_number.j0
      repeat' first
      | (with_reducible exact ih0 _ _ _)
      | (with_reducible exact ih1 _ _ _)
      | (with_reducible exact LeO.refl _)
      | (with_reducible exact LeO.none _)
      | (with_reducible refine LeO.ite ?_ ?_)
      | (with_reducible refine LeO.bind ?_ (fun _ => ?_))
      | exact ih0 _ _ _
      | exact ih1 _ _ _
      | exact LeO.none _
      | refine LeO.ite ?_ ?_
      | refine LeO.bind ?_ (fun _ => ?_)
    · intro y0 y1 y2
      unfold gangerref07_number.l0
      repeat' first
      | (with_reducible exact ih0 _ _ _)
      | (with_reducible exact ih1 _ _ _)
      | (with_reducible exact LeO.refl _)
      | (with_reducible exact LeO.none _)
      | (with_reducible refine LeO.ite ?_ ?_)
      | (with_reducible refine LeO.bind ?_ (fun _ => ?_))
      | exact ih0 _ _ _
      | exact ih1 _ _ _
      | exact LeO.none _
      | refine LeO.ite ?_ ?_
      | refine LeO.bind ?_ (fun _ => ?_)
theorem gangerref07_number.mono : ∀ a0 k, LeO (gangerref07_number.f k a0) (gangerref07_number.f (k + 1) a0) := by
  intro a0 k
  obtain ⟨ih0, ih1⟩ := gangerref07_number.mono_l k
  unfold gangerref07_number.f
  repeat' first
      | (with_reducible exact ih0 _ _ _)
      | (with_reducible exact ih1 _ _ _)
      | (with_reducible exact LeO.refl _)
      | (with_reducible exact LeO.none _)
      | (with_reducible refine LeO.ite ?_ ?_)
      | (with_reducible refine LeO.bind ?_ (fun _ => ?_))
      | exact ih0 _ _ _
      | exact ih1 _ _ _
      | exact LeO.none _
      | refine LeO.ite ?_ ?_
      | refine LeO.bind ?_ (fun _ => ?_)
set_option maxHeartbeats 8000000 in
set_option maxRecDepth 100000 in
theorem gangerref07_number.calls (k : Nat) (a0 : ByteArray) (r1 : Int) (r2 : Bool) (w : World) (h : gangerref07_number.f k a0 = some (r1, r2)) :
    Calls Tryd.prog 23 #[.string a0] w fun e w' => e = .returned (.tuple #[.int .i64 r1, .bool r2]) ∧ Drawn0 w w' := by
  have H : (if (a0.size : Int) < 1 then (gangerref07_number.j0 k a0 0 true) else (gangerref07_number.j0 k a0 0 (decide ((a0.size : Int) > 6)))) = some (r1, r2) := h
  clear h
  have HC2 := Aside0.mk H
  clear H
  go_enter Tryd.func23, Tryd.ntmps23
  go_upto_region 2 with (fail)
  go_cut [13] (fun v13 wc => ∃ (kq : Nat) (x13_1 : Bool), v13 = .bool x13_1 ∧ Aside0 (gangerref07_number.j0 kq a0 0 x13_1 = some (r1, r2)) ∧ Aside0 (kq ≤ k) ∧ Drawn0 w wc)
  case first =>
    have H := HC2.out
    clear HC2
    by_cases c3 : (a0.size : Int) < 1
    · rw [if_pos c3] at H
      have c3b0 : decide ((a0.size : Int) < 1) = true := decide_eq_true c3
      have c3b1 : decide (a0.size < 1) = true := decide_eq_true (by omega)
      clear c3
      (first | rw [c3b0] | (simp only [i64_w, i32_w]; rw [c3b0]) | skip)
      have H' := Aside0.mk H
      clear H
      go_wp2
      go_meet
      case rel => exact ⟨_, (true), (by first | rfl | (simp; done) | (simp [*]; done)), H', ⟨by first | omega | exact Nat.le_refl _⟩, by repeat (first | exact Drawn0.refl _ | apply Drawn0.step)⟩
    · rw [if_neg c3] at H
      have c3b0 : decide ((a0.size : Int) < 1) = false := decide_eq_false c3
      have c3b1 : decide (a0.size < 1) = false := decide_eq_false (by omega)
      clear c3
      (first | rw [c3b0] | (simp only [i64_w, i32_w]; rw [c3b0]) | skip)
      have H' := Aside0.mk H
      clear H
      go_wp2
      go_meet
      case rel => exact ⟨_, (decide ((a0.size : Int) > 6)), (by first | rfl | (simp; done) | (simp [*]; done)), H', ⟨by first | omega | exact Nat.le_refl _⟩, by repeat (first | exact Drawn0.refl _ | apply Drawn0.step)⟩
  case rest =>
    clear HC2
    try clear c2
    try clear p2
    try clear c3
    try clear c3b0
    try clear c3b1
    obtain ⟨kq, x13_1, rfl, HA, HJ1, ⟨mc1, rfl⟩⟩ := hcut
    cases kq with
    | zero => exact absurd HA.out (by simp [gangerref07_number.j0])
    | succ kj1 =>
      have H := HA.out
      clear HA
      simp only [gangerref07_number.j0] at H
      by_cases c4 : x13_1 = true
      · subst c4
        have H1 : (some (0, false)) = some (r1, r2) := by rw [if_pos rfl] at H; exact H
        clear H
        have H := H1
        clear H1
        simp only [Option.some.injEq, Prod.mk.injEq] at H
        obtain ⟨rfl, rfl⟩ := H
        go_wp2
        go_ret2
        exact ⟨by first | rfl | (simp; done) | (simp [*]; done), by repeat (first | exact Drawn0.refl _ | apply Drawn0.step)⟩
      · replace c4 := Bool.eq_false_iff.mpr c4
        subst c4
        have H1 : (gangerref07_number.l0 kj1 a0 0 0) = some (r1, r2) := by rw [if_neg (show ¬ (false = true) by decide)] at H; exact H
        clear H
        have H := H1
        clear H1
        have H' := Aside0.mk H
        clear H
        go_wp2
        go_loopg [4, 5] kj1 (fun kq v4 v5 w' => ∃ (x4_2 : Int) (x5_2 : Int), v4 = .int .i64 x4_2 ∧ v5 = .int .i64 x5_2 ∧ Aside0 (gangerref07_number.l0 kq a0 x4_2 x5_2 = some (r1, r2)) ∧ Aside0 (kq ≤ kj1) ∧ Drawn0 w w')
        case atStart => exact ⟨(0), (0), (by first | rfl | (simp; done) | (simp [*]; done)), (by first | rfl | (simp; done) | (simp [*]; done)), H', ⟨Nat.le_refl _⟩, by repeat (first | exact Drawn0.refl _ | apply Drawn0.step)⟩
        case round =>
          clear H'
          try clear c1
          try clear c2
          try clear p2
          try clear c3
          try clear c3b0
          try clear c3b1
          try clear c4
          try clear p2
          obtain ⟨x4_2, x5_2, rfl, rfl, HA, HK2, ⟨m2, rfl⟩⟩ := hrel
          cases gk with
          | zero => exact absurd HA.out (by simp [gangerref07_number.l0])
          | succ k2 =>
            have H := HA.out
            clear HA
            simp only [gangerref07_number.l0] at H
            by_cases c5 : x5_2 < (a0.size : Int)
            · rw [if_pos c5] at H
              have c5b0 : decide (x5_2 < (a0.size : Int)) = true := decide_eq_true c5
              clear c5
              by_cases c6 : 0 ≤ x5_2
              · rw [if_pos c6] at H
                have c6b0 : decide (0 ≤ x5_2) = true := decide_eq_true c6
                clear c6
                by_cases c8 : (bt a0 x5_2) < 48
                · rw [if_pos c8] at H
                  have c8b0 : decide ((bt a0 x5_2) < 48) = true := decide_eq_true c8
                  clear c8
                  simp only [Option.some.injEq, Prod.mk.injEq] at H
                  obtain ⟨rfl, rfl⟩ := H
                  have p7 : 0 ≤ (x5_2 : Int) := of_decide_eq_true (by first | (with_reducible assumption) | assumption)
                  have q7 : x5_2 < (a0.size : Int) := of_decide_eq_true (by first | (with_reducible assumption) | assumption)
                  have hx7 := bt_at a0 x5_2
                  replace p7 := eq_true p7
                  replace q7 := eq_true q7
                  go_wp2
                  go_ret2
                  exact ⟨by first | rfl | (simp; done) | (simp [*]; done), by repeat (first | exact Drawn0.refl _ | apply Drawn0.step)⟩
                · rw [if_neg c8] at H
                  have c8b0 : decide ((bt a0 x5_2) < 48) = false := decide_eq_false c8
                  clear c8
                  by_cases c10 : (bt a0 x5_2) > 57
                  · rw [if_pos c10] at H
                    have c10b0 : decide (57 < (bt a0 x5_2)) = true := decide_eq_true c10
                    clear c10
                    simp only [Option.some.injEq, Prod.mk.injEq] at H
                    obtain ⟨rfl, rfl⟩ := H
                    have p7 : 0 ≤ (x5_2 : Int) := of_decide_eq_true (by first | (with_reducible assumption) | assumption)
                    have q7 : x5_2 < (a0.size : Int) := of_decide_eq_true (by first | (with_reducible assumption) | assumption)
                    have hx7 := bt_at a0 x5_2
                    replace p7 := eq_true p7
                    replace q7 := eq_true q7
                    have p9 : 0 ≤ (x5_2 : Int) := of_decide_eq_true (by first | (with_reducible assumption) | assumption)
                    have q9 : x5_2 < (a0.size : Int) := of_decide_eq_true (by first | (with_reducible assumption) | assumption)
                    have hx9 := bt_at a0 x5_2
                    replace p9 := eq_true p9
                    replace q9 := eq_true q9
                    go_wp2
                    go_ret2
                    exact ⟨by first | rfl | (simp; done) | (simp [*]; done), by repeat (first | exact Drawn0.refl _ | apply Drawn0.step)⟩
                  · rw [if_neg c10] at H
                    have c10b0 : decide (57 < (bt a0 x5_2)) = false := decide_eq_false c10
                    clear c10
                    have H' := Aside0.mk H
                    clear H
                    have p7 : 0 ≤ (x5_2 : Int) := of_decide_eq_true (by first | (with_reducible assumption) | assumption)
                    have q7 : x5_2 < (a0.size : Int) := of_decide_eq_true (by first | (with_reducible assumption) | assumption)
                    have hx7 := bt_at a0 x5_2
                    replace p7 := eq_true p7
                    replace q7 := eq_true q7
                    have p9 : 0 ≤ (x5_2 : Int) := of_decide_eq_true (by first | (with_reducible assumption) | assumption)
                    have q9 : x5_2 < (a0.size : Int) := of_decide_eq_true (by first | (with_reducible assumption) | assumption)
                    have hx9 := bt_at a0 x5_2
                    replace p9 := eq_true p9
                    replace q9 := eq_true q9
                    have p11 : 0 ≤ (x5_2 : Int) := of_decide_eq_true (by first | (with_reducible assumption) | assumption)
                    have q11 : x5_2 < (a0.size : Int) := of_decide_eq_true (by first | (with_reducible assumption) | assumption)
                    have hx11 := bt_at a0 x5_2
                    replace p11 := eq_true p11
                    replace q11 := eq_true q11
                    go_wp2
                    go_roundg k2
                    case measure => have := HJ1.out; have := HK2.out; omega
                    case rel => exact ⟨(wrap64 ((wrap64 ((wrap64 (x4_2 * 10)) + (wrap64 (bt a0 x5_2)))) - 48)), (wrap64 (x5_2 + 1)), (by first | rfl | (simp; done) | (simp [*]; done)), (by first | rfl | (simp; done) | (simp [*]; done)), H', ⟨by have := HJ1.out; have := HK2.out; omega⟩, by repeat (first | exact Drawn0.refl _ | apply Drawn0.step)⟩
              · rw [if_neg c6] at H
                exact absurd H (by simp)
            · rw [if_neg c5] at H
              have c5b0 : decide (x5_2 < (a0.size : Int)) = false := decide_eq_false c5
              clear c5
              simp only [Option.some.injEq, Prod.mk.injEq] at H
              obtain ⟨rfl, rfl⟩ := H
              go_wp2
              go_ret2
              exact ⟨by first | rfl | (simp; done) | (simp [*]; done), by repeat (first | exact Drawn0.refl _ | apply Drawn0.step)⟩

/-! ### gangerref07_Parse: function 12 -/
def rpNums (k : Nat) : List ByteArray → Option (Option (List Int))
  | [] => some (some [])
  | s :: r => (gangerref07_number.f k s).bind fun x => if x.2 = true then (if 0 ≤ x.1 then (if x.1 ≤ 999999 then (rpNums k r).bind fun o => some (o.map (fun l => x.1 :: l)) else none) else none) else some none
def rpAll (d h m s : Int) (wrong : Bool) : Int × Int := if wrong = true ∨ s > 59 ∨ ((d * 24 + h) * 60 + m) * 60 + s = 0 ∨ ((d * 24 + h) * 60 + m) * 60 + s > 1073741824 then (0, 2) else (((d * 24 + h) * 60 + m) * 60 + s, 0)
def rpFin (a b c d : Int) (s : ByteArray) : Int × Int :=
  if s = { data := #[] } then rpAll 0 0 a 0 false
  else if s = { data := #[58] } then rpAll 0 0 a b false
  else if s = { data := #[58, 58] } then rpAll 0 a b c (decide (b > 59))
  else if s = { data := #[45] } then rpAll a b c d (decide (c > 59) || decide (b > 23))
  else if s = { data := #[45, 58] } then rpAll a b c d (decide (c > 59) || decide (b > 23))
  else if s = { data := #[45, 58, 58] } then rpAll a b c d (decide (c > 59) || decide (b > 23))
  else (0, 60)
theorem rpOut {d h m s : Int} {wrong : Bool} {r1 r2 : Int} (H : rpAll d h m s wrong = (r1, r2)) : ((wrong = true ∨ s > 59 ∨ ((d * 24 + h) * 60 + m) * 60 + s = 0 ∨ ((d * 24 + h) * 60 + m) * 60 + s > 1073741824) ∧ r1 = 0 ∧ r2 = 2) ∨ (¬ (wrong = true ∨ s > 59 ∨ ((d * 24 + h) * 60 + m) * 60 + s = 0 ∨ ((d * 24 + h) * 60 + m) * 60 + s > 1073741824) ∧ r1 = ((d * 24 + h) * 60 + m) * 60 + s ∧ r2 = 0) := by
  unfold rpAll at H
  by_cases h : (wrong = true ∨ s > 59 ∨ ((d * 24 + h) * 60 + m) * 60 + s = 0 ∨ ((d * 24 + h) * 60 + m) * 60 + s > 1073741824)
  · rw [if_pos h] at H
    obtain ⟨rfl, rfl⟩ := Prod.mk.inj H
    exact Or.inl ⟨h, rfl, rfl⟩
  · rw [if_neg h] at H
    obtain ⟨rfl, rfl⟩ := Prod.mk.inj H
    exact Or.inr ⟨h, rfl, rfl⟩
theorem rp_ne {a : ByteArray} (l : List UInt8) (h : ¬ a = ⟨l.toArray⟩) : ¬ a.toList = l := by
  intro e
  rw [ByteArray.toList_eq] at e
  obtain ⟨x⟩ := a
  apply h
  show (⟨x⟩ : ByteArray) = _
  rw [← e]
def gangerref07_Parse.f (k : Nat) (a0 : ByteArray) : Option (Int × Int) := (gangerref07_cut.f k a0).bind fun c => if c.1.length > 4 then some (0, 60) else (rpNums k c.1).bind fun o => match o with | none => some (0, 60) | some l => some (rpFin (l.getD 0 0) (l.getD 1 0) (l.getD 2 0) (l.getD 3 0) c.2)
theorem rpNums.mono : ∀ l k, LeO (rpNums k l) (rpNums (k + 1) l)
  | [], _ => LeO.refl _
  | s :: r, k => by
    unfold rpNums
    exact LeO.bind (gangerref07_number.mono s k) fun x => LeO.ite (LeO.ite (LeO.ite (LeO.bind (rpNums.mono r k) fun _ => LeO.refl _) (LeO.none _)) (LeO.none _)) (LeO.refl _)
theorem gangerref07_Parse.mono : ∀ a0 k, LeO (gangerref07_Parse.f k a0) (gangerref07_Parse.f (k + 1) a0) := by
  intro a0 k
  unfold gangerref07_Parse.f
  exact LeO.bind (gangerref07_cut.mono a0 k) fun x => LeO.ite (LeO.refl _) (LeO.bind (rpNums.mono _ k) fun _ => LeO.refl _)
def RpInv (k : Nat) (ps : List ByteArray) (sg : ByteArray) (r1 r2 : Int) (i : Nat) (xs : List Int) : Prop :=
  ((rpNums k (ps.drop i)).bind fun o => match o with | none => some (0, 60) | some l => some (rpFin ((xs.take i ++ l).getD 0 0) ((xs.take i ++ l).getD 1 0) ((xs.take i ++ l).getD 2 0) ((xs.take i ++ l).getD 3 0) sg)) = some (r1, r2) ∧ xs.drop i = List.replicate (4 - i) 0 ∧ ∀ x ∈ xs, 0 ≤ x ∧ x ≤ 999999
theorem RpInv.step {k : Nat} {ps : List ByteArray} {sg : ByteArray} {r1 r2 : Int} {i : Nat} {xs : List Int} {x1 : Int} {y0 y1 : Option (List Int)} (hx : xs.length = 4) (hi : i < 4) (hd : rpNums k (ps.drop (i + 1)) = some y1)
    (hb : (match y0 with | none => some (0, 60) | some l => some (rpFin ((xs.take i ++ l).getD 0 0) ((xs.take i ++ l).getD 1 0) ((xs.take i ++ l).getD 2 0) ((xs.take i ++ l).getD 3 0) sg)) = some (r1, r2)) (he : some (y1.map (fun l => x1 :: l)) = some y0) (h2 : xs.drop i = List.replicate (4 - i) 0) (h3 : ∀ x ∈ xs, 0 ≤ x ∧ x ≤ 999999) (h0 : 0 ≤ x1) (h9 : x1 ≤ 999999) : RpInv k ps sg r1 r2 (i + 1) (xs.set i x1) := by
  have ht : (xs.set i x1).take (i + 1) = xs.take i ++ [x1] := by
    rw [List.take_add_one, List.take_set, List.getElem?_set_self (by omega)]
    rw [List.set_eq_of_length_le (by rw [List.length_take]; omega)]
    rfl
  refine ⟨?_, ?_, fun x hx2 => ?_⟩
  · rw [hd, ht, Option.bind_some]
    obtain rfl := Option.some.inj he
    cases y1 with
    | none => exact hb
    | some l => simpa using hb
  · rw [List.drop_set, if_pos (by omega), ← List.tail_drop, h2, List.tail_replicate, Nat.sub_sub]
  · rcases List.mem_or_eq_of_mem_set hx2 with h | rfl
    · exact h3 x h
    · exact ⟨h0, h9⟩
set_option maxHeartbeats 8000000 in
set_option maxRecDepth 1000000 in
theorem gangerref07_Parse.calls (k : Nat) (a0 : ByteArray) (r1 r2 : Int) (w : World) (h : gangerref07_Parse.f k a0 = some (r1, r2)) :
    Calls Tryd.prog 12 #[.string a0] w fun e w' => e = .returned (.tuple #[.int .i64 r1, .int .i64 r2]) ∧ Below w.heap.size w w' := by
  have hu46 := Tryd.underlying46
  have H := h
  unfold gangerref07_Parse.f at H
  clear h
  obtain ⟨⟨ps, sg⟩, A0, H⟩ := Option.bind_eq_some_iff.mp H
  have A := Aside0.mk A0
  clear A0
  simp only at H
  by_cases h4 : ps.length > 4
  · rw [if_pos h4] at H
    simp only [Option.some.injEq, Prod.mk.injEq] at H
    obtain ⟨rfl, rfl⟩ := H
    have h4' : (4 : Int) < (ps.length : Int) := by omega
    go_enter Tryd.func12, Tryd.ntmps12
    go_wp2_with (first | (go_at_call 22; (with_reducible refine (gangerref07_cut.calls k a0 ps sg _ A.out).mono ?_); rintro e w1 ⟨v1, rfl, ho1, hb1⟩; obtain ⟨A1, c1, rfl⟩ := Kd.R_slice ho1; have HO := Aside0.mk ho1; have HB := Aside0.mk hb1; clear ho1 hb1))
    go_ret2
    exact ⟨rfl, HB.out⟩
  · rw [if_neg h4] at H
    have HH := Aside0.mk H
    clear H
    have h4' : ¬ (4 : Int) < (ps.length : Int) := by omega
    go_enter Tryd.func12, Tryd.ntmps12
    go_wp2_with (first | (go_at_call 22; (with_reducible refine (gangerref07_cut.calls k a0 ps sg _ A.out).mono ?_); rintro e w1 ⟨v1, rfl, ho1, hb1⟩; obtain ⟨A1, c1, rfl⟩ := Kd.R_slice ho1; have HO := Aside0.mk ho1; have HB := Aside0.mk hb1; clear ho1 hb1))
    have hs0 : (w1.alloc (.cells #[.int .i64 0, .int .i64 0, .int .i64 0, .int .i64 0] 51)).heap[w1.heap.size]? = some (.cells (([0, 0, 0, 0] : List Int).map (Value.int .i64)).toArray 51 (0, 0)) := by show (w1.heap.push _)[w1.heap.size]? = _; rw [Array.getElem?_push_size]; rfl
    have HI : Aside0 (RpInv k ps sg r1 r2 0 [0, 0, 0, 0]) := ⟨⟨by simpa using HH.out, by rfl, by simp⟩⟩
    clear HH
    go_loopg [7] (ps.length + 1) (fun gk s7 wr => ∃ (i : Nat) (xs : List Int), s7 = .int .i64 i ∧ i ≤ ps.length ∧ ps.length + 1 = i + gk ∧ xs.length = 4 ∧ wr.heap[w1.heap.size]? = some (.cells (xs.map (Value.int .i64)).toArray 51 (0, 0)) ∧ Aside0 (RpInv k ps sg r1 r2 i xs) ∧ Aside0 (Below w1.heap.size w1 wr))
    case atStart => exact ⟨0, [0, 0, 0, 0], rfl, Nat.zero_le _, by omega, rfl, hs0, HI, ⟨below_alloc (Below.refl _ _) _⟩⟩
    case round =>
      obtain ⟨i, xs, rfl, hi, hgk, hx4, hwr, HI, HB1⟩ := hrel
      obtain ⟨gk, rfl⟩ : ∃ m, gk = m + 1 := ⟨gk - 1, by omega⟩
      by_cases hlt : i < ps.length
      · have hlt' : (i : Int) < (ps.length : Int) := by omega
        have HC : Kd.string.C w1 A1 ps.length ps := (Kd.R_reads' HO.out).2.2
        obtain ⟨ad, rfl, hc1⟩ := Kd.at_string HC i (by omega) (by omega)
        have hcr : wr.cell? (ad.add i) = some (.string (rdOf ByteArray.empty ps i)) := pw_cell_below HB1.out hc1
        have hps : ps.drop i = rdOf ByteArray.empty ps i :: ps.drop (i + 1) := by
          rw [List.drop_eq_getElem_cons hlt]; simp [rdOf, List.getD, List.getElem?_eq_getElem hlt]
        have hI := HI.out
        rw [RpInv, hps, rpNums] at hI
        obtain ⟨hI1, hI2, hI3⟩ := hI
        obtain ⟨y0, hI1a, hI1b⟩ := Option.bind_eq_some_iff.mp hI1
        obtain ⟨⟨x1, x2⟩, A2, hI1c⟩ := Option.bind_eq_some_iff.mp hI1a
        have A2 := Aside0.mk A2
        have hi0 : (0 : Int) ≤ (i : Int) := by omega
        clear hI1 hI1a
        cases x2 with
        | false =>
          simp only [Bool.false_eq_true, if_false, Option.some.injEq] at hI1c
          subst hI1c
          simp only [Option.some.injEq, Prod.mk.injEq] at hI1b
          obtain ⟨rfl, rfl⟩ := hI1b
          go_wp2_with (first | (go_at_call 23; (with_reducible refine (gangerref07_number.calls k _ x1 false _ A2.out).mono ?_); rintro e w2 ⟨rfl, hb2⟩; have HB2 := Aside0.mk hb2; clear hb2))
          go_ret2
          exact ⟨rfl, below_step (HB.out) (below_step HB1.out HB2.out.below)⟩
        | true =>
          simp only [if_true] at hI1c
          by_cases hx0 : 0 ≤ x1
          case neg => rw [if_neg hx0] at hI1c; cases hI1c
          rw [if_pos hx0] at hI1c
          by_cases hx9 : x1 ≤ 999999
          case neg => rw [if_neg hx9] at hI1c; cases hI1c
          rw [if_pos hx9] at hI1c
          obtain ⟨y1, hI1d, hI1e⟩ := Option.bind_eq_some_iff.mp hI1c
          have HN : Aside0 (RpInv k ps sg r1 r2 (i + 1) (xs.set i x1)) := ⟨RpInv.step hx4 (by omega) hI1d hI1b hI1e hI2 hI3 hx0 hx9⟩
          have hi4 : i < 4 := by omega
          clear hI1c hI1d hI1e hI1b hI2 hI3
          go_wp2_with (fail)
          (with_reducible refine (gangerref07_number.calls k _ x1 true _ A2.out).mono ?_)
          rintro e w2 ⟨rfl, hb2'⟩
          have hb2 := hb2'.below
          clear hb2'
          have hw2 : w2.heap[w1.heap.size]? = some (.cells (xs.map (Value.int .i64)).toArray 51 (0, 0)) := (hb2.block w1.heap.size (Array.getElem?_eq_some_iff.1 hwr).1).trans hwr
          have hf2 : w2.frozen? ⟨w1.heap.size, i, none⟩ = false := by simp [World.frozen?, hw2]
          have hc2 : w2.cell? ⟨w1.heap.size, i, none⟩ = some (.int .i64 (xs.getD i 0)) := by simp [World.cell?, hw2, List.getElem?_eq_getElem (show i < xs.length by omega)]
          have HB2 := Aside0.mk hb2
          clear hb2
          go_wp2
          go_roundg gk
          refine ⟨i + 1, xs.set i x1, by push_cast; rfl, by omega, by omega, by simpa using hx4, ?_, HN, ⟨?_⟩⟩
          · rw [setCell_eq_setRow w2 w1.heap.size i _ 51 (0, 0) _ hw2, setRow_heap w2 w1.heap.size _ _ 51 (0, 0) hw2]
            simp [List.map_set]
          · exact (below_step HB1.out HB2.out).setCell (Nat.le_refl _) _
          · exact Nat.lt_succ_self _
      · obtain rfl : i = ps.length := by omega
        have hlt' : ¬ (ps.length : Int) < (ps.length : Int) := by omega
        have hF : rpFin (xs.getD 0 0) (xs.getD 1 0) (xs.getD 2 0) (xs.getD 3 0) sg = (r1, r2) := by
          obtain ⟨h1, h2, h3⟩ := HI.out
          have ht : ∀ j, (xs.take ps.length).getD j 0 = xs.getD j 0 := by
            intro j
            by_cases hj : j < ps.length
            · simp [List.getD, List.getElem?_take, hj]
            · have e : xs.getD j 0 = (xs.drop ps.length).getD (j - ps.length) 0 := by
                simp only [List.getD, List.getElem?_drop]; congr 2; omega
              rw [e, h2]
              simp [List.getD, List.getElem?_take, hj, List.getElem?_replicate]
              split <;> rfl
          rw [List.drop_length, rpNums, Option.bind_some] at h1
          simp only [List.append_nil, ht, Option.some.injEq] at h1
          exact h1
        have h3 := HI.out.2.2
        obtain ⟨a, b, c, d, rfl⟩ : ∃ a b c d, xs = [a, b, c, d] := by
          match xs, hx4 with
          | [a, b, c, d], _ => exact ⟨a, b, c, d, rfl⟩
        have ha := h3 a (by simp)
        have hb := h3 b (by simp)
        have hc := h3 c (by simp)
        have hd := h3 d (by simp)
        simp only [List.getD_cons_zero, List.getD_cons_succ] at hF
        have hc0 : wr.cell? ⟨w1.heap.size, 0, none⟩ = some (.int .i64 a) := by simp [World.cell?, hwr]
        have hc1 : wr.cell? ⟨w1.heap.size, 1, none⟩ = some (.int .i64 b) := by simp [World.cell?, hwr]
        have hc2 : wr.cell? ⟨w1.heap.size, 2, none⟩ = some (.int .i64 c) := by simp [World.cell?, hwr]
        have hc3 : wr.cell? ⟨w1.heap.size, 3, none⟩ = some (.int .i64 d) := by simp [World.cell?, hwr]
        clear h3 hx4 HI
        by_cases e0 : sg = { data := #[] }
        · subst e0
          have hz := rpOut (show rpAll 0 0 a 0 false = (r1, r2) from hF)
          clear hF
          go_wp2
          all_goals go_ret2
          all_goals refine ⟨?_, below_step HB.out HB1.out⟩
          all_goals rcases hz with ⟨hem, y1, y2⟩ | ⟨hem, y1, y2⟩
          all_goals rw [y1, y2]
          all_goals first
            | rfl
            | (refine congrArg (fun x => Ending.returned (.tuple #[.int .i64 x, .int .i64 0])) (?_ : _ = _); omega)
            | (exfalso; clear y1 y2; rename_i h1; simp only [beq_iff_eq, beq_eq_false_iff_ne, ne_eq, Bool.or_eq_true, decide_eq_true_eq, Bool.or_eq_false_iff, decide_eq_false_iff_not] at h1 hem; omega)
            | (exfalso; clear y1 y2; rename_i h1; simp only [beq_iff_eq, beq_eq_false_iff_ne, ne_eq, Bool.or_eq_true, decide_eq_true_eq, Bool.or_eq_false_iff, decide_eq_false_iff_not] at hem; omega)
            | (exfalso; clear y1 y2; simp_all; done)
            | (exfalso; clear y1 y2; simp_all; omega)
        by_cases e1 : sg = { data := #[58] }
        · subst e1
          have hz := rpOut (show rpAll 0 0 a b false = (r1, r2) from hF)
          clear hF
          go_wp2
          all_goals go_ret2
          all_goals refine ⟨?_, below_step HB.out HB1.out⟩
          all_goals rcases hz with ⟨hem, y1, y2⟩ | ⟨hem, y1, y2⟩
          all_goals rw [y1, y2]
          all_goals first
            | rfl
            | (refine congrArg (fun x => Ending.returned (.tuple #[.int .i64 x, .int .i64 0])) (?_ : _ = _); omega)
            | (exfalso; clear y1 y2; rename_i h1; simp only [beq_iff_eq, beq_eq_false_iff_ne, ne_eq, Bool.or_eq_true, decide_eq_true_eq, Bool.or_eq_false_iff, decide_eq_false_iff_not] at h1 hem; omega)
            | (exfalso; clear y1 y2; rename_i h1; simp only [beq_iff_eq, beq_eq_false_iff_ne, ne_eq, Bool.or_eq_true, decide_eq_true_eq, Bool.or_eq_false_iff, decide_eq_false_iff_not] at hem; omega)
            | (exfalso; clear y1 y2; simp_all; done)
            | (exfalso; clear y1 y2; simp_all; omega)
        by_cases e2 : sg = { data := #[58, 58] }
        · subst e2
          have hz := rpOut (show rpAll 0 a b c (decide (b > 59)) = (r1, r2) from hF)
          clear hF
          go_wp2
          all_goals go_ret2
          all_goals refine ⟨?_, below_step HB.out HB1.out⟩
          all_goals rcases hz with ⟨hem, y1, y2⟩ | ⟨hem, y1, y2⟩
          all_goals rw [y1, y2]
          all_goals first
            | rfl
            | (refine congrArg (fun x => Ending.returned (.tuple #[.int .i64 x, .int .i64 0])) (?_ : _ = _); omega)
            | (exfalso; clear y1 y2; rename_i h1; simp only [beq_iff_eq, beq_eq_false_iff_ne, ne_eq, Bool.or_eq_true, decide_eq_true_eq, Bool.or_eq_false_iff, decide_eq_false_iff_not] at h1 hem; omega)
            | (exfalso; clear y1 y2; rename_i h1; simp only [beq_iff_eq, beq_eq_false_iff_ne, ne_eq, Bool.or_eq_true, decide_eq_true_eq, Bool.or_eq_false_iff, decide_eq_false_iff_not] at hem; omega)
            | (exfalso; clear y1 y2; simp_all; done)
            | (exfalso; clear y1 y2; simp_all; omega)
        by_cases e3 : sg = { data := #[45] }
        · subst e3
          have hz := rpOut (show rpAll a b c d (decide (c > 59) || decide (b > 23)) = (r1, r2) from hF)
          clear hF
          go_wp2
          all_goals go_ret2
          all_goals refine ⟨?_, below_step HB.out HB1.out⟩
          all_goals rcases hz with ⟨hem, y1, y2⟩ | ⟨hem, y1, y2⟩
          all_goals rw [y1, y2]
          all_goals first
            | rfl
            | (refine congrArg (fun x => Ending.returned (.tuple #[.int .i64 x, .int .i64 0])) (?_ : _ = _); omega)
            | (exfalso; clear y1 y2; rename_i h1; simp only [beq_iff_eq, beq_eq_false_iff_ne, ne_eq, Bool.or_eq_true, decide_eq_true_eq, Bool.or_eq_false_iff, decide_eq_false_iff_not] at h1 hem; omega)
            | (exfalso; clear y1 y2; rename_i h1; simp only [beq_iff_eq, beq_eq_false_iff_ne, ne_eq, Bool.or_eq_true, decide_eq_true_eq, Bool.or_eq_false_iff, decide_eq_false_iff_not] at hem; omega)
            | (exfalso; clear y1 y2; simp_all; done)
            | (exfalso; clear y1 y2; simp_all; omega)
        by_cases e4 : sg = { data := #[45, 58] }
        · subst e4
          have hz := rpOut (show rpAll a b c d (decide (c > 59) || decide (b > 23)) = (r1, r2) from hF)
          clear hF
          go_wp2
          all_goals go_ret2
          all_goals refine ⟨?_, below_step HB.out HB1.out⟩
          all_goals rcases hz with ⟨hem, y1, y2⟩ | ⟨hem, y1, y2⟩
          all_goals rw [y1, y2]
          all_goals first
            | rfl
            | (refine congrArg (fun x => Ending.returned (.tuple #[.int .i64 x, .int .i64 0])) (?_ : _ = _); omega)
            | (exfalso; clear y1 y2; rename_i h1; simp only [beq_iff_eq, beq_eq_false_iff_ne, ne_eq, Bool.or_eq_true, decide_eq_true_eq, Bool.or_eq_false_iff, decide_eq_false_iff_not] at h1 hem; omega)
            | (exfalso; clear y1 y2; rename_i h1; simp only [beq_iff_eq, beq_eq_false_iff_ne, ne_eq, Bool.or_eq_true, decide_eq_true_eq, Bool.or_eq_false_iff, decide_eq_false_iff_not] at hem; omega)
            | (exfalso; clear y1 y2; simp_all; done)
            | (exfalso; clear y1 y2; simp_all; omega)
        by_cases e5 : sg = { data := #[45, 58, 58] }
        · subst e5
          have hz := rpOut (show rpAll a b c d (decide (c > 59) || decide (b > 23)) = (r1, r2) from hF)
          clear hF
          go_wp2
          all_goals go_ret2
          all_goals refine ⟨?_, below_step HB.out HB1.out⟩
          all_goals rcases hz with ⟨hem, y1, y2⟩ | ⟨hem, y1, y2⟩
          all_goals rw [y1, y2]
          all_goals first
            | rfl
            | (refine congrArg (fun x => Ending.returned (.tuple #[.int .i64 x, .int .i64 0])) (?_ : _ = _); omega)
            | (exfalso; clear y1 y2; rename_i h1; simp only [beq_iff_eq, beq_eq_false_iff_ne, ne_eq, Bool.or_eq_true, decide_eq_true_eq, Bool.or_eq_false_iff, decide_eq_false_iff_not] at h1 hem; omega)
            | (exfalso; clear y1 y2; rename_i h1; simp only [beq_iff_eq, beq_eq_false_iff_ne, ne_eq, Bool.or_eq_true, decide_eq_true_eq, Bool.or_eq_false_iff, decide_eq_false_iff_not] at hem; omega)
            | (exfalso; clear y1 y2; simp_all; done)
            | (exfalso; clear y1 y2; simp_all; omega)
        rw [rpFin, if_neg e0, if_neg e1, if_neg e2, if_neg e3, if_neg e4, if_neg e5] at hF
        obtain ⟨rfl, rfl⟩ := Prod.mk.inj hF
        clear hF
        have f0 : sg.toList.isEmpty = false := by simpa using rp_ne [] e0
        have f1 : (sg.toList == [58]) = false := by simpa using rp_ne [58] e1
        have f2 : (sg.toList == [58, 58]) = false := by simpa using rp_ne [58, 58] e2
        have f3 : (sg.toList == [45]) = false := by simpa using rp_ne [45] e3
        have f4 : (sg.toList == [45, 58]) = false := by simpa using rp_ne [45, 58] e4
        have f5 : (sg.toList == [45, 58, 58]) = false := by simpa using rp_ne [45, 58, 58] e5
        clear e0 e1 e2 e3 e4 e5
        go_wp2
        all_goals go_ret2
        all_goals exact ⟨rfl, below_step HB.out HB1.out⟩

/-! ### gangerlaw07_ClockParses: function 3 -/
def gangerlaw07_ClockParses.f (k : Nat) (a0 : ByteArray) : Option (Bool) := if (a0.size : Int) > 300 then ((gangerlaw07_known.f k).bind fun t180 => (some t180)) else ((clock_Parse.f k a0).bind fun bt181 => ((gangerref07_Parse.f k a0).bind fun bt183 => (if bt181.1 = bt183.1 then (if bt181.2 = bt183.2 then ((gangerlaw07_known.f k).bind fun t185 => (some t185)) else (none)) else (none))))
theorem gangerlaw07_ClockParses.mono : ∀ a0 k, LeO (gangerlaw07_ClockParses.f k a0) (gangerlaw07_ClockParses.f (k + 1) a0) := by
  intro a0 k
  unfold gangerlaw07_ClockParses.f
  repeat' first
      | (with_reducible exact clock_Parse.mono _ _)
      | (with_reducible exact gangerlaw07_known.mono _)
      | (with_reducible exact gangerref07_Parse.mono _ _)
      | (with_reducible exact LeO.refl _)
      | (with_reducible exact LeO.none _)
      | (with_reducible refine LeO.ite ?_ ?_)
      | (with_reducible refine LeO.bind ?_ (fun _ => ?_))
      | exact clock_Parse.mono _ _
      | exact gangerlaw07_known.mono _
      | exact gangerref07_Parse.mono _ _
      | exact LeO.none _
      | refine LeO.ite ?_ ?_
      | refine LeO.bind ?_ (fun _ => ?_)
set_option maxHeartbeats 8000000 in
set_option maxRecDepth 100000 in
theorem gangerlaw07_ClockParses.calls (k : Nat) (a0 : ByteArray) (r : Bool) (w : World) (hG : Glob w) (h : gangerlaw07_ClockParses.f k a0 = some r) :
    Calls Tryd.prog 3 #[.string a0] w fun e w' => e = .returned (.bool r) ∧ Below w.heap.size w w' := by
  have HG := Aside0.mk hG
  clear hG
  have HB := Aside0.mk (Below.refl w.heap.size w)
  have H : (if (a0.size : Int) > 300 then ((gangerlaw07_known.f k).bind fun t180 => (some t180)) else ((clock_Parse.f k a0).bind fun bt181 => ((gangerref07_Parse.f k a0).bind fun bt183 => (if bt181.1 = bt183.1 then (if bt181.2 = bt183.2 then ((gangerlaw07_known.f k).bind fun t185 => (some t185)) else (none)) else (none))))) = some r := h
  clear h
  by_cases c2 : (a0.size : Int) > 300
  · rw [if_pos c2] at H
    have c2b0 : decide (300 < (a0.size : Int)) = true := decide_eq_true c2
    have c2b1 : decide (300 < a0.size) = true := decide_eq_true (by omega)
    clear c2
    replace H := Option.bind_eq_some_iff.mp H
    obtain ⟨t180, A30, H⟩ := H
    replace H : (some t180) = some r := H
    have A3 := Aside0.mk A30
    clear A30
    obtain rfl := Option.some.inj H
    go_enter Tryd.func3, Tryd.ntmps3
    go_wp2_with (first | ((with_reducible refine gate_callee (f := 10) rfl ?_); refine goesL_ (some 10) rfl rfl Tryd.func10 (by kernel_rfl) rfl #[] rfl (by (try simp only [List.map_toArray, List.map_cons, List.map_nil]); first | done | rfl | (simp only [List.length_drop, List.length_take]; rfl)) ?_; (with_reducible refine (gangerlaw07_known.calls k  t180 _ ?side1 A3.out).mono ?_); (case side1 => exact Glob.below HG.out (by repeat (first | (with_reducible first | exact HB.out | apply below_alloc | apply pw_below_drewN | apply below_drew1) | exact HB.out))); rintro e w4 ⟨rfl, hb⟩; refine ⟨_, rfl, ?_⟩; have n0_ := Aside0.mk (below_step (by repeat (first | (with_reducible first | exact HB.out | apply below_alloc | apply pw_below_drewN | apply below_drew1) | exact HB.out)) hb); clear HB; have HB := n0_; clear n0_; (try clear hb); (try clear hb2); (try clear hk); (try clear hi)))
    go_ret
    exact ⟨by first | rfl | (simp [errW_none, errW_some] <;> rfl) | (simp [*, errW_none, errW_some] <;> rfl), by repeat (first | (with_reducible first | exact HB.out | apply below_alloc | apply pw_below_drewN | apply below_drew1) | exact HB.out)⟩
  · rw [if_neg c2] at H
    have c2b0 : decide (300 < (a0.size : Int)) = false := decide_eq_false c2
    have c2b1 : decide (300 < a0.size) = false := decide_eq_false (by omega)
    clear c2
    replace H := Option.bind_eq_some_iff.mp H
    obtain ⟨⟨t181, t182⟩, A50, H⟩ := H
    replace H : ((gangerref07_Parse.f k a0).bind fun bt183 => (if t181 = bt183.1 then (if t182 = bt183.2 then ((gangerlaw07_known.f k).bind fun t185 => (some t185)) else (none)) else (none))) = some r := H
    have A5 := Aside0.mk A50
    clear A50
    replace H := Option.bind_eq_some_iff.mp H
    obtain ⟨⟨t183, t184⟩, A60, H⟩ := H
    replace H : (if t181 = t183 then (if t182 = t184 then ((gangerlaw07_known.f k).bind fun t185 => (some t185)) else (none)) else (none)) = some r := H
    have A6 := Aside0.mk A60
    clear A60
    by_cases c7 : t181 = t183
    · rw [if_pos c7] at H
      have c7b0 : (t181 == t183) = true := beq_iff_eq.mpr c7
      have c7b1 : (t181 != t183) = false := bne_eq_false_iff_eq.mpr c7
      clear c7
      by_cases c8 : t182 = t184
      · rw [if_pos c8] at H
        have c8b0 : (t182 == t184) = true := beq_iff_eq.mpr c8
        have c8b1 : (t182 != t184) = false := bne_eq_false_iff_eq.mpr c8
        clear c8
        replace H := Option.bind_eq_some_iff.mp H
        obtain ⟨t185, A90, H⟩ := H
        replace H : (some t185) = some r := H
        have A9 := Aside0.mk A90
        clear A90
        obtain rfl := Option.some.inj H
        go_enter Tryd.func3, Tryd.ntmps3
        go_wp2_with (first | ((with_reducible refine gate_callee (f := 11) rfl ?_); refine goesL_ (some 13) rfl rfl Tryd.func11 (by kernel_rfl) rfl #[.string a0] rfl (by (try simp only [List.map_toArray, List.map_cons, List.map_nil]); first | done | rfl | (simp only [List.length_drop, List.length_take]; rfl)) ?_; (with_reducible refine (clock_Parse.calls k a0 t181 t182 _ ?side1 A5.out).mono ?_); (case side1 => exact Glob.below HG.out (by repeat (first | (with_reducible first | exact HB.out | apply below_alloc | apply pw_below_drewN | apply below_drew1) | exact HB.out))); rintro e w10 ⟨rfl, hb⟩; refine ⟨_, rfl, ?_⟩; have n0_ := Aside0.mk (below_step (by repeat (first | (with_reducible first | exact HB.out | apply below_alloc | apply pw_below_drewN | apply below_drew1) | exact HB.out)) hb); clear HB; have HB := n0_; clear n0_; (try clear hb); (try clear hb2); (try clear hk); (try clear hi)) | ((with_reducible refine gate_callee (f := 12) rfl ?_); refine goesL_ (some 18) rfl rfl Tryd.func12 (by kernel_rfl) rfl #[.string a0] rfl (by (try simp only [List.map_toArray, List.map_cons, List.map_nil]); first | done | rfl | (simp only [List.length_drop, List.length_take]; rfl)) ?_; (with_reducible refine (gangerref07_Parse.calls k a0 t183 t184 _ A6.out).mono ?_); rintro e w11 ⟨rfl, hb⟩; refine ⟨_, rfl, ?_⟩; have n0_ := Aside0.mk (below_step (by repeat (first | (with_reducible first | exact HB.out | apply below_alloc | apply pw_below_drewN | apply below_drew1) | exact HB.out)) hb); clear HB; have HB := n0_; clear n0_; (try clear hb); (try clear hb2); (try clear hk); (try clear hi)) | (go_at_call 10; (with_reducible refine (gangerlaw07_known.calls k  t185 _ ?side1 A9.out).mono ?_); (case side1 => exact Glob.below HG.out (by repeat (first | (with_reducible first | exact HB.out | apply below_alloc | apply pw_below_drewN | apply below_drew1) | exact HB.out))); rintro e w12 ⟨rfl, hb⟩; have n0_ := Aside0.mk (below_step (by repeat (first | (with_reducible first | exact HB.out | apply below_alloc | apply pw_below_drewN | apply below_drew1) | exact HB.out)) hb); clear HB; have HB := n0_; clear n0_; (try clear hb); (try clear hb2); (try clear hk); (try clear hi)))
        go_ret
        exact ⟨by first | rfl | (simp [errW_none, errW_some] <;> rfl) | (simp [*, errW_none, errW_some] <;> rfl), by repeat (first | (with_reducible first | exact HB.out | apply below_alloc | apply pw_below_drewN | apply below_drew1) | exact HB.out)⟩
      · rw [if_neg c8] at H
        exact absurd H (by simp)
    · rw [if_neg c7] at H
      exact absurd H (by simp)

/-- THE ONE PURE STATEMENT of gangerlaw07_ClockParses: yours. -/
def gangerlaw07_ClockParses.Pure : Prop := ∀ (a0 : ByteArray), a0.size ≤ 140737488351232 → ∃ k, gangerlaw07_ClockParses.f k a0 = some true
theorem gangerlaw07_ClockParses.walk (P : gangerlaw07_ClockParses.Pure) (a0 : ByteArray) (w : World) (hG : Glob w) (w0 : a0.size ≤ 140737488351232) :
    Calls Tryd.prog 3 #[.string a0] w fun e w' => e = .returned (.bool true) ∧ Below w.heap.size w w' := by
  obtain ⟨k, h⟩ := P a0 w0
  refine (gangerlaw07_ClockParses.calls k a0 true w hG h).mono ?_
  rintro e w' ⟨rfl, hd⟩
  exact ⟨rfl, hd⟩

end Go.Proofs.YtjgfdilikbeofaaDoor.P
