/- cut to what one law reaches -/
import Derived.Test.YtfccdngejfnmkaaDoorQfP0
namespace Go.Proofs.YtfccdngejfnmkaaDoor.P
open Go.RowKit Go.Proofs.YtfccdngejfnmkaaDoorW.PrintWords Go.Proofs.YtfccdngejfnmkaaDoorW.PrintLast Go.Proofs.YtfccdngejfnmkaaDoorW.PrintMore
attribute [local go_sem] max2_int min2_int max_two min_two max_three min_three max_four min_four   -- for this text's walks alone
set_option linter.unusedVariables false
set_option linter.unusedSimpArgs false
attribute [local go_sem] isSome_setCell
mutual
def gangerlaw11_many.j0 : Nat → List (S37) → Bool → Option (Bool)
 | 0, _, _ => none
 | k + 1, x0, x13 => if x13 = true then (some true) else (gangerlaw11_many.l0 k x0 0)
def gangerlaw11_many.l0 : Nat → List (S37) → Int → Option (Bool)
 | 0, _, _ => none
 | k + 1, x0, x5 => if x5 < (x0.length : Int) then (if 0 ≤ x5 then (if (((rd_T37 x0 x5).f0).size : Int) > 300 then (some true) else (if (((rd_T37 x0 x5).f1).size : Int) > 300 then (some true) else (gangerlaw11_many.l0 k x0 (wrap64 (x5 + 1))))) else (none)) else (some false)
end
def gangerlaw11_many.f (k : Nat) (l0 : List (S37)) (l1 : List Int) : Option (Bool) := if (l0.length : Int) > 60 then (gangerlaw11_many.j0 k l0 true) else (gangerlaw11_many.j0 k l0 (decide ((l1.length : Int) > 100)))
set_option maxHeartbeats 8000000 in
set_option maxRecDepth 100000 in
theorem gangerlaw11_many.calls (k : Nat) (A0 : Option Addr) (c0 : Nat) (l0 : List (S37)) (A1 : Option Addr) (c1 : Nat) (l1 : List Int) (r : Bool) (w : World) (hr0 : Kd.C k37 w A0 l0.length l0) (hc0 : l0.length ≤ c0) (hr1 : Kd.C (Kd.int .i64) w A1 l1.length l1) (hc1 : l1.length ≤ c1) (h : gangerlaw11_many.f k l0 l1 = some r) :
  Calls Tryd.prog 10 #[.slice A0 l0.length c0, .slice A1 l1.length c1] w fun e w' => e = .returned (.bool r) ∧ Drawn0 w w' := by
 have HR0 := Aside0.mk hr0
 have HC0 := Aside0.mk hc0
 clear hr0 hc0
 have HR1 := Aside0.mk hr1
 have HC1 := Aside0.mk hc1
 clear hr1 hc1
 have H : (if (l0.length : Int) > 60 then (gangerlaw11_many.j0 k l0 true) else (gangerlaw11_many.j0 k l0 (decide ((l1.length : Int) > 100)))) = some r := h
 clear h
 have HC3 := Aside0.mk H
 clear H
 go_enter Tryd.func10, Tryd.ntmps10
 go_upto_region 1 with (fail)
 go_cut [13] (fun v13 wc => ∃ (kq : Nat) (x13_2 : Bool), v13 = .bool x13_2 ∧ Aside0 (gangerlaw11_many.j0 kq l0 x13_2 = some r) ∧ Aside0 (kq ≤ k) ∧ Drawn0 w wc)
 case first =>
  have H := HC3.out
  clear HC3
  by_cases c4 : (l0.length : Int) > 60
  ·rw [if_pos c4] at H
   have c4b0 : decide (60 < (l0.length : Int)) = true := decide_eq_true c4
   have c4b1 : decide (60 < l0.length) = true := decide_eq_true (by omega)
   clear c4
   (first | rw [c4b0] | (simp only [i64_w, i32_w]; rw [c4b0]) | skip)
   have H' := Aside0.mk H
   clear H
   go_wp2
   go_meet
   case rel => exact ⟨_, (true), (by first | rfl | (simp; done) | (simp [*]; done)), H', ⟨by first | omega | exact Nat.le_refl _⟩, by repeat (first | exact Drawn0.refl _ | apply Drawn0.step)⟩
  ·rw [if_neg c4] at H
   have c4b0 : decide (60 < (l0.length : Int)) = false := decide_eq_false c4
   have c4b1 : decide (60 < l0.length) = false := decide_eq_false (by omega)
   clear c4
   (first | rw [c4b0] | (simp only [i64_w, i32_w]; rw [c4b0]) | skip)
   have H' := Aside0.mk H
   clear H
   go_wp2
   go_meet
   case rel => exact ⟨_, (decide ((l1.length : Int) > 100)), (by first | rfl | (simp; done) | (simp [*]; done)), H', ⟨by first | omega | exact Nat.le_refl _⟩, by repeat (first | exact Drawn0.refl _ | apply Drawn0.step)⟩
 case rest =>
  clear HC3
  obtain ⟨kq, x13_2, rfl, HA, HJ2, ⟨mc2, rfl⟩⟩ := hcut
  cases kq with
  | zero => exact absurd HA.out (by simp [gangerlaw11_many.j0])
  | succ kj2 =>
   have H := HA.out
   clear HA
   simp only [gangerlaw11_many.j0] at H
   by_cases c5 : x13_2 = true
   ·subst c5
    have H1 : (some true) = some r := by rw [if_pos rfl] at H; exact H
    clear H
    have H := H1
    clear H1
    obtain rfl := Option.some.inj H
    go_wp2
    go_ret
    exact ⟨by first | rfl | (simp; done) | (simp [*]; done), by repeat (first | exact Drawn0.refl _ | apply Drawn0.step)⟩
   ·replace c5 := Bool.eq_false_iff.mpr c5
    subst c5
    have H1 : (gangerlaw11_many.l0 kj2 l0 0) = some r := by rw [if_neg (show ¬ (false = true) by decide)] at H; exact H
    clear H
    have H := H1
    clear H1
    have H' := Aside0.mk H
    clear H
    go_wp2
    go_loopg [5] kj2 (fun kq v5 w' => ∃ (x5_2 : Int), v5 = .int .i64 x5_2 ∧ Aside0 (gangerlaw11_many.l0 kq l0 x5_2 = some r) ∧ Aside0 (kq ≤ kj2) ∧ Drawn0 w w')
    case atStart => exact ⟨(0), (by first | rfl | (simp; done) | (simp [*]; done)), H', ⟨Nat.le_refl _⟩, by repeat (first | exact Drawn0.refl _ | apply Drawn0.step)⟩
    case round =>
     clear H'
     obtain ⟨x5_2, rfl, HA, HK2, ⟨m2, rfl⟩⟩ := hrel
     cases gk with
     | zero => exact absurd HA.out (by simp [gangerlaw11_many.l0])
     | succ k2 =>
      have H := HA.out
      clear HA
      simp only [gangerlaw11_many.l0] at H
      by_cases c6 : x5_2 < (l0.length : Int)
      ·rw [if_pos c6] at H
       have c6b0 : decide (x5_2 < (l0.length : Int)) = true := decide_eq_true c6
       clear c6
       by_cases c7 : 0 ≤ x5_2
       ·rw [if_pos c7] at H
        have c7b0 : decide (0 ≤ x5_2) = true := decide_eq_true c7
        clear c7
        by_cases c8 : (((rd_T37 l0 x5_2).f0).size : Int) > 300
        ·rw [if_pos c8] at H
         have c8b0 : decide (300 < (((rd_T37 l0 x5_2).f0).size : Int)) = true := decide_eq_true c8
         have c8b1 : decide (300 < ((rd_T37 l0 x5_2).f0).size) = true := decide_eq_true (by omega)
         clear c8
         obtain rfl := Option.some.inj H
         have p101 : 0 ≤ (x5_2 : Int) := of_decide_eq_true (by first | (with_reducible assumption) | assumption)
         have q101 : x5_2 < (l0.length : Int) := of_decide_eq_true (by first | (with_reducible assumption) | assumption)
         obtain ⟨ad101, e101, hx101_0, hx101_1, hx101_2⟩ := at_T37 HR0.out x5_2 p101 q101
         cases e101
         replace p101 := eq_true p101
         replace q101 := eq_true q101
         go_wp2
         go_ret
         exact ⟨by first | rfl | (simp; done) | (simp [*]; done), by repeat (first | exact Drawn0.refl _ | apply Drawn0.step)⟩
        ·rw [if_neg c8] at H
         have c8b0 : decide (300 < (((rd_T37 l0 x5_2).f0).size : Int)) = false := decide_eq_false c8
         have c8b1 : decide (300 < ((rd_T37 l0 x5_2).f0).size) = false := decide_eq_false (by omega)
         clear c8
         by_cases c9 : (((rd_T37 l0 x5_2).f1).size : Int) > 300
         ·rw [if_pos c9] at H
          have c9b0 : decide (300 < (((rd_T37 l0 x5_2).f1).size : Int)) = true := decide_eq_true c9
          have c9b1 : decide (300 < ((rd_T37 l0 x5_2).f1).size) = true := decide_eq_true (by omega)
          clear c9
          obtain rfl := Option.some.inj H
          have p101 : 0 ≤ (x5_2 : Int) := of_decide_eq_true (by first | (with_reducible assumption) | assumption)
          have q101 : x5_2 < (l0.length : Int) := of_decide_eq_true (by first | (with_reducible assumption) | assumption)
          obtain ⟨ad101, e101, hx101_0, hx101_1, hx101_2⟩ := at_T37 HR0.out x5_2 p101 q101
          cases e101
          replace p101 := eq_true p101
          replace q101 := eq_true q101
          have p102 : 0 ≤ (x5_2 : Int) := of_decide_eq_true (by first | (with_reducible assumption) | assumption)
          have q102 : x5_2 < (l0.length : Int) := of_decide_eq_true (by first | (with_reducible assumption) | assumption)
          obtain ⟨ad102, e102, hx102_0, hx102_1, hx102_2⟩ := at_T37 HR0.out x5_2 p102 q102
          obtain rfl : ad101 = ad102 := (by injection e102)
          replace p102 := eq_true p102
          replace q102 := eq_true q102
          go_wp2
          go_ret
          exact ⟨by first | rfl | (simp; done) | (simp [*]; done), by repeat (first | exact Drawn0.refl _ | apply Drawn0.step)⟩
         ·rw [if_neg c9] at H
          have c9b0 : decide (300 < (((rd_T37 l0 x5_2).f1).size : Int)) = false := decide_eq_false c9
          have c9b1 : decide (300 < ((rd_T37 l0 x5_2).f1).size) = false := decide_eq_false (by omega)
          clear c9
          have H' := Aside0.mk H
          clear H
          have p101 : 0 ≤ (x5_2 : Int) := of_decide_eq_true (by first | (with_reducible assumption) | assumption)
          have q101 : x5_2 < (l0.length : Int) := of_decide_eq_true (by first | (with_reducible assumption) | assumption)
          obtain ⟨ad101, e101, hx101_0, hx101_1, hx101_2⟩ := at_T37 HR0.out x5_2 p101 q101
          cases e101
          replace p101 := eq_true p101
          replace q101 := eq_true q101
          have p102 : 0 ≤ (x5_2 : Int) := of_decide_eq_true (by first | (with_reducible assumption) | assumption)
          have q102 : x5_2 < (l0.length : Int) := of_decide_eq_true (by first | (with_reducible assumption) | assumption)
          obtain ⟨ad102, e102, hx102_0, hx102_1, hx102_2⟩ := at_T37 HR0.out x5_2 p102 q102
          obtain rfl : ad101 = ad102 := (by injection e102)
          replace p102 := eq_true p102
          replace q102 := eq_true q102
          go_wp2
          go_roundg k2
          case measure => have := HJ2.out; have := HK2.out; omega
          case rel => exact ⟨(wrap64 (x5_2 + 1)), (by first | rfl | (simp; done) | (simp [*]; done)), H', ⟨by have := HJ2.out; have := HK2.out; omega⟩, by repeat (first | exact Drawn0.refl _ | apply Drawn0.step)⟩
       ·rw [if_neg c7] at H
        exact absurd H (by simp)
      ·rw [if_neg c6] at H
       have c6b0 : decide (x5_2 < (l0.length : Int)) = false := decide_eq_false c6
       clear c6
       obtain rfl := Option.some.inj H
       go_wp2
       go_ret
       exact ⟨by first | rfl | (simp; done) | (simp [*]; done), by repeat (first | exact Drawn0.refl _ | apply Drawn0.step)⟩
def conf_in.f (a0 : Int) (a1 : Int) (a2 : Int) : Option (Bool) := if a0 ≥ a1 then (some (decide (a0 ≤ a2))) else (some false)
set_option maxHeartbeats 8000000 in
set_option maxRecDepth 100000 in
theorem conf_in.calls (a0 : Int) (a1 : Int) (a2 : Int) (r : Bool) (w : World) (h : conf_in.f a0 a1 a2 = some r) :
  Calls Tryd.prog 42 #[.int .i64 a0, .int .i64 a1, .int .i64 a2] w fun e w' => e = .returned (.bool r) ∧ Drawn0 w w' := by
 have H : (if a0 ≥ a1 then (some (decide (a0 ≤ a2))) else (some false)) = some r := h
 clear h
 by_cases c4 : a0 ≥ a1
 ·rw [if_pos c4] at H
  have c4b0 : decide (a1 ≤ a0) = true := decide_eq_true c4
  clear c4
  obtain rfl := Option.some.inj H
  go_enter Tryd.func42, Tryd.ntmps42
  go_wp2
  go_ret
  exact ⟨by first | rfl | (simp; done) | (simp [*]; done), by repeat (first | exact Drawn0.refl _ | apply Drawn0.step)⟩
 ·rw [if_neg c4] at H
  have c4b0 : decide (a1 ≤ a0) = false := decide_eq_false c4
  clear c4
  obtain rfl := Option.some.inj H
  go_enter Tryd.func42, Tryd.ntmps42
  go_wp2
  go_ret
  exact ⟨by first | rfl | (simp; done) | (simp [*]; done), by repeat (first | exact Drawn0.refl _ | apply Drawn0.step)⟩
def slices_Index_string_string.l0 : Nat → List ByteArray → ByteArray → Int → Int → Option (Int)
 | 0, _, _, _, _ => none
 | k + 1, x0, x1, x7, x8 => if x8 < x7 then (if 0 ≤ x8 then (if x8 < (x0.length : Int) then (if x1.toList = (rdOf ByteArray.empty x0 x8).toList then (some x8) else (slices_Index_string_string.l0 k x0 x1 x7 (wrap64 (x8 + 1)))) else (none)) else (none)) else (some (-1))
def slices_Index_string_string.f (k : Nat) (l0 : List ByteArray) (a1 : ByteArray) : Option (Int) := slices_Index_string_string.l0 k l0 a1 (l0.length : Int) 0
theorem slices_Index_string_string.mono_l : ∀ k, (∀ y0 y1 y2 y3, LeO (slices_Index_string_string.l0 k y0 y1 y2 y3) (slices_Index_string_string.l0 (k + 1) y0 y1 y2 y3))
 | 0 => fun _ _ _ _ r h => by simp [slices_Index_string_string.l0] at h
 | k + 1 => by
  have ih0 := slices_Index_string_string.mono_l k
  ·intro y0 y1 y2 y3
   unfold slices_Index_string_string.l0
   repeat' first
   | (with_reducible exact ih0 _ _ _ _)
   | (with_reducible exact LeO.refl _)
   | (with_reducible exact LeO.none _)
   | (with_reducible refine LeO.ite ?_ ?_)
   | (with_reducible refine LeO.bind ?_ (fun _ => ?_))
   | exact ih0 _ _ _ _
   | exact LeO.none _
   | refine LeO.ite ?_ ?_
   | refine LeO.bind ?_ (fun _ => ?_)
theorem slices_Index_string_string.mono : ∀ a0 a1 k, LeO (slices_Index_string_string.f k a0 a1) (slices_Index_string_string.f (k + 1) a0 a1) := by
 intro a0 a1 k
 have ih0 := slices_Index_string_string.mono_l k
 unfold slices_Index_string_string.f
 repeat' first
   | (with_reducible exact ih0 _ _ _ _)
   | (with_reducible exact LeO.refl _)
   | (with_reducible exact LeO.none _)
   | (with_reducible refine LeO.ite ?_ ?_)
   | (with_reducible refine LeO.bind ?_ (fun _ => ?_))
   | exact ih0 _ _ _ _
   | exact LeO.none _
   | refine LeO.ite ?_ ?_
   | refine LeO.bind ?_ (fun _ => ?_)
set_option maxHeartbeats 8000000 in
set_option maxRecDepth 100000 in
theorem slices_Index_string_string.calls (k : Nat) (A0 : Option Addr) (c0 : Nat) (l0 : List ByteArray) (a1 : ByteArray) (r : Int) (w : World) (hr0 : Kd.C Kd.string w A0 l0.length l0) (hc0 : l0.length ≤ c0) (h : slices_Index_string_string.f k l0 a1 = some r) :
  Calls Tryd.prog 59 #[.slice A0 l0.length c0, .string a1] w fun e w' => e = .returned (.int .i64 r) ∧ Drawn0 w w' := by
 have HR0 := Aside0.mk hr0
 have HC0 := Aside0.mk hc0
 clear hr0 hc0
 have H : (slices_Index_string_string.l0 k l0 a1 (l0.length : Int) 0) = some r := h
 clear h
 have H' := Aside0.mk H
 clear H
 go_enter Tryd.func59, Tryd.ntmps59
 go_wp2
 go_loopg [8] k (fun kq v8 w' => ∃ (x8_1 : Int), v8 = .int .i64 x8_1 ∧ Aside0 (slices_Index_string_string.l0 kq l0 a1 (l0.length : Int) x8_1 = some r) ∧ Aside0 (kq ≤ k) ∧ Drawn0 w w')
 case atStart => exact ⟨(0), (by first | rfl | (simp; done) | (simp [*]; done)), H', ⟨Nat.le_refl _⟩, by repeat (first | exact Drawn0.refl _ | apply Drawn0.step)⟩
 case round =>
  clear H'
  obtain ⟨x8_1, rfl, HA, HK1, ⟨m1, rfl⟩⟩ := hrel
  cases gk with
  | zero => exact absurd HA.out (by simp [slices_Index_string_string.l0])
  | succ k1 =>
   have H := HA.out
   clear HA
   simp only [slices_Index_string_string.l0] at H
   by_cases c3 : x8_1 < (l0.length : Int)
   ·rw [if_pos c3] at H
    have c3b0 : decide (x8_1 < (l0.length : Int)) = true := decide_eq_true c3
    clear c3
    by_cases c4 : 0 ≤ x8_1
    ·rw [if_pos c4] at H
     have c4b0 : decide (0 ≤ x8_1) = true := decide_eq_true c4
     clear c4
     by_cases c5 : x8_1 < (l0.length : Int)
     ·rw [if_pos c5] at H
      have c5b0 : decide (x8_1 < (l0.length : Int)) = true := decide_eq_true c5
      clear c5
      by_cases c6 : a1.toList = (rdOf ByteArray.empty l0 x8_1).toList
      ·rw [if_pos c6] at H
       have c6b0 : (a1.toList == (rdOf ByteArray.empty l0 x8_1).toList) = true := beq_iff_eq.mpr c6
       have c6b1 : (a1.toList != (rdOf ByteArray.empty l0 x8_1).toList) = false := bne_eq_false_iff_eq.mpr c6
       clear c6
       obtain rfl := Option.some.inj H
       have p103 : 0 ≤ (x8_1 : Int) := of_decide_eq_true (by first | (with_reducible assumption) | assumption)
       have q103 : x8_1 < (l0.length : Int) := of_decide_eq_true (by first | (with_reducible assumption) | assumption)
       obtain ⟨ad103, e103, hx103_0⟩ := Kd.at_string HR0.out x8_1 p103 q103
       cases e103
       replace p103 := eq_true p103
       replace q103 := eq_true q103
       go_wp2
       go_ret
       exact ⟨by first | rfl | (simp; done) | (simp [*]; done), by repeat (first | exact Drawn0.refl _ | apply Drawn0.step)⟩
      ·rw [if_neg c6] at H
       have c6b0 : (a1.toList == (rdOf ByteArray.empty l0 x8_1).toList) = false := beq_eq_false_iff_ne.mpr c6
       have c6b1 : (a1.toList != (rdOf ByteArray.empty l0 x8_1).toList) = true := bne_iff_ne.mpr c6
       have H' := Aside0.mk H
       clear H
       have p103 : 0 ≤ (x8_1 : Int) := of_decide_eq_true (by first | (with_reducible assumption) | assumption)
       have q103 : x8_1 < (l0.length : Int) := of_decide_eq_true (by first | (with_reducible assumption) | assumption)
       obtain ⟨ad103, e103, hx103_0⟩ := Kd.at_string HR0.out x8_1 p103 q103
       cases e103
       replace p103 := eq_true p103
       replace q103 := eq_true q103
       go_wp2
       go_roundg k1
       case measure => have := HK1.out; omega
       case rel => exact ⟨(wrap64 (x8_1 + 1)), (by first | rfl | (simp; done) | (simp [*]; done)), H', ⟨by have := HK1.out; omega⟩, by repeat (first | exact Drawn0.refl _ | apply Drawn0.step)⟩
     ·rw [if_neg c5] at H
      exact absurd H (by simp)
    ·rw [if_neg c4] at H
     exact absurd H (by simp)
   ·rw [if_neg c3] at H
    have c3b0 : decide (x8_1 < (l0.length : Int)) = false := decide_eq_false c3
    clear c3
    obtain rfl := Option.some.inj H
    go_wp2
    go_ret
    exact ⟨by first | rfl | (simp; done) | (simp [*]; done), by repeat (first | exact Drawn0.refl _ | apply Drawn0.step)⟩
def slices_Contains_string_string.f (k : Nat) (l0 : List ByteArray) (a1 : ByteArray) : Option (Bool) := (slices_Index_string_string.f k l0 a1).bind fun t104 => (some (decide (t104 ≥ 0)))
theorem slices_Contains_string_string.mono : ∀ a0 a1 k, LeO (slices_Contains_string_string.f k a0 a1) (slices_Contains_string_string.f (k + 1) a0 a1) := by
 intro a0 a1 k
 unfold slices_Contains_string_string.f
 repeat' first
   | (with_reducible exact slices_Index_string_string.mono _ _ _)
   | (with_reducible exact LeO.refl _)
   | (with_reducible exact LeO.none _)
   | (with_reducible refine LeO.ite ?_ ?_)
   | (with_reducible refine LeO.bind ?_ (fun _ => ?_))
   | exact slices_Index_string_string.mono _ _ _
   | exact LeO.none _
   | refine LeO.ite ?_ ?_
   | refine LeO.bind ?_ (fun _ => ?_)
set_option maxHeartbeats 8000000 in
set_option maxRecDepth 100000 in
theorem slices_Contains_string_string.calls (k : Nat) (A0 : Option Addr) (c0 : Nat) (l0 : List ByteArray) (a1 : ByteArray) (r : Bool) (w : World) (hr0 : Kd.C Kd.string w A0 l0.length l0) (hc0 : l0.length ≤ c0) (h : slices_Contains_string_string.f k l0 a1 = some r) :
  Calls Tryd.prog 55 #[.slice A0 l0.length c0, .string a1] w fun e w' => e = .returned (.bool r) ∧ Drawn0 w w' := by
 have HR0 := Aside0.mk hr0
 have HC0 := Aside0.mk hc0
 clear hr0 hc0
 have H : ((slices_Index_string_string.f k l0 a1).bind fun t104 => (some (decide (t104 ≥ 0)))) = some r := h
 clear h
 replace H := Option.bind_eq_some_iff.mp H
 obtain ⟨t104, A30, H⟩ := H
 replace H : (some (decide (t104 ≥ 0))) = some r := H
 have A3 := Aside0.mk A30
 clear A30
 obtain rfl := Option.some.inj H
 go_enter Tryd.func55, Tryd.ntmps55
 go_wp2_with (first | ((with_reducible refine gate_callee (f := 59) rfl ?_); refine goesL_ (some 7) rfl rfl Tryd.func59 (by kernel_rfl) rfl #[.slice A0 l0.length c0, .string a1] rfl (by (try simp only [List.map_toArray, List.map_cons, List.map_nil]); first | done | rfl | (simp only [List.length_drop, List.length_take]; rfl)) ?_; (with_reducible refine (slices_Index_string_string.calls k _ _ l0 a1 t104 _ ?side1 ?side2 A3.out).mono ?_); (case side1 => repeat (first | exact HR0.out | (with_reducible refine Kd.C_alloc ?_ _) | (with_reducible refine Kd.C_drewN ?_ _) | (with_reducible refine Kd.C_drew ?_))); (case side2 => exact HC0.out); rintro e w' ⟨rfl, ⟨nd, rfl⟩⟩; refine ⟨_, rfl, ?_⟩))
 go_ret
 exact ⟨by first | rfl | (simp; done) | (simp [*]; done), by repeat (first | exact Drawn0.refl _ | apply Drawn0.step)⟩
-- NOT PRINTED: function 63 (utf8_decodeRuneInStringSlow)
-- NOT PRINTED: function 61 (utf8_DecodeRuneInString)
-- NOT PRINTED: function 62 (utf8_RuneCountInString)
def okRune (c : Nat) : Bool := (decide (97 ≤ c) && decide (c ≤ 122)) || (decide (65 ≤ c) && decide (c ≤ 90)) || (decide (48 ≤ c) && decide (c ≤ 57)) || c == 45 || c == 95 || c == 46 || decide (160 < c)
def nameAt : Nat → ByteArray → Nat → Bool
 | 0, _, _ => false
 | k + 1, s, pos => if pos < s.size then
   (if (Utf8.decode s pos).1 = 65533 ∧ (Lib.decodeGo (s.extract pos s.size)).2 = 1 then false else if okRune (Utf8.decode s pos).1 = true then nameAt k s (pos + (Utf8.decode s pos).2) else false)
  else !s.toList.isEmpty && decide (Lib.runeCount s ≤ 32)
def script_Name.f (a0 : ByteArray) : Option Bool := if a0.size ≤ 140737488351232 then some (nameAt (a0.size + 1) a0 0) else none
theorem below_then {B : Nat} {w0 w3 w4 : World} (h : Below B w0 w3) (k : Below w3.heap.size w3 w4) (hB : B ≤ w3.heap.size) : Below B w0 w4 :=
 ⟨k.os.trans h.os, k.tape.trans h.tape, k.output.trans h.output, Nat.le_trans h.size k.size, fun i hi => (k.block i (by omega)).trans (h.block i hi)⟩
theorem decode_pos (s : ByteArray) (pos : Nat) (h : pos < s.size) : 1 ≤ (Utf8.decode s pos).2 := by
 by_cases ha : (s[pos]'h).toNat < 128
 ·rw [decode_ascii s pos h ha]; exact Nat.le_refl _
 ·exact (decode_high s pos h (by omega)).2
theorem okRune_cases (c : Nat) : (okRune c = true ∧ ((97 ≤ c ∧ c ≤ 122) ∨ (65 ≤ c ∧ c ≤ 90 ∧ c < 97) ∨ (48 ≤ c ∧ c ≤ 57 ∧ c < 65) ∨ c = 45 ∨ c = 95 ∨ c = 46 ∨ 160 < c)) ∨ (okRune c = false ∧ ((c < 48 ∧ c ≠ 45 ∧ c ≠ 46) ∨ (57 < c ∧ c < 65) ∨ (90 < c ∧ c < 97 ∧ c ≠ 95) ∨ (122 < c ∧ c ≤ 160))) := by
 cases h : okRune c with
 | true => refine Or.inl ⟨rfl, ?_⟩; simp [okRune] at h; omega
 | false => refine Or.inr ⟨rfl, ?_⟩; simp [okRune] at h; omega
set_option maxHeartbeats 8000000 in
set_option maxRecDepth 1000000 in
theorem script_Name.calls (a0 : ByteArray) (r : Bool) (w : World) (hG : Glob w) (h : script_Name.f a0 = some r) :
  Calls Tryd.prog 58 #[.string a0] w fun e w' => e = .returned (.bool r) ∧ Below w.heap.size w w' := by
 unfold script_Name.f at h
 by_cases hsz : a0.size ≤ 140737488351232
 case neg => rw [if_neg hsz] at h; cases h
 rw [if_pos hsz] at h
 have HH := Aside0.mk (Option.some.inj h)
 clear h
 have HG := Aside0.mk hG
 clear hG
 go_enter Tryd.func58, Tryd.ntmps58
 go_wp2
 go_loopg [] (a0.size + 1) (fun gk wr => ∃ pos : Nat, wr.heap[w.heap.size]? = some (Obj.stringIter a0 pos) ∧ 1 ≤ gk ∧ a0.size < pos + gk ∧ Aside0 (nameAt gk a0 pos = r) ∧ Aside0 (Below w.heap.size w wr))
 case atStart => exact ⟨0, World.iter_heap w a0 0, by omega, by omega, HH, ⟨below_alloc (Below.refl _ _) _⟩⟩
 case round =>
  obtain ⟨pos, hit, hk1, hk, HD, HB⟩ := hrel
  have hkb : w.heap.size < wr.heap.size := blk_lt hit
  have hGw : Glob wr := Glob.below HG.out HB.out
  by_cases hlt : pos < a0.size
  ·obtain ⟨k, rfl⟩ : ∃ k, gk = k + 1 := ⟨gk - 1, by omega⟩
   have hD := HD.out
   rw [nameAt, if_pos hlt] at hD
   have hnx : ∀ ty, (Instr.next (.pointer (some ⟨w.heap.size, 0, none⟩)) true ty).run Tryd.prog wr = _ := fun ty => Lib.run_next_any_at wr w.heap.size a0 pos ty hit hlt
   have hpos := decode_pos a0 pos hlt
   have hle := decode_le a0 pos
   obtain ⟨q, hq⟩ : ∃ q : Nat, pos + (Utf8.decode a0 pos).2 = q := ⟨_, rfl⟩
   obtain ⟨c, hc⟩ : ∃ c : Nat, (Utf8.decode a0 pos).1 = c := ⟨_, rfl⟩
   obtain ⟨d, hd⟩ : ∃ d : Nat × Nat, Lib.decodeGo (a0.extract pos a0.size) = d := ⟨_, rfl⟩
   obtain ⟨d1, d2⟩ := d
   have hNit := Lib.iterAt_heap wr w.heap.size a0 pos q hit
   have hNB := Lib.below_iterAt HB.out (k := w.heap.size) (Nat.le_refl _) a0 q
   have hNG : Glob (wr.iterAt w.heap.size a0 q) := Glob.below HG.out hNB
   have hC := Tryd.utf8_DecodeRuneInString (a0.extract pos a0.size) (wr.iterAt w.heap.size a0 q) hNG.utf8
   have hqp : pos < q := by omega
   rw [hq, hc] at hnx
   rw [hq, hc, hd] at hD
   rw [hd] at hC
   rw [hc] at hle
   have HC := Aside0.mk hC
   have KB := Aside0.mk hNB
   have KI := Aside0.mk hNit
   have lo : (pos : Int) ≤ (a0.size : Int) := by omega
   have lo0 : (0 : Int) ≤ (pos : Int) := by omega
   clear hC hNB hNit hNG hGw HB hit hq hc hd hpos
   have KI2 : w.heap.size < (wr.iterAt w.heap.size a0 q).heap.size ∧ (wr.iterAt w.heap.size a0 q).heap[w.heap.size]? = some (Obj.stringIter a0 q) := ⟨blk_lt KI.out, KI.out⟩
   clear KI
   have KI := Aside0.mk KI2
   clear KI2
   by_cases hbad : c = 65533 ∧ d2 = 1
   ·rw [if_pos hbad] at hD
    obtain ⟨rfl, rfl⟩ := hbad
    subst hD
    go_wp2_with (first | (go_at_call 61; (with_reducible refine HC.out.mono ?_); rintro e w2 ⟨rfl, gb1⟩; have G1 := Aside0.mk (below_then KB.out gb1 KB.out.size); have G2 := Aside0.mk ((gb1.block w.heap.size KI.out.1).trans KI.out.2); clear gb1))
    go_ret
    exact ⟨rfl, G1.out⟩
   ·rw [if_neg hbad] at hD
    have hnb : (((c : Int) == 65533) = true ∧ ((d2 : Int) == 1) = false) ∨ ((c : Int) == 65533) = false := by
     by_cases e : c = 65533
     ·exact Or.inl ⟨by rw [e]; rfl, beq_eq_false_iff_ne.2 (fun q => hbad ⟨e, by omega⟩)⟩
     ·exact Or.inr (beq_eq_false_iff_ne.2 (by omega))
    clear hbad
    rcases okRune_cases c with ⟨hok, hcl⟩ | ⟨hok, hcl⟩
    ·rw [if_pos hok] at hD
     have HD2 := Aside0.mk hD
     clear hD hok
     rcases hnb with ⟨n1, n2⟩ | n1
     ·have e : c = 65533 := by have := eq_of_beq n1; omega
      subst e
      clear hcl n1
      go_wp2_with (first | (go_at_call 61; (with_reducible refine HC.out.mono ?_); rintro e w2 ⟨rfl, gb1⟩; have G1 := Aside0.mk (below_then KB.out gb1 KB.out.size); have G2 := Aside0.mk ((gb1.block w.heap.size KI.out.1).trans KI.out.2); clear gb1))
      go_roundg k
      case measure => exact Nat.lt_succ_self _
      case rel => exact ⟨q, G2.out, by omega, by omega, HD2, G1⟩
     ·rcases hcl with ⟨f1, f2⟩ | ⟨f1, f2, f3⟩ | ⟨f1, f2, f3⟩ | rfl | rfl | rfl | f1
      ·have g1 : (97 : Int) ≤ (c : Int) := by omega
       have g2 : (c : Int) ≤ 122 := by omega
       clear f1 f2
       go_wp2_with (first | (go_at_call 61; (with_reducible refine HC.out.mono ?_); rintro e w2 ⟨rfl, gb1⟩; have G1 := Aside0.mk (below_then KB.out gb1 KB.out.size); have G2 := Aside0.mk ((gb1.block w.heap.size KI.out.1).trans KI.out.2); clear gb1))
       go_roundg k
       case measure => exact Nat.lt_succ_self _
       case rel => exact ⟨q, G2.out, by omega, by omega, HD2, G1⟩
      ·have g1 : (65 : Int) ≤ (c : Int) := by omega
       have g2 : (c : Int) ≤ 90 := by omega
       have g3 : decide ((97 : Int) ≤ (c : Int)) = false := decide_eq_false (by omega)
       clear f1 f2 f3
       go_wp2_with (first | (go_at_call 61; (with_reducible refine HC.out.mono ?_); rintro e w2 ⟨rfl, gb1⟩; have G1 := Aside0.mk (below_then KB.out gb1 KB.out.size); have G2 := Aside0.mk ((gb1.block w.heap.size KI.out.1).trans KI.out.2); clear gb1))
       go_roundg k
       case measure => exact Nat.lt_succ_self _
       case rel => exact ⟨q, G2.out, by omega, by omega, HD2, G1⟩
      ·have g1 : (48 : Int) ≤ (c : Int) := by omega
       have g2 : (c : Int) ≤ 57 := by omega
       have g3 : decide ((97 : Int) ≤ (c : Int)) = false := decide_eq_false (by omega)
       have g4 : decide ((65 : Int) ≤ (c : Int)) = false := decide_eq_false (by omega)
       clear f1 f2 f3
       go_wp2_with (first | (go_at_call 61; (with_reducible refine HC.out.mono ?_); rintro e w2 ⟨rfl, gb1⟩; have G1 := Aside0.mk (below_then KB.out gb1 KB.out.size); have G2 := Aside0.mk ((gb1.block w.heap.size KI.out.1).trans KI.out.2); clear gb1))
       go_roundg k
       case measure => exact Nat.lt_succ_self _
       case rel => exact ⟨q, G2.out, by omega, by omega, HD2, G1⟩
      ·go_wp2_with (first | (go_at_call 61; (with_reducible refine HC.out.mono ?_); rintro e w2 ⟨rfl, gb1⟩; have G1 := Aside0.mk (below_then KB.out gb1 KB.out.size); have G2 := Aside0.mk ((gb1.block w.heap.size KI.out.1).trans KI.out.2); clear gb1))
       go_roundg k
       case measure => exact Nat.lt_succ_self _
       case rel => exact ⟨q, G2.out, by omega, by omega, HD2, G1⟩
      ·go_wp2_with (first | (go_at_call 61; (with_reducible refine HC.out.mono ?_); rintro e w2 ⟨rfl, gb1⟩; have G1 := Aside0.mk (below_then KB.out gb1 KB.out.size); have G2 := Aside0.mk ((gb1.block w.heap.size KI.out.1).trans KI.out.2); clear gb1))
       go_roundg k
       case measure => exact Nat.lt_succ_self _
       case rel => exact ⟨q, G2.out, by omega, by omega, HD2, G1⟩
      ·go_wp2_with (first | (go_at_call 61; (with_reducible refine HC.out.mono ?_); rintro e w2 ⟨rfl, gb1⟩; have G1 := Aside0.mk (below_then KB.out gb1 KB.out.size); have G2 := Aside0.mk ((gb1.block w.heap.size KI.out.1).trans KI.out.2); clear gb1))
       go_roundg k
       case measure => exact Nat.lt_succ_self _
       case rel => exact ⟨q, G2.out, by omega, by omega, HD2, G1⟩
      ·have g1 : (97 : Int) ≤ (c : Int) := by omega
       have g2 : decide ((c : Int) ≤ 122) = false := decide_eq_false (by omega)
       have g3 : (65 : Int) ≤ (c : Int) := by omega
       have g4 : decide ((c : Int) ≤ 90) = false := decide_eq_false (by omega)
       have g5 : (48 : Int) ≤ (c : Int) := by omega
       have g6 : decide ((c : Int) ≤ 57) = false := decide_eq_false (by omega)
       have g7 : ((c : Int) != 45) = true := bne_iff_ne.2 (by omega)
       have g7b : ((c : Int) == 45) = false := beq_eq_false_iff_ne.2 (by omega)
       have g7c : ((c : Int) = 45) = False := eq_false (by omega)
       have g8 : ((c : Int) != 95) = true := bne_iff_ne.2 (by omega)
       have g8b : ((c : Int) == 95) = false := beq_eq_false_iff_ne.2 (by omega)
       have g8c : ((c : Int) = 95) = False := eq_false (by omega)
       have g9 : ((c : Int) != 46) = true := bne_iff_ne.2 (by omega)
       have g9b : ((c : Int) == 46) = false := beq_eq_false_iff_ne.2 (by omega)
       have g9c : ((c : Int) = 46) = False := eq_false (by omega)
       have g10 : decide ((c : Int) ≤ 160) = false := decide_eq_false (by omega)
       clear f1
       go_wp2_with (first | (go_at_call 61; (with_reducible refine HC.out.mono ?_); rintro e w2 ⟨rfl, gb1⟩; have G1 := Aside0.mk (below_then KB.out gb1 KB.out.size); have G2 := Aside0.mk ((gb1.block w.heap.size KI.out.1).trans KI.out.2); clear gb1))
       go_roundg k
       case measure => exact Nat.lt_succ_self _
       case rel => exact ⟨q, G2.out, by omega, by omega, HD2, G1⟩
    ·rw [if_neg (by rw [hok]; simp)] at hD
     subst hD
     clear hok
     have n1 : ((c : Int) == 65533) = false := by
      rcases hnb with ⟨n1, _⟩ | n1
      ·have := eq_of_beq n1; omega
      ·exact n1
     clear hnb
     have g7 : ((c : Int) != 45) = true := bne_iff_ne.2 (by omega)
     have g7b : ((c : Int) == 45) = false := beq_eq_false_iff_ne.2 (by omega)
     have g7c : ((c : Int) = 45) = False := eq_false (by omega)
     have g8 : ((c : Int) != 95) = true := bne_iff_ne.2 (by omega)
     have g8b : ((c : Int) == 95) = false := beq_eq_false_iff_ne.2 (by omega)
     have g8c : ((c : Int) = 95) = False := eq_false (by omega)
     have g9 : ((c : Int) != 46) = true := bne_iff_ne.2 (by omega)
     have g9b : ((c : Int) == 46) = false := beq_eq_false_iff_ne.2 (by omega)
     have g9c : ((c : Int) = 46) = False := eq_false (by omega)
     have g10 : (c : Int) ≤ 160 := by omega
     have g10b : decide ((c : Int) ≤ 160) = true := decide_eq_true g10
     rcases hcl with ⟨f1, f2, f3⟩ | ⟨f1, f2⟩ | ⟨f1, f2, f3⟩ | ⟨f1, f2⟩
     ·have g1 : decide ((97 : Int) ≤ (c : Int)) = false := decide_eq_false (by omega)
      have g2 : decide ((65 : Int) ≤ (c : Int)) = false := decide_eq_false (by omega)
      have g3 : decide ((48 : Int) ≤ (c : Int)) = false := decide_eq_false (by omega)
      clear f1 f2 f3
      go_wp2_with (first | (go_at_call 61; (with_reducible refine HC.out.mono ?_); rintro e w2 ⟨rfl, gb1⟩; have G1 := Aside0.mk (below_then KB.out gb1 KB.out.size); have G2 := Aside0.mk ((gb1.block w.heap.size KI.out.1).trans KI.out.2); clear gb1))
      go_ret
      exact ⟨rfl, G1.out⟩
     ·have g1 : decide ((97 : Int) ≤ (c : Int)) = false := decide_eq_false (by omega)
      have g2 : decide ((65 : Int) ≤ (c : Int)) = false := decide_eq_false (by omega)
      have g3 : (48 : Int) ≤ (c : Int) := by omega
      have g4 : decide ((c : Int) ≤ 57) = false := decide_eq_false (by omega)
      clear f1 f2
      go_wp2_with (first | (go_at_call 61; (with_reducible refine HC.out.mono ?_); rintro e w2 ⟨rfl, gb1⟩; have G1 := Aside0.mk (below_then KB.out gb1 KB.out.size); have G2 := Aside0.mk ((gb1.block w.heap.size KI.out.1).trans KI.out.2); clear gb1))
      go_ret
      exact ⟨rfl, G1.out⟩
     ·have g1 : decide ((97 : Int) ≤ (c : Int)) = false := decide_eq_false (by omega)
      have g2 : (65 : Int) ≤ (c : Int) := by omega
      have g3 : (48 : Int) ≤ (c : Int) := by omega
      have g4 : decide ((c : Int) ≤ 57) = false := decide_eq_false (by omega)
      have g5 : decide ((c : Int) ≤ 90) = false := decide_eq_false (by omega)
      clear f1 f2 f3
      go_wp2_with (first | (go_at_call 61; (with_reducible refine HC.out.mono ?_); rintro e w2 ⟨rfl, gb1⟩; have G1 := Aside0.mk (below_then KB.out gb1 KB.out.size); have G2 := Aside0.mk ((gb1.block w.heap.size KI.out.1).trans KI.out.2); clear gb1))
      go_ret
      exact ⟨rfl, G1.out⟩
     ·have g1 : (97 : Int) ≤ (c : Int) := by omega
      have g2 : (65 : Int) ≤ (c : Int) := by omega
      have g3 : (48 : Int) ≤ (c : Int) := by omega
      have g4 : decide ((c : Int) ≤ 57) = false := decide_eq_false (by omega)
      have g5 : decide ((c : Int) ≤ 90) = false := decide_eq_false (by omega)
      have g6 : decide ((c : Int) ≤ 122) = false := decide_eq_false (by omega)
      clear f1 f2
      go_wp2_with (first | (go_at_call 61; (with_reducible refine HC.out.mono ?_); rintro e w2 ⟨rfl, gb1⟩; have G1 := Aside0.mk (below_then KB.out gb1 KB.out.size); have G2 := Aside0.mk ((gb1.block w.heap.size KI.out.1).trans KI.out.2); clear gb1))
      go_ret
      exact ⟨rfl, G1.out⟩
  ·have hnx : ∀ ty, (Instr.next (.pointer (some ⟨w.heap.size, 0, none⟩)) true ty).run Tryd.prog wr = _ := fun ty => Lib.run_next_end_at wr w.heap.size a0 pos ty hit hlt
   obtain ⟨k, rfl⟩ : ∃ k, gk = k + 1 := ⟨gk - 1, by omega⟩
   have hD := HD.out
   rw [nameAt, if_neg hlt] at hD
   have HC := Aside0.mk (Tryd.utf8_RuneCountInString a0 wr (by omega))
   have KB := HB
   clear HB hit
   cases he : a0.toList.isEmpty with
   | true =>
    rw [he] at hD
    have hr : r = false := by rw [← hD]; simp
    subst hr
    have hse : (a0.toList == []) = true := by
     cases hl : a0.toList with
     | nil => rfl
     | cons x y => rw [hl] at he; cases he
    clear hD
    go_wp2
    go_ret
    exact ⟨rfl, KB.out⟩
   | false =>
    rw [he] at hD
    have hr : r = decide (Lib.runeCount a0 ≤ 32) := by rw [← hD]; simp
    have hlc : ((Lib.runeCount a0 : Nat) : Int) ≤ 32 ↔ Lib.runeCount a0 ≤ 32 := by omega
    clear hD
    go_wp2_with (first | (go_at_call 62; (with_reducible refine HC.out.mono ?_); rintro e w2 ⟨rfl, p2, rfl⟩))
    go_ret
    refine ⟨?_, below_then KB.out (below_alloc (Below.refl _ _) _) KB.out.size⟩
    rw [hr]
    simp [hlc]
def conf_names.l0 : Nat → List ByteArray → List ByteArray → Int → Int → Option (Bool)
 | 0, _, _, _, _ => none
 | k + 1, x0, x5, x6, x7 => if x7 < x6 then (if 0 ≤ x7 then (if x7 < (x5.length : Int) then ((script_Name.f (rdOf ByteArray.empty x5 x7)).bind fun t106 => (if t106 = true then (if x7 ≤ (x0.length : Int) then ((slices_Contains_string_string.f k (x0.take (x7 : Int).toNat) (rdOf ByteArray.empty x5 x7)).bind fun t108 => (if t108 = true then (some false) else (conf_names.l0 k x0 x5 x6 (wrap64 (x7 + 1))))) else (none)) else (some false))) else (none)) else (none)) else (some true)
def conf_names.f (k : Nat) (l0 : List ByteArray) : Option (Bool) := conf_names.l0 k l0 l0 (l0.length : Int) 0
theorem conf_names.mono_l : ∀ k, (∀ y0 y1 y2 y3, LeO (conf_names.l0 k y0 y1 y2 y3) (conf_names.l0 (k + 1) y0 y1 y2 y3))
 | 0 => fun _ _ _ _ r h => by simp [conf_names.l0] at h
 | k + 1 => by
  have ih0 := conf_names.mono_l k
  ·intro y0 y1 y2 y3
   unfold conf_names.l0
   repeat' first
   | (with_reducible exact ih0 _ _ _ _)
   | (with_reducible exact slices_Contains_string_string.mono _ _ _)
   | (with_reducible exact LeO.refl _)
   | (with_reducible exact LeO.none _)
   | (with_reducible refine LeO.ite ?_ ?_)
   | (with_reducible refine LeO.bind ?_ (fun _ => ?_))
   | exact ih0 _ _ _ _
   | exact slices_Contains_string_string.mono _ _ _
   | exact LeO.none _
   | refine LeO.ite ?_ ?_
   | refine LeO.bind ?_ (fun _ => ?_)
theorem conf_names.mono : ∀ a0 k, LeO (conf_names.f k a0) (conf_names.f (k + 1) a0) := by
 intro a0 k
 have ih0 := conf_names.mono_l k
 unfold conf_names.f
 repeat' first
   | (with_reducible exact ih0 _ _ _ _)
   | (with_reducible exact slices_Contains_string_string.mono _ _ _)
   | (with_reducible exact LeO.refl _)
   | (with_reducible exact LeO.none _)
   | (with_reducible refine LeO.ite ?_ ?_)
   | (with_reducible refine LeO.bind ?_ (fun _ => ?_))
   | exact ih0 _ _ _ _
   | exact slices_Contains_string_string.mono _ _ _
   | exact LeO.none _
   | refine LeO.ite ?_ ?_
   | refine LeO.bind ?_ (fun _ => ?_)
set_option maxHeartbeats 8000000 in
set_option maxRecDepth 100000 in
theorem conf_names.calls (k : Nat) (A0 : Option Addr) (c0 : Nat) (l0 : List ByteArray) (r : Bool) (w : World) (hG : Glob w) (hr0 : Kd.C Kd.string w A0 l0.length l0) (hc0 : l0.length ≤ c0) (h : conf_names.f k l0 = some r) :
  Calls Tryd.prog 54 #[.slice A0 l0.length c0] w fun e w' => e = .returned (.bool r) ∧ Below w.heap.size w w' := by
 have HG := Aside0.mk hG
 clear hG
 have HR0 := Aside0.mk hr0
 have HC0 := Aside0.mk hc0
 clear hr0 hc0
 have HB := Aside0.mk (Below.refl w.heap.size w)
 have H : (conf_names.l0 k l0 l0 (l0.length : Int) 0) = some r := h
 clear h
 have H' := Aside0.mk H
 clear H
 go_enter Tryd.func54, Tryd.ntmps54
 go_wp2
 go_loopg [7] k (fun kq v7 w' => ∃ (x7_1 : Int), v7 = .int .i64 x7_1 ∧ Aside0 (conf_names.l0 kq l0 l0 (l0.length : Int) x7_1 = some r) ∧ Aside0 (kq ≤ k) ∧ Aside0 (Below w.heap.size w w'))
 case atStart => exact ⟨(0), (by first | rfl | (simp; done) | (simp [*]; done)), H', ⟨Nat.le_refl _⟩, ⟨by repeat (first | (with_reducible first | exact HB.out | apply below_alloc | apply pw_below_drewN | apply below_drew1) | exact HB.out)⟩⟩
 case round =>
  clear H'
  obtain ⟨x7_1, rfl, HA, HK1, HB⟩ := hrel
  cases gk with
  | zero => exact absurd HA.out (by simp [conf_names.l0])
  | succ k1 =>
   have H := HA.out
   clear HA
   simp only [conf_names.l0] at H
   by_cases c2 : x7_1 < (l0.length : Int)
   ·rw [if_pos c2] at H
    have c2b0 : decide (x7_1 < (l0.length : Int)) = true := decide_eq_true c2
    clear c2
    by_cases c3 : 0 ≤ x7_1
    ·rw [if_pos c3] at H
     have c3b0 : decide (0 ≤ x7_1) = true := decide_eq_true c3
     clear c3
     by_cases c4 : x7_1 < (l0.length : Int)
     ·rw [if_pos c4] at H
      have c4b0 : decide (x7_1 < (l0.length : Int)) = true := decide_eq_true c4
      clear c4
      replace H := Option.bind_eq_some_iff.mp H
      obtain ⟨t106, A50, H⟩ := H
      replace H : (if t106 = true then (if x7_1 ≤ (l0.length : Int) then ((slices_Contains_string_string.f k1 (l0.take (x7_1 : Int).toNat) (rdOf ByteArray.empty l0 x7_1)).bind fun t108 => (if t108 = true then (some false) else (conf_names.l0 k1 l0 l0 (l0.length : Int) (wrap64 (x7_1 + 1))))) else (none)) else (some false)) = some r := H
      have A5 := Aside0.mk A50
      clear A50
      by_cases c6 : t106 = true
      ·subst c6
       have H1 : (if x7_1 ≤ (l0.length : Int) then ((slices_Contains_string_string.f k1 (l0.take (x7_1 : Int).toNat) (rdOf ByteArray.empty l0 x7_1)).bind fun t108 => (if t108 = true then (some false) else (conf_names.l0 k1 l0 l0 (l0.length : Int) (wrap64 (x7_1 + 1))))) else (none)) = some r := by rw [if_pos rfl] at H; exact H
       clear H
       have H := H1
       clear H1
       have c7b0 := eq_true (of_decide_eq_true (by first | (with_reducible assumption) | assumption) : 0 ≤ x7_1)
       by_cases c8 : x7_1 ≤ (l0.length : Int)
       ·rw [if_pos c8] at H
        have c8b0 := eq_true c8
        have c8b1 : decide (x7_1 ≤ (l0.length : Int)) = true := decide_eq_true c8
        clear c8
        replace H := Option.bind_eq_some_iff.mp H
        obtain ⟨t108, A90, H⟩ := H
        replace H : (if t108 = true then (some false) else (conf_names.l0 k1 l0 l0 (l0.length : Int) (wrap64 (x7_1 + 1)))) = some r := H
        have A9 := Aside0.mk A90
        clear A90
        by_cases c10 : t108 = true
        ·subst c10
         have H1 : (some false) = some r := by rw [if_pos rfl] at H; exact H
         clear H
         have H := H1
         clear H1
         obtain rfl := Option.some.inj H
         have p105 : 0 ≤ (x7_1 : Int) := of_decide_eq_true (by first | (with_reducible assumption) | assumption)
         have q105 : x7_1 < (l0.length : Int) := of_decide_eq_true (by first | (with_reducible assumption) | assumption)
         obtain ⟨ad105, e105, hx105_0⟩ := Kd.at_string HR0.out x7_1 p105 q105
         cases e105
         replace hx105_0 := (HB.out.cell (World.block_lt_of_cell? w _ hx105_0)).trans hx105_0
         replace p105 := eq_true p105
         replace q105 := eq_true q105
         go_wp2_with (first | ((with_reducible refine gate_callee (f := 58) rfl ?_); refine goesL_ (some 13) rfl rfl Tryd.func58 (by kernel_rfl) rfl #[.string (rdOf ByteArray.empty l0 x7_1)] rfl (by (try simp only [List.map_toArray, List.map_cons, List.map_nil]); first | done | rfl | (simp only [List.length_drop, List.length_take]; rfl)) ?_; (with_reducible refine (script_Name.calls (rdOf ByteArray.empty l0 x7_1) true _ ?side1 A5.out).mono ?_); (case side1 => exact Glob.below HG.out (by repeat (first | (with_reducible first | exact HB.out | apply below_alloc | apply pw_below_drewN | apply below_drew1) | exact HB.out))); rintro e w11 ⟨rfl, hb⟩; refine ⟨_, rfl, ?_⟩; have n0_ := Aside0.mk (below_step (by repeat (first | (with_reducible first | exact HB.out | apply below_alloc | apply pw_below_drewN | apply below_drew1) | exact HB.out)) hb); clear HB; have HB := n0_; clear n0_; (try clear hb); (try clear hb2); (try clear hk); (try clear hi); obtain ⟨i012, hi012, _, hsz12, _⟩ := info_parts info9; obtain ⟨hcut12, hA12, hC12⟩ := print_take_of (P := Tryd.prog) Value.string (⟨#[]⟩ : ByteArray) 92 9 .i64 Tryd.underlying92 hi012 hsz12 (some ad105) c0 l0 x7_1 (of_decide_eq_true (by first | (with_reducible assumption) | assumption)) (of_decide_eq_true (by first | (with_reducible assumption) | assumption)) HC0.out; have HR107 := Aside0.mk (Kd.C_of_reads (h1 := fun _ => rfl) (hA12 _ (Kd.reads_of_C HR0.out))); have HC107 := Aside0.mk hC12; clear hA12 hC12 hi012 hsz12) | (go_at_call 55; refine calls_of_args (args' := #[.slice _ (l0.take (x7_1 : Int).toNat).length _, .string (rdOf ByteArray.empty l0 x7_1)]) (by first | rfl | (have hl_ : (l0.take (x7_1 : Int).toNat).length = (x7_1 : Int).toNat := List.length_take_of_le (by have h_ : (x7_1 ≤ (l0.length : Int)) = True := (by assumption); have h2_ := of_eq_true h_; omega); rw [hl_])) ?_; (with_reducible refine (slices_Contains_string_string.calls k1 _ _ (l0.take (x7_1 : Int).toNat) (rdOf ByteArray.empty l0 x7_1) true _ ?side1 ?side2 A9.out).mono ?_); (case side1 => repeat (first | exact (Kd.C_below HR107.out HB.out) | (with_reducible refine Kd.C_alloc ?_ _) | (with_reducible refine Kd.C_drewN ?_ _) | (with_reducible refine Kd.C_drew ?_))); (case side2 => exact HC107.out); rintro e w' ⟨rfl, ⟨nd, rfl⟩⟩))
         go_ret
         exact ⟨by first | rfl | (simp [errW_none, errW_some] <;> rfl) | (simp [*, errW_none, errW_some] <;> rfl), by repeat (first | (with_reducible first | exact HB.out | apply below_alloc | apply pw_below_drewN | apply below_drew1) | exact HB.out)⟩
        ·replace c10 := Bool.eq_false_iff.mpr c10
         subst c10
         have H1 : (conf_names.l0 k1 l0 l0 (l0.length : Int) (wrap64 (x7_1 + 1))) = some r := by rw [if_neg (show ¬ (false = true) by decide)] at H; exact H
         clear H
         have H := H1
         clear H1
         have H' := Aside0.mk H
         clear H
         have p105 : 0 ≤ (x7_1 : Int) := of_decide_eq_true (by first | (with_reducible assumption) | assumption)
         have q105 : x7_1 < (l0.length : Int) := of_decide_eq_true (by first | (with_reducible assumption) | assumption)
         obtain ⟨ad105, e105, hx105_0⟩ := Kd.at_string HR0.out x7_1 p105 q105
         cases e105
         replace hx105_0 := (HB.out.cell (World.block_lt_of_cell? w _ hx105_0)).trans hx105_0
         replace p105 := eq_true p105
         replace q105 := eq_true q105
         go_wp2_with (first | ((with_reducible refine gate_callee (f := 58) rfl ?_); refine goesL_ (some 13) rfl rfl Tryd.func58 (by kernel_rfl) rfl #[.string (rdOf ByteArray.empty l0 x7_1)] rfl (by (try simp only [List.map_toArray, List.map_cons, List.map_nil]); first | done | rfl | (simp only [List.length_drop, List.length_take]; rfl)) ?_; (with_reducible refine (script_Name.calls (rdOf ByteArray.empty l0 x7_1) true _ ?side1 A5.out).mono ?_); (case side1 => exact Glob.below HG.out (by repeat (first | (with_reducible first | exact HB.out | apply below_alloc | apply pw_below_drewN | apply below_drew1) | exact HB.out))); rintro e w13 ⟨rfl, hb⟩; refine ⟨_, rfl, ?_⟩; have n0_ := Aside0.mk (below_step (by repeat (first | (with_reducible first | exact HB.out | apply below_alloc | apply pw_below_drewN | apply below_drew1) | exact HB.out)) hb); clear HB; have HB := n0_; clear n0_; (try clear hb); (try clear hb2); (try clear hk); (try clear hi); obtain ⟨i014, hi014, _, hsz14, _⟩ := info_parts info9; obtain ⟨hcut14, hA14, hC14⟩ := print_take_of (P := Tryd.prog) Value.string (⟨#[]⟩ : ByteArray) 92 9 .i64 Tryd.underlying92 hi014 hsz14 (some ad105) c0 l0 x7_1 (of_decide_eq_true (by first | (with_reducible assumption) | assumption)) (of_decide_eq_true (by first | (with_reducible assumption) | assumption)) HC0.out; have HR107 := Aside0.mk (Kd.C_of_reads (h1 := fun _ => rfl) (hA14 _ (Kd.reads_of_C HR0.out))); have HC107 := Aside0.mk hC14; clear hA14 hC14 hi014 hsz14) | (go_at_call 55; refine calls_of_args (args' := #[.slice _ (l0.take (x7_1 : Int).toNat).length _, .string (rdOf ByteArray.empty l0 x7_1)]) (by first | rfl | (have hl_ : (l0.take (x7_1 : Int).toNat).length = (x7_1 : Int).toNat := List.length_take_of_le (by have h_ : (x7_1 ≤ (l0.length : Int)) = True := (by assumption); have h2_ := of_eq_true h_; omega); rw [hl_])) ?_; (with_reducible refine (slices_Contains_string_string.calls k1 _ _ (l0.take (x7_1 : Int).toNat) (rdOf ByteArray.empty l0 x7_1) false _ ?side1 ?side2 A9.out).mono ?_); (case side1 => repeat (first | exact (Kd.C_below HR107.out HB.out) | (with_reducible refine Kd.C_alloc ?_ _) | (with_reducible refine Kd.C_drewN ?_ _) | (with_reducible refine Kd.C_drew ?_))); (case side2 => exact HC107.out); rintro e w' ⟨rfl, ⟨nd, rfl⟩⟩))
         go_roundg k1
         case measure => have := HK1.out; omega
         case rel => exact ⟨(wrap64 (x7_1 + 1)), (by first | rfl | (simp; done) | (simp [*]; done)), H', ⟨by have := HK1.out; omega⟩, ⟨by repeat (first | (with_reducible first | exact HB.out | apply below_alloc | apply pw_below_drewN | apply below_drew1) | exact HB.out)⟩⟩
       ·rw [if_neg c8] at H
        exact absurd H (by simp)
      ·replace c6 := Bool.eq_false_iff.mpr c6
       subst c6
       have H1 : (some false) = some r := by rw [if_neg (show ¬ (false = true) by decide)] at H; exact H
       clear H
       have H := H1
       clear H1
       obtain rfl := Option.some.inj H
       have p105 : 0 ≤ (x7_1 : Int) := of_decide_eq_true (by first | (with_reducible assumption) | assumption)
       have q105 : x7_1 < (l0.length : Int) := of_decide_eq_true (by first | (with_reducible assumption) | assumption)
       obtain ⟨ad105, e105, hx105_0⟩ := Kd.at_string HR0.out x7_1 p105 q105
       cases e105
       replace hx105_0 := (HB.out.cell (World.block_lt_of_cell? w _ hx105_0)).trans hx105_0
       replace p105 := eq_true p105
       replace q105 := eq_true q105
       go_wp2_with (first | ((with_reducible refine gate_callee (f := 58) rfl ?_); refine goesL_ (some 13) rfl rfl Tryd.func58 (by kernel_rfl) rfl #[.string (rdOf ByteArray.empty l0 x7_1)] rfl (by (try simp only [List.map_toArray, List.map_cons, List.map_nil]); first | done | rfl | (simp only [List.length_drop, List.length_take]; rfl)) ?_; (with_reducible refine (script_Name.calls (rdOf ByteArray.empty l0 x7_1) false _ ?side1 A5.out).mono ?_); (case side1 => exact Glob.below HG.out (by repeat (first | (with_reducible first | exact HB.out | apply below_alloc | apply pw_below_drewN | apply below_drew1) | exact HB.out))); rintro e w15 ⟨rfl, hb⟩; refine ⟨_, rfl, ?_⟩; have n0_ := Aside0.mk (below_step (by repeat (first | (with_reducible first | exact HB.out | apply below_alloc | apply pw_below_drewN | apply below_drew1) | exact HB.out)) hb); clear HB; have HB := n0_; clear n0_; (try clear hb); (try clear hb2); (try clear hk); (try clear hi)))
       go_ret
       exact ⟨by first | rfl | (simp [errW_none, errW_some] <;> rfl) | (simp [*, errW_none, errW_some] <;> rfl), by repeat (first | (with_reducible first | exact HB.out | apply below_alloc | apply pw_below_drewN | apply below_drew1) | exact HB.out)⟩
     ·rw [if_neg c4] at H
      exact absurd H (by simp)
    ·rw [if_neg c3] at H
     exact absurd H (by simp)
   ·rw [if_neg c2] at H
    have c2b0 : decide (x7_1 < (l0.length : Int)) = false := decide_eq_false c2
    clear c2
    obtain rfl := Option.some.inj H
    go_wp2
    go_ret
    exact ⟨by first | rfl | (simp [errW_none, errW_some] <;> rfl) | (simp [*, errW_none, errW_some] <;> rfl), by repeat (first | (with_reducible first | exact HB.out | apply below_alloc | apply pw_below_drewN | apply below_drew1) | exact HB.out)⟩
end Go.Proofs.YtfccdngejfnmkaaDoor.P
