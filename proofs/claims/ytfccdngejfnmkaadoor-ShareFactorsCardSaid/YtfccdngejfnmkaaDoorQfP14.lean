/- cut to what one law reaches -/
import Derived.Test.YtfccdngejfnmkaaDoorQfP0
import Derived.Test.YtfccdngejfnmkaaDoorQfP1
import Derived.Test.YtfccdngejfnmkaaDoorQfP4
import Derived.Test.YtfccdngejfnmkaaDoorQfP6
import Derived.Test.YtfccdngejfnmkaaDoorQfP7
import Derived.Test.YtfccdngejfnmkaaDoorQfP12
namespace Go.Proofs.YtfccdngejfnmkaaDoor.P
open Go.RowKit Go.Proofs.YtfccdngejfnmkaaDoorW.PrintWords Go.Proofs.YtfccdngejfnmkaaDoorW.PrintLast Go.Proofs.YtfccdngejfnmkaaDoorW.PrintMore
attribute [local go_sem] max2_int min2_int max_two min_two max_three min_three max_four min_four   -- for this text's walks alone
set_option linter.unusedVariables false
set_option linter.unusedSimpArgs false
attribute [local go_sem] isSome_setCell
mutual
def gangerref11_norm.l0 : Nat → List (S37) → Int → Int → Int → Int → Option (Int)
 | 0, _, _, _, _, _ => none
 | k + 1, x0, x1, x5, x6, x7 => if x7 < (x0.length : Int) then (if 0 ≤ x7 then (if 0 ≤ x1 then (if x1 < (x0.length : Int) then (if ((rd_T37 x0 x7).f1).toList = ((rd_T37 x0 x1).f1).toList then (if ((rd_T37 x0 x7).f0).toList = ((rd_T37 x0 x1).f1).toList then ((gangerref11_norm.f k x0 x7).bind fun t386 => (gangerref11_norm.l0 k x0 x1 (wrap64 (x5 + ((rd_T37 x0 x7).f2))) t386 (wrap64 (x7 + 1)))) else (gangerref11_norm.l0 k x0 x1 (wrap64 (x5 + ((rd_T37 x0 x7).f2))) x6 (wrap64 (x7 + 1)))) else (if ((rd_T37 x0 x7).f0).toList = ((rd_T37 x0 x1).f1).toList then ((gangerref11_norm.f k x0 x7).bind fun t389 => (gangerref11_norm.l0 k x0 x1 x5 t389 (wrap64 (x7 + 1)))) else (gangerref11_norm.l0 k x0 x1 x5 x6 (wrap64 (x7 + 1))))) else (none)) else (none)) else (none)) else (if 0 ≤ x1 then (if x1 < (x0.length : Int) then (if x5 = 0 then (none) else (some (wrap64 (Int.tdiv (wrap64 (x6 * ((rd_T37 x0 x1).f2))) x5)))) else (none)) else (none))
def gangerref11_norm.f : Nat → List (S37) → Int → Option (Int)
 | 0, _, _ => none
 | k + 1, l0, a1 => if a1 = 0 then (some 65536) else (gangerref11_norm.l0 k l0 a1 0 0 0)
end
set_option maxHeartbeats 8000000 in
set_option maxRecDepth 100000 in
theorem gangerref11_norm.calls (k : Nat) : ∀ (A0 : Option Addr) (c0 : Nat) (l0 : List (S37)) (a1 : Int) (r : Int) (w : World) (hr0 : Kd.C k37 w A0 l0.length l0) (hc0 : l0.length ≤ c0) (h : gangerref11_norm.f k l0 a1 = some r),
  Calls Tryd.prog 29 #[.slice A0 l0.length c0, .int .i64 a1] w fun e w' => e = .returned (.int .i64 r) ∧ Drawn0 w w' := by
 induction k using Nat.strongRecOn with
 | _ k ih =>
 intro A0 c0 l0 a1 r w hr0 hc0 h
 cases k with
 | zero => exact absurd h (by simp [gangerref11_norm.f])
 | succ k =>
 simp only [gangerref11_norm.f] at h
 have HR0 := Aside0.mk hr0
 have HC0 := Aside0.mk hc0
 clear hr0 hc0
 have H : (if a1 = 0 then (some 65536) else (gangerref11_norm.l0 k l0 a1 0 0 0)) = some r := h
 clear h
 by_cases c3 : a1 = 0
 ·rw [if_pos c3] at H
  have c3b0 : (a1 == 0) = true := beq_iff_eq.mpr c3
  have c3b1 : (a1 != 0) = false := bne_eq_false_iff_eq.mpr c3
  clear c3
  obtain rfl := Option.some.inj H
  go_enter Tryd.func29, Tryd.ntmps29
  go_wp2
  repeat (go_quiet (fail); try go_wp2)
  go_ret
  exact ⟨by first | rfl | (simp; done) | (simp [*]; done), by repeat (first | exact Drawn0.refl _ | apply Drawn0.step)⟩
 ·rw [if_neg c3] at H
  have c3b0 : (a1 == 0) = false := beq_eq_false_iff_ne.mpr c3
  have c3b1 : (a1 != 0) = true := bne_iff_ne.mpr c3
  have H' := Aside0.mk H
  clear H
  go_enter Tryd.func29, Tryd.ntmps29
  go_wp2
  repeat (go_quiet (fail); try go_wp2)
  go_loopg [5, 6, 7] k (fun kq v5 v6 v7 w' => ∃ (x5_1 : Int) (x6_1 : Int) (x7_1 : Int), v5 = .int .i64 x5_1 ∧ v6 = .int .i64 x6_1 ∧ v7 = .int .i64 x7_1 ∧ Aside0 (gangerref11_norm.l0 kq l0 a1 x5_1 x6_1 x7_1 = some r) ∧ Aside0 (kq ≤ k) ∧ Drawn0 w w')
  case atStart => exact ⟨(0), (0), (0), (by first | rfl | (simp; done) | (simp [*]; done)), (by first | rfl | (simp; done) | (simp [*]; done)), (by first | rfl | (simp; done) | (simp [*]; done)), H', ⟨Nat.le_refl _⟩, by repeat (first | exact Drawn0.refl _ | apply Drawn0.step)⟩
  case round =>
   clear H'
   obtain ⟨x5_1, x6_1, x7_1, rfl, rfl, rfl, HA, HK1, ⟨m1, rfl⟩⟩ := hrel
   cases gk with
   | zero => exact absurd HA.out (by simp [gangerref11_norm.l0])
   | succ k1 =>
    have H := HA.out
    clear HA
    simp only [gangerref11_norm.l0] at H
    by_cases c4 : x7_1 < (l0.length : Int)
    ·rw [if_pos c4] at H
     have c4b0 : decide (x7_1 < (l0.length : Int)) = true := decide_eq_true c4
     clear c4
     by_cases c5 : 0 ≤ x7_1
     ·rw [if_pos c5] at H
      have c5b0 : decide (0 ≤ x7_1) = true := decide_eq_true c5
      clear c5
      by_cases c6 : 0 ≤ a1
      ·rw [if_pos c6] at H
       have c6b0 : decide (0 ≤ a1) = true := decide_eq_true c6
       clear c6
       by_cases c7 : a1 < (l0.length : Int)
       ·rw [if_pos c7] at H
        have c7b0 : decide (a1 < (l0.length : Int)) = true := decide_eq_true c7
        clear c7
        by_cases c8 : ((rd_T37 l0 x7_1).f1).toList = ((rd_T37 l0 a1).f1).toList
        ·rw [if_pos c8] at H
         have c8b0 : (((rd_T37 l0 x7_1).f1).toList == ((rd_T37 l0 a1).f1).toList) = true := beq_iff_eq.mpr c8
         have c8b1 : (((rd_T37 l0 x7_1).f1).toList != ((rd_T37 l0 a1).f1).toList) = false := bne_eq_false_iff_eq.mpr c8
         clear c8
         by_cases c9 : ((rd_T37 l0 x7_1).f0).toList = ((rd_T37 l0 a1).f1).toList
         ·rw [if_pos c9] at H
          have c9b0 : (((rd_T37 l0 x7_1).f0).toList == ((rd_T37 l0 a1).f1).toList) = true := beq_iff_eq.mpr c9
          have c9b1 : (((rd_T37 l0 x7_1).f0).toList != ((rd_T37 l0 a1).f1).toList) = false := bne_eq_false_iff_eq.mpr c9
          clear c9
          replace H := Option.bind_eq_some_iff.mp H
          obtain ⟨t386, A100, H⟩ := H
          replace H : (gangerref11_norm.l0 k1 l0 a1 (wrap64 (x5_1 + ((rd_T37 l0 x7_1).f2))) t386 (wrap64 (x7_1 + 1))) = some r := H
          have A10 := Aside0.mk A100
          clear A100
          have H' := Aside0.mk H
          clear H
          have p381 : 0 ≤ (x7_1 : Int) := of_decide_eq_true (by first | (with_reducible assumption) | assumption)
          have q381 : x7_1 < (l0.length : Int) := of_decide_eq_true (by first | (with_reducible assumption) | assumption)
          obtain ⟨ad381, e381, hx381_0, hx381_1, hx381_2⟩ := at_T37 HR0.out x7_1 p381 q381
          cases e381
          replace p381 := eq_true p381
          replace q381 := eq_true q381
          have p382 : 0 ≤ (a1 : Int) := of_decide_eq_true (by first | (with_reducible assumption) | assumption)
          have q382 : a1 < (l0.length : Int) := of_decide_eq_true (by first | (with_reducible assumption) | assumption)
          obtain ⟨ad382, e382, hx382_0, hx382_1, hx382_2⟩ := at_T37 HR0.out a1 p382 q382
          obtain rfl : ad381 = ad382 := (by injection e382)
          replace p382 := eq_true p382
          replace q382 := eq_true q382
          have p383 : 0 ≤ (x7_1 : Int) := of_decide_eq_true (by first | (with_reducible assumption) | assumption)
          have q383 : x7_1 < (l0.length : Int) := of_decide_eq_true (by first | (with_reducible assumption) | assumption)
          obtain ⟨ad383, e383, hx383_0, hx383_1, hx383_2⟩ := at_T37 HR0.out x7_1 p383 q383
          obtain rfl : ad381 = ad383 := (by injection e383)
          replace p383 := eq_true p383
          replace q383 := eq_true q383
          have p384 : 0 ≤ (x7_1 : Int) := of_decide_eq_true (by first | (with_reducible assumption) | assumption)
          have q384 : x7_1 < (l0.length : Int) := of_decide_eq_true (by first | (with_reducible assumption) | assumption)
          obtain ⟨ad384, e384, hx384_0, hx384_1, hx384_2⟩ := at_T37 HR0.out x7_1 p384 q384
          obtain rfl : ad381 = ad384 := (by injection e384)
          replace p384 := eq_true p384
          replace q384 := eq_true q384
          have p385 : 0 ≤ (a1 : Int) := of_decide_eq_true (by first | (with_reducible assumption) | assumption)
          have q385 : a1 < (l0.length : Int) := of_decide_eq_true (by first | (with_reducible assumption) | assumption)
          obtain ⟨ad385, e385, hx385_0, hx385_1, hx385_2⟩ := at_T37 HR0.out a1 p385 q385
          obtain rfl : ad381 = ad385 := (by injection e385)
          replace p385 := eq_true p385
          replace q385 := eq_true q385
          go_wp2_with (first | (go_at_call 29; (with_reducible refine (ih k1 (by have := HK1.out; omega) _ _ l0 x7_1 t386 _ ?side1 ?side2 A10.out).mono ?_); (case side1 => repeat (first | exact HR0.out | (with_reducible refine Kd.C_alloc ?_ _) | (with_reducible refine Kd.C_drewN ?_ _) | (with_reducible refine Kd.C_drew ?_))); (case side2 => exact HC0.out); rintro e w' ⟨rfl, ⟨nd, rfl⟩⟩; (try first | exact ⟨rfl, _, World.drewN_drewN _ _ _⟩ | exact ⟨rfl, _, Eq.trans (World.drewN_drewN _ _ _) (congrArg (World.drewN _) (Nat.add_assoc _ _ _))⟩)))
          repeat (go_quiet (first | (go_at_call 29; (with_reducible refine (ih k1 (by have := HK1.out; omega) _ _ l0 x7_1 t386 _ ?side1 ?side2 A10.out).mono ?_); (case side1 => repeat (first | exact HR0.out | (with_reducible refine Kd.C_alloc ?_ _) | (with_reducible refine Kd.C_drewN ?_ _) | (with_reducible refine Kd.C_drew ?_))); (case side2 => exact HC0.out); rintro e w' ⟨rfl, ⟨nd, rfl⟩⟩; (try first | exact ⟨rfl, _, World.drewN_drewN _ _ _⟩ | exact ⟨rfl, _, Eq.trans (World.drewN_drewN _ _ _) (congrArg (World.drewN _) (Nat.add_assoc _ _ _))⟩))); try go_wp2_with (first | (go_at_call 29; (with_reducible refine (ih k1 (by have := HK1.out; omega) _ _ l0 x7_1 t386 _ ?side1 ?side2 A10.out).mono ?_); (case side1 => repeat (first | exact HR0.out | (with_reducible refine Kd.C_alloc ?_ _) | (with_reducible refine Kd.C_drewN ?_ _) | (with_reducible refine Kd.C_drew ?_))); (case side2 => exact HC0.out); rintro e w' ⟨rfl, ⟨nd, rfl⟩⟩; (try first | exact ⟨rfl, _, World.drewN_drewN _ _ _⟩ | exact ⟨rfl, _, Eq.trans (World.drewN_drewN _ _ _) (congrArg (World.drewN _) (Nat.add_assoc _ _ _))⟩))))
          go_roundg k1
          case measure => have := HK1.out; omega
          case rel => exact ⟨(wrap64 (x5_1 + ((rd_T37 l0 x7_1).f2))), (t386), (wrap64 (x7_1 + 1)), (by first | rfl | (simp; done) | (simp [*]; done)), (by first | rfl | (simp; done) | (simp [*]; done)), (by first | rfl | (simp; done) | (simp [*]; done)), H', ⟨by have := HK1.out; omega⟩, by repeat (first | exact Drawn0.refl _ | apply Drawn0.step)⟩
         ·rw [if_neg c9] at H
          have c9b0 : (((rd_T37 l0 x7_1).f0).toList == ((rd_T37 l0 a1).f1).toList) = false := beq_eq_false_iff_ne.mpr c9
          have c9b1 : (((rd_T37 l0 x7_1).f0).toList != ((rd_T37 l0 a1).f1).toList) = true := bne_iff_ne.mpr c9
          have H' := Aside0.mk H
          clear H
          have p381 : 0 ≤ (x7_1 : Int) := of_decide_eq_true (by first | (with_reducible assumption) | assumption)
          have q381 : x7_1 < (l0.length : Int) := of_decide_eq_true (by first | (with_reducible assumption) | assumption)
          obtain ⟨ad381, e381, hx381_0, hx381_1, hx381_2⟩ := at_T37 HR0.out x7_1 p381 q381
          cases e381
          replace p381 := eq_true p381
          replace q381 := eq_true q381
          have p382 : 0 ≤ (a1 : Int) := of_decide_eq_true (by first | (with_reducible assumption) | assumption)
          have q382 : a1 < (l0.length : Int) := of_decide_eq_true (by first | (with_reducible assumption) | assumption)
          obtain ⟨ad382, e382, hx382_0, hx382_1, hx382_2⟩ := at_T37 HR0.out a1 p382 q382
          obtain rfl : ad381 = ad382 := (by injection e382)
          replace p382 := eq_true p382
          replace q382 := eq_true q382
          have p383 : 0 ≤ (x7_1 : Int) := of_decide_eq_true (by first | (with_reducible assumption) | assumption)
          have q383 : x7_1 < (l0.length : Int) := of_decide_eq_true (by first | (with_reducible assumption) | assumption)
          obtain ⟨ad383, e383, hx383_0, hx383_1, hx383_2⟩ := at_T37 HR0.out x7_1 p383 q383
          obtain rfl : ad381 = ad383 := (by injection e383)
          replace p383 := eq_true p383
          replace q383 := eq_true q383
          have p384 : 0 ≤ (x7_1 : Int) := of_decide_eq_true (by first | (with_reducible assumption) | assumption)
          have q384 : x7_1 < (l0.length : Int) := of_decide_eq_true (by first | (with_reducible assumption) | assumption)
          obtain ⟨ad384, e384, hx384_0, hx384_1, hx384_2⟩ := at_T37 HR0.out x7_1 p384 q384
          obtain rfl : ad381 = ad384 := (by injection e384)
          replace p384 := eq_true p384
          replace q384 := eq_true q384
          have p385 : 0 ≤ (a1 : Int) := of_decide_eq_true (by first | (with_reducible assumption) | assumption)
          have q385 : a1 < (l0.length : Int) := of_decide_eq_true (by first | (with_reducible assumption) | assumption)
          obtain ⟨ad385, e385, hx385_0, hx385_1, hx385_2⟩ := at_T37 HR0.out a1 p385 q385
          obtain rfl : ad381 = ad385 := (by injection e385)
          replace p385 := eq_true p385
          replace q385 := eq_true q385
          go_wp2
          repeat (go_quiet (fail); try go_wp2)
          go_roundg k1
          case measure => have := HK1.out; omega
          case rel => exact ⟨(wrap64 (x5_1 + ((rd_T37 l0 x7_1).f2))), (x6_1), (wrap64 (x7_1 + 1)), (by first | rfl | (simp; done) | (simp [*]; done)), (by first | rfl | (simp; done) | (simp [*]; done)), (by first | rfl | (simp; done) | (simp [*]; done)), H', ⟨by have := HK1.out; omega⟩, by repeat (first | exact Drawn0.refl _ | apply Drawn0.step)⟩
        ·rw [if_neg c8] at H
         have c8b0 : (((rd_T37 l0 x7_1).f1).toList == ((rd_T37 l0 a1).f1).toList) = false := beq_eq_false_iff_ne.mpr c8
         have c8b1 : (((rd_T37 l0 x7_1).f1).toList != ((rd_T37 l0 a1).f1).toList) = true := bne_iff_ne.mpr c8
         by_cases c11 : ((rd_T37 l0 x7_1).f0).toList = ((rd_T37 l0 a1).f1).toList
         ·rw [if_pos c11] at H
          have c11b0 : (((rd_T37 l0 x7_1).f0).toList == ((rd_T37 l0 a1).f1).toList) = true := beq_iff_eq.mpr c11
          have c11b1 : (((rd_T37 l0 x7_1).f0).toList != ((rd_T37 l0 a1).f1).toList) = false := bne_eq_false_iff_eq.mpr c11
          clear c11
          replace H := Option.bind_eq_some_iff.mp H
          obtain ⟨t389, A120, H⟩ := H
          replace H : (gangerref11_norm.l0 k1 l0 a1 x5_1 t389 (wrap64 (x7_1 + 1))) = some r := H
          have A12 := Aside0.mk A120
          clear A120
          have H' := Aside0.mk H
          clear H
          have p381 : 0 ≤ (x7_1 : Int) := of_decide_eq_true (by first | (with_reducible assumption) | assumption)
          have q381 : x7_1 < (l0.length : Int) := of_decide_eq_true (by first | (with_reducible assumption) | assumption)
          obtain ⟨ad381, e381, hx381_0, hx381_1, hx381_2⟩ := at_T37 HR0.out x7_1 p381 q381
          cases e381
          replace p381 := eq_true p381
          replace q381 := eq_true q381
          have p382 : 0 ≤ (a1 : Int) := of_decide_eq_true (by first | (with_reducible assumption) | assumption)
          have q382 : a1 < (l0.length : Int) := of_decide_eq_true (by first | (with_reducible assumption) | assumption)
          obtain ⟨ad382, e382, hx382_0, hx382_1, hx382_2⟩ := at_T37 HR0.out a1 p382 q382
          obtain rfl : ad381 = ad382 := (by injection e382)
          replace p382 := eq_true p382
          replace q382 := eq_true q382
          have p387 : 0 ≤ (x7_1 : Int) := of_decide_eq_true (by first | (with_reducible assumption) | assumption)
          have q387 : x7_1 < (l0.length : Int) := of_decide_eq_true (by first | (with_reducible assumption) | assumption)
          obtain ⟨ad387, e387, hx387_0, hx387_1, hx387_2⟩ := at_T37 HR0.out x7_1 p387 q387
          obtain rfl : ad381 = ad387 := (by injection e387)
          replace p387 := eq_true p387
          replace q387 := eq_true q387
          have p388 : 0 ≤ (a1 : Int) := of_decide_eq_true (by first | (with_reducible assumption) | assumption)
          have q388 : a1 < (l0.length : Int) := of_decide_eq_true (by first | (with_reducible assumption) | assumption)
          obtain ⟨ad388, e388, hx388_0, hx388_1, hx388_2⟩ := at_T37 HR0.out a1 p388 q388
          obtain rfl : ad381 = ad388 := (by injection e388)
          replace p388 := eq_true p388
          replace q388 := eq_true q388
          go_wp2_with (first | (go_at_call 29; (with_reducible refine (ih k1 (by have := HK1.out; omega) _ _ l0 x7_1 t389 _ ?side1 ?side2 A12.out).mono ?_); (case side1 => repeat (first | exact HR0.out | (with_reducible refine Kd.C_alloc ?_ _) | (with_reducible refine Kd.C_drewN ?_ _) | (with_reducible refine Kd.C_drew ?_))); (case side2 => exact HC0.out); rintro e w' ⟨rfl, ⟨nd, rfl⟩⟩; (try first | exact ⟨rfl, _, World.drewN_drewN _ _ _⟩ | exact ⟨rfl, _, Eq.trans (World.drewN_drewN _ _ _) (congrArg (World.drewN _) (Nat.add_assoc _ _ _))⟩)))
          repeat (go_quiet (first | (go_at_call 29; (with_reducible refine (ih k1 (by have := HK1.out; omega) _ _ l0 x7_1 t389 _ ?side1 ?side2 A12.out).mono ?_); (case side1 => repeat (first | exact HR0.out | (with_reducible refine Kd.C_alloc ?_ _) | (with_reducible refine Kd.C_drewN ?_ _) | (with_reducible refine Kd.C_drew ?_))); (case side2 => exact HC0.out); rintro e w' ⟨rfl, ⟨nd, rfl⟩⟩; (try first | exact ⟨rfl, _, World.drewN_drewN _ _ _⟩ | exact ⟨rfl, _, Eq.trans (World.drewN_drewN _ _ _) (congrArg (World.drewN _) (Nat.add_assoc _ _ _))⟩))); try go_wp2_with (first | (go_at_call 29; (with_reducible refine (ih k1 (by have := HK1.out; omega) _ _ l0 x7_1 t389 _ ?side1 ?side2 A12.out).mono ?_); (case side1 => repeat (first | exact HR0.out | (with_reducible refine Kd.C_alloc ?_ _) | (with_reducible refine Kd.C_drewN ?_ _) | (with_reducible refine Kd.C_drew ?_))); (case side2 => exact HC0.out); rintro e w' ⟨rfl, ⟨nd, rfl⟩⟩; (try first | exact ⟨rfl, _, World.drewN_drewN _ _ _⟩ | exact ⟨rfl, _, Eq.trans (World.drewN_drewN _ _ _) (congrArg (World.drewN _) (Nat.add_assoc _ _ _))⟩))))
          go_roundg k1
          case measure => have := HK1.out; omega
          case rel => exact ⟨(x5_1), (t389), (wrap64 (x7_1 + 1)), (by first | rfl | (simp; done) | (simp [*]; done)), (by first | rfl | (simp; done) | (simp [*]; done)), (by first | rfl | (simp; done) | (simp [*]; done)), H', ⟨by have := HK1.out; omega⟩, by repeat (first | exact Drawn0.refl _ | apply Drawn0.step)⟩
         ·rw [if_neg c11] at H
          have c11b0 : (((rd_T37 l0 x7_1).f0).toList == ((rd_T37 l0 a1).f1).toList) = false := beq_eq_false_iff_ne.mpr c11
          have c11b1 : (((rd_T37 l0 x7_1).f0).toList != ((rd_T37 l0 a1).f1).toList) = true := bne_iff_ne.mpr c11
          have H' := Aside0.mk H
          clear H
          have p381 : 0 ≤ (x7_1 : Int) := of_decide_eq_true (by first | (with_reducible assumption) | assumption)
          have q381 : x7_1 < (l0.length : Int) := of_decide_eq_true (by first | (with_reducible assumption) | assumption)
          obtain ⟨ad381, e381, hx381_0, hx381_1, hx381_2⟩ := at_T37 HR0.out x7_1 p381 q381
          cases e381
          replace p381 := eq_true p381
          replace q381 := eq_true q381
          have p382 : 0 ≤ (a1 : Int) := of_decide_eq_true (by first | (with_reducible assumption) | assumption)
          have q382 : a1 < (l0.length : Int) := of_decide_eq_true (by first | (with_reducible assumption) | assumption)
          obtain ⟨ad382, e382, hx382_0, hx382_1, hx382_2⟩ := at_T37 HR0.out a1 p382 q382
          obtain rfl : ad381 = ad382 := (by injection e382)
          replace p382 := eq_true p382
          replace q382 := eq_true q382
          have p387 : 0 ≤ (x7_1 : Int) := of_decide_eq_true (by first | (with_reducible assumption) | assumption)
          have q387 : x7_1 < (l0.length : Int) := of_decide_eq_true (by first | (with_reducible assumption) | assumption)
          obtain ⟨ad387, e387, hx387_0, hx387_1, hx387_2⟩ := at_T37 HR0.out x7_1 p387 q387
          obtain rfl : ad381 = ad387 := (by injection e387)
          replace p387 := eq_true p387
          replace q387 := eq_true q387
          have p388 : 0 ≤ (a1 : Int) := of_decide_eq_true (by first | (with_reducible assumption) | assumption)
          have q388 : a1 < (l0.length : Int) := of_decide_eq_true (by first | (with_reducible assumption) | assumption)
          obtain ⟨ad388, e388, hx388_0, hx388_1, hx388_2⟩ := at_T37 HR0.out a1 p388 q388
          obtain rfl : ad381 = ad388 := (by injection e388)
          replace p388 := eq_true p388
          replace q388 := eq_true q388
          go_wp2
          repeat (go_quiet (fail); try go_wp2)
          go_roundg k1
          case measure => have := HK1.out; omega
          case rel => exact ⟨(x5_1), (x6_1), (wrap64 (x7_1 + 1)), (by first | rfl | (simp; done) | (simp [*]; done)), (by first | rfl | (simp; done) | (simp [*]; done)), (by first | rfl | (simp; done) | (simp [*]; done)), H', ⟨by have := HK1.out; omega⟩, by repeat (first | exact Drawn0.refl _ | apply Drawn0.step)⟩
       ·rw [if_neg c7] at H
        exact absurd H (by simp)
      ·rw [if_neg c6] at H
       exact absurd H (by simp)
     ·rw [if_neg c5] at H
      exact absurd H (by simp)
    ·rw [if_neg c4] at H
     have c4b0 : decide (x7_1 < (l0.length : Int)) = false := decide_eq_false c4
     clear c4
     by_cases c13 : 0 ≤ a1
     ·rw [if_pos c13] at H
      have c13b0 : decide (0 ≤ a1) = true := decide_eq_true c13
      clear c13
      by_cases c14 : a1 < (l0.length : Int)
      ·rw [if_pos c14] at H
       have c14b0 : decide (a1 < (l0.length : Int)) = true := decide_eq_true c14
       clear c14
       by_cases c15 : x5_1 = 0
       ·rw [if_pos c15] at H
        exact absurd H (by simp)
       ·rw [if_neg c15] at H
        have c15b0 : (x5_1 == 0) = false := beq_eq_false_iff_ne.mpr c15
        have c15b1 : (x5_1 != 0) = true := bne_iff_ne.mpr c15
        obtain rfl := Option.some.inj H
        have p380 : 0 ≤ (a1 : Int) := of_decide_eq_true (by first | (with_reducible assumption) | assumption)
        have q380 : a1 < (l0.length : Int) := of_decide_eq_true (by first | (with_reducible assumption) | assumption)
        obtain ⟨ad380, e380, hx380_0, hx380_1, hx380_2⟩ := at_T37 HR0.out a1 p380 q380
        cases e380
        replace p380 := eq_true p380
        replace q380 := eq_true q380
        go_wp2
        repeat (go_quiet (fail); try go_wp2)
        go_ret
        exact ⟨by first | rfl | (simp; done) | (simp [*]; done), by repeat (first | exact Drawn0.refl _ | apply Drawn0.step)⟩
      ·rw [if_neg c14] at H
       exact absurd H (by simp)
     ·rw [if_neg c13] at H
      exact absurd H (by simp)
def gangerref01_Product.l0 : Nat → Int → Bool → Int → Int → Bool → Int → Int → Bool → Int → Int → Bool → Int → Int → Option (Bool × Int × Int)
 | 0, _, _, _, _, _, _, _, _, _, _, _, _, _ => none
 | k + 1, x7, x411000, x411001, x411002, x412000, x412001, x412002, x414000, x414001, x414002, x415000, x415001, x415002 => if x7 > 0 then (if (Int.tmod x7 2) = 1 then ((gangerref01_plus.f x414000 x414001 x414002 x415000 x415001 x415002).bind fun bt415 => ((gangerref01_plus.f x415000 x415001 x415002 x415000 x415001 x415002).bind fun bt418 => (gangerref01_Product.l0 k (IntKind.u64.wrap (Int.tdiv x7 2)) x411000 x411001 x411002 x412000 x412001 x412002 bt415.1 bt415.2.1 bt415.2.2 bt418.1 bt418.2.1 bt418.2.2))) else ((gangerref01_plus.f x415000 x415001 x415002 x415000 x415001 x415002).bind fun bt421 => (gangerref01_Product.l0 k (IntKind.u64.wrap (Int.tdiv x7 2)) x411000 x411001 x411002 x412000 x412001 x412002 x414000 x414001 x414002 bt421.1 bt421.2.1 bt421.2.2))) else (some ((x411000 != x412000), x414001, x414002))
def gangerref01_Product.f (k : Nat) (a0_0 : Bool) (a0_1 : Int) (a0_2 : Int) (a1_0 : Bool) (a1_1 : Int) (a1_2 : Int) : Option (Bool × Int × Int) := gangerref01_Product.l0 k a1_2 a0_0 a0_1 a0_2 a1_0 a1_1 a1_2 false 0 0 false 0 a0_2
theorem gangerref01_Product.mono_l : ∀ k, (∀ y0 y1 y2 y3 y4 y5 y6 y7 y8 y9 y10 y11 y12, LeO (gangerref01_Product.l0 k y0 y1 y2 y3 y4 y5 y6 y7 y8 y9 y10 y11 y12) (gangerref01_Product.l0 (k + 1) y0 y1 y2 y3 y4 y5 y6 y7 y8 y9 y10 y11 y12))
 | 0 => fun _ _ _ _ _ _ _ _ _ _ _ _ _ r h => by simp [gangerref01_Product.l0] at h
 | k + 1 => by
  have ih0 := gangerref01_Product.mono_l k
  ·intro y0 y1 y2 y3 y4 y5 y6 y7 y8 y9 y10 y11 y12
   unfold gangerref01_Product.l0
   repeat' first
   | (with_reducible exact ih0 _ _ _ _ _ _ _ _ _ _ _ _ _)
   | (with_reducible exact LeO.refl _)
   | (with_reducible exact LeO.none _)
   | (with_reducible refine LeO.ite ?_ ?_)
   | (with_reducible refine LeO.bind ?_ (fun _ => ?_))
   | exact ih0 _ _ _ _ _ _ _ _ _ _ _ _ _
   | exact LeO.none _
   | refine LeO.ite ?_ ?_
   | refine LeO.bind ?_ (fun _ => ?_)
theorem gangerref01_Product.mono : ∀ a0 a1 a2 a3 a4 a5 k, LeO (gangerref01_Product.f k a0 a1 a2 a3 a4 a5) (gangerref01_Product.f (k + 1) a0 a1 a2 a3 a4 a5) := by
 intro a0 a1 a2 a3 a4 a5 k
 have ih0 := gangerref01_Product.mono_l k
 unfold gangerref01_Product.f
 repeat' first
   | (with_reducible exact ih0 _ _ _ _ _ _ _ _ _ _ _ _ _)
   | (with_reducible exact LeO.refl _)
   | (with_reducible exact LeO.none _)
   | (with_reducible refine LeO.ite ?_ ?_)
   | (with_reducible refine LeO.bind ?_ (fun _ => ?_))
   | exact ih0 _ _ _ _ _ _ _ _ _ _ _ _ _
   | exact LeO.none _
   | refine LeO.ite ?_ ?_
   | refine LeO.bind ?_ (fun _ => ?_)
set_option maxHeartbeats 8000000 in
set_option maxRecDepth 100000 in
theorem gangerref01_Product.calls (k : Nat) (a0_0 : Bool) (a0_1 : Int) (a0_2 : Int) (a1_0 : Bool) (a1_1 : Int) (a1_2 : Int) (r1 : Bool) (r2 : Int) (r3 : Int) (w : World) (h : gangerref01_Product.f k a0_0 a0_1 a0_2 a1_0 a1_1 a1_2 = some (r1, r2, r3)) :
  Calls Tryd.prog 39 #[.agg #[.bool a0_0, .int .u64 a0_1, .int .u64 a0_2], .agg #[.bool a1_0, .int .u64 a1_1, .int .u64 a1_2]] w fun e w' => e = .returned (.agg #[.bool r1, .int .u64 r2, .int .u64 r3]) ∧ Below w.heap.size w w' := by
 have hu72 := Tryd.underlying72
 have HB := Aside0.mk (Below.refl w.heap.size w)
 have H : (gangerref01_Product.l0 k a1_2 a0_0 a0_1 a0_2 a1_0 a1_1 a1_2 false 0 0 false 0 a0_2) = some (r1, r2, r3) := h
 clear h
 have H' := Aside0.mk H
 clear H
 go_enter Tryd.func39, Tryd.ntmps39
 go_wp2_with (first | ((with_reducible refine gate_dst (N := 2) rfl ?_); refine box_event ?hg (N := 2) ?hd (cs := #[.bool a0_0, .int .u64 a0_1, .int .u64 a0_2]) (t := 72) ?hr ?_; (case hd => rfl); (case hg => rfl); (case hr => first | (go_simp; done) | (go_simp; rfl)); intro gb410 hg w3 hbox hb; have n0_ := Aside0.mk (below_step (by repeat (first | (with_reducible first | exact HB.out | apply below_alloc | apply pw_below_drewN | apply below_drew1) | exact HB.out)) hb); have n1_ := Aside0.mk (hbox); have n2_ := Aside0.mk ((by rw [hg]; exact (below_size (by repeat (first | (with_reducible first | exact HB.out | apply below_alloc | apply pw_below_drewN | apply below_drew1) | exact HB.out))) : w.heap.size ≤ gb410)); have n3_ := Aside0.mk ((by rw [hg]; exact (below_size (by repeat (first | (with_reducible first | exact HB.out | apply below_alloc | apply pw_below_drewN | apply below_drew1) | exact HB.out))) : w.heap.size ≤ gb410)); clear HB; have HB := n0_; have BK410 := n1_; have GW410 := n2_; have GE410 := n3_; clear n0_ n1_ n2_ n3_; clear hb hbox hg) | ((with_reducible refine gate_dst (N := 3) rfl ?_); refine box_event ?hg (N := 3) ?hd (cs := #[.bool a1_0, .int .u64 a1_1, .int .u64 a1_2]) (t := 72) ?hr ?_; (case hd => rfl); (case hg => rfl); (case hr => first | (go_simp; done) | (go_simp; rfl)); intro gb411 hg w4 hbox hb; have n0_ := Aside0.mk (blk_below (g := gb410) (o := .cells #[.bool a0_0, .int .u64 a0_1, .int .u64 a0_2] 72 (0, 0)) (by (with_reducible repeat (first | refine blk_drewN ?_ _ | refine blk_drew ?_ | refine blk_alloc ?_ _)); exact BK410.out) hb); have n1_ := Aside0.mk (below_step (by repeat (first | (with_reducible first | exact HB.out | apply below_alloc | apply pw_below_drewN | apply below_drew1 | refine below_set ?_ GE410.out) | exact HB.out)) hb); have n2_ := Aside0.mk (hbox); have n3_ := Aside0.mk ((by rw [hg]; exact (below_size (by repeat (first | (with_reducible first | exact HB.out | apply below_alloc | apply pw_below_drewN | apply below_drew1 | refine below_set ?_ GE410.out) | exact HB.out))) : w.heap.size ≤ gb411)); have n4_ := Aside0.mk ((by rw [hg]; exact (below_size (by repeat (first | (with_reducible first | exact HB.out | apply below_alloc | apply pw_below_drewN | apply below_drew1 | refine below_set ?_ GE410.out) | exact HB.out))) : w.heap.size ≤ gb411)); have n5_ := Aside0.mk ((by rw [hg]; exact Nat.ne_of_lt (blk_lt (g := gb410) (o := .cells #[.bool a0_0, .int .u64 a0_1, .int .u64 a0_2] 72 (0, 0)) (by (with_reducible repeat (first | refine blk_drewN ?_ _ | refine blk_drew ?_ | refine blk_alloc ?_ _)); exact BK410.out)) : gb410 ≠ gb411)); have n6_ := Aside0.mk ((by rw [hg]; exact Nat.ne_of_gt (blk_lt (g := gb410) (o := .cells #[.bool a0_0, .int .u64 a0_1, .int .u64 a0_2] 72 (0, 0)) (by (with_reducible repeat (first | refine blk_drewN ?_ _ | refine blk_drew ?_ | refine blk_alloc ?_ _)); exact BK410.out)) : gb411 ≠ gb410)); clear BK410; clear HB; have BK410 := n0_; have HB := n1_; have BK411 := n2_; have GW411 := n3_; have GE411 := n4_; have NB410_411 := n5_; have NB411_410 := n6_; clear n0_ n1_ n2_ n3_ n4_ n5_ n6_; clear hb hbox hg) | ((with_reducible refine gate_dst (N := 4) rfl ?_); refine box_event ?hg (N := 4) ?hd (cs := #[.bool false, .int .u64 0, .int .u64 0]) (t := 72) ?hr ?_; (case hd => rfl); (case hg => rfl); (case hr => first | (go_simp; done) | (go_simp; rfl)); intro gb412 hg w5 hbox hb; have n0_ := Aside0.mk (blk_below (g := gb410) (o := .cells #[.bool a0_0, .int .u64 a0_1, .int .u64 a0_2] 72 (0, 0)) (by (with_reducible repeat (first | refine blk_drewN ?_ _ | refine blk_drew ?_ | refine blk_alloc ?_ _)); exact BK410.out) hb); have n1_ := Aside0.mk (blk_below (g := gb411) (o := .cells #[.bool a1_0, .int .u64 a1_1, .int .u64 a1_2] 72 (0, 0)) (by (with_reducible repeat (first | refine blk_drewN ?_ _ | refine blk_drew ?_ | refine blk_alloc ?_ _)); exact BK411.out) hb); have n2_ := Aside0.mk (below_step (by repeat (first | (with_reducible first | exact HB.out | apply below_alloc | apply pw_below_drewN | apply below_drew1 | refine below_set ?_ GE410.out | refine below_set ?_ GE411.out) | exact HB.out)) hb); have n3_ := Aside0.mk (hbox); have n4_ := Aside0.mk ((by rw [hg]; exact (below_size (by repeat (first | (with_reducible first | exact HB.out | apply below_alloc | apply pw_below_drewN | apply below_drew1 | refine below_set ?_ GE410.out | refine below_set ?_ GE411.out) | exact HB.out))) : w.heap.size ≤ gb412)); have n5_ := Aside0.mk ((by rw [hg]; exact (below_size (by repeat (first | (with_reducible first | exact HB.out | apply below_alloc | apply pw_below_drewN | apply below_drew1 | refine below_set ?_ GE410.out | refine below_set ?_ GE411.out) | exact HB.out))) : w.heap.size ≤ gb412)); have n6_ := Aside0.mk ((by rw [hg]; exact Nat.ne_of_lt (blk_lt (g := gb410) (o := .cells #[.bool a0_0, .int .u64 a0_1, .int .u64 a0_2] 72 (0, 0)) (by (with_reducible repeat (first | refine blk_drewN ?_ _ | refine blk_drew ?_ | refine blk_alloc ?_ _)); exact BK410.out)) : gb410 ≠ gb412)); have n7_ := Aside0.mk ((by rw [hg]; exact Nat.ne_of_gt (blk_lt (g := gb410) (o := .cells #[.bool a0_0, .int .u64 a0_1, .int .u64 a0_2] 72 (0, 0)) (by (with_reducible repeat (first | refine blk_drewN ?_ _ | refine blk_drew ?_ | refine blk_alloc ?_ _)); exact BK410.out)) : gb412 ≠ gb410)); have n8_ := Aside0.mk ((by rw [hg]; exact Nat.ne_of_lt (blk_lt (g := gb411) (o := .cells #[.bool a1_0, .int .u64 a1_1, .int .u64 a1_2] 72 (0, 0)) (by (with_reducible repeat (first | refine blk_drewN ?_ _ | refine blk_drew ?_ | refine blk_alloc ?_ _)); exact BK411.out)) : gb411 ≠ gb412)); have n9_ := Aside0.mk ((by rw [hg]; exact Nat.ne_of_gt (blk_lt (g := gb411) (o := .cells #[.bool a1_0, .int .u64 a1_1, .int .u64 a1_2] 72 (0, 0)) (by (with_reducible repeat (first | refine blk_drewN ?_ _ | refine blk_drew ?_ | refine blk_alloc ?_ _)); exact BK411.out)) : gb412 ≠ gb411)); clear BK410; clear BK411; clear HB; have BK410 := n0_; have BK411 := n1_; have HB := n2_; have BK412 := n3_; have GW412 := n4_; have GE412 := n5_; have NB410_412 := n6_; have NB412_410 := n7_; have NB411_412 := n8_; have NB412_411 := n9_; clear n0_ n1_ n2_ n3_ n4_ n5_ n6_ n7_ n8_ n9_; clear hb hbox hg) | ((with_reducible refine gate_dst (N := 5) rfl ?_); refine box_event ?hg (N := 5) ?hd (cs := #[.bool false, .int .u64 0, .int .u64 0]) (t := 72) ?hr ?_; (case hd => rfl); (case hg => rfl); (case hr => first | (go_simp; done) | (go_simp; rfl)); intro gb413 hg w6 hbox hb; have n0_ := Aside0.mk (blk_below (g := gb410) (o := .cells #[.bool a0_0, .int .u64 a0_1, .int .u64 a0_2] 72 (0, 0)) (by (with_reducible repeat (first | refine blk_drewN ?_ _ | refine blk_drew ?_ | refine blk_alloc ?_ _)); exact BK410.out) hb); have n1_ := Aside0.mk (blk_below (g := gb411) (o := .cells #[.bool a1_0, .int .u64 a1_1, .int .u64 a1_2] 72 (0, 0)) (by (with_reducible repeat (first | refine blk_drewN ?_ _ | refine blk_drew ?_ | refine blk_alloc ?_ _)); exact BK411.out) hb); have n2_ := Aside0.mk (blk_below (g := gb412) (o := .cells #[.bool false, .int .u64 0, .int .u64 0] 72 (0, 0)) (by (with_reducible repeat (first | refine blk_drewN ?_ _ | refine blk_drew ?_ | refine blk_alloc ?_ _)); exact BK412.out) hb); have n3_ := Aside0.mk (below_step (by repeat (first | (with_reducible first | exact HB.out | apply below_alloc | apply pw_below_drewN | apply below_drew1 | refine below_set ?_ GE410.out | refine below_set ?_ GE411.out | refine below_set ?_ GE412.out) | exact HB.out)) hb); have n4_ := Aside0.mk (hbox); have n5_ := Aside0.mk ((by rw [hg]; exact (below_size (by repeat (first | (with_reducible first | exact HB.out | apply below_alloc | apply pw_below_drewN | apply below_drew1 | refine below_set ?_ GE410.out | refine below_set ?_ GE411.out | refine below_set ?_ GE412.out) | exact HB.out))) : w.heap.size ≤ gb413)); have n6_ := Aside0.mk ((by rw [hg]; exact (below_size (by repeat (first | (with_reducible first | exact HB.out | apply below_alloc | apply pw_below_drewN | apply below_drew1 | refine below_set ?_ GE410.out | refine below_set ?_ GE411.out | refine below_set ?_ GE412.out) | exact HB.out))) : w.heap.size ≤ gb413)); have n7_ := Aside0.mk ((by rw [hg]; exact Nat.ne_of_lt (blk_lt (g := gb410) (o := .cells #[.bool a0_0, .int .u64 a0_1, .int .u64 a0_2] 72 (0, 0)) (by (with_reducible repeat (first | refine blk_drewN ?_ _ | refine blk_drew ?_ | refine blk_alloc ?_ _)); exact BK410.out)) : gb410 ≠ gb413)); have n8_ := Aside0.mk ((by rw [hg]; exact Nat.ne_of_gt (blk_lt (g := gb410) (o := .cells #[.bool a0_0, .int .u64 a0_1, .int .u64 a0_2] 72 (0, 0)) (by (with_reducible repeat (first | refine blk_drewN ?_ _ | refine blk_drew ?_ | refine blk_alloc ?_ _)); exact BK410.out)) : gb413 ≠ gb410)); have n9_ := Aside0.mk ((by rw [hg]; exact Nat.ne_of_lt (blk_lt (g := gb411) (o := .cells #[.bool a1_0, .int .u64 a1_1, .int .u64 a1_2] 72 (0, 0)) (by (with_reducible repeat (first | refine blk_drewN ?_ _ | refine blk_drew ?_ | refine blk_alloc ?_ _)); exact BK411.out)) : gb411 ≠ gb413)); have n10_ := Aside0.mk ((by rw [hg]; exact Nat.ne_of_gt (blk_lt (g := gb411) (o := .cells #[.bool a1_0, .int .u64 a1_1, .int .u64 a1_2] 72 (0, 0)) (by (with_reducible repeat (first | refine blk_drewN ?_ _ | refine blk_drew ?_ | refine blk_alloc ?_ _)); exact BK411.out)) : gb413 ≠ gb411)); have n11_ := Aside0.mk ((by rw [hg]; exact Nat.ne_of_lt (blk_lt (g := gb412) (o := .cells #[.bool false, .int .u64 0, .int .u64 0] 72 (0, 0)) (by (with_reducible repeat (first | refine blk_drewN ?_ _ | refine blk_drew ?_ | refine blk_alloc ?_ _)); exact BK412.out)) : gb412 ≠ gb413)); have n12_ := Aside0.mk ((by rw [hg]; exact Nat.ne_of_gt (blk_lt (g := gb412) (o := .cells #[.bool false, .int .u64 0, .int .u64 0] 72 (0, 0)) (by (with_reducible repeat (first | refine blk_drewN ?_ _ | refine blk_drew ?_ | refine blk_alloc ?_ _)); exact BK412.out)) : gb413 ≠ gb412)); clear BK410; clear BK411; clear BK412; clear HB; have BK410 := n0_; have BK411 := n1_; have BK412 := n2_; have HB := n3_; have BK413 := n4_; have GW413 := n5_; have GE413 := n6_; have NB410_413 := n7_; have NB413_410 := n8_; have NB411_413 := n9_; have NB413_411 := n10_; have NB412_413 := n11_; have NB413_412 := n12_; clear n0_ n1_ n2_ n3_ n4_ n5_ n6_ n7_ n8_ n9_ n10_ n11_ n12_; clear hb hbox hg; have hnb7 := NB413_410.out; have hnc7 := NB410_413.out; have hnb8 := NB413_411.out; have hnc8 := NB411_413.out; have hnb9 := NB413_412.out; have hnc9 := NB412_413.out; have hcz10_0 : w6.cell? ⟨gb413, 0, none⟩ = some (.bool false) := (blk_cell BK413.out 0).trans rfl; have hcz10_1 : w6.cell? ⟨gb413, 1, none⟩ = some (.int .u64 0) := (blk_cell BK413.out 1).trans rfl; have hcz10_2 : w6.cell? ⟨gb413, 2, none⟩ = some (.int .u64 0) := (blk_cell BK413.out 2).trans rfl; have hfz10_0 := blk_frozen BK413.out 0; have hfz10_1 := blk_frozen BK413.out 1; have hfz10_2 := blk_frozen BK413.out 2; have hnb11 := NB410_411.out; have hnc11 := NB411_410.out; have hnb12 := NB410_412.out; have hnc12 := NB412_410.out; have hcz13_0 : w6.cell? ⟨gb410, 0, none⟩ = some (.bool a0_0) := (blk_cell BK410.out 0).trans rfl; have hcz13_1 : w6.cell? ⟨gb410, 1, none⟩ = some (.int .u64 a0_1) := (blk_cell BK410.out 1).trans rfl; have hcz13_2 : w6.cell? ⟨gb410, 2, none⟩ = some (.int .u64 a0_2) := (blk_cell BK410.out 2).trans rfl; have hfz13_0 := blk_frozen BK410.out 0; have hfz13_1 := blk_frozen BK410.out 1; have hfz13_2 := blk_frozen BK410.out 2) | ((with_reducible refine gate_dst (N := 6) rfl ?_); refine box_event ?hg (N := 6) ?hd (cs := #[.bool false, .int .u64 0, .int .u64 0]) (t := 72) ?hr ?_; (case hd => rfl); (case hg => rfl); (case hr => first | (go_simp; done) | (go_simp; rfl)); intro gb414 hg w14 hbox hb; have n0_ := Aside0.mk (blk_below (g := gb410) (o := .cells #[.bool a0_0, .int .u64 a0_1, .int .u64 a0_2] 72 (0, 0)) (by (with_reducible repeat (first | refine blk_drewN ?_ _ | refine blk_drew ?_ | refine blk_alloc ?_ _)); refine blk_far ?_ NB410_413.out _; (with_reducible repeat (first | refine blk_drewN ?_ _ | refine blk_drew ?_ | refine blk_alloc ?_ _)); refine blk_far ?_ NB410_413.out _; (with_reducible repeat (first | refine blk_drewN ?_ _ | refine blk_drew ?_ | refine blk_alloc ?_ _)); refine blk_far ?_ NB410_413.out _; (with_reducible repeat (first | refine blk_drewN ?_ _ | refine blk_drew ?_ | refine blk_alloc ?_ _)); exact BK410.out) hb); have n1_ := Aside0.mk (blk_below (g := gb411) (o := .cells #[.bool a1_0, .int .u64 a1_1, .int .u64 a1_2] 72 (0, 0)) (by (with_reducible repeat (first | refine blk_drewN ?_ _ | refine blk_drew ?_ | refine blk_alloc ?_ _)); refine blk_far ?_ NB411_413.out _; (with_reducible repeat (first | refine blk_drewN ?_ _ | refine blk_drew ?_ | refine blk_alloc ?_ _)); refine blk_far ?_ NB411_413.out _; (with_reducible repeat (first | refine blk_drewN ?_ _ | refine blk_drew ?_ | refine blk_alloc ?_ _)); refine blk_far ?_ NB411_413.out _; (with_reducible repeat (first | refine blk_drewN ?_ _ | refine blk_drew ?_ | refine blk_alloc ?_ _)); exact BK411.out) hb); have n2_ := Aside0.mk (blk_below (g := gb412) (o := .cells #[.bool false, .int .u64 0, .int .u64 0] 72 (0, 0)) (by (with_reducible repeat (first | refine blk_drewN ?_ _ | refine blk_drew ?_ | refine blk_alloc ?_ _)); refine blk_far ?_ NB412_413.out _; (with_reducible repeat (first | refine blk_drewN ?_ _ | refine blk_drew ?_ | refine blk_alloc ?_ _)); refine blk_far ?_ NB412_413.out _; (with_reducible repeat (first | refine blk_drewN ?_ _ | refine blk_drew ?_ | refine blk_alloc ?_ _)); refine blk_far ?_ NB412_413.out _; (with_reducible repeat (first | refine blk_drewN ?_ _ | refine blk_drew ?_ | refine blk_alloc ?_ _)); exact BK412.out) hb); have n3_ := Aside0.mk (blk_below (g := gb413) (o := .cells #[.bool false, .int .u64 0, .int .u64 0] 72 (0, 0)) (by (with_reducible repeat (first | refine blk_drewN ?_ _ | refine blk_drew ?_ | refine blk_alloc ?_ _)); refine blk_put (cs := #[.bool false, .int .u64 0, .int .u64 0]) ?_ 2 _ rfl; (with_reducible repeat (first | refine blk_drewN ?_ _ | refine blk_drew ?_ | refine blk_alloc ?_ _)); refine blk_put (cs := #[.bool false, .int .u64 0, .int .u64 0]) ?_ 1 _ rfl; (with_reducible repeat (first | refine blk_drewN ?_ _ | refine blk_drew ?_ | refine blk_alloc ?_ _)); refine blk_put (cs := #[.bool false, .int .u64 0, .int .u64 0]) ?_ 0 _ rfl; (with_reducible repeat (first | refine blk_drewN ?_ _ | refine blk_drew ?_ | refine blk_alloc ?_ _)); exact BK413.out) hb); have n4_ := Aside0.mk (below_step (by repeat (first | (with_reducible first | exact HB.out | apply below_alloc | apply pw_below_drewN | apply below_drew1 | refine below_set ?_ GE410.out | refine below_set ?_ GE411.out | refine below_set ?_ GE412.out | refine below_set ?_ GE413.out) | exact HB.out)) hb); have n5_ := Aside0.mk (hbox); have n6_ := Aside0.mk ((by rw [hg]; exact (below_size (by repeat (first | (with_reducible first | exact HB.out | apply below_alloc | apply pw_below_drewN | apply below_drew1 | refine below_set ?_ GE410.out | refine below_set ?_ GE411.out | refine below_set ?_ GE412.out | refine below_set ?_ GE413.out) | exact HB.out))) : w.heap.size ≤ gb414)); have n7_ := Aside0.mk ((by rw [hg]; exact (below_size (by repeat (first | (with_reducible first | exact HB.out | apply below_alloc | apply pw_below_drewN | apply below_drew1 | refine below_set ?_ GE410.out | refine below_set ?_ GE411.out | refine below_set ?_ GE412.out | refine below_set ?_ GE413.out) | exact HB.out))) : w.heap.size ≤ gb414)); have n8_ := Aside0.mk ((by rw [hg]; exact Nat.ne_of_lt (blk_lt (g := gb410) (o := .cells #[.bool a0_0, .int .u64 a0_1, .int .u64 a0_2] 72 (0, 0)) (by (with_reducible repeat (first | refine blk_drewN ?_ _ | refine blk_drew ?_ | refine blk_alloc ?_ _)); refine blk_far ?_ NB410_413.out _; (with_reducible repeat (first | refine blk_drewN ?_ _ | refine blk_drew ?_ | refine blk_alloc ?_ _)); refine blk_far ?_ NB410_413.out _; (with_reducible repeat (first | refine blk_drewN ?_ _ | refine blk_drew ?_ | refine blk_alloc ?_ _)); refine blk_far ?_ NB410_413.out _; (with_reducible repeat (first | refine blk_drewN ?_ _ | refine blk_drew ?_ | refine blk_alloc ?_ _)); exact BK410.out)) : gb410 ≠ gb414)); have n9_ := Aside0.mk ((by rw [hg]; exact Nat.ne_of_gt (blk_lt (g := gb410) (o := .cells #[.bool a0_0, .int .u64 a0_1, .int .u64 a0_2] 72 (0, 0)) (by (with_reducible repeat (first | refine blk_drewN ?_ _ | refine blk_drew ?_ | refine blk_alloc ?_ _)); refine blk_far ?_ NB410_413.out _; (with_reducible repeat (first | refine blk_drewN ?_ _ | refine blk_drew ?_ | refine blk_alloc ?_ _)); refine blk_far ?_ NB410_413.out _; (with_reducible repeat (first | refine blk_drewN ?_ _ | refine blk_drew ?_ | refine blk_alloc ?_ _)); refine blk_far ?_ NB410_413.out _; (with_reducible repeat (first | refine blk_drewN ?_ _ | refine blk_drew ?_ | refine blk_alloc ?_ _)); exact BK410.out)) : gb414 ≠ gb410)); have n10_ := Aside0.mk ((by rw [hg]; exact Nat.ne_of_lt (blk_lt (g := gb411) (o := .cells #[.bool a1_0, .int .u64 a1_1, .int .u64 a1_2] 72 (0, 0)) (by (with_reducible repeat (first | refine blk_drewN ?_ _ | refine blk_drew ?_ | refine blk_alloc ?_ _)); refine blk_far ?_ NB411_413.out _; (with_reducible repeat (first | refine blk_drewN ?_ _ | refine blk_drew ?_ | refine blk_alloc ?_ _)); refine blk_far ?_ NB411_413.out _; (with_reducible repeat (first | refine blk_drewN ?_ _ | refine blk_drew ?_ | refine blk_alloc ?_ _)); refine blk_far ?_ NB411_413.out _; (with_reducible repeat (first | refine blk_drewN ?_ _ | refine blk_drew ?_ | refine blk_alloc ?_ _)); exact BK411.out)) : gb411 ≠ gb414)); have n11_ := Aside0.mk ((by rw [hg]; exact Nat.ne_of_gt (blk_lt (g := gb411) (o := .cells #[.bool a1_0, .int .u64 a1_1, .int .u64 a1_2] 72 (0, 0)) (by (with_reducible repeat (first | refine blk_drewN ?_ _ | refine blk_drew ?_ | refine blk_alloc ?_ _)); refine blk_far ?_ NB411_413.out _; (with_reducible repeat (first | refine blk_drewN ?_ _ | refine blk_drew ?_ | refine blk_alloc ?_ _)); refine blk_far ?_ NB411_413.out _; (with_reducible repeat (first | refine blk_drewN ?_ _ | refine blk_drew ?_ | refine blk_alloc ?_ _)); refine blk_far ?_ NB411_413.out _; (with_reducible repeat (first | refine blk_drewN ?_ _ | refine blk_drew ?_ | refine blk_alloc ?_ _)); exact BK411.out)) : gb414 ≠ gb411)); have n12_ := Aside0.mk ((by rw [hg]; exact Nat.ne_of_lt (blk_lt (g := gb412) (o := .cells #[.bool false, .int .u64 0, .int .u64 0] 72 (0, 0)) (by (with_reducible repeat (first | refine blk_drewN ?_ _ | refine blk_drew ?_ | refine blk_alloc ?_ _)); refine blk_far ?_ NB412_413.out _; (with_reducible repeat (first | refine blk_drewN ?_ _ | refine blk_drew ?_ | refine blk_alloc ?_ _)); refine blk_far ?_ NB412_413.out _; (with_reducible repeat (first | refine blk_drewN ?_ _ | refine blk_drew ?_ | refine blk_alloc ?_ _)); refine blk_far ?_ NB412_413.out _; (with_reducible repeat (first | refine blk_drewN ?_ _ | refine blk_drew ?_ | refine blk_alloc ?_ _)); exact BK412.out)) : gb412 ≠ gb414)); have n13_ := Aside0.mk ((by rw [hg]; exact Nat.ne_of_gt (blk_lt (g := gb412) (o := .cells #[.bool false, .int .u64 0, .int .u64 0] 72 (0, 0)) (by (with_reducible repeat (first | refine blk_drewN ?_ _ | refine blk_drew ?_ | refine blk_alloc ?_ _)); refine blk_far ?_ NB412_413.out _; (with_reducible repeat (first | refine blk_drewN ?_ _ | refine blk_drew ?_ | refine blk_alloc ?_ _)); refine blk_far ?_ NB412_413.out _; (with_reducible repeat (first | refine blk_drewN ?_ _ | refine blk_drew ?_ | refine blk_alloc ?_ _)); refine blk_far ?_ NB412_413.out _; (with_reducible repeat (first | refine blk_drewN ?_ _ | refine blk_drew ?_ | refine blk_alloc ?_ _)); exact BK412.out)) : gb414 ≠ gb412)); have n14_ := Aside0.mk ((by rw [hg]; exact Nat.ne_of_lt (blk_lt (g := gb413) (o := .cells #[.bool false, .int .u64 0, .int .u64 0] 72 (0, 0)) (by (with_reducible repeat (first | refine blk_drewN ?_ _ | refine blk_drew ?_ | refine blk_alloc ?_ _)); refine blk_put (cs := #[.bool false, .int .u64 0, .int .u64 0]) ?_ 2 _ rfl; (with_reducible repeat (first | refine blk_drewN ?_ _ | refine blk_drew ?_ | refine blk_alloc ?_ _)); refine blk_put (cs := #[.bool false, .int .u64 0, .int .u64 0]) ?_ 1 _ rfl; (with_reducible repeat (first | refine blk_drewN ?_ _ | refine blk_drew ?_ | refine blk_alloc ?_ _)); refine blk_put (cs := #[.bool false, .int .u64 0, .int .u64 0]) ?_ 0 _ rfl; (with_reducible repeat (first | refine blk_drewN ?_ _ | refine blk_drew ?_ | refine blk_alloc ?_ _)); exact BK413.out)) : gb413 ≠ gb414)); have n15_ := Aside0.mk ((by rw [hg]; exact Nat.ne_of_gt (blk_lt (g := gb413) (o := .cells #[.bool false, .int .u64 0, .int .u64 0] 72 (0, 0)) (by (with_reducible repeat (first | refine blk_drewN ?_ _ | refine blk_drew ?_ | refine blk_alloc ?_ _)); refine blk_put (cs := #[.bool false, .int .u64 0, .int .u64 0]) ?_ 2 _ rfl; (with_reducible repeat (first | refine blk_drewN ?_ _ | refine blk_drew ?_ | refine blk_alloc ?_ _)); refine blk_put (cs := #[.bool false, .int .u64 0, .int .u64 0]) ?_ 1 _ rfl; (with_reducible repeat (first | refine blk_drewN ?_ _ | refine blk_drew ?_ | refine blk_alloc ?_ _)); refine blk_put (cs := #[.bool false, .int .u64 0, .int .u64 0]) ?_ 0 _ rfl; (with_reducible repeat (first | refine blk_drewN ?_ _ | refine blk_drew ?_ | refine blk_alloc ?_ _)); exact BK413.out)) : gb414 ≠ gb413)); clear BK410; clear BK411; clear BK412; clear BK413; clear HB; have BK410 := n0_; have BK411 := n1_; have BK412 := n2_; have BK413 := n3_; have HB := n4_; have BK414 := n5_; have GW414 := n6_; have GE414 := n7_; have NB410_414 := n8_; have NB414_410 := n9_; have NB411_414 := n10_; have NB414_411 := n11_; have NB412_414 := n12_; have NB414_412 := n13_; have NB413_414 := n14_; have NB414_413 := n15_; clear n0_ n1_ n2_ n3_ n4_ n5_ n6_ n7_ n8_ n9_ n10_ n11_ n12_ n13_ n14_ n15_; clear hb hbox hg; have hnb15 := NB414_410.out; have hnc15 := NB410_414.out; have hnb16 := NB414_411.out; have hnc16 := NB411_414.out; have hnb17 := NB414_412.out; have hnc17 := NB412_414.out; have hnb18 := NB414_413.out; have hnc18 := NB413_414.out; have hcz19_0 : w14.cell? ⟨gb414, 0, none⟩ = some (.bool false) := (blk_cell BK414.out 0).trans rfl; have hcz19_1 : w14.cell? ⟨gb414, 1, none⟩ = some (.int .u64 0) := (blk_cell BK414.out 1).trans rfl; have hcz19_2 : w14.cell? ⟨gb414, 2, none⟩ = some (.int .u64 0) := (blk_cell BK414.out 2).trans rfl; have hfz19_0 := blk_frozen BK414.out 0; have hfz19_1 := blk_frozen BK414.out 1; have hfz19_2 := blk_frozen BK414.out 2; have hnb20 := NB411_412.out; have hnc20 := NB412_411.out; have hcz21_0 : w14.cell? ⟨gb411, 0, none⟩ = some (.bool a1_0) := (blk_cell BK411.out 0).trans rfl; have hcz21_1 : w14.cell? ⟨gb411, 1, none⟩ = some (.int .u64 a1_1) := (blk_cell BK411.out 1).trans rfl; have hcz21_2 : w14.cell? ⟨gb411, 2, none⟩ = some (.int .u64 a1_2) := (blk_cell BK411.out 2).trans rfl; have hfz21_0 := blk_frozen BK411.out 0; have hfz21_1 := blk_frozen BK411.out 1; have hfz21_2 := blk_frozen BK411.out 2))
 go_loopg [7] k (fun kq v7 w' => ∃ (x7_1 : Int) (x414000_1 : Bool) (x414001_1 : Int) (x414002_1 : Int) (x415000_1 : Bool) (x415001_1 : Int) (x415002_1 : Int), v7 = .int .u64 x7_1 ∧ Aside0 (gangerref01_Product.l0 kq x7_1 a0_0 a0_1 a0_2 a1_0 a1_1 a1_2 x414000_1 x414001_1 x414002_1 x415000_1 x415001_1 x415002_1 = some (r1, r2, r3)) ∧ Aside0 (kq ≤ k) ∧ Aside0 (w'.heap[gb410]? = some (.cells #[.bool a0_0, .int .u64 a0_1, .int .u64 a0_2] 72 (0, 0))) ∧ Aside0 (w'.heap[gb411]? = some (.cells #[.bool a1_0, .int .u64 a1_1, .int .u64 a1_2] 72 (0, 0))) ∧ Aside0 (w'.heap[gb412]? = some (.cells #[.bool false, .int .u64 0, .int .u64 0] 72 (0, 0))) ∧ Aside0 (w'.heap[gb413]? = some (.cells #[.bool x414000_1, .int .u64 x414001_1, .int .u64 x414002_1] 72 (0, 0))) ∧ Aside0 (w'.heap[gb414]? = some (.cells #[.bool x415000_1, .int .u64 x415001_1, .int .u64 x415002_1] 72 (0, 0))) ∧ Aside0 (Below w.heap.size w w'))
 case atStart => exact ⟨(a1_2), (false), (0), (0), (false), (0), (a0_2), (by first | rfl | (simp; done) | (simp [*]; done)), H', ⟨Nat.le_refl _⟩, ⟨by (with_reducible repeat (first | refine blk_drewN ?_ _ | refine blk_drew ?_ | refine blk_alloc ?_ _)); refine blk_far ?_ NB410_414.out _; (with_reducible repeat (first | refine blk_drewN ?_ _ | refine blk_drew ?_ | refine blk_alloc ?_ _)); refine blk_far ?_ NB410_414.out _; (with_reducible repeat (first | refine blk_drewN ?_ _ | refine blk_drew ?_ | refine blk_alloc ?_ _)); refine blk_far ?_ NB410_414.out _; (with_reducible repeat (first | refine blk_drewN ?_ _ | refine blk_drew ?_ | refine blk_alloc ?_ _)); exact BK410.out⟩, ⟨by (with_reducible repeat (first | refine blk_drewN ?_ _ | refine blk_drew ?_ | refine blk_alloc ?_ _)); refine blk_far ?_ NB411_414.out _; (with_reducible repeat (first | refine blk_drewN ?_ _ | refine blk_drew ?_ | refine blk_alloc ?_ _)); refine blk_far ?_ NB411_414.out _; (with_reducible repeat (first | refine blk_drewN ?_ _ | refine blk_drew ?_ | refine blk_alloc ?_ _)); refine blk_far ?_ NB411_414.out _; (with_reducible repeat (first | refine blk_drewN ?_ _ | refine blk_drew ?_ | refine blk_alloc ?_ _)); exact BK411.out⟩, ⟨by (with_reducible repeat (first | refine blk_drewN ?_ _ | refine blk_drew ?_ | refine blk_alloc ?_ _)); refine blk_far ?_ NB412_414.out _; (with_reducible repeat (first | refine blk_drewN ?_ _ | refine blk_drew ?_ | refine blk_alloc ?_ _)); refine blk_far ?_ NB412_414.out _; (with_reducible repeat (first | refine blk_drewN ?_ _ | refine blk_drew ?_ | refine blk_alloc ?_ _)); refine blk_far ?_ NB412_414.out _; (with_reducible repeat (first | refine blk_drewN ?_ _ | refine blk_drew ?_ | refine blk_alloc ?_ _)); exact BK412.out⟩, ⟨by (with_reducible repeat (first | refine blk_drewN ?_ _ | refine blk_drew ?_ | refine blk_alloc ?_ _)); refine blk_far ?_ NB413_414.out _; (with_reducible repeat (first | refine blk_drewN ?_ _ | refine blk_drew ?_ | refine blk_alloc ?_ _)); refine blk_far ?_ NB413_414.out _; (with_reducible repeat (first | refine blk_drewN ?_ _ | refine blk_drew ?_ | refine blk_alloc ?_ _)); refine blk_far ?_ NB413_414.out _; (with_reducible repeat (first | refine blk_drewN ?_ _ | refine blk_drew ?_ | refine blk_alloc ?_ _)); exact BK413.out⟩, ⟨by (with_reducible repeat (first | refine blk_drewN ?_ _ | refine blk_drew ?_ | refine blk_alloc ?_ _)); refine blk_put (cs := #[.bool false, .int .u64 0, .int .u64 0]) ?_ 2 _ rfl; (with_reducible repeat (first | refine blk_drewN ?_ _ | refine blk_drew ?_ | refine blk_alloc ?_ _)); refine blk_put (cs := #[.bool false, .int .u64 0, .int .u64 0]) ?_ 1 _ rfl; (with_reducible repeat (first | refine blk_drewN ?_ _ | refine blk_drew ?_ | refine blk_alloc ?_ _)); refine blk_put (cs := #[.bool false, .int .u64 0, .int .u64 0]) ?_ 0 _ rfl; (with_reducible repeat (first | refine blk_drewN ?_ _ | refine blk_drew ?_ | refine blk_alloc ?_ _)); exact BK414.out⟩, ⟨by repeat (first | (with_reducible first | exact HB.out | apply below_alloc | apply pw_below_drewN | apply below_drew1 | refine below_set ?_ GE410.out | refine below_set ?_ GE411.out | refine below_set ?_ GE412.out | refine below_set ?_ GE413.out | refine below_set ?_ GE414.out) | exact HB.out)⟩⟩
 case round =>
  clear H'
  obtain ⟨x7_1, x414000_1, x414001_1, x414002_1, x415000_1, x415001_1, x415002_1, rfl, HA, HK1, BK410, BK411, BK412, BK413, BK414, HB⟩ := hrel
  cases gk with
  | zero => exact absurd HA.out (by simp [gangerref01_Product.l0])
  | succ k1 =>
   have H := HA.out
   clear HA
   simp only [gangerref01_Product.l0] at H
   by_cases c22 : x7_1 > 0
   ·rw [if_pos c22] at H
    have c22b0 : decide (0 < x7_1) = true := decide_eq_true c22
    clear c22
    by_cases c23 : (Int.tmod x7_1 2) = 1
    ·rw [if_pos c23] at H
     have c23b0 : ((Int.tmod x7_1 2) == 1) = true := beq_iff_eq.mpr c23
     have c23b1 : ((Int.tmod x7_1 2) != 1) = false := bne_eq_false_iff_eq.mpr c23
     clear c23
     replace H := Option.bind_eq_some_iff.mp H
     obtain ⟨⟨t415, t416, t417⟩, A240, H⟩ := H
     replace H : ((gangerref01_plus.f x415000_1 x415001_1 x415002_1 x415000_1 x415001_1 x415002_1).bind fun bt418 => (gangerref01_Product.l0 k1 (IntKind.u64.wrap (Int.tdiv x7_1 2)) a0_0 a0_1 a0_2 a1_0 a1_1 a1_2 t415 t416 t417 bt418.1 bt418.2.1 bt418.2.2)) = some (r1, r2, r3) := H
     have A24 := Aside0.mk A240
     clear A240
     replace H := Option.bind_eq_some_iff.mp H
     obtain ⟨⟨t418, t419, t420⟩, A250, H⟩ := H
     replace H : (gangerref01_Product.l0 k1 (IntKind.u64.wrap (Int.tdiv x7_1 2)) a0_0 a0_1 a0_2 a1_0 a1_1 a1_2 t415 t416 t417 t418 t419 t420) = some (r1, r2, r3) := H
     have A25 := Aside0.mk A250
     clear A250
     have H' := Aside0.mk H
     clear H
     have hnb26 := NB413_410.out
     have hnc26 := NB410_413.out
     have hnb27 := NB413_411.out
     have hnc27 := NB411_413.out
     have hnb28 := NB413_412.out
     have hnc28 := NB412_413.out
     have hnb29 := NB413_414.out
     have hnc29 := NB414_413.out
     have hcz30_0 : wr.cell? ⟨gb413, 0, none⟩ = some (.bool x414000_1) := (blk_cell BK413.out 0).trans rfl
     have hcz30_1 : wr.cell? ⟨gb413, 1, none⟩ = some (.int .u64 x414001_1) := (blk_cell BK413.out 1).trans rfl
     have hcz30_2 : wr.cell? ⟨gb413, 2, none⟩ = some (.int .u64 x414002_1) := (blk_cell BK413.out 2).trans rfl
     have hfz30_0 := blk_frozen BK413.out 0
     have hfz30_1 := blk_frozen BK413.out 1
     have hfz30_2 := blk_frozen BK413.out 2
     have hnb31 := NB414_410.out
     have hnc31 := NB410_414.out
     have hnb32 := NB414_411.out
     have hnc32 := NB411_414.out
     have hnb33 := NB414_412.out
     have hnc33 := NB412_414.out
     have hcz34_0 : wr.cell? ⟨gb414, 0, none⟩ = some (.bool x415000_1) := (blk_cell BK414.out 0).trans rfl
     have hcz34_1 : wr.cell? ⟨gb414, 1, none⟩ = some (.int .u64 x415001_1) := (blk_cell BK414.out 1).trans rfl
     have hcz34_2 : wr.cell? ⟨gb414, 2, none⟩ = some (.int .u64 x415002_1) := (blk_cell BK414.out 2).trans rfl
     have hfz34_0 := blk_frozen BK414.out 0
     have hfz34_1 := blk_frozen BK414.out 1
     have hfz34_2 := blk_frozen BK414.out 2
     go_wp2_with (first | ((with_reducible refine gate_callee (f := 40) rfl ?_); refine goesL_ (some 21) rfl rfl Tryd.func40 (by kernel_rfl) rfl #[.agg #[.bool x414000_1, .int .u64 x414001_1, .int .u64 x414002_1], .agg #[.bool x415000_1, .int .u64 x415001_1, .int .u64 x415002_1]] rfl (by (try simp only [List.map_toArray, List.map_cons, List.map_nil]); first | done | rfl | (simp only [List.length_drop, List.length_take]; rfl)) ?_; (with_reducible refine (gangerref01_plus.calls x414000_1 x414001_1 x414002_1 x415000_1 x415001_1 x415002_1 t415 t416 t417 _ A24.out).mono ?_); rintro e w35 ⟨rfl, hb⟩; refine ⟨_, rfl, ?_⟩; have n0_ := Aside0.mk (blk_below (g := gb410) (o := .cells #[.bool a0_0, .int .u64 a0_1, .int .u64 a0_2] 72 (0, 0)) (by (with_reducible repeat (first | refine blk_drewN ?_ _ | refine blk_drew ?_ | refine blk_alloc ?_ _)); exact BK410.out) hb); have n1_ := Aside0.mk (blk_below (g := gb411) (o := .cells #[.bool a1_0, .int .u64 a1_1, .int .u64 a1_2] 72 (0, 0)) (by (with_reducible repeat (first | refine blk_drewN ?_ _ | refine blk_drew ?_ | refine blk_alloc ?_ _)); exact BK411.out) hb); have n2_ := Aside0.mk (blk_below (g := gb412) (o := .cells #[.bool false, .int .u64 0, .int .u64 0] 72 (0, 0)) (by (with_reducible repeat (first | refine blk_drewN ?_ _ | refine blk_drew ?_ | refine blk_alloc ?_ _)); exact BK412.out) hb); have n3_ := Aside0.mk (blk_below (g := gb413) (o := .cells #[.bool x414000_1, .int .u64 x414001_1, .int .u64 x414002_1] 72 (0, 0)) (by (with_reducible repeat (first | refine blk_drewN ?_ _ | refine blk_drew ?_ | refine blk_alloc ?_ _)); exact BK413.out) hb); have n4_ := Aside0.mk (blk_below (g := gb414) (o := .cells #[.bool x415000_1, .int .u64 x415001_1, .int .u64 x415002_1] 72 (0, 0)) (by (with_reducible repeat (first | refine blk_drewN ?_ _ | refine blk_drew ?_ | refine blk_alloc ?_ _)); exact BK414.out) hb); have n5_ := Aside0.mk (below_step (by repeat (first | (with_reducible first | exact HB.out | apply below_alloc | apply pw_below_drewN | apply below_drew1 | refine below_set ?_ GE410.out | refine below_set ?_ GE411.out | refine below_set ?_ GE412.out | refine below_set ?_ GE413.out | refine below_set ?_ GE414.out) | exact HB.out)) hb); clear BK410; clear BK411; clear BK412; clear BK413; clear BK414; clear HB; have BK410 := n0_; have BK411 := n1_; have BK412 := n2_; have BK413 := n3_; have BK414 := n4_; have HB := n5_; clear n0_ n1_ n2_ n3_ n4_ n5_; (try clear hb); (try clear hb2); (try clear hk); (try clear hi); have hcz36_0 : w35.cell? ⟨gb413, 0, none⟩ = some (.bool x414000_1) := (blk_cell BK413.out 0).trans rfl; have hcz36_1 : w35.cell? ⟨gb413, 1, none⟩ = some (.int .u64 x414001_1) := (blk_cell BK413.out 1).trans rfl; have hcz36_2 : w35.cell? ⟨gb413, 2, none⟩ = some (.int .u64 x414002_1) := (blk_cell BK413.out 2).trans rfl; have hfz36_0 := blk_frozen BK413.out 0; have hfz36_1 := blk_frozen BK413.out 1; have hfz36_2 := blk_frozen BK413.out 2; have hcz37_0 : w35.cell? ⟨gb414, 0, none⟩ = some (.bool x415000_1) := (blk_cell BK414.out 0).trans rfl; have hcz37_1 : w35.cell? ⟨gb414, 1, none⟩ = some (.int .u64 x415001_1) := (blk_cell BK414.out 1).trans rfl; have hcz37_2 : w35.cell? ⟨gb414, 2, none⟩ = some (.int .u64 x415002_1) := (blk_cell BK414.out 2).trans rfl; have hfz37_0 := blk_frozen BK414.out 0; have hfz37_1 := blk_frozen BK414.out 1; have hfz37_2 := blk_frozen BK414.out 2) | ((with_reducible refine gate_callee (f := 40) rfl ?_); refine goesL_ (some 24) rfl rfl Tryd.func40 (by kernel_rfl) rfl #[.agg #[.bool x415000_1, .int .u64 x415001_1, .int .u64 x415002_1], .agg #[.bool x415000_1, .int .u64 x415001_1, .int .u64 x415002_1]] rfl (by (try simp only [List.map_toArray, List.map_cons, List.map_nil]); first | done | rfl | (simp only [List.length_drop, List.length_take]; rfl)) ?_; (with_reducible refine (gangerref01_plus.calls x415000_1 x415001_1 x415002_1 x415000_1 x415001_1 x415002_1 t418 t419 t420 _ A25.out).mono ?_); rintro e w38 ⟨rfl, hb⟩; refine ⟨_, rfl, ?_⟩; have n0_ := Aside0.mk (blk_below (g := gb410) (o := .cells #[.bool a0_0, .int .u64 a0_1, .int .u64 a0_2] 72 (0, 0)) (by (with_reducible repeat (first | refine blk_drewN ?_ _ | refine blk_drew ?_ | refine blk_alloc ?_ _)); refine blk_far ?_ NB410_413.out _; (with_reducible repeat (first | refine blk_drewN ?_ _ | refine blk_drew ?_ | refine blk_alloc ?_ _)); refine blk_far ?_ NB410_413.out _; (with_reducible repeat (first | refine blk_drewN ?_ _ | refine blk_drew ?_ | refine blk_alloc ?_ _)); refine blk_far ?_ NB410_413.out _; (with_reducible repeat (first | refine blk_drewN ?_ _ | refine blk_drew ?_ | refine blk_alloc ?_ _)); exact BK410.out) hb); have n1_ := Aside0.mk (blk_below (g := gb411) (o := .cells #[.bool a1_0, .int .u64 a1_1, .int .u64 a1_2] 72 (0, 0)) (by (with_reducible repeat (first | refine blk_drewN ?_ _ | refine blk_drew ?_ | refine blk_alloc ?_ _)); refine blk_far ?_ NB411_413.out _; (with_reducible repeat (first | refine blk_drewN ?_ _ | refine blk_drew ?_ | refine blk_alloc ?_ _)); refine blk_far ?_ NB411_413.out _; (with_reducible repeat (first | refine blk_drewN ?_ _ | refine blk_drew ?_ | refine blk_alloc ?_ _)); refine blk_far ?_ NB411_413.out _; (with_reducible repeat (first | refine blk_drewN ?_ _ | refine blk_drew ?_ | refine blk_alloc ?_ _)); exact BK411.out) hb); have n2_ := Aside0.mk (blk_below (g := gb412) (o := .cells #[.bool false, .int .u64 0, .int .u64 0] 72 (0, 0)) (by (with_reducible repeat (first | refine blk_drewN ?_ _ | refine blk_drew ?_ | refine blk_alloc ?_ _)); refine blk_far ?_ NB412_413.out _; (with_reducible repeat (first | refine blk_drewN ?_ _ | refine blk_drew ?_ | refine blk_alloc ?_ _)); refine blk_far ?_ NB412_413.out _; (with_reducible repeat (first | refine blk_drewN ?_ _ | refine blk_drew ?_ | refine blk_alloc ?_ _)); refine blk_far ?_ NB412_413.out _; (with_reducible repeat (first | refine blk_drewN ?_ _ | refine blk_drew ?_ | refine blk_alloc ?_ _)); exact BK412.out) hb); have n3_ := Aside0.mk (blk_below (g := gb413) (o := .cells #[.bool t415, .int .u64 t416, .int .u64 t417] 72 (0, 0)) (by (with_reducible repeat (first | refine blk_drewN ?_ _ | refine blk_drew ?_ | refine blk_alloc ?_ _)); refine blk_put (cs := #[.bool t415, .int .u64 t416, .int .u64 x414002_1]) ?_ 2 _ rfl; (with_reducible repeat (first | refine blk_drewN ?_ _ | refine blk_drew ?_ | refine blk_alloc ?_ _)); refine blk_put (cs := #[.bool t415, .int .u64 x414001_1, .int .u64 x414002_1]) ?_ 1 _ rfl; (with_reducible repeat (first | refine blk_drewN ?_ _ | refine blk_drew ?_ | refine blk_alloc ?_ _)); refine blk_put (cs := #[.bool x414000_1, .int .u64 x414001_1, .int .u64 x414002_1]) ?_ 0 _ rfl; (with_reducible repeat (first | refine blk_drewN ?_ _ | refine blk_drew ?_ | refine blk_alloc ?_ _)); exact BK413.out) hb); have n4_ := Aside0.mk (blk_below (g := gb414) (o := .cells #[.bool x415000_1, .int .u64 x415001_1, .int .u64 x415002_1] 72 (0, 0)) (by (with_reducible repeat (first | refine blk_drewN ?_ _ | refine blk_drew ?_ | refine blk_alloc ?_ _)); refine blk_far ?_ NB414_413.out _; (with_reducible repeat (first | refine blk_drewN ?_ _ | refine blk_drew ?_ | refine blk_alloc ?_ _)); refine blk_far ?_ NB414_413.out _; (with_reducible repeat (first | refine blk_drewN ?_ _ | refine blk_drew ?_ | refine blk_alloc ?_ _)); refine blk_far ?_ NB414_413.out _; (with_reducible repeat (first | refine blk_drewN ?_ _ | refine blk_drew ?_ | refine blk_alloc ?_ _)); exact BK414.out) hb); have n5_ := Aside0.mk (below_step (by repeat (first | (with_reducible first | exact HB.out | apply below_alloc | apply pw_below_drewN | apply below_drew1 | refine below_set ?_ GE410.out | refine below_set ?_ GE411.out | refine below_set ?_ GE412.out | refine below_set ?_ GE413.out | refine below_set ?_ GE414.out) | exact HB.out)) hb); clear BK410; clear BK411; clear BK412; clear BK413; clear BK414; clear HB; have BK410 := n0_; have BK411 := n1_; have BK412 := n2_; have BK413 := n3_; have BK414 := n4_; have HB := n5_; clear n0_ n1_ n2_ n3_ n4_ n5_; (try clear hb); (try clear hb2); (try clear hk); (try clear hi); have hcz39_0 : w38.cell? ⟨gb414, 0, none⟩ = some (.bool x415000_1) := (blk_cell BK414.out 0).trans rfl; have hcz39_1 : w38.cell? ⟨gb414, 1, none⟩ = some (.int .u64 x415001_1) := (blk_cell BK414.out 1).trans rfl; have hcz39_2 : w38.cell? ⟨gb414, 2, none⟩ = some (.int .u64 x415002_1) := (blk_cell BK414.out 2).trans rfl; have hfz39_0 := blk_frozen BK414.out 0; have hfz39_1 := blk_frozen BK414.out 1; have hfz39_2 := blk_frozen BK414.out 2))
     go_roundg k1
     case measure => have := HK1.out; omega
     case rel => exact ⟨(IntKind.u64.wrap (Int.tdiv x7_1 2)), (t415), (t416), (t417), (t418), (t419), (t420), (by first | rfl | (simp; done) | (simp [*]; done)), H', ⟨by have := HK1.out; omega⟩, ⟨by (with_reducible repeat (first | refine blk_drewN ?_ _ | refine blk_drew ?_ | refine blk_alloc ?_ _)); refine blk_far ?_ NB410_414.out _; (with_reducible repeat (first | refine blk_drewN ?_ _ | refine blk_drew ?_ | refine blk_alloc ?_ _)); refine blk_far ?_ NB410_414.out _; (with_reducible repeat (first | refine blk_drewN ?_ _ | refine blk_drew ?_ | refine blk_alloc ?_ _)); refine blk_far ?_ NB410_414.out _; (with_reducible repeat (first | refine blk_drewN ?_ _ | refine blk_drew ?_ | refine blk_alloc ?_ _)); exact BK410.out⟩, ⟨by (with_reducible repeat (first | refine blk_drewN ?_ _ | refine blk_drew ?_ | refine blk_alloc ?_ _)); refine blk_far ?_ NB411_414.out _; (with_reducible repeat (first | refine blk_drewN ?_ _ | refine blk_drew ?_ | refine blk_alloc ?_ _)); refine blk_far ?_ NB411_414.out _; (with_reducible repeat (first | refine blk_drewN ?_ _ | refine blk_drew ?_ | refine blk_alloc ?_ _)); refine blk_far ?_ NB411_414.out _; (with_reducible repeat (first | refine blk_drewN ?_ _ | refine blk_drew ?_ | refine blk_alloc ?_ _)); exact BK411.out⟩, ⟨by (with_reducible repeat (first | refine blk_drewN ?_ _ | refine blk_drew ?_ | refine blk_alloc ?_ _)); refine blk_far ?_ NB412_414.out _; (with_reducible repeat (first | refine blk_drewN ?_ _ | refine blk_drew ?_ | refine blk_alloc ?_ _)); refine blk_far ?_ NB412_414.out _; (with_reducible repeat (first | refine blk_drewN ?_ _ | refine blk_drew ?_ | refine blk_alloc ?_ _)); refine blk_far ?_ NB412_414.out _; (with_reducible repeat (first | refine blk_drewN ?_ _ | refine blk_drew ?_ | refine blk_alloc ?_ _)); exact BK412.out⟩, ⟨by (with_reducible repeat (first | refine blk_drewN ?_ _ | refine blk_drew ?_ | refine blk_alloc ?_ _)); refine blk_far ?_ NB413_414.out _; (with_reducible repeat (first | refine blk_drewN ?_ _ | refine blk_drew ?_ | refine blk_alloc ?_ _)); refine blk_far ?_ NB413_414.out _; (with_reducible repeat (first | refine blk_drewN ?_ _ | refine blk_drew ?_ | refine blk_alloc ?_ _)); refine blk_far ?_ NB413_414.out _; (with_reducible repeat (first | refine blk_drewN ?_ _ | refine blk_drew ?_ | refine blk_alloc ?_ _)); exact BK413.out⟩, ⟨by (with_reducible repeat (first | refine blk_drewN ?_ _ | refine blk_drew ?_ | refine blk_alloc ?_ _)); refine blk_put (cs := #[.bool t418, .int .u64 t419, .int .u64 x415002_1]) ?_ 2 _ rfl; (with_reducible repeat (first | refine blk_drewN ?_ _ | refine blk_drew ?_ | refine blk_alloc ?_ _)); refine blk_put (cs := #[.bool t418, .int .u64 x415001_1, .int .u64 x415002_1]) ?_ 1 _ rfl; (with_reducible repeat (first | refine blk_drewN ?_ _ | refine blk_drew ?_ | refine blk_alloc ?_ _)); refine blk_put (cs := #[.bool x415000_1, .int .u64 x415001_1, .int .u64 x415002_1]) ?_ 0 _ rfl; (with_reducible repeat (first | refine blk_drewN ?_ _ | refine blk_drew ?_ | refine blk_alloc ?_ _)); exact BK414.out⟩, ⟨by repeat (first | (with_reducible first | exact HB.out | apply below_alloc | apply pw_below_drewN | apply below_drew1 | refine below_set ?_ GE410.out | refine below_set ?_ GE411.out | refine below_set ?_ GE412.out | refine below_set ?_ GE413.out | refine below_set ?_ GE414.out) | exact HB.out)⟩⟩
    ·rw [if_neg c23] at H
     have c23b0 : ((Int.tmod x7_1 2) == 1) = false := beq_eq_false_iff_ne.mpr c23
     have c23b1 : ((Int.tmod x7_1 2) != 1) = true := bne_iff_ne.mpr c23
     replace H := Option.bind_eq_some_iff.mp H
     obtain ⟨⟨t421, t422, t423⟩, A400, H⟩ := H
     replace H : (gangerref01_Product.l0 k1 (IntKind.u64.wrap (Int.tdiv x7_1 2)) a0_0 a0_1 a0_2 a1_0 a1_1 a1_2 x414000_1 x414001_1 x414002_1 t421 t422 t423) = some (r1, r2, r3) := H
     have A40 := Aside0.mk A400
     clear A400
     have H' := Aside0.mk H
     clear H
     have hnb41 := NB414_410.out
     have hnc41 := NB410_414.out
     have hnb42 := NB414_411.out
     have hnc42 := NB411_414.out
     have hnb43 := NB414_412.out
     have hnc43 := NB412_414.out
     have hnb44 := NB414_413.out
     have hnc44 := NB413_414.out
     have hcz45_0 : wr.cell? ⟨gb414, 0, none⟩ = some (.bool x415000_1) := (blk_cell BK414.out 0).trans rfl
     have hcz45_1 : wr.cell? ⟨gb414, 1, none⟩ = some (.int .u64 x415001_1) := (blk_cell BK414.out 1).trans rfl
     have hcz45_2 : wr.cell? ⟨gb414, 2, none⟩ = some (.int .u64 x415002_1) := (blk_cell BK414.out 2).trans rfl
     have hfz45_0 := blk_frozen BK414.out 0
     have hfz45_1 := blk_frozen BK414.out 1
     have hfz45_2 := blk_frozen BK414.out 2
     go_wp2_with (first | ((with_reducible refine gate_callee (f := 40) rfl ?_); refine goesL_ (some 24) rfl rfl Tryd.func40 (by kernel_rfl) rfl #[.agg #[.bool x415000_1, .int .u64 x415001_1, .int .u64 x415002_1], .agg #[.bool x415000_1, .int .u64 x415001_1, .int .u64 x415002_1]] rfl (by (try simp only [List.map_toArray, List.map_cons, List.map_nil]); first | done | rfl | (simp only [List.length_drop, List.length_take]; rfl)) ?_; (with_reducible refine (gangerref01_plus.calls x415000_1 x415001_1 x415002_1 x415000_1 x415001_1 x415002_1 t421 t422 t423 _ A40.out).mono ?_); rintro e w46 ⟨rfl, hb⟩; refine ⟨_, rfl, ?_⟩; have n0_ := Aside0.mk (blk_below (g := gb410) (o := .cells #[.bool a0_0, .int .u64 a0_1, .int .u64 a0_2] 72 (0, 0)) (by (with_reducible repeat (first | refine blk_drewN ?_ _ | refine blk_drew ?_ | refine blk_alloc ?_ _)); exact BK410.out) hb); have n1_ := Aside0.mk (blk_below (g := gb411) (o := .cells #[.bool a1_0, .int .u64 a1_1, .int .u64 a1_2] 72 (0, 0)) (by (with_reducible repeat (first | refine blk_drewN ?_ _ | refine blk_drew ?_ | refine blk_alloc ?_ _)); exact BK411.out) hb); have n2_ := Aside0.mk (blk_below (g := gb412) (o := .cells #[.bool false, .int .u64 0, .int .u64 0] 72 (0, 0)) (by (with_reducible repeat (first | refine blk_drewN ?_ _ | refine blk_drew ?_ | refine blk_alloc ?_ _)); exact BK412.out) hb); have n3_ := Aside0.mk (blk_below (g := gb413) (o := .cells #[.bool x414000_1, .int .u64 x414001_1, .int .u64 x414002_1] 72 (0, 0)) (by (with_reducible repeat (first | refine blk_drewN ?_ _ | refine blk_drew ?_ | refine blk_alloc ?_ _)); exact BK413.out) hb); have n4_ := Aside0.mk (blk_below (g := gb414) (o := .cells #[.bool x415000_1, .int .u64 x415001_1, .int .u64 x415002_1] 72 (0, 0)) (by (with_reducible repeat (first | refine blk_drewN ?_ _ | refine blk_drew ?_ | refine blk_alloc ?_ _)); exact BK414.out) hb); have n5_ := Aside0.mk (below_step (by repeat (first | (with_reducible first | exact HB.out | apply below_alloc | apply pw_below_drewN | apply below_drew1 | refine below_set ?_ GE410.out | refine below_set ?_ GE411.out | refine below_set ?_ GE412.out | refine below_set ?_ GE413.out | refine below_set ?_ GE414.out) | exact HB.out)) hb); clear BK410; clear BK411; clear BK412; clear BK413; clear BK414; clear HB; have BK410 := n0_; have BK411 := n1_; have BK412 := n2_; have BK413 := n3_; have BK414 := n4_; have HB := n5_; clear n0_ n1_ n2_ n3_ n4_ n5_; (try clear hb); (try clear hb2); (try clear hk); (try clear hi); have hcz47_0 : w46.cell? ⟨gb414, 0, none⟩ = some (.bool x415000_1) := (blk_cell BK414.out 0).trans rfl; have hcz47_1 : w46.cell? ⟨gb414, 1, none⟩ = some (.int .u64 x415001_1) := (blk_cell BK414.out 1).trans rfl; have hcz47_2 : w46.cell? ⟨gb414, 2, none⟩ = some (.int .u64 x415002_1) := (blk_cell BK414.out 2).trans rfl; have hfz47_0 := blk_frozen BK414.out 0; have hfz47_1 := blk_frozen BK414.out 1; have hfz47_2 := blk_frozen BK414.out 2))
     go_roundg k1
     case measure => have := HK1.out; omega
     case rel => exact ⟨(IntKind.u64.wrap (Int.tdiv x7_1 2)), (x414000_1), (x414001_1), (x414002_1), (t421), (t422), (t423), (by first | rfl | (simp; done) | (simp [*]; done)), H', ⟨by have := HK1.out; omega⟩, ⟨by (with_reducible repeat (first | refine blk_drewN ?_ _ | refine blk_drew ?_ | refine blk_alloc ?_ _)); refine blk_far ?_ NB410_414.out _; (with_reducible repeat (first | refine blk_drewN ?_ _ | refine blk_drew ?_ | refine blk_alloc ?_ _)); refine blk_far ?_ NB410_414.out _; (with_reducible repeat (first | refine blk_drewN ?_ _ | refine blk_drew ?_ | refine blk_alloc ?_ _)); refine blk_far ?_ NB410_414.out _; (with_reducible repeat (first | refine blk_drewN ?_ _ | refine blk_drew ?_ | refine blk_alloc ?_ _)); exact BK410.out⟩, ⟨by (with_reducible repeat (first | refine blk_drewN ?_ _ | refine blk_drew ?_ | refine blk_alloc ?_ _)); refine blk_far ?_ NB411_414.out _; (with_reducible repeat (first | refine blk_drewN ?_ _ | refine blk_drew ?_ | refine blk_alloc ?_ _)); refine blk_far ?_ NB411_414.out _; (with_reducible repeat (first | refine blk_drewN ?_ _ | refine blk_drew ?_ | refine blk_alloc ?_ _)); refine blk_far ?_ NB411_414.out _; (with_reducible repeat (first | refine blk_drewN ?_ _ | refine blk_drew ?_ | refine blk_alloc ?_ _)); exact BK411.out⟩, ⟨by (with_reducible repeat (first | refine blk_drewN ?_ _ | refine blk_drew ?_ | refine blk_alloc ?_ _)); refine blk_far ?_ NB412_414.out _; (with_reducible repeat (first | refine blk_drewN ?_ _ | refine blk_drew ?_ | refine blk_alloc ?_ _)); refine blk_far ?_ NB412_414.out _; (with_reducible repeat (first | refine blk_drewN ?_ _ | refine blk_drew ?_ | refine blk_alloc ?_ _)); refine blk_far ?_ NB412_414.out _; (with_reducible repeat (first | refine blk_drewN ?_ _ | refine blk_drew ?_ | refine blk_alloc ?_ _)); exact BK412.out⟩, ⟨by (with_reducible repeat (first | refine blk_drewN ?_ _ | refine blk_drew ?_ | refine blk_alloc ?_ _)); refine blk_far ?_ NB413_414.out _; (with_reducible repeat (first | refine blk_drewN ?_ _ | refine blk_drew ?_ | refine blk_alloc ?_ _)); refine blk_far ?_ NB413_414.out _; (with_reducible repeat (first | refine blk_drewN ?_ _ | refine blk_drew ?_ | refine blk_alloc ?_ _)); refine blk_far ?_ NB413_414.out _; (with_reducible repeat (first | refine blk_drewN ?_ _ | refine blk_drew ?_ | refine blk_alloc ?_ _)); exact BK413.out⟩, ⟨by (with_reducible repeat (first | refine blk_drewN ?_ _ | refine blk_drew ?_ | refine blk_alloc ?_ _)); refine blk_put (cs := #[.bool t421, .int .u64 t422, .int .u64 x415002_1]) ?_ 2 _ rfl; (with_reducible repeat (first | refine blk_drewN ?_ _ | refine blk_drew ?_ | refine blk_alloc ?_ _)); refine blk_put (cs := #[.bool t421, .int .u64 x415001_1, .int .u64 x415002_1]) ?_ 1 _ rfl; (with_reducible repeat (first | refine blk_drewN ?_ _ | refine blk_drew ?_ | refine blk_alloc ?_ _)); refine blk_put (cs := #[.bool x415000_1, .int .u64 x415001_1, .int .u64 x415002_1]) ?_ 0 _ rfl; (with_reducible repeat (first | refine blk_drewN ?_ _ | refine blk_drew ?_ | refine blk_alloc ?_ _)); exact BK414.out⟩, ⟨by repeat (first | (with_reducible first | exact HB.out | apply below_alloc | apply pw_below_drewN | apply below_drew1 | refine below_set ?_ GE410.out | refine below_set ?_ GE411.out | refine below_set ?_ GE412.out | refine below_set ?_ GE413.out | refine below_set ?_ GE414.out) | exact HB.out)⟩⟩
   ·rw [if_neg c22] at H
    have c22b0 : decide (0 < x7_1) = false := decide_eq_false c22
    clear c22
    simp only [Option.some.injEq, Prod.mk.injEq] at H
    obtain ⟨rfl, rfl, rfl⟩ := H
    have hnb48 := NB410_411.out
    have hnc48 := NB411_410.out
    have hnb49 := NB410_412.out
    have hnc49 := NB412_410.out
    have hnb50 := NB410_413.out
    have hnc50 := NB413_410.out
    have hnb51 := NB410_414.out
    have hnc51 := NB414_410.out
    have hcz52_0 : wr.cell? ⟨gb410, 0, none⟩ = some (.bool a0_0) := (blk_cell BK410.out 0).trans rfl
    have hcz52_1 : wr.cell? ⟨gb410, 1, none⟩ = some (.int .u64 a0_1) := (blk_cell BK410.out 1).trans rfl
    have hcz52_2 : wr.cell? ⟨gb410, 2, none⟩ = some (.int .u64 a0_2) := (blk_cell BK410.out 2).trans rfl
    have hfz52_0 := blk_frozen BK410.out 0
    have hfz52_1 := blk_frozen BK410.out 1
    have hfz52_2 := blk_frozen BK410.out 2
    have hnb53 := NB411_412.out
    have hnc53 := NB412_411.out
    have hnb54 := NB411_413.out
    have hnc54 := NB413_411.out
    have hnb55 := NB411_414.out
    have hnc55 := NB414_411.out
    have hcz56_0 : wr.cell? ⟨gb411, 0, none⟩ = some (.bool a1_0) := (blk_cell BK411.out 0).trans rfl
    have hcz56_1 : wr.cell? ⟨gb411, 1, none⟩ = some (.int .u64 a1_1) := (blk_cell BK411.out 1).trans rfl
    have hcz56_2 : wr.cell? ⟨gb411, 2, none⟩ = some (.int .u64 a1_2) := (blk_cell BK411.out 2).trans rfl
    have hfz56_0 := blk_frozen BK411.out 0
    have hfz56_1 := blk_frozen BK411.out 1
    have hfz56_2 := blk_frozen BK411.out 2
    have hnb57 := NB413_412.out
    have hnc57 := NB412_413.out
    have hnb58 := NB413_414.out
    have hnc58 := NB414_413.out
    have hcz59_0 : wr.cell? ⟨gb413, 0, none⟩ = some (.bool x414000_1) := (blk_cell BK413.out 0).trans rfl
    have hcz59_1 : wr.cell? ⟨gb413, 1, none⟩ = some (.int .u64 x414001_1) := (blk_cell BK413.out 1).trans rfl
    have hcz59_2 : wr.cell? ⟨gb413, 2, none⟩ = some (.int .u64 x414002_1) := (blk_cell BK413.out 2).trans rfl
    have hfz59_0 := blk_frozen BK413.out 0
    have hfz59_1 := blk_frozen BK413.out 1
    have hfz59_2 := blk_frozen BK413.out 2
    have hnb60 := NB412_414.out
    have hnc60 := NB414_412.out
    have hcz61_0 : wr.cell? ⟨gb412, 0, none⟩ = some (.bool false) := (blk_cell BK412.out 0).trans rfl
    have hcz61_1 : wr.cell? ⟨gb412, 1, none⟩ = some (.int .u64 0) := (blk_cell BK412.out 1).trans rfl
    have hcz61_2 : wr.cell? ⟨gb412, 2, none⟩ = some (.int .u64 0) := (blk_cell BK412.out 2).trans rfl
    have hfz61_0 := blk_frozen BK412.out 0
    have hfz61_1 := blk_frozen BK412.out 1
    have hfz61_2 := blk_frozen BK412.out 2
    go_wp2
    refine bodyPost_ret (results_cell_row rfl _ _ gb412 72 #[.bool (a0_0 != a1_0), .int .u64 x414001_1, .int .u64 x414002_1] (0, 0) _ rfl (by (with_reducible repeat (first | refine blk_drewN ?_ _ | refine blk_drew ?_ | refine blk_alloc ?_ _)); refine blk_put (cs := #[.bool (a0_0 != a1_0), .int .u64 x414001_1, .int .u64 0]) ?_ 2 _ rfl; (with_reducible repeat (first | refine blk_drewN ?_ _ | refine blk_drew ?_ | refine blk_alloc ?_ _)); refine blk_put (cs := #[.bool (a0_0 != a1_0), .int .u64 0, .int .u64 0]) ?_ 1 _ rfl; (with_reducible repeat (first | refine blk_drewN ?_ _ | refine blk_drew ?_ | refine blk_alloc ?_ _)); refine blk_put (cs := #[.bool false, .int .u64 0, .int .u64 0]) ?_ 0 _ rfl; (with_reducible repeat (first | refine blk_drewN ?_ _ | refine blk_drew ?_ | refine blk_alloc ?_ _)); refine blk_far ?_ NB412_413.out _; (with_reducible repeat (first | refine blk_drewN ?_ _ | refine blk_drew ?_ | refine blk_alloc ?_ _)); exact BK412.out) Tryd.underlying72 rfl (by kernel_rfl)) rfl ?_
    exact ⟨by first | rfl | (simp [errW_none, errW_some] <;> rfl) | (simp [*, errW_none, errW_some] <;> rfl), by repeat (first | (with_reducible first | exact HB.out | apply below_alloc | apply pw_below_drewN | apply below_drew1 | refine below_set ?_ GE410.out | refine below_set ?_ GE411.out | refine below_set ?_ GE412.out | refine below_set ?_ GE413.out | refine below_set ?_ GE414.out) | exact HB.out)⟩
def gangerref01_told.f (k : Nat) (a0_0 : Bool) (a0_1 : Int) (a0_2 : Int) : Option (Int × Int) := (gangerref01_Wide_Narrow.f k a0_0 a0_1 a0_2).bind fun bt425 => (if bt425.2 = true then (some (bt425.1, 0)) else (some (0, 10)))
set_option maxHeartbeats 8000000 in
set_option maxRecDepth 100000 in
theorem gangerref01_told.calls (k : Nat) (a0_0 : Bool) (a0_1 : Int) (a0_2 : Int) (r1 : Int) (r2 : Int) (w : World) (h : gangerref01_told.f k a0_0 a0_1 a0_2 = some (r1, r2)) :
  Calls Tryd.prog 41 #[.agg #[.bool a0_0, .int .u64 a0_1, .int .u64 a0_2]] w fun e w' => e = .returned (.tuple #[.int .i64 r1, .int .i64 r2]) ∧ Below w.heap.size w w' := by
 have hu72 := Tryd.underlying72
 have HB := Aside0.mk (Below.refl w.heap.size w)
 have H : ((gangerref01_Wide_Narrow.f k a0_0 a0_1 a0_2).bind fun bt425 => (if bt425.2 = true then (some (bt425.1, 0)) else (some (0, 10)))) = some (r1, r2) := h
 clear h
 replace H := Option.bind_eq_some_iff.mp H
 obtain ⟨⟨t425, t426⟩, A20, H⟩ := H
 replace H : (if t426 = true then (some (t425, 0)) else (some (0, 10))) = some (r1, r2) := H
 have A2 := Aside0.mk A20
 clear A20
 by_cases c3 : t426 = true
 ·subst c3
  have H1 : (some (t425, 0)) = some (r1, r2) := by rw [if_pos rfl] at H; exact H
  clear H
  have H := H1
  clear H1
  simp only [Option.some.injEq, Prod.mk.injEq] at H
  obtain ⟨rfl, rfl⟩ := H
  go_enter Tryd.func41, Tryd.ntmps41
  go_wp2_with (first | ((with_reducible refine gate_dst (N := 1) rfl ?_); refine box_event ?hg (N := 1) ?hd (cs := #[.bool a0_0, .int .u64 a0_1, .int .u64 a0_2]) (t := 72) ?hr ?_; (case hd => rfl); (case hg => rfl); (case hr => first | (go_simp; done) | (go_simp; rfl)); intro gb424 hg w4 hbox hb; have n0_ := Aside0.mk (below_step (by repeat (first | (with_reducible first | exact HB.out | apply below_alloc | apply pw_below_drewN | apply below_drew1) | exact HB.out)) hb); have n1_ := Aside0.mk (hbox); have n2_ := Aside0.mk ((by rw [hg]; exact (below_size (by repeat (first | (with_reducible first | exact HB.out | apply below_alloc | apply pw_below_drewN | apply below_drew1) | exact HB.out))) : w.heap.size ≤ gb424)); have n3_ := Aside0.mk ((by rw [hg]; exact (below_size (by repeat (first | (with_reducible first | exact HB.out | apply below_alloc | apply pw_below_drewN | apply below_drew1) | exact HB.out))) : w.heap.size ≤ gb424)); clear HB; have HB := n0_; have BK424 := n1_; have GW424 := n2_; have GE424 := n3_; clear n0_ n1_ n2_ n3_; clear hb hbox hg; have hcz5_0 : w4.cell? ⟨gb424, 0, none⟩ = some (.bool a0_0) := (blk_cell BK424.out 0).trans rfl; have hcz5_1 : w4.cell? ⟨gb424, 1, none⟩ = some (.int .u64 a0_1) := (blk_cell BK424.out 1).trans rfl; have hcz5_2 : w4.cell? ⟨gb424, 2, none⟩ = some (.int .u64 a0_2) := (blk_cell BK424.out 2).trans rfl; have hfz5_0 := blk_frozen BK424.out 0; have hfz5_1 := blk_frozen BK424.out 1; have hfz5_2 := blk_frozen BK424.out 2) | ((with_reducible refine gate_callee (f := 49) rfl ?_); refine goesL_ (some 8) rfl rfl Tryd.func49 (by kernel_rfl) rfl #[.agg #[.bool a0_0, .int .u64 a0_1, .int .u64 a0_2]] rfl (by (try simp only [List.map_toArray, List.map_cons, List.map_nil]); first | done | rfl | (simp only [List.length_drop, List.length_take]; rfl)) ?_; (with_reducible refine (gangerref01_Wide_Narrow.calls k a0_0 a0_1 a0_2 t425 true _ A2.out).mono ?_); rintro e w6 ⟨rfl, hb⟩; refine ⟨_, rfl, ?_⟩; have n0_ := Aside0.mk (blk_below (g := gb424) (o := .cells #[.bool a0_0, .int .u64 a0_1, .int .u64 a0_2] 72 (0, 0)) (by (with_reducible repeat (first | refine blk_drewN ?_ _ | refine blk_drew ?_ | refine blk_alloc ?_ _)); exact BK424.out) hb); have n1_ := Aside0.mk (below_step (by repeat (first | (with_reducible first | exact HB.out | apply below_alloc | apply pw_below_drewN | apply below_drew1 | refine below_set ?_ GE424.out) | exact HB.out)) hb); clear BK424; clear HB; have BK424 := n0_; have HB := n1_; clear n0_ n1_; (try clear hb); (try clear hb2); (try clear hk); (try clear hi)))
  go_ret2
  exact ⟨by first | rfl | (simp [errW_none, errW_some] <;> rfl) | (simp [*, errW_none, errW_some] <;> rfl), by repeat (first | (with_reducible first | exact HB.out | apply below_alloc | apply pw_below_drewN | apply below_drew1 | refine below_set ?_ GE424.out) | exact HB.out)⟩
 ·replace c3 := Bool.eq_false_iff.mpr c3
  subst c3
  have H1 : (some (0, 10)) = some (r1, r2) := by rw [if_neg (show ¬ (false = true) by decide)] at H; exact H
  clear H
  have H := H1
  clear H1
  simp only [Option.some.injEq, Prod.mk.injEq] at H
  obtain ⟨rfl, rfl⟩ := H
  go_enter Tryd.func41, Tryd.ntmps41
  go_wp2_with (first | ((with_reducible refine gate_dst (N := 1) rfl ?_); refine box_event ?hg (N := 1) ?hd (cs := #[.bool a0_0, .int .u64 a0_1, .int .u64 a0_2]) (t := 72) ?hr ?_; (case hd => rfl); (case hg => rfl); (case hr => first | (go_simp; done) | (go_simp; rfl)); intro gb424 hg w7 hbox hb; have n0_ := Aside0.mk (below_step (by repeat (first | (with_reducible first | exact HB.out | apply below_alloc | apply pw_below_drewN | apply below_drew1) | exact HB.out)) hb); have n1_ := Aside0.mk (hbox); have n2_ := Aside0.mk ((by rw [hg]; exact (below_size (by repeat (first | (with_reducible first | exact HB.out | apply below_alloc | apply pw_below_drewN | apply below_drew1) | exact HB.out))) : w.heap.size ≤ gb424)); have n3_ := Aside0.mk ((by rw [hg]; exact (below_size (by repeat (first | (with_reducible first | exact HB.out | apply below_alloc | apply pw_below_drewN | apply below_drew1) | exact HB.out))) : w.heap.size ≤ gb424)); clear HB; have HB := n0_; have BK424 := n1_; have GW424 := n2_; have GE424 := n3_; clear n0_ n1_ n2_ n3_; clear hb hbox hg; have hcz8_0 : w7.cell? ⟨gb424, 0, none⟩ = some (.bool a0_0) := (blk_cell BK424.out 0).trans rfl; have hcz8_1 : w7.cell? ⟨gb424, 1, none⟩ = some (.int .u64 a0_1) := (blk_cell BK424.out 1).trans rfl; have hcz8_2 : w7.cell? ⟨gb424, 2, none⟩ = some (.int .u64 a0_2) := (blk_cell BK424.out 2).trans rfl; have hfz8_0 := blk_frozen BK424.out 0; have hfz8_1 := blk_frozen BK424.out 1; have hfz8_2 := blk_frozen BK424.out 2) | ((with_reducible refine gate_callee (f := 49) rfl ?_); refine goesL_ (some 8) rfl rfl Tryd.func49 (by kernel_rfl) rfl #[.agg #[.bool a0_0, .int .u64 a0_1, .int .u64 a0_2]] rfl (by (try simp only [List.map_toArray, List.map_cons, List.map_nil]); first | done | rfl | (simp only [List.length_drop, List.length_take]; rfl)) ?_; (with_reducible refine (gangerref01_Wide_Narrow.calls k a0_0 a0_1 a0_2 t425 false _ A2.out).mono ?_); rintro e w9 ⟨rfl, hb⟩; refine ⟨_, rfl, ?_⟩; have n0_ := Aside0.mk (blk_below (g := gb424) (o := .cells #[.bool a0_0, .int .u64 a0_1, .int .u64 a0_2] 72 (0, 0)) (by (with_reducible repeat (first | refine blk_drewN ?_ _ | refine blk_drew ?_ | refine blk_alloc ?_ _)); exact BK424.out) hb); have n1_ := Aside0.mk (below_step (by repeat (first | (with_reducible first | exact HB.out | apply below_alloc | apply pw_below_drewN | apply below_drew1 | refine below_set ?_ GE424.out) | exact HB.out)) hb); clear BK424; clear HB; have BK424 := n0_; have HB := n1_; clear n0_ n1_; (try clear hb); (try clear hb2); (try clear hk); (try clear hi)))
  go_ret2
  exact ⟨by first | rfl | (simp [errW_none, errW_some] <;> rfl) | (simp [*, errW_none, errW_some] <;> rfl), by repeat (first | (with_reducible first | exact HB.out | apply below_alloc | apply pw_below_drewN | apply below_drew1 | refine below_set ?_ GE424.out) | exact HB.out)⟩
end Go.Proofs.YtfccdngejfnmkaaDoor.P
