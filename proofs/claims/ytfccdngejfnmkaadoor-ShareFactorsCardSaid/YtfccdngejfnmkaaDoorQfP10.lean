/- cut to what one law reaches -/
import Derived.Test.YtfccdngejfnmkaaDoorQfP0
import Derived.Test.YtfccdngejfnmkaaDoorQfP7
import Derived.Test.YtfccdngejfnmkaaDoorQfP9
namespace Go.Proofs.YtfccdngejfnmkaaDoor.P
open Go.RowKit Go.Proofs.YtfccdngejfnmkaaDoorW.PrintWords Go.Proofs.YtfccdngejfnmkaaDoorW.PrintLast Go.Proofs.YtfccdngejfnmkaaDoorW.PrintMore
attribute [local go_sem] max2_int min2_int max_two min_two max_three min_three max_four min_four   -- for this text's walks alone
set_option linter.unusedVariables false
set_option linter.unusedSimpArgs false
attribute [local go_sem] isSome_setCell
mutual
def gangerref10_tree.l0 : Nat → List (S37) → Int → Option (Int)
 | 0, _, _ => none
 | k + 1, x0, x3 => if x3 < (x0.length : Int) then (if 0 ≤ x3 then ((gangerref09_Name.f k ((rd_T37 x0 x3).f0)).bind fun t270 => (if t270 = true then ((gangerref10_out.f ((rd_T37 x0 x3).f2) 1 1048576).bind fun t272 => (gangerref10_tree.j1 k x0 x3 t272)) else (gangerref10_tree.j1 k x0 x3 true))) else (none)) else (some 0)
def gangerref10_tree.j1 : Nat → List (S37) → Int → Bool → Option (Int)
 | 0, _, _, _ => none
 | k + 1, x0, x3, x26 => if x26 = true then (some 100) else (if x3 = 0 then (if 0 ≤ x3 then (if x3 < (x0.length : Int) then (gangerref10_tree.j2 k x0 x3 (((rd_T37 x0 x3).f1).toList == ([] : List UInt8))) else (none)) else (none)) else (gangerref10_tree.j2 k x0 x3 false))
def gangerref10_tree.j2 : Nat → List (S37) → Int → Bool → Option (Int)
 | 0, _, _, _ => none
 | k + 1, x0, x3, x4 => gangerref10_tree.l1 k x0 x3 x4 0
def gangerref10_tree.l1 : Nat → List (S37) → Int → Bool → Int → Option (Int)
 | 0, _, _, _, _ => none
 | k + 1, x0, x3, x4, x5 => if x5 < x3 then (if 0 ≤ x5 then (if x5 < (x0.length : Int) then (if 0 ≤ x3 then (if x3 < (x0.length : Int) then (if ((rd_T37 x0 x5).f0).toList = ((rd_T37 x0 x3).f0).toList then (some 100) else (if x4 = true then (gangerref10_tree.l1 k x0 x3 true (wrap64 (x5 + 1))) else (gangerref10_tree.l1 k x0 x3 (((rd_T37 x0 x5).f0).toList == ((rd_T37 x0 x3).f1).toList) (wrap64 (x5 + 1))))) else (none)) else (none)) else (none)) else (none)) else (if x4 = true then (gangerref10_tree.l0 k x0 (wrap64 (x3 + 1))) else (some 100))
end
def gangerref10_tree.f (k : Nat) (l0 : List (S37)) : Option (Int) := gangerref10_tree.l0 k l0 0
set_option maxHeartbeats 8000000 in
set_option maxRecDepth 100000 in
theorem gangerref10_tree.calls (k : Nat) (A0 : Option Addr) (c0 : Nat) (l0 : List (S37)) (r : Int) (w : World) (hr0 : Kd.C k37 w A0 l0.length l0) (hc0 : l0.length ≤ c0) (h : gangerref10_tree.f k l0 = some r) :
  Calls Tryd.prog 48 #[.slice A0 l0.length c0] w fun e w' => e = .returned (.int .i64 r) ∧ Drawn0 w w' := by
 have HR0 := Aside0.mk hr0
 have HC0 := Aside0.mk hc0
 clear hr0 hc0
 have H : (gangerref10_tree.l0 k l0 0) = some r := h
 clear h
 have H' := Aside0.mk H
 clear H
 go_enter Tryd.func48, Tryd.ntmps48
 go_wp2
 repeat (go_quiet (fail); try go_wp2)
 go_loopg [3] k (fun kq v3 w' => ∃ (x3_1 : Int), v3 = .int .i64 x3_1 ∧ Aside0 (gangerref10_tree.l0 kq l0 x3_1 = some r) ∧ Aside0 (kq ≤ k) ∧ Drawn0 w w')
 case atStart => exact ⟨(0), (by first | rfl | (simp; done) | (simp [*]; done)), H', ⟨Nat.le_refl _⟩, by repeat (first | exact Drawn0.refl _ | apply Drawn0.step)⟩
 case round =>
  clear H'
  obtain ⟨x3_1, rfl, HA, HK1, ⟨m1, rfl⟩⟩ := hrel
  cases gk with
  | zero => exact absurd HA.out (by simp [gangerref10_tree.l0])
  | succ k1 =>
   have H := HA.out
   clear HA
   simp only [gangerref10_tree.l0] at H
   by_cases c2 : x3_1 < (l0.length : Int)
   ·rw [if_pos c2] at H
    have c2b0 : decide (x3_1 < (l0.length : Int)) = true := decide_eq_true c2
    clear c2
    have HC3 := Aside0.mk H
    clear H
    go_upto_region 4 with (fail)
    repeat (go_quiet (fail); go_upto_region 4 with (fail))
    go_cut [26] (fun v26 wc => ∃ (kq : Nat) (x26_2 : Bool), v26 = .bool x26_2 ∧ Aside0 (gangerref10_tree.j1 kq l0 x3_1 x26_2 = some r) ∧ Aside0 (kq ≤ k1) ∧ Drawn0 w wc)
    case first =>
     have H := HC3.out
     clear HC3
     by_cases c4 : 0 ≤ x3_1
     ·rw [if_pos c4] at H
      have c4b0 : decide (0 ≤ x3_1) = true := decide_eq_true c4
      clear c4
      (first | rw [c4b0] | (simp only [i64_w, i32_w]; rw [c4b0]) | skip)
      replace H := Option.bind_eq_some_iff.mp H
      obtain ⟨t270, A50, H⟩ := H
      replace H : (if t270 = true then ((gangerref10_out.f ((rd_T37 l0 x3_1).f2) 1 1048576).bind fun t272 => (gangerref10_tree.j1 k1 l0 x3_1 t272)) else (gangerref10_tree.j1 k1 l0 x3_1 true)) = some r := H
      have A5 := Aside0.mk A50
      clear A50
      by_cases c6 : t270 = true
      ·subst c6
       have H1 : ((gangerref10_out.f ((rd_T37 l0 x3_1).f2) 1 1048576).bind fun t272 => (gangerref10_tree.j1 k1 l0 x3_1 t272)) = some r := by rw [if_pos rfl] at H; exact H
       clear H
       have H := H1
       clear H1
       replace H := Option.bind_eq_some_iff.mp H
       obtain ⟨t272, A70, H⟩ := H
       replace H : (gangerref10_tree.j1 k1 l0 x3_1 t272) = some r := H
       have A7 := Aside0.mk A70
       clear A70
       have H' := Aside0.mk H
       clear H
       have p269 : 0 ≤ (x3_1 : Int) := of_decide_eq_true (by first | (with_reducible assumption) | assumption)
       have q269 : x3_1 < (l0.length : Int) := of_decide_eq_true (by first | (with_reducible assumption) | assumption)
       obtain ⟨ad269, e269, hx269_0, hx269_1, hx269_2⟩ := at_T37 HR0.out x3_1 p269 q269
       cases e269
       replace p269 := eq_true p269
       replace q269 := eq_true q269
       go_wp2_with (first | (go_at_call 47; (with_reducible refine (gangerref09_Name.calls k1 ((rd_T37 l0 x3_1).f0) true _ A5.out).mono ?_); rintro e w' ⟨rfl, ⟨nd, rfl⟩⟩; (try first | exact ⟨rfl, _, World.drewN_drewN _ _ _⟩ | exact ⟨rfl, _, Eq.trans (World.drewN_drewN _ _ _) (congrArg (World.drewN _) (Nat.add_assoc _ _ _))⟩); have p271 : 0 ≤ (x3_1 : Int) := of_decide_eq_true (by first | (with_reducible assumption) | assumption); have q271 : x3_1 < (l0.length : Int) := of_decide_eq_true (by first | (with_reducible assumption) | assumption); obtain ⟨ad271, e271, hx271_0, hx271_1, hx271_2⟩ := at_T37 HR0.out x3_1 p271 q271; obtain rfl : ad269 = ad271 := (by injection e271); replace p271 := eq_true p271; replace q271 := eq_true q271) | (go_at_call 46; (with_reducible refine (gangerref10_out.calls ((rd_T37 l0 x3_1).f2) 1 1048576 t272 _ A7.out).mono ?_); rintro e w' ⟨rfl, ⟨nd, rfl⟩⟩; (try first | exact ⟨rfl, _, World.drewN_drewN _ _ _⟩ | exact ⟨rfl, _, Eq.trans (World.drewN_drewN _ _ _) (congrArg (World.drewN _) (Nat.add_assoc _ _ _))⟩)))
       repeat (go_quiet (first | (go_at_call 47; (with_reducible refine (gangerref09_Name.calls k1 ((rd_T37 l0 x3_1).f0) true _ A5.out).mono ?_); rintro e w' ⟨rfl, ⟨nd, rfl⟩⟩; (try first | exact ⟨rfl, _, World.drewN_drewN _ _ _⟩ | exact ⟨rfl, _, Eq.trans (World.drewN_drewN _ _ _) (congrArg (World.drewN _) (Nat.add_assoc _ _ _))⟩); have p271 : 0 ≤ (x3_1 : Int) := of_decide_eq_true (by first | (with_reducible assumption) | assumption); have q271 : x3_1 < (l0.length : Int) := of_decide_eq_true (by first | (with_reducible assumption) | assumption); obtain ⟨ad271, e271, hx271_0, hx271_1, hx271_2⟩ := at_T37 HR0.out x3_1 p271 q271; obtain rfl : ad269 = ad271 := (by injection e271); replace p271 := eq_true p271; replace q271 := eq_true q271) | (go_at_call 46; (with_reducible refine (gangerref10_out.calls ((rd_T37 l0 x3_1).f2) 1 1048576 t272 _ A7.out).mono ?_); rintro e w' ⟨rfl, ⟨nd, rfl⟩⟩; (try first | exact ⟨rfl, _, World.drewN_drewN _ _ _⟩ | exact ⟨rfl, _, Eq.trans (World.drewN_drewN _ _ _) (congrArg (World.drewN _) (Nat.add_assoc _ _ _))⟩))); try go_wp2_with (first | (go_at_call 47; (with_reducible refine (gangerref09_Name.calls k1 ((rd_T37 l0 x3_1).f0) true _ A5.out).mono ?_); rintro e w' ⟨rfl, ⟨nd, rfl⟩⟩; (try first | exact ⟨rfl, _, World.drewN_drewN _ _ _⟩ | exact ⟨rfl, _, Eq.trans (World.drewN_drewN _ _ _) (congrArg (World.drewN _) (Nat.add_assoc _ _ _))⟩); have p271 : 0 ≤ (x3_1 : Int) := of_decide_eq_true (by first | (with_reducible assumption) | assumption); have q271 : x3_1 < (l0.length : Int) := of_decide_eq_true (by first | (with_reducible assumption) | assumption); obtain ⟨ad271, e271, hx271_0, hx271_1, hx271_2⟩ := at_T37 HR0.out x3_1 p271 q271; obtain rfl : ad269 = ad271 := (by injection e271); replace p271 := eq_true p271; replace q271 := eq_true q271) | (go_at_call 46; (with_reducible refine (gangerref10_out.calls ((rd_T37 l0 x3_1).f2) 1 1048576 t272 _ A7.out).mono ?_); rintro e w' ⟨rfl, ⟨nd, rfl⟩⟩; (try first | exact ⟨rfl, _, World.drewN_drewN _ _ _⟩ | exact ⟨rfl, _, Eq.trans (World.drewN_drewN _ _ _) (congrArg (World.drewN _) (Nat.add_assoc _ _ _))⟩))))
       go_meet
       case rel => exact ⟨_, (t272), (by first | rfl | (simp; done) | (simp [*]; done)), H', ⟨by have := HK1.out; first | omega | exact Nat.le_refl _⟩, by repeat (first | exact Drawn0.refl _ | apply Drawn0.step)⟩
      ·replace c6 := Bool.eq_false_iff.mpr c6
       subst c6
       have H1 : (gangerref10_tree.j1 k1 l0 x3_1 true) = some r := by rw [if_neg (show ¬ (false = true) by decide)] at H; exact H
       clear H
       have H := H1
       clear H1
       have H' := Aside0.mk H
       clear H
       have p269 : 0 ≤ (x3_1 : Int) := of_decide_eq_true (by first | (with_reducible assumption) | assumption)
       have q269 : x3_1 < (l0.length : Int) := of_decide_eq_true (by first | (with_reducible assumption) | assumption)
       obtain ⟨ad269, e269, hx269_0, hx269_1, hx269_2⟩ := at_T37 HR0.out x3_1 p269 q269
       cases e269
       replace p269 := eq_true p269
       replace q269 := eq_true q269
       go_wp2_with (first | (go_at_call 47; (with_reducible refine (gangerref09_Name.calls k1 ((rd_T37 l0 x3_1).f0) false _ A5.out).mono ?_); rintro e w' ⟨rfl, ⟨nd, rfl⟩⟩; (try first | exact ⟨rfl, _, World.drewN_drewN _ _ _⟩ | exact ⟨rfl, _, Eq.trans (World.drewN_drewN _ _ _) (congrArg (World.drewN _) (Nat.add_assoc _ _ _))⟩)))
       repeat (go_quiet (first | (go_at_call 47; (with_reducible refine (gangerref09_Name.calls k1 ((rd_T37 l0 x3_1).f0) false _ A5.out).mono ?_); rintro e w' ⟨rfl, ⟨nd, rfl⟩⟩; (try first | exact ⟨rfl, _, World.drewN_drewN _ _ _⟩ | exact ⟨rfl, _, Eq.trans (World.drewN_drewN _ _ _) (congrArg (World.drewN _) (Nat.add_assoc _ _ _))⟩))); try go_wp2_with (first | (go_at_call 47; (with_reducible refine (gangerref09_Name.calls k1 ((rd_T37 l0 x3_1).f0) false _ A5.out).mono ?_); rintro e w' ⟨rfl, ⟨nd, rfl⟩⟩; (try first | exact ⟨rfl, _, World.drewN_drewN _ _ _⟩ | exact ⟨rfl, _, Eq.trans (World.drewN_drewN _ _ _) (congrArg (World.drewN _) (Nat.add_assoc _ _ _))⟩))))
       go_meet
       case rel => exact ⟨_, (true), (by first | rfl | (simp; done) | (simp [*]; done)), H', ⟨by have := HK1.out; first | omega | exact Nat.le_refl _⟩, by repeat (first | exact Drawn0.refl _ | apply Drawn0.step)⟩
     ·rw [if_neg c4] at H
      exact absurd H (by simp)
    case rest =>
     clear HC3
     obtain ⟨kq, x26_2, rfl, HA, HJ2, ⟨mc2, rfl⟩⟩ := hcut
     cases kq with
     | zero => exact absurd HA.out (by simp [gangerref10_tree.j1])
     | succ kj2 =>
      have H := HA.out
      clear HA
      simp only [gangerref10_tree.j1] at H
      by_cases c8 : x26_2 = true
      ·subst c8
       have H1 : (some 100) = some r := by rw [if_pos rfl] at H; exact H
       clear H
       have H := H1
       clear H1
       obtain rfl := Option.some.inj H
       go_wp2
       repeat (go_quiet (fail); try go_wp2)
       go_ret
       exact ⟨by first | rfl | (simp; done) | (simp [*]; done), by repeat (first | exact Drawn0.refl _ | apply Drawn0.step)⟩
      ·replace c8 := Bool.eq_false_iff.mpr c8
       subst c8
       have H1 : (if x3_1 = 0 then (if 0 ≤ x3_1 then (if x3_1 < (l0.length : Int) then (gangerref10_tree.j2 kj2 l0 x3_1 (((rd_T37 l0 x3_1).f1).toList == ([] : List UInt8))) else (none)) else (none)) else (gangerref10_tree.j2 kj2 l0 x3_1 false)) = some r := by rw [if_neg (show ¬ (false = true) by decide)] at H; exact H
       clear H
       have H := H1
       clear H1
       have HC9 := Aside0.mk H
       clear H
       go_upto_region 6 with (fail)
       repeat (go_quiet (fail); go_upto_region 6 with (fail))
       go_cut [4] (fun v4 wc => ∃ (kq : Nat) (x4_8 : Bool), v4 = .bool x4_8 ∧ Aside0 (gangerref10_tree.j2 kq l0 x3_1 x4_8 = some r) ∧ Aside0 (kq ≤ kj2) ∧ Drawn0 w wc)
       case first =>
        have H := HC9.out
        clear HC9
        by_cases c10 : x3_1 = 0
        ·rw [if_pos c10] at H
         have c10b0 : (x3_1 == 0) = true := beq_iff_eq.mpr c10
         have c10b1 : (x3_1 != 0) = false := bne_eq_false_iff_eq.mpr c10
         clear c10
         (first | rw [c10b0] | (simp only [i64_w, i32_w]; rw [c10b0]) | skip)
         by_cases c11 : 0 ≤ x3_1
         ·rw [if_pos c11] at H
          have c11b0 : decide (0 ≤ x3_1) = true := decide_eq_true c11
          clear c11
          by_cases c12 : x3_1 < (l0.length : Int)
          ·rw [if_pos c12] at H
           have c12b0 : decide (x3_1 < (l0.length : Int)) = true := decide_eq_true c12
           clear c12
           have H' := Aside0.mk H
           clear H
           have p273 : 0 ≤ (x3_1 : Int) := of_decide_eq_true (by first | (with_reducible assumption) | assumption)
           have q273 : x3_1 < (l0.length : Int) := of_decide_eq_true (by first | (with_reducible assumption) | assumption)
           obtain ⟨ad273, e273, hx273_0, hx273_1, hx273_2⟩ := at_T37 HR0.out x3_1 p273 q273
           cases e273
           replace p273 := eq_true p273
           replace q273 := eq_true q273
           go_wp2
           repeat (go_quiet (fail); try go_wp2)
           go_meet
           case rel => exact ⟨_, ((((rd_T37 l0 x3_1).f1).toList == ([] : List UInt8))), (by first | rfl | (simp; done) | (simp [*]; done)), H', ⟨by have := HK1.out; have := HJ2.out; first | omega | exact Nat.le_refl _⟩, by repeat (first | exact Drawn0.refl _ | apply Drawn0.step)⟩
          ·rw [if_neg c12] at H
           exact absurd H (by simp)
         ·rw [if_neg c11] at H
          exact absurd H (by simp)
        ·rw [if_neg c10] at H
         have c10b0 : (x3_1 == 0) = false := beq_eq_false_iff_ne.mpr c10
         have c10b1 : (x3_1 != 0) = true := bne_iff_ne.mpr c10
         (first | rw [c10b0] | (simp only [i64_w, i32_w]; rw [c10b0]) | skip)
         have H' := Aside0.mk H
         clear H
         go_wp2
         repeat (go_quiet (fail); try go_wp2)
         go_meet
         case rel => exact ⟨_, (false), (by first | rfl | (simp; done) | (simp [*]; done)), H', ⟨by have := HK1.out; have := HJ2.out; first | omega | exact Nat.le_refl _⟩, by repeat (first | exact Drawn0.refl _ | apply Drawn0.step)⟩
       case rest =>
        clear HC9
        obtain ⟨kq, x4_8, rfl, HA, HJ8, ⟨mc8, rfl⟩⟩ := hcut
        cases kq with
        | zero => exact absurd HA.out (by simp [gangerref10_tree.j2])
        | succ kj8 =>
         have H := HA.out
         clear HA
         simp only [gangerref10_tree.j2] at H
         have H' := Aside0.mk H
         clear H
         go_wp2
         repeat (go_quiet (fail); try go_wp2)
         go_loopg [4, 5] kj8 (fun kq v4 v5 w' => ∃ (x4_4 : Bool) (x5_4 : Int), v4 = .bool x4_4 ∧ v5 = .int .i64 x5_4 ∧ Aside0 (gangerref10_tree.l1 kq l0 x3_1 x4_4 x5_4 = some r) ∧ Aside0 (kq ≤ kj8) ∧ Drawn0 w w')
         case atStart => exact ⟨(x4_8), (0), (by first | rfl | (simp; done) | (simp [*]; done)), (by first | rfl | (simp; done) | (simp [*]; done)), H', ⟨Nat.le_refl _⟩, by repeat (first | exact Drawn0.refl _ | apply Drawn0.step)⟩
         case round =>
          clear H'
          obtain ⟨x4_4, x5_4, rfl, rfl, HA, HK4, ⟨m4, rfl⟩⟩ := hrel
          cases gk with
          | zero => exact absurd HA.out (by simp [gangerref10_tree.l1])
          | succ k4 =>
           have H := HA.out
           clear HA
           simp only [gangerref10_tree.l1] at H
           by_cases c13 : x5_4 < x3_1
           ·rw [if_pos c13] at H
            have c13b0 : decide (x5_4 < x3_1) = true := decide_eq_true c13
            clear c13
            by_cases c14 : 0 ≤ x5_4
            ·rw [if_pos c14] at H
             have c14b0 : decide (0 ≤ x5_4) = true := decide_eq_true c14
             clear c14
             by_cases c15 : x5_4 < (l0.length : Int)
             ·rw [if_pos c15] at H
              have c15b0 : decide (x5_4 < (l0.length : Int)) = true := decide_eq_true c15
              clear c15
              by_cases c16 : 0 ≤ x3_1
              ·rw [if_pos c16] at H
               have c16b0 : decide (0 ≤ x3_1) = true := decide_eq_true c16
               clear c16
               by_cases c17 : x3_1 < (l0.length : Int)
               ·rw [if_pos c17] at H
                have c17b0 : decide (x3_1 < (l0.length : Int)) = true := decide_eq_true c17
                clear c17
                by_cases c18 : ((rd_T37 l0 x5_4).f0).toList = ((rd_T37 l0 x3_1).f0).toList
                ·rw [if_pos c18] at H
                 have c18b0 : (((rd_T37 l0 x5_4).f0).toList == ((rd_T37 l0 x3_1).f0).toList) = true := beq_iff_eq.mpr c18
                 have c18b1 : (((rd_T37 l0 x5_4).f0).toList != ((rd_T37 l0 x3_1).f0).toList) = false := bne_eq_false_iff_eq.mpr c18
                 clear c18
                 obtain rfl := Option.some.inj H
                 have p274 : 0 ≤ (x5_4 : Int) := of_decide_eq_true (by first | (with_reducible assumption) | assumption)
                 have q274 : x5_4 < (l0.length : Int) := of_decide_eq_true (by first | (with_reducible assumption) | assumption)
                 obtain ⟨ad274, e274, hx274_0, hx274_1, hx274_2⟩ := at_T37 HR0.out x5_4 p274 q274
                 cases e274
                 replace p274 := eq_true p274
                 replace q274 := eq_true q274
                 have p275 : 0 ≤ (x3_1 : Int) := of_decide_eq_true (by first | (with_reducible assumption) | assumption)
                 have q275 : x3_1 < (l0.length : Int) := of_decide_eq_true (by first | (with_reducible assumption) | assumption)
                 obtain ⟨ad275, e275, hx275_0, hx275_1, hx275_2⟩ := at_T37 HR0.out x3_1 p275 q275
                 obtain rfl : ad274 = ad275 := (by injection e275)
                 replace p275 := eq_true p275
                 replace q275 := eq_true q275
                 go_wp2
                 repeat (go_quiet (fail); try go_wp2)
                 go_ret
                 exact ⟨by first | rfl | (simp; done) | (simp [*]; done), by repeat (first | exact Drawn0.refl _ | apply Drawn0.step)⟩
                ·rw [if_neg c18] at H
                 have c18b0 : (((rd_T37 l0 x5_4).f0).toList == ((rd_T37 l0 x3_1).f0).toList) = false := beq_eq_false_iff_ne.mpr c18
                 have c18b1 : (((rd_T37 l0 x5_4).f0).toList != ((rd_T37 l0 x3_1).f0).toList) = true := bne_iff_ne.mpr c18
                 by_cases c19 : x4_4 = true
                 ·subst c19
                  have H1 : (gangerref10_tree.l1 k4 l0 x3_1 true (wrap64 (x5_4 + 1))) = some r := by rw [if_pos rfl] at H; exact H
                  clear H
                  have H := H1
                  clear H1
                  have H' := Aside0.mk H
                  clear H
                  have p274 : 0 ≤ (x5_4 : Int) := of_decide_eq_true (by first | (with_reducible assumption) | assumption)
                  have q274 : x5_4 < (l0.length : Int) := of_decide_eq_true (by first | (with_reducible assumption) | assumption)
                  obtain ⟨ad274, e274, hx274_0, hx274_1, hx274_2⟩ := at_T37 HR0.out x5_4 p274 q274
                  cases e274
                  replace p274 := eq_true p274
                  replace q274 := eq_true q274
                  have p275 : 0 ≤ (x3_1 : Int) := of_decide_eq_true (by first | (with_reducible assumption) | assumption)
                  have q275 : x3_1 < (l0.length : Int) := of_decide_eq_true (by first | (with_reducible assumption) | assumption)
                  obtain ⟨ad275, e275, hx275_0, hx275_1, hx275_2⟩ := at_T37 HR0.out x3_1 p275 q275
                  obtain rfl : ad274 = ad275 := (by injection e275)
                  replace p275 := eq_true p275
                  replace q275 := eq_true q275
                  go_wp2
                  repeat (go_quiet (fail); try go_wp2)
                  go_roundg k4
                  case measure => have := HK1.out; have := HJ2.out; have := HJ8.out; have := HK4.out; omega
                  case rel => exact ⟨(true), (wrap64 (x5_4 + 1)), (by first | rfl | (simp; done) | (simp [*]; done)), (by first | rfl | (simp; done) | (simp [*]; done)), H', ⟨by have := HK1.out; have := HJ2.out; have := HJ8.out; have := HK4.out; omega⟩, by repeat (first | exact Drawn0.refl _ | apply Drawn0.step)⟩
                 ·replace c19 := Bool.eq_false_iff.mpr c19
                  subst c19
                  have H1 : (gangerref10_tree.l1 k4 l0 x3_1 (((rd_T37 l0 x5_4).f0).toList == ((rd_T37 l0 x3_1).f1).toList) (wrap64 (x5_4 + 1))) = some r := by rw [if_neg (show ¬ (false = true) by decide)] at H; exact H
                  clear H
                  have H := H1
                  clear H1
                  have H' := Aside0.mk H
                  clear H
                  have p274 : 0 ≤ (x5_4 : Int) := of_decide_eq_true (by first | (with_reducible assumption) | assumption)
                  have q274 : x5_4 < (l0.length : Int) := of_decide_eq_true (by first | (with_reducible assumption) | assumption)
                  obtain ⟨ad274, e274, hx274_0, hx274_1, hx274_2⟩ := at_T37 HR0.out x5_4 p274 q274
                  cases e274
                  replace p274 := eq_true p274
                  replace q274 := eq_true q274
                  have p275 : 0 ≤ (x3_1 : Int) := of_decide_eq_true (by first | (with_reducible assumption) | assumption)
                  have q275 : x3_1 < (l0.length : Int) := of_decide_eq_true (by first | (with_reducible assumption) | assumption)
                  obtain ⟨ad275, e275, hx275_0, hx275_1, hx275_2⟩ := at_T37 HR0.out x3_1 p275 q275
                  obtain rfl : ad274 = ad275 := (by injection e275)
                  replace p275 := eq_true p275
                  replace q275 := eq_true q275
                  have p276 : 0 ≤ (x5_4 : Int) := of_decide_eq_true (by first | (with_reducible assumption) | assumption)
                  have q276 : x5_4 < (l0.length : Int) := of_decide_eq_true (by first | (with_reducible assumption) | assumption)
                  obtain ⟨ad276, e276, hx276_0, hx276_1, hx276_2⟩ := at_T37 HR0.out x5_4 p276 q276
                  obtain rfl : ad274 = ad276 := (by injection e276)
                  replace p276 := eq_true p276
                  replace q276 := eq_true q276
                  have p277 : 0 ≤ (x3_1 : Int) := of_decide_eq_true (by first | (with_reducible assumption) | assumption)
                  have q277 : x3_1 < (l0.length : Int) := of_decide_eq_true (by first | (with_reducible assumption) | assumption)
                  obtain ⟨ad277, e277, hx277_0, hx277_1, hx277_2⟩ := at_T37 HR0.out x3_1 p277 q277
                  obtain rfl : ad274 = ad277 := (by injection e277)
                  replace p277 := eq_true p277
                  replace q277 := eq_true q277
                  go_wp2
                  repeat (go_quiet (fail); try go_wp2)
                  go_roundg k4
                  case measure => have := HK1.out; have := HJ2.out; have := HJ8.out; have := HK4.out; omega
                  case rel => exact ⟨((((rd_T37 l0 x5_4).f0).toList == ((rd_T37 l0 x3_1).f1).toList)), (wrap64 (x5_4 + 1)), (by first | rfl | (simp; done) | (simp [*]; done)), (by first | rfl | (simp; done) | (simp [*]; done)), H', ⟨by have := HK1.out; have := HJ2.out; have := HJ8.out; have := HK4.out; omega⟩, by repeat (first | exact Drawn0.refl _ | apply Drawn0.step)⟩
               ·rw [if_neg c17] at H
                exact absurd H (by simp)
              ·rw [if_neg c16] at H
               exact absurd H (by simp)
             ·rw [if_neg c15] at H
              exact absurd H (by simp)
            ·rw [if_neg c14] at H
             exact absurd H (by simp)
           ·rw [if_neg c13] at H
            have c13b0 : decide (x5_4 < x3_1) = false := decide_eq_false c13
            clear c13
            by_cases c20 : x4_4 = true
            ·subst c20
             have H1 : (gangerref10_tree.l0 k4 l0 (wrap64 (x3_1 + 1))) = some r := by rw [if_pos rfl] at H; exact H
             clear H
             have H := H1
             clear H1
             have H' := Aside0.mk H
             clear H
             go_wp2
             repeat (go_quiet (fail); try go_wp2)
             go_roundg k4
             case measure => have := HK1.out; have := HJ2.out; have := HJ8.out; have := HK4.out; omega
             case rel => exact ⟨(wrap64 (x3_1 + 1)), (by first | rfl | (simp; done) | (simp [*]; done)), H', ⟨by have := HK1.out; have := HJ2.out; have := HJ8.out; have := HK4.out; omega⟩, by repeat (first | exact Drawn0.refl _ | apply Drawn0.step)⟩
            ·replace c20 := Bool.eq_false_iff.mpr c20
             subst c20
             have H1 : (some 100) = some r := by rw [if_neg (show ¬ (false = true) by decide)] at H; exact H
             clear H
             have H := H1
             clear H1
             obtain rfl := Option.some.inj H
             go_wp2
             repeat (go_quiet (fail); try go_wp2)
             go_ret
             exact ⟨by first | rfl | (simp; done) | (simp [*]; done), by repeat (first | exact Drawn0.refl _ | apply Drawn0.step)⟩
   ·rw [if_neg c2] at H
    have c2b0 : decide (x3_1 < (l0.length : Int)) = false := decide_eq_false c2
    clear c2
    obtain rfl := Option.some.inj H
    go_wp2
    repeat (go_quiet (fail); try go_wp2)
    go_ret
    exact ⟨by first | rfl | (simp; done) | (simp [*]; done), by repeat (first | exact Drawn0.refl _ | apply Drawn0.step)⟩
end Go.Proofs.YtfccdngejfnmkaaDoor.P
