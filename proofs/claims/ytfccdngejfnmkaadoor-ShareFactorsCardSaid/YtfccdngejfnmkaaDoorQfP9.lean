/- cut to what one law reaches -/
import Derived.Test.YtfccdngejfnmkaaDoorQfP0
import Derived.Test.YtfccdngejfnmkaaDoorQfP8
namespace Go.Proofs.YtfccdngejfnmkaaDoor.P
open Go.RowKit Go.Proofs.YtfccdngejfnmkaaDoorW.PrintWords Go.Proofs.YtfccdngejfnmkaaDoorW.PrintLast Go.Proofs.YtfccdngejfnmkaaDoorW.PrintMore
attribute [local go_sem] max2_int min2_int max_two min_two max_three min_three max_four min_four   -- for this text's walks alone
set_option linter.unusedVariables false
set_option linter.unusedSimpArgs false
attribute [local go_sem] isSome_setCell
def gangerref09_Name.l0 : Nat → ByteArray → Int → Int → Option (Bool)
 | 0, _, _, _ => none
 | k + 1, x0, x3, x4 => if x3 < (x0.size : Int) then ((gangerref09_Rune.f k x0 x3).bind fun bt267 => (if bt267.1 ≥ 48 then (if bt267.1 ≤ 57 then (if bt267.2 = 0 then (some false) else (gangerref09_Name.l0 k x0 (wrap64 (x3 + bt267.2)) (wrap64 (x4 + 1)))) else (if bt267.1 ≥ 65 then (if bt267.1 ≤ 90 then (if bt267.2 = 0 then (some false) else (gangerref09_Name.l0 k x0 (wrap64 (x3 + bt267.2)) (wrap64 (x4 + 1)))) else (if bt267.1 ≥ 97 then (if bt267.1 ≤ 122 then (if bt267.2 = 0 then (some false) else (gangerref09_Name.l0 k x0 (wrap64 (x3 + bt267.2)) (wrap64 (x4 + 1)))) else (if bt267.1 = 45 then (if bt267.2 = 0 then (some false) else (gangerref09_Name.l0 k x0 (wrap64 (x3 + bt267.2)) (wrap64 (x4 + 1)))) else (if bt267.1 = 46 then (if bt267.2 = 0 then (some false) else (gangerref09_Name.l0 k x0 (wrap64 (x3 + bt267.2)) (wrap64 (x4 + 1)))) else (if bt267.2 = 0 then (some false) else (if bt267.1 = 95 then (gangerref09_Name.l0 k x0 (wrap64 (x3 + bt267.2)) (wrap64 (x4 + 1))) else (if bt267.1 ≤ 160 then (some false) else (gangerref09_Name.l0 k x0 (wrap64 (x3 + bt267.2)) (wrap64 (x4 + 1))))))))) else (if bt267.1 = 45 then (if bt267.2 = 0 then (some false) else (gangerref09_Name.l0 k x0 (wrap64 (x3 + bt267.2)) (wrap64 (x4 + 1)))) else (if bt267.1 = 46 then (if bt267.2 = 0 then (some false) else (gangerref09_Name.l0 k x0 (wrap64 (x3 + bt267.2)) (wrap64 (x4 + 1)))) else (if bt267.2 = 0 then (some false) else (if bt267.1 = 95 then (gangerref09_Name.l0 k x0 (wrap64 (x3 + bt267.2)) (wrap64 (x4 + 1))) else (if bt267.1 ≤ 160 then (some false) else (gangerref09_Name.l0 k x0 (wrap64 (x3 + bt267.2)) (wrap64 (x4 + 1)))))))))) else (if bt267.1 ≥ 97 then (if bt267.1 ≤ 122 then (if bt267.2 = 0 then (some false) else (gangerref09_Name.l0 k x0 (wrap64 (x3 + bt267.2)) (wrap64 (x4 + 1)))) else (if bt267.1 = 45 then (if bt267.2 = 0 then (some false) else (gangerref09_Name.l0 k x0 (wrap64 (x3 + bt267.2)) (wrap64 (x4 + 1)))) else (if bt267.1 = 46 then (if bt267.2 = 0 then (some false) else (gangerref09_Name.l0 k x0 (wrap64 (x3 + bt267.2)) (wrap64 (x4 + 1)))) else (if bt267.2 = 0 then (some false) else (if bt267.1 = 95 then (gangerref09_Name.l0 k x0 (wrap64 (x3 + bt267.2)) (wrap64 (x4 + 1))) else (if bt267.1 ≤ 160 then (some false) else (gangerref09_Name.l0 k x0 (wrap64 (x3 + bt267.2)) (wrap64 (x4 + 1))))))))) else (if bt267.1 = 45 then (if bt267.2 = 0 then (some false) else (gangerref09_Name.l0 k x0 (wrap64 (x3 + bt267.2)) (wrap64 (x4 + 1)))) else (if bt267.1 = 46 then (if bt267.2 = 0 then (some false) else (gangerref09_Name.l0 k x0 (wrap64 (x3 + bt267.2)) (wrap64 (x4 + 1)))) else (if bt267.2 = 0 then (some false) else (if bt267.1 = 95 then (gangerref09_Name.l0 k x0 (wrap64 (x3 + bt267.2)) (wrap64 (x4 + 1))) else (if bt267.1 ≤ 160 then (some false) else (gangerref09_Name.l0 k x0 (wrap64 (x3 + bt267.2)) (wrap64 (x4 + 1))))))))))) else (if bt267.1 ≥ 65 then (if bt267.1 ≤ 90 then (if bt267.2 = 0 then (some false) else (gangerref09_Name.l0 k x0 (wrap64 (x3 + bt267.2)) (wrap64 (x4 + 1)))) else (if bt267.1 ≥ 97 then (if bt267.1 ≤ 122 then (if bt267.2 = 0 then (some false) else (gangerref09_Name.l0 k x0 (wrap64 (x3 + bt267.2)) (wrap64 (x4 + 1)))) else (if bt267.1 = 45 then (if bt267.2 = 0 then (some false) else (gangerref09_Name.l0 k x0 (wrap64 (x3 + bt267.2)) (wrap64 (x4 + 1)))) else (if bt267.1 = 46 then (if bt267.2 = 0 then (some false) else (gangerref09_Name.l0 k x0 (wrap64 (x3 + bt267.2)) (wrap64 (x4 + 1)))) else (if bt267.2 = 0 then (some false) else (if bt267.1 = 95 then (gangerref09_Name.l0 k x0 (wrap64 (x3 + bt267.2)) (wrap64 (x4 + 1))) else (if bt267.1 ≤ 160 then (some false) else (gangerref09_Name.l0 k x0 (wrap64 (x3 + bt267.2)) (wrap64 (x4 + 1))))))))) else (if bt267.1 = 45 then (if bt267.2 = 0 then (some false) else (gangerref09_Name.l0 k x0 (wrap64 (x3 + bt267.2)) (wrap64 (x4 + 1)))) else (if bt267.1 = 46 then (if bt267.2 = 0 then (some false) else (gangerref09_Name.l0 k x0 (wrap64 (x3 + bt267.2)) (wrap64 (x4 + 1)))) else (if bt267.2 = 0 then (some false) else (if bt267.1 = 95 then (gangerref09_Name.l0 k x0 (wrap64 (x3 + bt267.2)) (wrap64 (x4 + 1))) else (if bt267.1 ≤ 160 then (some false) else (gangerref09_Name.l0 k x0 (wrap64 (x3 + bt267.2)) (wrap64 (x4 + 1)))))))))) else (if bt267.1 ≥ 97 then (if bt267.1 ≤ 122 then (if bt267.2 = 0 then (some false) else (gangerref09_Name.l0 k x0 (wrap64 (x3 + bt267.2)) (wrap64 (x4 + 1)))) else (if bt267.1 = 45 then (if bt267.2 = 0 then (some false) else (gangerref09_Name.l0 k x0 (wrap64 (x3 + bt267.2)) (wrap64 (x4 + 1)))) else (if bt267.1 = 46 then (if bt267.2 = 0 then (some false) else (gangerref09_Name.l0 k x0 (wrap64 (x3 + bt267.2)) (wrap64 (x4 + 1)))) else (if bt267.2 = 0 then (some false) else (if bt267.1 = 95 then (gangerref09_Name.l0 k x0 (wrap64 (x3 + bt267.2)) (wrap64 (x4 + 1))) else (if bt267.1 ≤ 160 then (some false) else (gangerref09_Name.l0 k x0 (wrap64 (x3 + bt267.2)) (wrap64 (x4 + 1))))))))) else (if bt267.1 = 45 then (if bt267.2 = 0 then (some false) else (gangerref09_Name.l0 k x0 (wrap64 (x3 + bt267.2)) (wrap64 (x4 + 1)))) else (if bt267.1 = 46 then (if bt267.2 = 0 then (some false) else (gangerref09_Name.l0 k x0 (wrap64 (x3 + bt267.2)) (wrap64 (x4 + 1)))) else (if bt267.2 = 0 then (some false) else (if bt267.1 = 95 then (gangerref09_Name.l0 k x0 (wrap64 (x3 + bt267.2)) (wrap64 (x4 + 1))) else (if bt267.1 ≤ 160 then (some false) else (gangerref09_Name.l0 k x0 (wrap64 (x3 + bt267.2)) (wrap64 (x4 + 1)))))))))))) else (if x4 ≥ 1 then (some (decide (x4 ≤ 32))) else (some false))
def gangerref09_Name.f (k : Nat) (a0 : ByteArray) : Option (Bool) := gangerref09_Name.l0 k a0 0 0
set_option maxHeartbeats 8000000 in
set_option maxRecDepth 100000 in
theorem gangerref09_Name.calls (k : Nat) (a0 : ByteArray) (r : Bool) (w : World) (h : gangerref09_Name.f k a0 = some r) :
  Calls Tryd.prog 47 #[.string a0] w fun e w' => e = .returned (.bool r) ∧ Drawn0 w w' := by
 have H : (gangerref09_Name.l0 k a0 0 0) = some r := h
 clear h
 have H' := Aside0.mk H
 clear H
 go_enter Tryd.func47, Tryd.ntmps47
 go_wp2
 go_loopg [3, 4] k (fun kq v3 v4 w' => ∃ (x3_1 : Int) (x4_1 : Int), v3 = .int .i64 x3_1 ∧ v4 = .int .i64 x4_1 ∧ Aside0 (gangerref09_Name.l0 kq a0 x3_1 x4_1 = some r) ∧ Aside0 (kq ≤ k) ∧ Drawn0 w w')
 case atStart => exact ⟨(0), (0), (by first | rfl | (simp; done) | (simp [*]; done)), (by first | rfl | (simp; done) | (simp [*]; done)), H', ⟨Nat.le_refl _⟩, by repeat (first | exact Drawn0.refl _ | apply Drawn0.step)⟩
 case round =>
  clear H'
  obtain ⟨x3_1, x4_1, rfl, rfl, HA, HK1, ⟨m1, rfl⟩⟩ := hrel
  cases gk with
  | zero => exact absurd HA.out (by simp [gangerref09_Name.l0])
  | succ k1 =>
   have H := HA.out
   clear HA
   simp only [gangerref09_Name.l0] at H
   by_cases c2 : x3_1 < (a0.size : Int)
   ·rw [if_pos c2] at H
    have c2b0 : decide (x3_1 < (a0.size : Int)) = true := decide_eq_true c2
    clear c2
    replace H := Option.bind_eq_some_iff.mp H
    obtain ⟨⟨t267, t268⟩, A30, H⟩ := H
    replace H : (if t267 ≥ 48 then (if t267 ≤ 57 then (if t268 = 0 then (some false) else (gangerref09_Name.l0 k1 a0 (wrap64 (x3_1 + t268)) (wrap64 (x4_1 + 1)))) else (if t267 ≥ 65 then (if t267 ≤ 90 then (if t268 = 0 then (some false) else (gangerref09_Name.l0 k1 a0 (wrap64 (x3_1 + t268)) (wrap64 (x4_1 + 1)))) else (if t267 ≥ 97 then (if t267 ≤ 122 then (if t268 = 0 then (some false) else (gangerref09_Name.l0 k1 a0 (wrap64 (x3_1 + t268)) (wrap64 (x4_1 + 1)))) else (if t267 = 45 then (if t268 = 0 then (some false) else (gangerref09_Name.l0 k1 a0 (wrap64 (x3_1 + t268)) (wrap64 (x4_1 + 1)))) else (if t267 = 46 then (if t268 = 0 then (some false) else (gangerref09_Name.l0 k1 a0 (wrap64 (x3_1 + t268)) (wrap64 (x4_1 + 1)))) else (if t268 = 0 then (some false) else (if t267 = 95 then (gangerref09_Name.l0 k1 a0 (wrap64 (x3_1 + t268)) (wrap64 (x4_1 + 1))) else (if t267 ≤ 160 then (some false) else (gangerref09_Name.l0 k1 a0 (wrap64 (x3_1 + t268)) (wrap64 (x4_1 + 1))))))))) else (if t267 = 45 then (if t268 = 0 then (some false) else (gangerref09_Name.l0 k1 a0 (wrap64 (x3_1 + t268)) (wrap64 (x4_1 + 1)))) else (if t267 = 46 then (if t268 = 0 then (some false) else (gangerref09_Name.l0 k1 a0 (wrap64 (x3_1 + t268)) (wrap64 (x4_1 + 1)))) else (if t268 = 0 then (some false) else (if t267 = 95 then (gangerref09_Name.l0 k1 a0 (wrap64 (x3_1 + t268)) (wrap64 (x4_1 + 1))) else (if t267 ≤ 160 then (some false) else (gangerref09_Name.l0 k1 a0 (wrap64 (x3_1 + t268)) (wrap64 (x4_1 + 1)))))))))) else (if t267 ≥ 97 then (if t267 ≤ 122 then (if t268 = 0 then (some false) else (gangerref09_Name.l0 k1 a0 (wrap64 (x3_1 + t268)) (wrap64 (x4_1 + 1)))) else (if t267 = 45 then (if t268 = 0 then (some false) else (gangerref09_Name.l0 k1 a0 (wrap64 (x3_1 + t268)) (wrap64 (x4_1 + 1)))) else (if t267 = 46 then (if t268 = 0 then (some false) else (gangerref09_Name.l0 k1 a0 (wrap64 (x3_1 + t268)) (wrap64 (x4_1 + 1)))) else (if t268 = 0 then (some false) else (if t267 = 95 then (gangerref09_Name.l0 k1 a0 (wrap64 (x3_1 + t268)) (wrap64 (x4_1 + 1))) else (if t267 ≤ 160 then (some false) else (gangerref09_Name.l0 k1 a0 (wrap64 (x3_1 + t268)) (wrap64 (x4_1 + 1))))))))) else (if t267 = 45 then (if t268 = 0 then (some false) else (gangerref09_Name.l0 k1 a0 (wrap64 (x3_1 + t268)) (wrap64 (x4_1 + 1)))) else (if t267 = 46 then (if t268 = 0 then (some false) else (gangerref09_Name.l0 k1 a0 (wrap64 (x3_1 + t268)) (wrap64 (x4_1 + 1)))) else (if t268 = 0 then (some false) else (if t267 = 95 then (gangerref09_Name.l0 k1 a0 (wrap64 (x3_1 + t268)) (wrap64 (x4_1 + 1))) else (if t267 ≤ 160 then (some false) else (gangerref09_Name.l0 k1 a0 (wrap64 (x3_1 + t268)) (wrap64 (x4_1 + 1))))))))))) else (if t267 ≥ 65 then (if t267 ≤ 90 then (if t268 = 0 then (some false) else (gangerref09_Name.l0 k1 a0 (wrap64 (x3_1 + t268)) (wrap64 (x4_1 + 1)))) else (if t267 ≥ 97 then (if t267 ≤ 122 then (if t268 = 0 then (some false) else (gangerref09_Name.l0 k1 a0 (wrap64 (x3_1 + t268)) (wrap64 (x4_1 + 1)))) else (if t267 = 45 then (if t268 = 0 then (some false) else (gangerref09_Name.l0 k1 a0 (wrap64 (x3_1 + t268)) (wrap64 (x4_1 + 1)))) else (if t267 = 46 then (if t268 = 0 then (some false) else (gangerref09_Name.l0 k1 a0 (wrap64 (x3_1 + t268)) (wrap64 (x4_1 + 1)))) else (if t268 = 0 then (some false) else (if t267 = 95 then (gangerref09_Name.l0 k1 a0 (wrap64 (x3_1 + t268)) (wrap64 (x4_1 + 1))) else (if t267 ≤ 160 then (some false) else (gangerref09_Name.l0 k1 a0 (wrap64 (x3_1 + t268)) (wrap64 (x4_1 + 1))))))))) else (if t267 = 45 then (if t268 = 0 then (some false) else (gangerref09_Name.l0 k1 a0 (wrap64 (x3_1 + t268)) (wrap64 (x4_1 + 1)))) else (if t267 = 46 then (if t268 = 0 then (some false) else (gangerref09_Name.l0 k1 a0 (wrap64 (x3_1 + t268)) (wrap64 (x4_1 + 1)))) else (if t268 = 0 then (some false) else (if t267 = 95 then (gangerref09_Name.l0 k1 a0 (wrap64 (x3_1 + t268)) (wrap64 (x4_1 + 1))) else (if t267 ≤ 160 then (some false) else (gangerref09_Name.l0 k1 a0 (wrap64 (x3_1 + t268)) (wrap64 (x4_1 + 1)))))))))) else (if t267 ≥ 97 then (if t267 ≤ 122 then (if t268 = 0 then (some false) else (gangerref09_Name.l0 k1 a0 (wrap64 (x3_1 + t268)) (wrap64 (x4_1 + 1)))) else (if t267 = 45 then (if t268 = 0 then (some false) else (gangerref09_Name.l0 k1 a0 (wrap64 (x3_1 + t268)) (wrap64 (x4_1 + 1)))) else (if t267 = 46 then (if t268 = 0 then (some false) else (gangerref09_Name.l0 k1 a0 (wrap64 (x3_1 + t268)) (wrap64 (x4_1 + 1)))) else (if t268 = 0 then (some false) else (if t267 = 95 then (gangerref09_Name.l0 k1 a0 (wrap64 (x3_1 + t268)) (wrap64 (x4_1 + 1))) else (if t267 ≤ 160 then (some false) else (gangerref09_Name.l0 k1 a0 (wrap64 (x3_1 + t268)) (wrap64 (x4_1 + 1))))))))) else (if t267 = 45 then (if t268 = 0 then (some false) else (gangerref09_Name.l0 k1 a0 (wrap64 (x3_1 + t268)) (wrap64 (x4_1 + 1)))) else (if t267 = 46 then (if t268 = 0 then (some false) else (gangerref09_Name.l0 k1 a0 (wrap64 (x3_1 + t268)) (wrap64 (x4_1 + 1)))) else (if t268 = 0 then (some false) else (if t267 = 95 then (gangerref09_Name.l0 k1 a0 (wrap64 (x3_1 + t268)) (wrap64 (x4_1 + 1))) else (if t267 ≤ 160 then (some false) else (gangerref09_Name.l0 k1 a0 (wrap64 (x3_1 + t268)) (wrap64 (x4_1 + 1))))))))))) = some r := H
    have A3 := Aside0.mk A30
    clear A30
    by_cases c4 : t267 ≥ 48
    ·rw [if_pos c4] at H
     have c4b0 : decide (48 ≤ t267) = true := decide_eq_true c4
     clear c4
     by_cases c5 : t267 ≤ 57
     ·rw [if_pos c5] at H
      have c5b0 : decide (t267 ≤ 57) = true := decide_eq_true c5
      clear c5
      by_cases c6 : t268 = 0
      ·rw [if_pos c6] at H
       have c6b0 : (t268 == 0) = true := beq_iff_eq.mpr c6
       have c6b1 : (t268 != 0) = false := bne_eq_false_iff_eq.mpr c6
       clear c6
       obtain rfl := Option.some.inj H
       go_wp2_with (first | ((with_reducible refine gate_callee (f := 56) rfl ?_); refine goesL_ (some 15) rfl rfl Tryd.func56 (by kernel_rfl) rfl #[.string a0, .int .i64 x3_1] rfl (by (try simp only [List.map_toArray, List.map_cons, List.map_nil]); first | done | rfl | (simp only [List.length_drop, List.length_take]; rfl)) ?_; (with_reducible refine (gangerref09_Rune.calls k1 a0 x3_1 t267 t268 _ A3.out).mono ?_); rintro e w' ⟨rfl, ⟨nd, rfl⟩⟩; refine ⟨_, rfl, ?_⟩))
       go_ret
       exact ⟨by first | rfl | (simp; done) | (simp [*]; done), by repeat (first | exact Drawn0.refl _ | apply Drawn0.step)⟩
      ·rw [if_neg c6] at H
       have c6b0 : (t268 == 0) = false := beq_eq_false_iff_ne.mpr c6
       have c6b1 : (t268 != 0) = true := bne_iff_ne.mpr c6
       have H' := Aside0.mk H
       clear H
       go_wp2_with (first | ((with_reducible refine gate_callee (f := 56) rfl ?_); refine goesL_ (some 15) rfl rfl Tryd.func56 (by kernel_rfl) rfl #[.string a0, .int .i64 x3_1] rfl (by (try simp only [List.map_toArray, List.map_cons, List.map_nil]); first | done | rfl | (simp only [List.length_drop, List.length_take]; rfl)) ?_; (with_reducible refine (gangerref09_Rune.calls k1 a0 x3_1 t267 t268 _ A3.out).mono ?_); rintro e w' ⟨rfl, ⟨nd, rfl⟩⟩; refine ⟨_, rfl, ?_⟩))
       go_roundg k1
       case measure => have := HK1.out; omega
       case rel => exact ⟨(wrap64 (x3_1 + t268)), (wrap64 (x4_1 + 1)), (by first | rfl | (simp; done) | (simp [*]; done)), (by first | rfl | (simp; done) | (simp [*]; done)), H', ⟨by have := HK1.out; omega⟩, by repeat (first | exact Drawn0.refl _ | apply Drawn0.step)⟩
     ·rw [if_neg c5] at H
      have c5b0 : decide (t267 ≤ 57) = false := decide_eq_false c5
      clear c5
      by_cases c7 : t267 ≥ 65
      ·rw [if_pos c7] at H
       have c7b0 : decide (65 ≤ t267) = true := decide_eq_true c7
       clear c7
       by_cases c8 : t267 ≤ 90
       ·rw [if_pos c8] at H
        have c8b0 : decide (t267 ≤ 90) = true := decide_eq_true c8
        clear c8
        by_cases c9 : t268 = 0
        ·rw [if_pos c9] at H
         have c9b0 : (t268 == 0) = true := beq_iff_eq.mpr c9
         have c9b1 : (t268 != 0) = false := bne_eq_false_iff_eq.mpr c9
         clear c9
         obtain rfl := Option.some.inj H
         go_wp2_with (first | ((with_reducible refine gate_callee (f := 56) rfl ?_); refine goesL_ (some 15) rfl rfl Tryd.func56 (by kernel_rfl) rfl #[.string a0, .int .i64 x3_1] rfl (by (try simp only [List.map_toArray, List.map_cons, List.map_nil]); first | done | rfl | (simp only [List.length_drop, List.length_take]; rfl)) ?_; (with_reducible refine (gangerref09_Rune.calls k1 a0 x3_1 t267 t268 _ A3.out).mono ?_); rintro e w' ⟨rfl, ⟨nd, rfl⟩⟩; refine ⟨_, rfl, ?_⟩))
         go_ret
         exact ⟨by first | rfl | (simp; done) | (simp [*]; done), by repeat (first | exact Drawn0.refl _ | apply Drawn0.step)⟩
        ·rw [if_neg c9] at H
         have c9b0 : (t268 == 0) = false := beq_eq_false_iff_ne.mpr c9
         have c9b1 : (t268 != 0) = true := bne_iff_ne.mpr c9
         have H' := Aside0.mk H
         clear H
         go_wp2_with (first | ((with_reducible refine gate_callee (f := 56) rfl ?_); refine goesL_ (some 15) rfl rfl Tryd.func56 (by kernel_rfl) rfl #[.string a0, .int .i64 x3_1] rfl (by (try simp only [List.map_toArray, List.map_cons, List.map_nil]); first | done | rfl | (simp only [List.length_drop, List.length_take]; rfl)) ?_; (with_reducible refine (gangerref09_Rune.calls k1 a0 x3_1 t267 t268 _ A3.out).mono ?_); rintro e w' ⟨rfl, ⟨nd, rfl⟩⟩; refine ⟨_, rfl, ?_⟩))
         go_roundg k1
         case measure => have := HK1.out; omega
         case rel => exact ⟨(wrap64 (x3_1 + t268)), (wrap64 (x4_1 + 1)), (by first | rfl | (simp; done) | (simp [*]; done)), (by first | rfl | (simp; done) | (simp [*]; done)), H', ⟨by have := HK1.out; omega⟩, by repeat (first | exact Drawn0.refl _ | apply Drawn0.step)⟩
       ·rw [if_neg c8] at H
        have c8b0 : decide (t267 ≤ 90) = false := decide_eq_false c8
        clear c8
        by_cases c10 : t267 ≥ 97
        ·rw [if_pos c10] at H
         have c10b0 : decide (97 ≤ t267) = true := decide_eq_true c10
         clear c10
         by_cases c11 : t267 ≤ 122
         ·rw [if_pos c11] at H
          have c11b0 : decide (t267 ≤ 122) = true := decide_eq_true c11
          clear c11
          by_cases c12 : t268 = 0
          ·rw [if_pos c12] at H
           have c12b0 : (t268 == 0) = true := beq_iff_eq.mpr c12
           have c12b1 : (t268 != 0) = false := bne_eq_false_iff_eq.mpr c12
           clear c12
           obtain rfl := Option.some.inj H
           go_wp2_with (first | ((with_reducible refine gate_callee (f := 56) rfl ?_); refine goesL_ (some 15) rfl rfl Tryd.func56 (by kernel_rfl) rfl #[.string a0, .int .i64 x3_1] rfl (by (try simp only [List.map_toArray, List.map_cons, List.map_nil]); first | done | rfl | (simp only [List.length_drop, List.length_take]; rfl)) ?_; (with_reducible refine (gangerref09_Rune.calls k1 a0 x3_1 t267 t268 _ A3.out).mono ?_); rintro e w' ⟨rfl, ⟨nd, rfl⟩⟩; refine ⟨_, rfl, ?_⟩))
           go_ret
           exact ⟨by first | rfl | (simp; done) | (simp [*]; done), by repeat (first | exact Drawn0.refl _ | apply Drawn0.step)⟩
          ·rw [if_neg c12] at H
           have c12b0 : (t268 == 0) = false := beq_eq_false_iff_ne.mpr c12
           have c12b1 : (t268 != 0) = true := bne_iff_ne.mpr c12
           have H' := Aside0.mk H
           clear H
           go_wp2_with (first | ((with_reducible refine gate_callee (f := 56) rfl ?_); refine goesL_ (some 15) rfl rfl Tryd.func56 (by kernel_rfl) rfl #[.string a0, .int .i64 x3_1] rfl (by (try simp only [List.map_toArray, List.map_cons, List.map_nil]); first | done | rfl | (simp only [List.length_drop, List.length_take]; rfl)) ?_; (with_reducible refine (gangerref09_Rune.calls k1 a0 x3_1 t267 t268 _ A3.out).mono ?_); rintro e w' ⟨rfl, ⟨nd, rfl⟩⟩; refine ⟨_, rfl, ?_⟩))
           go_roundg k1
           case measure => have := HK1.out; omega
           case rel => exact ⟨(wrap64 (x3_1 + t268)), (wrap64 (x4_1 + 1)), (by first | rfl | (simp; done) | (simp [*]; done)), (by first | rfl | (simp; done) | (simp [*]; done)), H', ⟨by have := HK1.out; omega⟩, by repeat (first | exact Drawn0.refl _ | apply Drawn0.step)⟩
         ·rw [if_neg c11] at H
          have c11b0 : decide (t267 ≤ 122) = false := decide_eq_false c11
          clear c11
          by_cases c13 : t267 = 45
          ·rw [if_pos c13] at H
           have c13b0 : (t267 == 45) = true := beq_iff_eq.mpr c13
           have c13b1 : (t267 != 45) = false := bne_eq_false_iff_eq.mpr c13
           clear c13
           by_cases c14 : t268 = 0
           ·rw [if_pos c14] at H
            have c14b0 : (t268 == 0) = true := beq_iff_eq.mpr c14
            have c14b1 : (t268 != 0) = false := bne_eq_false_iff_eq.mpr c14
            clear c14
            obtain rfl := Option.some.inj H
            go_wp2_with (first | ((with_reducible refine gate_callee (f := 56) rfl ?_); refine goesL_ (some 15) rfl rfl Tryd.func56 (by kernel_rfl) rfl #[.string a0, .int .i64 x3_1] rfl (by (try simp only [List.map_toArray, List.map_cons, List.map_nil]); first | done | rfl | (simp only [List.length_drop, List.length_take]; rfl)) ?_; (with_reducible refine (gangerref09_Rune.calls k1 a0 x3_1 t267 t268 _ A3.out).mono ?_); rintro e w' ⟨rfl, ⟨nd, rfl⟩⟩; refine ⟨_, rfl, ?_⟩))
            go_ret
            exact ⟨by first | rfl | (simp; done) | (simp [*]; done), by repeat (first | exact Drawn0.refl _ | apply Drawn0.step)⟩
           ·rw [if_neg c14] at H
            have c14b0 : (t268 == 0) = false := beq_eq_false_iff_ne.mpr c14
            have c14b1 : (t268 != 0) = true := bne_iff_ne.mpr c14
            have H' := Aside0.mk H
            clear H
            go_wp2_with (first | ((with_reducible refine gate_callee (f := 56) rfl ?_); refine goesL_ (some 15) rfl rfl Tryd.func56 (by kernel_rfl) rfl #[.string a0, .int .i64 x3_1] rfl (by (try simp only [List.map_toArray, List.map_cons, List.map_nil]); first | done | rfl | (simp only [List.length_drop, List.length_take]; rfl)) ?_; (with_reducible refine (gangerref09_Rune.calls k1 a0 x3_1 t267 t268 _ A3.out).mono ?_); rintro e w' ⟨rfl, ⟨nd, rfl⟩⟩; refine ⟨_, rfl, ?_⟩))
            go_roundg k1
            case measure => have := HK1.out; omega
            case rel => exact ⟨(wrap64 (x3_1 + t268)), (wrap64 (x4_1 + 1)), (by first | rfl | (simp; done) | (simp [*]; done)), (by first | rfl | (simp; done) | (simp [*]; done)), H', ⟨by have := HK1.out; omega⟩, by repeat (first | exact Drawn0.refl _ | apply Drawn0.step)⟩
          ·rw [if_neg c13] at H
           have c13b0 : (t267 == 45) = false := beq_eq_false_iff_ne.mpr c13
           have c13b1 : (t267 != 45) = true := bne_iff_ne.mpr c13
           by_cases c15 : t267 = 46
           ·rw [if_pos c15] at H
            have c15b0 : (t267 == 46) = true := beq_iff_eq.mpr c15
            have c15b1 : (t267 != 46) = false := bne_eq_false_iff_eq.mpr c15
            clear c15
            by_cases c16 : t268 = 0
            ·rw [if_pos c16] at H
             have c16b0 : (t268 == 0) = true := beq_iff_eq.mpr c16
             have c16b1 : (t268 != 0) = false := bne_eq_false_iff_eq.mpr c16
             clear c16
             obtain rfl := Option.some.inj H
             go_wp2_with (first | ((with_reducible refine gate_callee (f := 56) rfl ?_); refine goesL_ (some 15) rfl rfl Tryd.func56 (by kernel_rfl) rfl #[.string a0, .int .i64 x3_1] rfl (by (try simp only [List.map_toArray, List.map_cons, List.map_nil]); first | done | rfl | (simp only [List.length_drop, List.length_take]; rfl)) ?_; (with_reducible refine (gangerref09_Rune.calls k1 a0 x3_1 t267 t268 _ A3.out).mono ?_); rintro e w' ⟨rfl, ⟨nd, rfl⟩⟩; refine ⟨_, rfl, ?_⟩))
             go_ret
             exact ⟨by first | rfl | (simp; done) | (simp [*]; done), by repeat (first | exact Drawn0.refl _ | apply Drawn0.step)⟩
            ·rw [if_neg c16] at H
             have c16b0 : (t268 == 0) = false := beq_eq_false_iff_ne.mpr c16
             have c16b1 : (t268 != 0) = true := bne_iff_ne.mpr c16
             have H' := Aside0.mk H
             clear H
             go_wp2_with (first | ((with_reducible refine gate_callee (f := 56) rfl ?_); refine goesL_ (some 15) rfl rfl Tryd.func56 (by kernel_rfl) rfl #[.string a0, .int .i64 x3_1] rfl (by (try simp only [List.map_toArray, List.map_cons, List.map_nil]); first | done | rfl | (simp only [List.length_drop, List.length_take]; rfl)) ?_; (with_reducible refine (gangerref09_Rune.calls k1 a0 x3_1 t267 t268 _ A3.out).mono ?_); rintro e w' ⟨rfl, ⟨nd, rfl⟩⟩; refine ⟨_, rfl, ?_⟩))
             go_roundg k1
             case measure => have := HK1.out; omega
             case rel => exact ⟨(wrap64 (x3_1 + t268)), (wrap64 (x4_1 + 1)), (by first | rfl | (simp; done) | (simp [*]; done)), (by first | rfl | (simp; done) | (simp [*]; done)), H', ⟨by have := HK1.out; omega⟩, by repeat (first | exact Drawn0.refl _ | apply Drawn0.step)⟩
           ·rw [if_neg c15] at H
            have c15b0 : (t267 == 46) = false := beq_eq_false_iff_ne.mpr c15
            have c15b1 : (t267 != 46) = true := bne_iff_ne.mpr c15
            by_cases c17 : t268 = 0
            ·rw [if_pos c17] at H
             have c17b0 : (t268 == 0) = true := beq_iff_eq.mpr c17
             have c17b1 : (t268 != 0) = false := bne_eq_false_iff_eq.mpr c17
             clear c17
             obtain rfl := Option.some.inj H
             go_wp2_with (first | ((with_reducible refine gate_callee (f := 56) rfl ?_); refine goesL_ (some 15) rfl rfl Tryd.func56 (by kernel_rfl) rfl #[.string a0, .int .i64 x3_1] rfl (by (try simp only [List.map_toArray, List.map_cons, List.map_nil]); first | done | rfl | (simp only [List.length_drop, List.length_take]; rfl)) ?_; (with_reducible refine (gangerref09_Rune.calls k1 a0 x3_1 t267 t268 _ A3.out).mono ?_); rintro e w' ⟨rfl, ⟨nd, rfl⟩⟩; refine ⟨_, rfl, ?_⟩))
             go_ret
             exact ⟨by first | rfl | (simp; done) | (simp [*]; done), by repeat (first | exact Drawn0.refl _ | apply Drawn0.step)⟩
            ·rw [if_neg c17] at H
             have c17b0 : (t268 == 0) = false := beq_eq_false_iff_ne.mpr c17
             have c17b1 : (t268 != 0) = true := bne_iff_ne.mpr c17
             by_cases c18 : t267 = 95
             ·rw [if_pos c18] at H
              have c18b0 : (t267 == 95) = true := beq_iff_eq.mpr c18
              have c18b1 : (t267 != 95) = false := bne_eq_false_iff_eq.mpr c18
              clear c18
              have H' := Aside0.mk H
              clear H
              go_wp2_with (first | ((with_reducible refine gate_callee (f := 56) rfl ?_); refine goesL_ (some 15) rfl rfl Tryd.func56 (by kernel_rfl) rfl #[.string a0, .int .i64 x3_1] rfl (by (try simp only [List.map_toArray, List.map_cons, List.map_nil]); first | done | rfl | (simp only [List.length_drop, List.length_take]; rfl)) ?_; (with_reducible refine (gangerref09_Rune.calls k1 a0 x3_1 t267 t268 _ A3.out).mono ?_); rintro e w' ⟨rfl, ⟨nd, rfl⟩⟩; refine ⟨_, rfl, ?_⟩))
              go_roundg k1
              case measure => have := HK1.out; omega
              case rel => exact ⟨(wrap64 (x3_1 + t268)), (wrap64 (x4_1 + 1)), (by first | rfl | (simp; done) | (simp [*]; done)), (by first | rfl | (simp; done) | (simp [*]; done)), H', ⟨by have := HK1.out; omega⟩, by repeat (first | exact Drawn0.refl _ | apply Drawn0.step)⟩
             ·rw [if_neg c18] at H
              have c18b0 : (t267 == 95) = false := beq_eq_false_iff_ne.mpr c18
              have c18b1 : (t267 != 95) = true := bne_iff_ne.mpr c18
              by_cases c19 : t267 ≤ 160
              ·rw [if_pos c19] at H
               have c19b0 : decide (t267 ≤ 160) = true := decide_eq_true c19
               clear c19
               obtain rfl := Option.some.inj H
               go_wp2_with (first | ((with_reducible refine gate_callee (f := 56) rfl ?_); refine goesL_ (some 15) rfl rfl Tryd.func56 (by kernel_rfl) rfl #[.string a0, .int .i64 x3_1] rfl (by (try simp only [List.map_toArray, List.map_cons, List.map_nil]); first | done | rfl | (simp only [List.length_drop, List.length_take]; rfl)) ?_; (with_reducible refine (gangerref09_Rune.calls k1 a0 x3_1 t267 t268 _ A3.out).mono ?_); rintro e w' ⟨rfl, ⟨nd, rfl⟩⟩; refine ⟨_, rfl, ?_⟩))
               go_ret
               exact ⟨by first | rfl | (simp; done) | (simp [*]; done), by repeat (first | exact Drawn0.refl _ | apply Drawn0.step)⟩
              ·rw [if_neg c19] at H
               have c19b0 : decide (t267 ≤ 160) = false := decide_eq_false c19
               clear c19
               have H' := Aside0.mk H
               clear H
               go_wp2_with (first | ((with_reducible refine gate_callee (f := 56) rfl ?_); refine goesL_ (some 15) rfl rfl Tryd.func56 (by kernel_rfl) rfl #[.string a0, .int .i64 x3_1] rfl (by (try simp only [List.map_toArray, List.map_cons, List.map_nil]); first | done | rfl | (simp only [List.length_drop, List.length_take]; rfl)) ?_; (with_reducible refine (gangerref09_Rune.calls k1 a0 x3_1 t267 t268 _ A3.out).mono ?_); rintro e w' ⟨rfl, ⟨nd, rfl⟩⟩; refine ⟨_, rfl, ?_⟩))
               go_roundg k1
               case measure => have := HK1.out; omega
               case rel => exact ⟨(wrap64 (x3_1 + t268)), (wrap64 (x4_1 + 1)), (by first | rfl | (simp; done) | (simp [*]; done)), (by first | rfl | (simp; done) | (simp [*]; done)), H', ⟨by have := HK1.out; omega⟩, by repeat (first | exact Drawn0.refl _ | apply Drawn0.step)⟩
        ·rw [if_neg c10] at H
         have c10b0 : decide (97 ≤ t267) = false := decide_eq_false c10
         clear c10
         by_cases c20 : t267 = 45
         ·rw [if_pos c20] at H
          have c20b0 : (t267 == 45) = true := beq_iff_eq.mpr c20
          have c20b1 : (t267 != 45) = false := bne_eq_false_iff_eq.mpr c20
          clear c20
          by_cases c21 : t268 = 0
          ·rw [if_pos c21] at H
           have c21b0 : (t268 == 0) = true := beq_iff_eq.mpr c21
           have c21b1 : (t268 != 0) = false := bne_eq_false_iff_eq.mpr c21
           clear c21
           obtain rfl := Option.some.inj H
           go_wp2_with (first | ((with_reducible refine gate_callee (f := 56) rfl ?_); refine goesL_ (some 15) rfl rfl Tryd.func56 (by kernel_rfl) rfl #[.string a0, .int .i64 x3_1] rfl (by (try simp only [List.map_toArray, List.map_cons, List.map_nil]); first | done | rfl | (simp only [List.length_drop, List.length_take]; rfl)) ?_; (with_reducible refine (gangerref09_Rune.calls k1 a0 x3_1 t267 t268 _ A3.out).mono ?_); rintro e w' ⟨rfl, ⟨nd, rfl⟩⟩; refine ⟨_, rfl, ?_⟩))
           go_ret
           exact ⟨by first | rfl | (simp; done) | (simp [*]; done), by repeat (first | exact Drawn0.refl _ | apply Drawn0.step)⟩
          ·rw [if_neg c21] at H
           have c21b0 : (t268 == 0) = false := beq_eq_false_iff_ne.mpr c21
           have c21b1 : (t268 != 0) = true := bne_iff_ne.mpr c21
           have H' := Aside0.mk H
           clear H
           go_wp2_with (first | ((with_reducible refine gate_callee (f := 56) rfl ?_); refine goesL_ (some 15) rfl rfl Tryd.func56 (by kernel_rfl) rfl #[.string a0, .int .i64 x3_1] rfl (by (try simp only [List.map_toArray, List.map_cons, List.map_nil]); first | done | rfl | (simp only [List.length_drop, List.length_take]; rfl)) ?_; (with_reducible refine (gangerref09_Rune.calls k1 a0 x3_1 t267 t268 _ A3.out).mono ?_); rintro e w' ⟨rfl, ⟨nd, rfl⟩⟩; refine ⟨_, rfl, ?_⟩))
           go_roundg k1
           case measure => have := HK1.out; omega
           case rel => exact ⟨(wrap64 (x3_1 + t268)), (wrap64 (x4_1 + 1)), (by first | rfl | (simp; done) | (simp [*]; done)), (by first | rfl | (simp; done) | (simp [*]; done)), H', ⟨by have := HK1.out; omega⟩, by repeat (first | exact Drawn0.refl _ | apply Drawn0.step)⟩
         ·rw [if_neg c20] at H
          have c20b0 : (t267 == 45) = false := beq_eq_false_iff_ne.mpr c20
          have c20b1 : (t267 != 45) = true := bne_iff_ne.mpr c20
          by_cases c22 : t267 = 46
          ·rw [if_pos c22] at H
           have c22b0 : (t267 == 46) = true := beq_iff_eq.mpr c22
           have c22b1 : (t267 != 46) = false := bne_eq_false_iff_eq.mpr c22
           clear c22
           by_cases c23 : t268 = 0
           ·rw [if_pos c23] at H
            have c23b0 : (t268 == 0) = true := beq_iff_eq.mpr c23
            have c23b1 : (t268 != 0) = false := bne_eq_false_iff_eq.mpr c23
            clear c23
            obtain rfl := Option.some.inj H
            go_wp2_with (first | ((with_reducible refine gate_callee (f := 56) rfl ?_); refine goesL_ (some 15) rfl rfl Tryd.func56 (by kernel_rfl) rfl #[.string a0, .int .i64 x3_1] rfl (by (try simp only [List.map_toArray, List.map_cons, List.map_nil]); first | done | rfl | (simp only [List.length_drop, List.length_take]; rfl)) ?_; (with_reducible refine (gangerref09_Rune.calls k1 a0 x3_1 t267 t268 _ A3.out).mono ?_); rintro e w' ⟨rfl, ⟨nd, rfl⟩⟩; refine ⟨_, rfl, ?_⟩))
            go_ret
            exact ⟨by first | rfl | (simp; done) | (simp [*]; done), by repeat (first | exact Drawn0.refl _ | apply Drawn0.step)⟩
           ·rw [if_neg c23] at H
            have c23b0 : (t268 == 0) = false := beq_eq_false_iff_ne.mpr c23
            have c23b1 : (t268 != 0) = true := bne_iff_ne.mpr c23
            have H' := Aside0.mk H
            clear H
            go_wp2_with (first | ((with_reducible refine gate_callee (f := 56) rfl ?_); refine goesL_ (some 15) rfl rfl Tryd.func56 (by kernel_rfl) rfl #[.string a0, .int .i64 x3_1] rfl (by (try simp only [List.map_toArray, List.map_cons, List.map_nil]); first | done | rfl | (simp only [List.length_drop, List.length_take]; rfl)) ?_; (with_reducible refine (gangerref09_Rune.calls k1 a0 x3_1 t267 t268 _ A3.out).mono ?_); rintro e w' ⟨rfl, ⟨nd, rfl⟩⟩; refine ⟨_, rfl, ?_⟩))
            go_roundg k1
            case measure => have := HK1.out; omega
            case rel => exact ⟨(wrap64 (x3_1 + t268)), (wrap64 (x4_1 + 1)), (by first | rfl | (simp; done) | (simp [*]; done)), (by first | rfl | (simp; done) | (simp [*]; done)), H', ⟨by have := HK1.out; omega⟩, by repeat (first | exact Drawn0.refl _ | apply Drawn0.step)⟩
          ·rw [if_neg c22] at H
           have c22b0 : (t267 == 46) = false := beq_eq_false_iff_ne.mpr c22
           have c22b1 : (t267 != 46) = true := bne_iff_ne.mpr c22
           by_cases c24 : t268 = 0
           ·rw [if_pos c24] at H
            have c24b0 : (t268 == 0) = true := beq_iff_eq.mpr c24
            have c24b1 : (t268 != 0) = false := bne_eq_false_iff_eq.mpr c24
            clear c24
            obtain rfl := Option.some.inj H
            go_wp2_with (first | ((with_reducible refine gate_callee (f := 56) rfl ?_); refine goesL_ (some 15) rfl rfl Tryd.func56 (by kernel_rfl) rfl #[.string a0, .int .i64 x3_1] rfl (by (try simp only [List.map_toArray, List.map_cons, List.map_nil]); first | done | rfl | (simp only [List.length_drop, List.length_take]; rfl)) ?_; (with_reducible refine (gangerref09_Rune.calls k1 a0 x3_1 t267 t268 _ A3.out).mono ?_); rintro e w' ⟨rfl, ⟨nd, rfl⟩⟩; refine ⟨_, rfl, ?_⟩))
            go_ret
            exact ⟨by first | rfl | (simp; done) | (simp [*]; done), by repeat (first | exact Drawn0.refl _ | apply Drawn0.step)⟩
           ·rw [if_neg c24] at H
            have c24b0 : (t268 == 0) = false := beq_eq_false_iff_ne.mpr c24
            have c24b1 : (t268 != 0) = true := bne_iff_ne.mpr c24
            by_cases c25 : t267 = 95
            ·rw [if_pos c25] at H
             have c25b0 : (t267 == 95) = true := beq_iff_eq.mpr c25
             have c25b1 : (t267 != 95) = false := bne_eq_false_iff_eq.mpr c25
             clear c25
             have H' := Aside0.mk H
             clear H
             go_wp2_with (first | ((with_reducible refine gate_callee (f := 56) rfl ?_); refine goesL_ (some 15) rfl rfl Tryd.func56 (by kernel_rfl) rfl #[.string a0, .int .i64 x3_1] rfl (by (try simp only [List.map_toArray, List.map_cons, List.map_nil]); first | done | rfl | (simp only [List.length_drop, List.length_take]; rfl)) ?_; (with_reducible refine (gangerref09_Rune.calls k1 a0 x3_1 t267 t268 _ A3.out).mono ?_); rintro e w' ⟨rfl, ⟨nd, rfl⟩⟩; refine ⟨_, rfl, ?_⟩))
             go_roundg k1
             case measure => have := HK1.out; omega
             case rel => exact ⟨(wrap64 (x3_1 + t268)), (wrap64 (x4_1 + 1)), (by first | rfl | (simp; done) | (simp [*]; done)), (by first | rfl | (simp; done) | (simp [*]; done)), H', ⟨by have := HK1.out; omega⟩, by repeat (first | exact Drawn0.refl _ | apply Drawn0.step)⟩
            ·rw [if_neg c25] at H
             have c25b0 : (t267 == 95) = false := beq_eq_false_iff_ne.mpr c25
             have c25b1 : (t267 != 95) = true := bne_iff_ne.mpr c25
             by_cases c26 : t267 ≤ 160
             ·rw [if_pos c26] at H
              have c26b0 : decide (t267 ≤ 160) = true := decide_eq_true c26
              clear c26
              obtain rfl := Option.some.inj H
              go_wp2_with (first | ((with_reducible refine gate_callee (f := 56) rfl ?_); refine goesL_ (some 15) rfl rfl Tryd.func56 (by kernel_rfl) rfl #[.string a0, .int .i64 x3_1] rfl (by (try simp only [List.map_toArray, List.map_cons, List.map_nil]); first | done | rfl | (simp only [List.length_drop, List.length_take]; rfl)) ?_; (with_reducible refine (gangerref09_Rune.calls k1 a0 x3_1 t267 t268 _ A3.out).mono ?_); rintro e w' ⟨rfl, ⟨nd, rfl⟩⟩; refine ⟨_, rfl, ?_⟩))
              go_ret
              exact ⟨by first | rfl | (simp; done) | (simp [*]; done), by repeat (first | exact Drawn0.refl _ | apply Drawn0.step)⟩
             ·rw [if_neg c26] at H
              have c26b0 : decide (t267 ≤ 160) = false := decide_eq_false c26
              clear c26
              have H' := Aside0.mk H
              clear H
              go_wp2_with (first | ((with_reducible refine gate_callee (f := 56) rfl ?_); refine goesL_ (some 15) rfl rfl Tryd.func56 (by kernel_rfl) rfl #[.string a0, .int .i64 x3_1] rfl (by (try simp only [List.map_toArray, List.map_cons, List.map_nil]); first | done | rfl | (simp only [List.length_drop, List.length_take]; rfl)) ?_; (with_reducible refine (gangerref09_Rune.calls k1 a0 x3_1 t267 t268 _ A3.out).mono ?_); rintro e w' ⟨rfl, ⟨nd, rfl⟩⟩; refine ⟨_, rfl, ?_⟩))
              go_roundg k1
              case measure => have := HK1.out; omega
              case rel => exact ⟨(wrap64 (x3_1 + t268)), (wrap64 (x4_1 + 1)), (by first | rfl | (simp; done) | (simp [*]; done)), (by first | rfl | (simp; done) | (simp [*]; done)), H', ⟨by have := HK1.out; omega⟩, by repeat (first | exact Drawn0.refl _ | apply Drawn0.step)⟩
      ·rw [if_neg c7] at H
       have c7b0 : decide (65 ≤ t267) = false := decide_eq_false c7
       clear c7
       by_cases c27 : t267 ≥ 97
       ·rw [if_pos c27] at H
        have c27b0 : decide (97 ≤ t267) = true := decide_eq_true c27
        clear c27
        by_cases c28 : t267 ≤ 122
        ·rw [if_pos c28] at H
         have c28b0 : decide (t267 ≤ 122) = true := decide_eq_true c28
         clear c28
         by_cases c29 : t268 = 0
         ·rw [if_pos c29] at H
          have c29b0 : (t268 == 0) = true := beq_iff_eq.mpr c29
          have c29b1 : (t268 != 0) = false := bne_eq_false_iff_eq.mpr c29
          clear c29
          obtain rfl := Option.some.inj H
          go_wp2_with (first | ((with_reducible refine gate_callee (f := 56) rfl ?_); refine goesL_ (some 15) rfl rfl Tryd.func56 (by kernel_rfl) rfl #[.string a0, .int .i64 x3_1] rfl (by (try simp only [List.map_toArray, List.map_cons, List.map_nil]); first | done | rfl | (simp only [List.length_drop, List.length_take]; rfl)) ?_; (with_reducible refine (gangerref09_Rune.calls k1 a0 x3_1 t267 t268 _ A3.out).mono ?_); rintro e w' ⟨rfl, ⟨nd, rfl⟩⟩; refine ⟨_, rfl, ?_⟩))
          go_ret
          exact ⟨by first | rfl | (simp; done) | (simp [*]; done), by repeat (first | exact Drawn0.refl _ | apply Drawn0.step)⟩
         ·rw [if_neg c29] at H
          have c29b0 : (t268 == 0) = false := beq_eq_false_iff_ne.mpr c29
          have c29b1 : (t268 != 0) = true := bne_iff_ne.mpr c29
          have H' := Aside0.mk H
          clear H
          go_wp2_with (first | ((with_reducible refine gate_callee (f := 56) rfl ?_); refine goesL_ (some 15) rfl rfl Tryd.func56 (by kernel_rfl) rfl #[.string a0, .int .i64 x3_1] rfl (by (try simp only [List.map_toArray, List.map_cons, List.map_nil]); first | done | rfl | (simp only [List.length_drop, List.length_take]; rfl)) ?_; (with_reducible refine (gangerref09_Rune.calls k1 a0 x3_1 t267 t268 _ A3.out).mono ?_); rintro e w' ⟨rfl, ⟨nd, rfl⟩⟩; refine ⟨_, rfl, ?_⟩))
          go_roundg k1
          case measure => have := HK1.out; omega
          case rel => exact ⟨(wrap64 (x3_1 + t268)), (wrap64 (x4_1 + 1)), (by first | rfl | (simp; done) | (simp [*]; done)), (by first | rfl | (simp; done) | (simp [*]; done)), H', ⟨by have := HK1.out; omega⟩, by repeat (first | exact Drawn0.refl _ | apply Drawn0.step)⟩
        ·rw [if_neg c28] at H
         have c28b0 : decide (t267 ≤ 122) = false := decide_eq_false c28
         clear c28
         by_cases c30 : t267 = 45
         ·rw [if_pos c30] at H
          have c30b0 : (t267 == 45) = true := beq_iff_eq.mpr c30
          have c30b1 : (t267 != 45) = false := bne_eq_false_iff_eq.mpr c30
          clear c30
          by_cases c31 : t268 = 0
          ·rw [if_pos c31] at H
           have c31b0 : (t268 == 0) = true := beq_iff_eq.mpr c31
           have c31b1 : (t268 != 0) = false := bne_eq_false_iff_eq.mpr c31
           clear c31
           obtain rfl := Option.some.inj H
           go_wp2_with (first | ((with_reducible refine gate_callee (f := 56) rfl ?_); refine goesL_ (some 15) rfl rfl Tryd.func56 (by kernel_rfl) rfl #[.string a0, .int .i64 x3_1] rfl (by (try simp only [List.map_toArray, List.map_cons, List.map_nil]); first | done | rfl | (simp only [List.length_drop, List.length_take]; rfl)) ?_; (with_reducible refine (gangerref09_Rune.calls k1 a0 x3_1 t267 t268 _ A3.out).mono ?_); rintro e w' ⟨rfl, ⟨nd, rfl⟩⟩; refine ⟨_, rfl, ?_⟩))
           go_ret
           exact ⟨by first | rfl | (simp; done) | (simp [*]; done), by repeat (first | exact Drawn0.refl _ | apply Drawn0.step)⟩
          ·rw [if_neg c31] at H
           have c31b0 : (t268 == 0) = false := beq_eq_false_iff_ne.mpr c31
           have c31b1 : (t268 != 0) = true := bne_iff_ne.mpr c31
           have H' := Aside0.mk H
           clear H
           go_wp2_with (first | ((with_reducible refine gate_callee (f := 56) rfl ?_); refine goesL_ (some 15) rfl rfl Tryd.func56 (by kernel_rfl) rfl #[.string a0, .int .i64 x3_1] rfl (by (try simp only [List.map_toArray, List.map_cons, List.map_nil]); first | done | rfl | (simp only [List.length_drop, List.length_take]; rfl)) ?_; (with_reducible refine (gangerref09_Rune.calls k1 a0 x3_1 t267 t268 _ A3.out).mono ?_); rintro e w' ⟨rfl, ⟨nd, rfl⟩⟩; refine ⟨_, rfl, ?_⟩))
           go_roundg k1
           case measure => have := HK1.out; omega
           case rel => exact ⟨(wrap64 (x3_1 + t268)), (wrap64 (x4_1 + 1)), (by first | rfl | (simp; done) | (simp [*]; done)), (by first | rfl | (simp; done) | (simp [*]; done)), H', ⟨by have := HK1.out; omega⟩, by repeat (first | exact Drawn0.refl _ | apply Drawn0.step)⟩
         ·rw [if_neg c30] at H
          have c30b0 : (t267 == 45) = false := beq_eq_false_iff_ne.mpr c30
          have c30b1 : (t267 != 45) = true := bne_iff_ne.mpr c30
          by_cases c32 : t267 = 46
          ·rw [if_pos c32] at H
           have c32b0 : (t267 == 46) = true := beq_iff_eq.mpr c32
           have c32b1 : (t267 != 46) = false := bne_eq_false_iff_eq.mpr c32
           clear c32
           by_cases c33 : t268 = 0
           ·rw [if_pos c33] at H
            have c33b0 : (t268 == 0) = true := beq_iff_eq.mpr c33
            have c33b1 : (t268 != 0) = false := bne_eq_false_iff_eq.mpr c33
            clear c33
            obtain rfl := Option.some.inj H
            go_wp2_with (first | ((with_reducible refine gate_callee (f := 56) rfl ?_); refine goesL_ (some 15) rfl rfl Tryd.func56 (by kernel_rfl) rfl #[.string a0, .int .i64 x3_1] rfl (by (try simp only [List.map_toArray, List.map_cons, List.map_nil]); first | done | rfl | (simp only [List.length_drop, List.length_take]; rfl)) ?_; (with_reducible refine (gangerref09_Rune.calls k1 a0 x3_1 t267 t268 _ A3.out).mono ?_); rintro e w' ⟨rfl, ⟨nd, rfl⟩⟩; refine ⟨_, rfl, ?_⟩))
            go_ret
            exact ⟨by first | rfl | (simp; done) | (simp [*]; done), by repeat (first | exact Drawn0.refl _ | apply Drawn0.step)⟩
           ·rw [if_neg c33] at H
            have c33b0 : (t268 == 0) = false := beq_eq_false_iff_ne.mpr c33
            have c33b1 : (t268 != 0) = true := bne_iff_ne.mpr c33
            have H' := Aside0.mk H
            clear H
            go_wp2_with (first | ((with_reducible refine gate_callee (f := 56) rfl ?_); refine goesL_ (some 15) rfl rfl Tryd.func56 (by kernel_rfl) rfl #[.string a0, .int .i64 x3_1] rfl (by (try simp only [List.map_toArray, List.map_cons, List.map_nil]); first | done | rfl | (simp only [List.length_drop, List.length_take]; rfl)) ?_; (with_reducible refine (gangerref09_Rune.calls k1 a0 x3_1 t267 t268 _ A3.out).mono ?_); rintro e w' ⟨rfl, ⟨nd, rfl⟩⟩; refine ⟨_, rfl, ?_⟩))
            go_roundg k1
            case measure => have := HK1.out; omega
            case rel => exact ⟨(wrap64 (x3_1 + t268)), (wrap64 (x4_1 + 1)), (by first | rfl | (simp; done) | (simp [*]; done)), (by first | rfl | (simp; done) | (simp [*]; done)), H', ⟨by have := HK1.out; omega⟩, by repeat (first | exact Drawn0.refl _ | apply Drawn0.step)⟩
          ·rw [if_neg c32] at H
           have c32b0 : (t267 == 46) = false := beq_eq_false_iff_ne.mpr c32
           have c32b1 : (t267 != 46) = true := bne_iff_ne.mpr c32
           by_cases c34 : t268 = 0
           ·rw [if_pos c34] at H
            have c34b0 : (t268 == 0) = true := beq_iff_eq.mpr c34
            have c34b1 : (t268 != 0) = false := bne_eq_false_iff_eq.mpr c34
            clear c34
            obtain rfl := Option.some.inj H
            go_wp2_with (first | ((with_reducible refine gate_callee (f := 56) rfl ?_); refine goesL_ (some 15) rfl rfl Tryd.func56 (by kernel_rfl) rfl #[.string a0, .int .i64 x3_1] rfl (by (try simp only [List.map_toArray, List.map_cons, List.map_nil]); first | done | rfl | (simp only [List.length_drop, List.length_take]; rfl)) ?_; (with_reducible refine (gangerref09_Rune.calls k1 a0 x3_1 t267 t268 _ A3.out).mono ?_); rintro e w' ⟨rfl, ⟨nd, rfl⟩⟩; refine ⟨_, rfl, ?_⟩))
            go_ret
            exact ⟨by first | rfl | (simp; done) | (simp [*]; done), by repeat (first | exact Drawn0.refl _ | apply Drawn0.step)⟩
           ·rw [if_neg c34] at H
            have c34b0 : (t268 == 0) = false := beq_eq_false_iff_ne.mpr c34
            have c34b1 : (t268 != 0) = true := bne_iff_ne.mpr c34
            by_cases c35 : t267 = 95
            ·rw [if_pos c35] at H
             have c35b0 : (t267 == 95) = true := beq_iff_eq.mpr c35
             have c35b1 : (t267 != 95) = false := bne_eq_false_iff_eq.mpr c35
             clear c35
             have H' := Aside0.mk H
             clear H
             go_wp2_with (first | ((with_reducible refine gate_callee (f := 56) rfl ?_); refine goesL_ (some 15) rfl rfl Tryd.func56 (by kernel_rfl) rfl #[.string a0, .int .i64 x3_1] rfl (by (try simp only [List.map_toArray, List.map_cons, List.map_nil]); first | done | rfl | (simp only [List.length_drop, List.length_take]; rfl)) ?_; (with_reducible refine (gangerref09_Rune.calls k1 a0 x3_1 t267 t268 _ A3.out).mono ?_); rintro e w' ⟨rfl, ⟨nd, rfl⟩⟩; refine ⟨_, rfl, ?_⟩))
             go_roundg k1
             case measure => have := HK1.out; omega
             case rel => exact ⟨(wrap64 (x3_1 + t268)), (wrap64 (x4_1 + 1)), (by first | rfl | (simp; done) | (simp [*]; done)), (by first | rfl | (simp; done) | (simp [*]; done)), H', ⟨by have := HK1.out; omega⟩, by repeat (first | exact Drawn0.refl _ | apply Drawn0.step)⟩
            ·rw [if_neg c35] at H
             have c35b0 : (t267 == 95) = false := beq_eq_false_iff_ne.mpr c35
             have c35b1 : (t267 != 95) = true := bne_iff_ne.mpr c35
             by_cases c36 : t267 ≤ 160
             ·rw [if_pos c36] at H
              have c36b0 : decide (t267 ≤ 160) = true := decide_eq_true c36
              clear c36
              obtain rfl := Option.some.inj H
              go_wp2_with (first | ((with_reducible refine gate_callee (f := 56) rfl ?_); refine goesL_ (some 15) rfl rfl Tryd.func56 (by kernel_rfl) rfl #[.string a0, .int .i64 x3_1] rfl (by (try simp only [List.map_toArray, List.map_cons, List.map_nil]); first | done | rfl | (simp only [List.length_drop, List.length_take]; rfl)) ?_; (with_reducible refine (gangerref09_Rune.calls k1 a0 x3_1 t267 t268 _ A3.out).mono ?_); rintro e w' ⟨rfl, ⟨nd, rfl⟩⟩; refine ⟨_, rfl, ?_⟩))
              go_ret
              exact ⟨by first | rfl | (simp; done) | (simp [*]; done), by repeat (first | exact Drawn0.refl _ | apply Drawn0.step)⟩
             ·rw [if_neg c36] at H
              have c36b0 : decide (t267 ≤ 160) = false := decide_eq_false c36
              clear c36
              have H' := Aside0.mk H
              clear H
              go_wp2_with (first | ((with_reducible refine gate_callee (f := 56) rfl ?_); refine goesL_ (some 15) rfl rfl Tryd.func56 (by kernel_rfl) rfl #[.string a0, .int .i64 x3_1] rfl (by (try simp only [List.map_toArray, List.map_cons, List.map_nil]); first | done | rfl | (simp only [List.length_drop, List.length_take]; rfl)) ?_; (with_reducible refine (gangerref09_Rune.calls k1 a0 x3_1 t267 t268 _ A3.out).mono ?_); rintro e w' ⟨rfl, ⟨nd, rfl⟩⟩; refine ⟨_, rfl, ?_⟩))
              go_roundg k1
              case measure => have := HK1.out; omega
              case rel => exact ⟨(wrap64 (x3_1 + t268)), (wrap64 (x4_1 + 1)), (by first | rfl | (simp; done) | (simp [*]; done)), (by first | rfl | (simp; done) | (simp [*]; done)), H', ⟨by have := HK1.out; omega⟩, by repeat (first | exact Drawn0.refl _ | apply Drawn0.step)⟩
       ·rw [if_neg c27] at H
        have c27b0 : decide (97 ≤ t267) = false := decide_eq_false c27
        clear c27
        by_cases c37 : t267 = 45
        ·rw [if_pos c37] at H
         have c37b0 : (t267 == 45) = true := beq_iff_eq.mpr c37
         have c37b1 : (t267 != 45) = false := bne_eq_false_iff_eq.mpr c37
         clear c37
         by_cases c38 : t268 = 0
         ·rw [if_pos c38] at H
          have c38b0 : (t268 == 0) = true := beq_iff_eq.mpr c38
          have c38b1 : (t268 != 0) = false := bne_eq_false_iff_eq.mpr c38
          clear c38
          obtain rfl := Option.some.inj H
          go_wp2_with (first | ((with_reducible refine gate_callee (f := 56) rfl ?_); refine goesL_ (some 15) rfl rfl Tryd.func56 (by kernel_rfl) rfl #[.string a0, .int .i64 x3_1] rfl (by (try simp only [List.map_toArray, List.map_cons, List.map_nil]); first | done | rfl | (simp only [List.length_drop, List.length_take]; rfl)) ?_; (with_reducible refine (gangerref09_Rune.calls k1 a0 x3_1 t267 t268 _ A3.out).mono ?_); rintro e w' ⟨rfl, ⟨nd, rfl⟩⟩; refine ⟨_, rfl, ?_⟩))
          go_ret
          exact ⟨by first | rfl | (simp; done) | (simp [*]; done), by repeat (first | exact Drawn0.refl _ | apply Drawn0.step)⟩
         ·rw [if_neg c38] at H
          have c38b0 : (t268 == 0) = false := beq_eq_false_iff_ne.mpr c38
          have c38b1 : (t268 != 0) = true := bne_iff_ne.mpr c38
          have H' := Aside0.mk H
          clear H
          go_wp2_with (first | ((with_reducible refine gate_callee (f := 56) rfl ?_); refine goesL_ (some 15) rfl rfl Tryd.func56 (by kernel_rfl) rfl #[.string a0, .int .i64 x3_1] rfl (by (try simp only [List.map_toArray, List.map_cons, List.map_nil]); first | done | rfl | (simp only [List.length_drop, List.length_take]; rfl)) ?_; (with_reducible refine (gangerref09_Rune.calls k1 a0 x3_1 t267 t268 _ A3.out).mono ?_); rintro e w' ⟨rfl, ⟨nd, rfl⟩⟩; refine ⟨_, rfl, ?_⟩))
          go_roundg k1
          case measure => have := HK1.out; omega
          case rel => exact ⟨(wrap64 (x3_1 + t268)), (wrap64 (x4_1 + 1)), (by first | rfl | (simp; done) | (simp [*]; done)), (by first | rfl | (simp; done) | (simp [*]; done)), H', ⟨by have := HK1.out; omega⟩, by repeat (first | exact Drawn0.refl _ | apply Drawn0.step)⟩
        ·rw [if_neg c37] at H
         have c37b0 : (t267 == 45) = false := beq_eq_false_iff_ne.mpr c37
         have c37b1 : (t267 != 45) = true := bne_iff_ne.mpr c37
         by_cases c39 : t267 = 46
         ·rw [if_pos c39] at H
          have c39b0 : (t267 == 46) = true := beq_iff_eq.mpr c39
          have c39b1 : (t267 != 46) = false := bne_eq_false_iff_eq.mpr c39
          clear c39
          by_cases c40 : t268 = 0
          ·rw [if_pos c40] at H
           have c40b0 : (t268 == 0) = true := beq_iff_eq.mpr c40
           have c40b1 : (t268 != 0) = false := bne_eq_false_iff_eq.mpr c40
           clear c40
           obtain rfl := Option.some.inj H
           go_wp2_with (first | ((with_reducible refine gate_callee (f := 56) rfl ?_); refine goesL_ (some 15) rfl rfl Tryd.func56 (by kernel_rfl) rfl #[.string a0, .int .i64 x3_1] rfl (by (try simp only [List.map_toArray, List.map_cons, List.map_nil]); first | done | rfl | (simp only [List.length_drop, List.length_take]; rfl)) ?_; (with_reducible refine (gangerref09_Rune.calls k1 a0 x3_1 t267 t268 _ A3.out).mono ?_); rintro e w' ⟨rfl, ⟨nd, rfl⟩⟩; refine ⟨_, rfl, ?_⟩))
           go_ret
           exact ⟨by first | rfl | (simp; done) | (simp [*]; done), by repeat (first | exact Drawn0.refl _ | apply Drawn0.step)⟩
          ·rw [if_neg c40] at H
           have c40b0 : (t268 == 0) = false := beq_eq_false_iff_ne.mpr c40
           have c40b1 : (t268 != 0) = true := bne_iff_ne.mpr c40
           have H' := Aside0.mk H
           clear H
           go_wp2_with (first | ((with_reducible refine gate_callee (f := 56) rfl ?_); refine goesL_ (some 15) rfl rfl Tryd.func56 (by kernel_rfl) rfl #[.string a0, .int .i64 x3_1] rfl (by (try simp only [List.map_toArray, List.map_cons, List.map_nil]); first | done | rfl | (simp only [List.length_drop, List.length_take]; rfl)) ?_; (with_reducible refine (gangerref09_Rune.calls k1 a0 x3_1 t267 t268 _ A3.out).mono ?_); rintro e w' ⟨rfl, ⟨nd, rfl⟩⟩; refine ⟨_, rfl, ?_⟩))
           go_roundg k1
           case measure => have := HK1.out; omega
           case rel => exact ⟨(wrap64 (x3_1 + t268)), (wrap64 (x4_1 + 1)), (by first | rfl | (simp; done) | (simp [*]; done)), (by first | rfl | (simp; done) | (simp [*]; done)), H', ⟨by have := HK1.out; omega⟩, by repeat (first | exact Drawn0.refl _ | apply Drawn0.step)⟩
         ·rw [if_neg c39] at H
          have c39b0 : (t267 == 46) = false := beq_eq_false_iff_ne.mpr c39
          have c39b1 : (t267 != 46) = true := bne_iff_ne.mpr c39
          by_cases c41 : t268 = 0
          ·rw [if_pos c41] at H
           have c41b0 : (t268 == 0) = true := beq_iff_eq.mpr c41
           have c41b1 : (t268 != 0) = false := bne_eq_false_iff_eq.mpr c41
           clear c41
           obtain rfl := Option.some.inj H
           go_wp2_with (first | ((with_reducible refine gate_callee (f := 56) rfl ?_); refine goesL_ (some 15) rfl rfl Tryd.func56 (by kernel_rfl) rfl #[.string a0, .int .i64 x3_1] rfl (by (try simp only [List.map_toArray, List.map_cons, List.map_nil]); first | done | rfl | (simp only [List.length_drop, List.length_take]; rfl)) ?_; (with_reducible refine (gangerref09_Rune.calls k1 a0 x3_1 t267 t268 _ A3.out).mono ?_); rintro e w' ⟨rfl, ⟨nd, rfl⟩⟩; refine ⟨_, rfl, ?_⟩))
           go_ret
           exact ⟨by first | rfl | (simp; done) | (simp [*]; done), by repeat (first | exact Drawn0.refl _ | apply Drawn0.step)⟩
          ·rw [if_neg c41] at H
           have c41b0 : (t268 == 0) = false := beq_eq_false_iff_ne.mpr c41
           have c41b1 : (t268 != 0) = true := bne_iff_ne.mpr c41
           by_cases c42 : t267 = 95
           ·rw [if_pos c42] at H
            have c42b0 : (t267 == 95) = true := beq_iff_eq.mpr c42
            have c42b1 : (t267 != 95) = false := bne_eq_false_iff_eq.mpr c42
            clear c42
            have H' := Aside0.mk H
            clear H
            go_wp2_with (first | ((with_reducible refine gate_callee (f := 56) rfl ?_); refine goesL_ (some 15) rfl rfl Tryd.func56 (by kernel_rfl) rfl #[.string a0, .int .i64 x3_1] rfl (by (try simp only [List.map_toArray, List.map_cons, List.map_nil]); first | done | rfl | (simp only [List.length_drop, List.length_take]; rfl)) ?_; (with_reducible refine (gangerref09_Rune.calls k1 a0 x3_1 t267 t268 _ A3.out).mono ?_); rintro e w' ⟨rfl, ⟨nd, rfl⟩⟩; refine ⟨_, rfl, ?_⟩))
            go_roundg k1
            case measure => have := HK1.out; omega
            case rel => exact ⟨(wrap64 (x3_1 + t268)), (wrap64 (x4_1 + 1)), (by first | rfl | (simp; done) | (simp [*]; done)), (by first | rfl | (simp; done) | (simp [*]; done)), H', ⟨by have := HK1.out; omega⟩, by repeat (first | exact Drawn0.refl _ | apply Drawn0.step)⟩
           ·rw [if_neg c42] at H
            have c42b0 : (t267 == 95) = false := beq_eq_false_iff_ne.mpr c42
            have c42b1 : (t267 != 95) = true := bne_iff_ne.mpr c42
            by_cases c43 : t267 ≤ 160
            ·rw [if_pos c43] at H
             have c43b0 : decide (t267 ≤ 160) = true := decide_eq_true c43
             clear c43
             obtain rfl := Option.some.inj H
             go_wp2_with (first | ((with_reducible refine gate_callee (f := 56) rfl ?_); refine goesL_ (some 15) rfl rfl Tryd.func56 (by kernel_rfl) rfl #[.string a0, .int .i64 x3_1] rfl (by (try simp only [List.map_toArray, List.map_cons, List.map_nil]); first | done | rfl | (simp only [List.length_drop, List.length_take]; rfl)) ?_; (with_reducible refine (gangerref09_Rune.calls k1 a0 x3_1 t267 t268 _ A3.out).mono ?_); rintro e w' ⟨rfl, ⟨nd, rfl⟩⟩; refine ⟨_, rfl, ?_⟩))
             go_ret
             exact ⟨by first | rfl | (simp; done) | (simp [*]; done), by repeat (first | exact Drawn0.refl _ | apply Drawn0.step)⟩
            ·rw [if_neg c43] at H
             have c43b0 : decide (t267 ≤ 160) = false := decide_eq_false c43
             clear c43
             have H' := Aside0.mk H
             clear H
             go_wp2_with (first | ((with_reducible refine gate_callee (f := 56) rfl ?_); refine goesL_ (some 15) rfl rfl Tryd.func56 (by kernel_rfl) rfl #[.string a0, .int .i64 x3_1] rfl (by (try simp only [List.map_toArray, List.map_cons, List.map_nil]); first | done | rfl | (simp only [List.length_drop, List.length_take]; rfl)) ?_; (with_reducible refine (gangerref09_Rune.calls k1 a0 x3_1 t267 t268 _ A3.out).mono ?_); rintro e w' ⟨rfl, ⟨nd, rfl⟩⟩; refine ⟨_, rfl, ?_⟩))
             go_roundg k1
             case measure => have := HK1.out; omega
             case rel => exact ⟨(wrap64 (x3_1 + t268)), (wrap64 (x4_1 + 1)), (by first | rfl | (simp; done) | (simp [*]; done)), (by first | rfl | (simp; done) | (simp [*]; done)), H', ⟨by have := HK1.out; omega⟩, by repeat (first | exact Drawn0.refl _ | apply Drawn0.step)⟩
    ·rw [if_neg c4] at H
     have c4b0 : decide (48 ≤ t267) = false := decide_eq_false c4
     clear c4
     by_cases c44 : t267 ≥ 65
     ·rw [if_pos c44] at H
      have c44b0 : decide (65 ≤ t267) = true := decide_eq_true c44
      clear c44
      by_cases c45 : t267 ≤ 90
      ·rw [if_pos c45] at H
       have c45b0 : decide (t267 ≤ 90) = true := decide_eq_true c45
       clear c45
       by_cases c46 : t268 = 0
       ·rw [if_pos c46] at H
        have c46b0 : (t268 == 0) = true := beq_iff_eq.mpr c46
        have c46b1 : (t268 != 0) = false := bne_eq_false_iff_eq.mpr c46
        clear c46
        obtain rfl := Option.some.inj H
        go_wp2_with (first | ((with_reducible refine gate_callee (f := 56) rfl ?_); refine goesL_ (some 15) rfl rfl Tryd.func56 (by kernel_rfl) rfl #[.string a0, .int .i64 x3_1] rfl (by (try simp only [List.map_toArray, List.map_cons, List.map_nil]); first | done | rfl | (simp only [List.length_drop, List.length_take]; rfl)) ?_; (with_reducible refine (gangerref09_Rune.calls k1 a0 x3_1 t267 t268 _ A3.out).mono ?_); rintro e w' ⟨rfl, ⟨nd, rfl⟩⟩; refine ⟨_, rfl, ?_⟩))
        go_ret
        exact ⟨by first | rfl | (simp; done) | (simp [*]; done), by repeat (first | exact Drawn0.refl _ | apply Drawn0.step)⟩
       ·rw [if_neg c46] at H
        have c46b0 : (t268 == 0) = false := beq_eq_false_iff_ne.mpr c46
        have c46b1 : (t268 != 0) = true := bne_iff_ne.mpr c46
        have H' := Aside0.mk H
        clear H
        go_wp2_with (first | ((with_reducible refine gate_callee (f := 56) rfl ?_); refine goesL_ (some 15) rfl rfl Tryd.func56 (by kernel_rfl) rfl #[.string a0, .int .i64 x3_1] rfl (by (try simp only [List.map_toArray, List.map_cons, List.map_nil]); first | done | rfl | (simp only [List.length_drop, List.length_take]; rfl)) ?_; (with_reducible refine (gangerref09_Rune.calls k1 a0 x3_1 t267 t268 _ A3.out).mono ?_); rintro e w' ⟨rfl, ⟨nd, rfl⟩⟩; refine ⟨_, rfl, ?_⟩))
        go_roundg k1
        case measure => have := HK1.out; omega
        case rel => exact ⟨(wrap64 (x3_1 + t268)), (wrap64 (x4_1 + 1)), (by first | rfl | (simp; done) | (simp [*]; done)), (by first | rfl | (simp; done) | (simp [*]; done)), H', ⟨by have := HK1.out; omega⟩, by repeat (first | exact Drawn0.refl _ | apply Drawn0.step)⟩
      ·rw [if_neg c45] at H
       have c45b0 : decide (t267 ≤ 90) = false := decide_eq_false c45
       clear c45
       by_cases c47 : t267 ≥ 97
       ·rw [if_pos c47] at H
        have c47b0 : decide (97 ≤ t267) = true := decide_eq_true c47
        clear c47
        by_cases c48 : t267 ≤ 122
        ·rw [if_pos c48] at H
         have c48b0 : decide (t267 ≤ 122) = true := decide_eq_true c48
         clear c48
         by_cases c49 : t268 = 0
         ·rw [if_pos c49] at H
          have c49b0 : (t268 == 0) = true := beq_iff_eq.mpr c49
          have c49b1 : (t268 != 0) = false := bne_eq_false_iff_eq.mpr c49
          clear c49
          obtain rfl := Option.some.inj H
          go_wp2_with (first | ((with_reducible refine gate_callee (f := 56) rfl ?_); refine goesL_ (some 15) rfl rfl Tryd.func56 (by kernel_rfl) rfl #[.string a0, .int .i64 x3_1] rfl (by (try simp only [List.map_toArray, List.map_cons, List.map_nil]); first | done | rfl | (simp only [List.length_drop, List.length_take]; rfl)) ?_; (with_reducible refine (gangerref09_Rune.calls k1 a0 x3_1 t267 t268 _ A3.out).mono ?_); rintro e w' ⟨rfl, ⟨nd, rfl⟩⟩; refine ⟨_, rfl, ?_⟩))
          go_ret
          exact ⟨by first | rfl | (simp; done) | (simp [*]; done), by repeat (first | exact Drawn0.refl _ | apply Drawn0.step)⟩
         ·rw [if_neg c49] at H
          have c49b0 : (t268 == 0) = false := beq_eq_false_iff_ne.mpr c49
          have c49b1 : (t268 != 0) = true := bne_iff_ne.mpr c49
          have H' := Aside0.mk H
          clear H
          go_wp2_with (first | ((with_reducible refine gate_callee (f := 56) rfl ?_); refine goesL_ (some 15) rfl rfl Tryd.func56 (by kernel_rfl) rfl #[.string a0, .int .i64 x3_1] rfl (by (try simp only [List.map_toArray, List.map_cons, List.map_nil]); first | done | rfl | (simp only [List.length_drop, List.length_take]; rfl)) ?_; (with_reducible refine (gangerref09_Rune.calls k1 a0 x3_1 t267 t268 _ A3.out).mono ?_); rintro e w' ⟨rfl, ⟨nd, rfl⟩⟩; refine ⟨_, rfl, ?_⟩))
          go_roundg k1
          case measure => have := HK1.out; omega
          case rel => exact ⟨(wrap64 (x3_1 + t268)), (wrap64 (x4_1 + 1)), (by first | rfl | (simp; done) | (simp [*]; done)), (by first | rfl | (simp; done) | (simp [*]; done)), H', ⟨by have := HK1.out; omega⟩, by repeat (first | exact Drawn0.refl _ | apply Drawn0.step)⟩
        ·rw [if_neg c48] at H
         have c48b0 : decide (t267 ≤ 122) = false := decide_eq_false c48
         clear c48
         by_cases c50 : t267 = 45
         ·rw [if_pos c50] at H
          have c50b0 : (t267 == 45) = true := beq_iff_eq.mpr c50
          have c50b1 : (t267 != 45) = false := bne_eq_false_iff_eq.mpr c50
          clear c50
          by_cases c51 : t268 = 0
          ·rw [if_pos c51] at H
           have c51b0 : (t268 == 0) = true := beq_iff_eq.mpr c51
           have c51b1 : (t268 != 0) = false := bne_eq_false_iff_eq.mpr c51
           clear c51
           obtain rfl := Option.some.inj H
           go_wp2_with (first | ((with_reducible refine gate_callee (f := 56) rfl ?_); refine goesL_ (some 15) rfl rfl Tryd.func56 (by kernel_rfl) rfl #[.string a0, .int .i64 x3_1] rfl (by (try simp only [List.map_toArray, List.map_cons, List.map_nil]); first | done | rfl | (simp only [List.length_drop, List.length_take]; rfl)) ?_; (with_reducible refine (gangerref09_Rune.calls k1 a0 x3_1 t267 t268 _ A3.out).mono ?_); rintro e w' ⟨rfl, ⟨nd, rfl⟩⟩; refine ⟨_, rfl, ?_⟩))
           go_ret
           exact ⟨by first | rfl | (simp; done) | (simp [*]; done), by repeat (first | exact Drawn0.refl _ | apply Drawn0.step)⟩
          ·rw [if_neg c51] at H
           have c51b0 : (t268 == 0) = false := beq_eq_false_iff_ne.mpr c51
           have c51b1 : (t268 != 0) = true := bne_iff_ne.mpr c51
           have H' := Aside0.mk H
           clear H
           go_wp2_with (first | ((with_reducible refine gate_callee (f := 56) rfl ?_); refine goesL_ (some 15) rfl rfl Tryd.func56 (by kernel_rfl) rfl #[.string a0, .int .i64 x3_1] rfl (by (try simp only [List.map_toArray, List.map_cons, List.map_nil]); first | done | rfl | (simp only [List.length_drop, List.length_take]; rfl)) ?_; (with_reducible refine (gangerref09_Rune.calls k1 a0 x3_1 t267 t268 _ A3.out).mono ?_); rintro e w' ⟨rfl, ⟨nd, rfl⟩⟩; refine ⟨_, rfl, ?_⟩))
           go_roundg k1
           case measure => have := HK1.out; omega
           case rel => exact ⟨(wrap64 (x3_1 + t268)), (wrap64 (x4_1 + 1)), (by first | rfl | (simp; done) | (simp [*]; done)), (by first | rfl | (simp; done) | (simp [*]; done)), H', ⟨by have := HK1.out; omega⟩, by repeat (first | exact Drawn0.refl _ | apply Drawn0.step)⟩
         ·rw [if_neg c50] at H
          have c50b0 : (t267 == 45) = false := beq_eq_false_iff_ne.mpr c50
          have c50b1 : (t267 != 45) = true := bne_iff_ne.mpr c50
          by_cases c52 : t267 = 46
          ·rw [if_pos c52] at H
           have c52b0 : (t267 == 46) = true := beq_iff_eq.mpr c52
           have c52b1 : (t267 != 46) = false := bne_eq_false_iff_eq.mpr c52
           clear c52
           by_cases c53 : t268 = 0
           ·rw [if_pos c53] at H
            have c53b0 : (t268 == 0) = true := beq_iff_eq.mpr c53
            have c53b1 : (t268 != 0) = false := bne_eq_false_iff_eq.mpr c53
            clear c53
            obtain rfl := Option.some.inj H
            go_wp2_with (first | ((with_reducible refine gate_callee (f := 56) rfl ?_); refine goesL_ (some 15) rfl rfl Tryd.func56 (by kernel_rfl) rfl #[.string a0, .int .i64 x3_1] rfl (by (try simp only [List.map_toArray, List.map_cons, List.map_nil]); first | done | rfl | (simp only [List.length_drop, List.length_take]; rfl)) ?_; (with_reducible refine (gangerref09_Rune.calls k1 a0 x3_1 t267 t268 _ A3.out).mono ?_); rintro e w' ⟨rfl, ⟨nd, rfl⟩⟩; refine ⟨_, rfl, ?_⟩))
            go_ret
            exact ⟨by first | rfl | (simp; done) | (simp [*]; done), by repeat (first | exact Drawn0.refl _ | apply Drawn0.step)⟩
           ·rw [if_neg c53] at H
            have c53b0 : (t268 == 0) = false := beq_eq_false_iff_ne.mpr c53
            have c53b1 : (t268 != 0) = true := bne_iff_ne.mpr c53
            have H' := Aside0.mk H
            clear H
            go_wp2_with (first | ((with_reducible refine gate_callee (f := 56) rfl ?_); refine goesL_ (some 15) rfl rfl Tryd.func56 (by kernel_rfl) rfl #[.string a0, .int .i64 x3_1] rfl (by (try simp only [List.map_toArray, List.map_cons, List.map_nil]); first | done | rfl | (simp only [List.length_drop, List.length_take]; rfl)) ?_; (with_reducible refine (gangerref09_Rune.calls k1 a0 x3_1 t267 t268 _ A3.out).mono ?_); rintro e w' ⟨rfl, ⟨nd, rfl⟩⟩; refine ⟨_, rfl, ?_⟩))
            go_roundg k1
            case measure => have := HK1.out; omega
            case rel => exact ⟨(wrap64 (x3_1 + t268)), (wrap64 (x4_1 + 1)), (by first | rfl | (simp; done) | (simp [*]; done)), (by first | rfl | (simp; done) | (simp [*]; done)), H', ⟨by have := HK1.out; omega⟩, by repeat (first | exact Drawn0.refl _ | apply Drawn0.step)⟩
          ·rw [if_neg c52] at H
           have c52b0 : (t267 == 46) = false := beq_eq_false_iff_ne.mpr c52
           have c52b1 : (t267 != 46) = true := bne_iff_ne.mpr c52
           by_cases c54 : t268 = 0
           ·rw [if_pos c54] at H
            have c54b0 : (t268 == 0) = true := beq_iff_eq.mpr c54
            have c54b1 : (t268 != 0) = false := bne_eq_false_iff_eq.mpr c54
            clear c54
            obtain rfl := Option.some.inj H
            go_wp2_with (first | ((with_reducible refine gate_callee (f := 56) rfl ?_); refine goesL_ (some 15) rfl rfl Tryd.func56 (by kernel_rfl) rfl #[.string a0, .int .i64 x3_1] rfl (by (try simp only [List.map_toArray, List.map_cons, List.map_nil]); first | done | rfl | (simp only [List.length_drop, List.length_take]; rfl)) ?_; (with_reducible refine (gangerref09_Rune.calls k1 a0 x3_1 t267 t268 _ A3.out).mono ?_); rintro e w' ⟨rfl, ⟨nd, rfl⟩⟩; refine ⟨_, rfl, ?_⟩))
            go_ret
            exact ⟨by first | rfl | (simp; done) | (simp [*]; done), by repeat (first | exact Drawn0.refl _ | apply Drawn0.step)⟩
           ·rw [if_neg c54] at H
            have c54b0 : (t268 == 0) = false := beq_eq_false_iff_ne.mpr c54
            have c54b1 : (t268 != 0) = true := bne_iff_ne.mpr c54
            by_cases c55 : t267 = 95
            ·rw [if_pos c55] at H
             have c55b0 : (t267 == 95) = true := beq_iff_eq.mpr c55
             have c55b1 : (t267 != 95) = false := bne_eq_false_iff_eq.mpr c55
             clear c55
             have H' := Aside0.mk H
             clear H
             go_wp2_with (first | ((with_reducible refine gate_callee (f := 56) rfl ?_); refine goesL_ (some 15) rfl rfl Tryd.func56 (by kernel_rfl) rfl #[.string a0, .int .i64 x3_1] rfl (by (try simp only [List.map_toArray, List.map_cons, List.map_nil]); first | done | rfl | (simp only [List.length_drop, List.length_take]; rfl)) ?_; (with_reducible refine (gangerref09_Rune.calls k1 a0 x3_1 t267 t268 _ A3.out).mono ?_); rintro e w' ⟨rfl, ⟨nd, rfl⟩⟩; refine ⟨_, rfl, ?_⟩))
             go_roundg k1
             case measure => have := HK1.out; omega
             case rel => exact ⟨(wrap64 (x3_1 + t268)), (wrap64 (x4_1 + 1)), (by first | rfl | (simp; done) | (simp [*]; done)), (by first | rfl | (simp; done) | (simp [*]; done)), H', ⟨by have := HK1.out; omega⟩, by repeat (first | exact Drawn0.refl _ | apply Drawn0.step)⟩
            ·rw [if_neg c55] at H
             have c55b0 : (t267 == 95) = false := beq_eq_false_iff_ne.mpr c55
             have c55b1 : (t267 != 95) = true := bne_iff_ne.mpr c55
             by_cases c56 : t267 ≤ 160
             ·rw [if_pos c56] at H
              have c56b0 : decide (t267 ≤ 160) = true := decide_eq_true c56
              clear c56
              obtain rfl := Option.some.inj H
              go_wp2_with (first | ((with_reducible refine gate_callee (f := 56) rfl ?_); refine goesL_ (some 15) rfl rfl Tryd.func56 (by kernel_rfl) rfl #[.string a0, .int .i64 x3_1] rfl (by (try simp only [List.map_toArray, List.map_cons, List.map_nil]); first | done | rfl | (simp only [List.length_drop, List.length_take]; rfl)) ?_; (with_reducible refine (gangerref09_Rune.calls k1 a0 x3_1 t267 t268 _ A3.out).mono ?_); rintro e w' ⟨rfl, ⟨nd, rfl⟩⟩; refine ⟨_, rfl, ?_⟩))
              go_ret
              exact ⟨by first | rfl | (simp; done) | (simp [*]; done), by repeat (first | exact Drawn0.refl _ | apply Drawn0.step)⟩
             ·rw [if_neg c56] at H
              have c56b0 : decide (t267 ≤ 160) = false := decide_eq_false c56
              clear c56
              have H' := Aside0.mk H
              clear H
              go_wp2_with (first | ((with_reducible refine gate_callee (f := 56) rfl ?_); refine goesL_ (some 15) rfl rfl Tryd.func56 (by kernel_rfl) rfl #[.string a0, .int .i64 x3_1] rfl (by (try simp only [List.map_toArray, List.map_cons, List.map_nil]); first | done | rfl | (simp only [List.length_drop, List.length_take]; rfl)) ?_; (with_reducible refine (gangerref09_Rune.calls k1 a0 x3_1 t267 t268 _ A3.out).mono ?_); rintro e w' ⟨rfl, ⟨nd, rfl⟩⟩; refine ⟨_, rfl, ?_⟩))
              go_roundg k1
              case measure => have := HK1.out; omega
              case rel => exact ⟨(wrap64 (x3_1 + t268)), (wrap64 (x4_1 + 1)), (by first | rfl | (simp; done) | (simp [*]; done)), (by first | rfl | (simp; done) | (simp [*]; done)), H', ⟨by have := HK1.out; omega⟩, by repeat (first | exact Drawn0.refl _ | apply Drawn0.step)⟩
       ·rw [if_neg c47] at H
        have c47b0 : decide (97 ≤ t267) = false := decide_eq_false c47
        clear c47
        by_cases c57 : t267 = 45
        ·rw [if_pos c57] at H
         have c57b0 : (t267 == 45) = true := beq_iff_eq.mpr c57
         have c57b1 : (t267 != 45) = false := bne_eq_false_iff_eq.mpr c57
         clear c57
         by_cases c58 : t268 = 0
         ·rw [if_pos c58] at H
          have c58b0 : (t268 == 0) = true := beq_iff_eq.mpr c58
          have c58b1 : (t268 != 0) = false := bne_eq_false_iff_eq.mpr c58
          clear c58
          obtain rfl := Option.some.inj H
          go_wp2_with (first | ((with_reducible refine gate_callee (f := 56) rfl ?_); refine goesL_ (some 15) rfl rfl Tryd.func56 (by kernel_rfl) rfl #[.string a0, .int .i64 x3_1] rfl (by (try simp only [List.map_toArray, List.map_cons, List.map_nil]); first | done | rfl | (simp only [List.length_drop, List.length_take]; rfl)) ?_; (with_reducible refine (gangerref09_Rune.calls k1 a0 x3_1 t267 t268 _ A3.out).mono ?_); rintro e w' ⟨rfl, ⟨nd, rfl⟩⟩; refine ⟨_, rfl, ?_⟩))
          go_ret
          exact ⟨by first | rfl | (simp; done) | (simp [*]; done), by repeat (first | exact Drawn0.refl _ | apply Drawn0.step)⟩
         ·rw [if_neg c58] at H
          have c58b0 : (t268 == 0) = false := beq_eq_false_iff_ne.mpr c58
          have c58b1 : (t268 != 0) = true := bne_iff_ne.mpr c58
          have H' := Aside0.mk H
          clear H
          go_wp2_with (first | ((with_reducible refine gate_callee (f := 56) rfl ?_); refine goesL_ (some 15) rfl rfl Tryd.func56 (by kernel_rfl) rfl #[.string a0, .int .i64 x3_1] rfl (by (try simp only [List.map_toArray, List.map_cons, List.map_nil]); first | done | rfl | (simp only [List.length_drop, List.length_take]; rfl)) ?_; (with_reducible refine (gangerref09_Rune.calls k1 a0 x3_1 t267 t268 _ A3.out).mono ?_); rintro e w' ⟨rfl, ⟨nd, rfl⟩⟩; refine ⟨_, rfl, ?_⟩))
          go_roundg k1
          case measure => have := HK1.out; omega
          case rel => exact ⟨(wrap64 (x3_1 + t268)), (wrap64 (x4_1 + 1)), (by first | rfl | (simp; done) | (simp [*]; done)), (by first | rfl | (simp; done) | (simp [*]; done)), H', ⟨by have := HK1.out; omega⟩, by repeat (first | exact Drawn0.refl _ | apply Drawn0.step)⟩
        ·rw [if_neg c57] at H
         have c57b0 : (t267 == 45) = false := beq_eq_false_iff_ne.mpr c57
         have c57b1 : (t267 != 45) = true := bne_iff_ne.mpr c57
         by_cases c59 : t267 = 46
         ·rw [if_pos c59] at H
          have c59b0 : (t267 == 46) = true := beq_iff_eq.mpr c59
          have c59b1 : (t267 != 46) = false := bne_eq_false_iff_eq.mpr c59
          clear c59
          by_cases c60 : t268 = 0
          ·rw [if_pos c60] at H
           have c60b0 : (t268 == 0) = true := beq_iff_eq.mpr c60
           have c60b1 : (t268 != 0) = false := bne_eq_false_iff_eq.mpr c60
           clear c60
           obtain rfl := Option.some.inj H
           go_wp2_with (first | ((with_reducible refine gate_callee (f := 56) rfl ?_); refine goesL_ (some 15) rfl rfl Tryd.func56 (by kernel_rfl) rfl #[.string a0, .int .i64 x3_1] rfl (by (try simp only [List.map_toArray, List.map_cons, List.map_nil]); first | done | rfl | (simp only [List.length_drop, List.length_take]; rfl)) ?_; (with_reducible refine (gangerref09_Rune.calls k1 a0 x3_1 t267 t268 _ A3.out).mono ?_); rintro e w' ⟨rfl, ⟨nd, rfl⟩⟩; refine ⟨_, rfl, ?_⟩))
           go_ret
           exact ⟨by first | rfl | (simp; done) | (simp [*]; done), by repeat (first | exact Drawn0.refl _ | apply Drawn0.step)⟩
          ·rw [if_neg c60] at H
           have c60b0 : (t268 == 0) = false := beq_eq_false_iff_ne.mpr c60
           have c60b1 : (t268 != 0) = true := bne_iff_ne.mpr c60
           have H' := Aside0.mk H
           clear H
           go_wp2_with (first | ((with_reducible refine gate_callee (f := 56) rfl ?_); refine goesL_ (some 15) rfl rfl Tryd.func56 (by kernel_rfl) rfl #[.string a0, .int .i64 x3_1] rfl (by (try simp only [List.map_toArray, List.map_cons, List.map_nil]); first | done | rfl | (simp only [List.length_drop, List.length_take]; rfl)) ?_; (with_reducible refine (gangerref09_Rune.calls k1 a0 x3_1 t267 t268 _ A3.out).mono ?_); rintro e w' ⟨rfl, ⟨nd, rfl⟩⟩; refine ⟨_, rfl, ?_⟩))
           go_roundg k1
           case measure => have := HK1.out; omega
           case rel => exact ⟨(wrap64 (x3_1 + t268)), (wrap64 (x4_1 + 1)), (by first | rfl | (simp; done) | (simp [*]; done)), (by first | rfl | (simp; done) | (simp [*]; done)), H', ⟨by have := HK1.out; omega⟩, by repeat (first | exact Drawn0.refl _ | apply Drawn0.step)⟩
         ·rw [if_neg c59] at H
          have c59b0 : (t267 == 46) = false := beq_eq_false_iff_ne.mpr c59
          have c59b1 : (t267 != 46) = true := bne_iff_ne.mpr c59
          by_cases c61 : t268 = 0
          ·rw [if_pos c61] at H
           have c61b0 : (t268 == 0) = true := beq_iff_eq.mpr c61
           have c61b1 : (t268 != 0) = false := bne_eq_false_iff_eq.mpr c61
           clear c61
           obtain rfl := Option.some.inj H
           go_wp2_with (first | ((with_reducible refine gate_callee (f := 56) rfl ?_); refine goesL_ (some 15) rfl rfl Tryd.func56 (by kernel_rfl) rfl #[.string a0, .int .i64 x3_1] rfl (by (try simp only [List.map_toArray, List.map_cons, List.map_nil]); first | done | rfl | (simp only [List.length_drop, List.length_take]; rfl)) ?_; (with_reducible refine (gangerref09_Rune.calls k1 a0 x3_1 t267 t268 _ A3.out).mono ?_); rintro e w' ⟨rfl, ⟨nd, rfl⟩⟩; refine ⟨_, rfl, ?_⟩))
           go_ret
           exact ⟨by first | rfl | (simp; done) | (simp [*]; done), by repeat (first | exact Drawn0.refl _ | apply Drawn0.step)⟩
          ·rw [if_neg c61] at H
           have c61b0 : (t268 == 0) = false := beq_eq_false_iff_ne.mpr c61
           have c61b1 : (t268 != 0) = true := bne_iff_ne.mpr c61
           by_cases c62 : t267 = 95
           ·rw [if_pos c62] at H
            have c62b0 : (t267 == 95) = true := beq_iff_eq.mpr c62
            have c62b1 : (t267 != 95) = false := bne_eq_false_iff_eq.mpr c62
            clear c62
            have H' := Aside0.mk H
            clear H
            go_wp2_with (first | ((with_reducible refine gate_callee (f := 56) rfl ?_); refine goesL_ (some 15) rfl rfl Tryd.func56 (by kernel_rfl) rfl #[.string a0, .int .i64 x3_1] rfl (by (try simp only [List.map_toArray, List.map_cons, List.map_nil]); first | done | rfl | (simp only [List.length_drop, List.length_take]; rfl)) ?_; (with_reducible refine (gangerref09_Rune.calls k1 a0 x3_1 t267 t268 _ A3.out).mono ?_); rintro e w' ⟨rfl, ⟨nd, rfl⟩⟩; refine ⟨_, rfl, ?_⟩))
            go_roundg k1
            case measure => have := HK1.out; omega
            case rel => exact ⟨(wrap64 (x3_1 + t268)), (wrap64 (x4_1 + 1)), (by first | rfl | (simp; done) | (simp [*]; done)), (by first | rfl | (simp; done) | (simp [*]; done)), H', ⟨by have := HK1.out; omega⟩, by repeat (first | exact Drawn0.refl _ | apply Drawn0.step)⟩
           ·rw [if_neg c62] at H
            have c62b0 : (t267 == 95) = false := beq_eq_false_iff_ne.mpr c62
            have c62b1 : (t267 != 95) = true := bne_iff_ne.mpr c62
            by_cases c63 : t267 ≤ 160
            ·rw [if_pos c63] at H
             have c63b0 : decide (t267 ≤ 160) = true := decide_eq_true c63
             clear c63
             obtain rfl := Option.some.inj H
             go_wp2_with (first | ((with_reducible refine gate_callee (f := 56) rfl ?_); refine goesL_ (some 15) rfl rfl Tryd.func56 (by kernel_rfl) rfl #[.string a0, .int .i64 x3_1] rfl (by (try simp only [List.map_toArray, List.map_cons, List.map_nil]); first | done | rfl | (simp only [List.length_drop, List.length_take]; rfl)) ?_; (with_reducible refine (gangerref09_Rune.calls k1 a0 x3_1 t267 t268 _ A3.out).mono ?_); rintro e w' ⟨rfl, ⟨nd, rfl⟩⟩; refine ⟨_, rfl, ?_⟩))
             go_ret
             exact ⟨by first | rfl | (simp; done) | (simp [*]; done), by repeat (first | exact Drawn0.refl _ | apply Drawn0.step)⟩
            ·rw [if_neg c63] at H
             have c63b0 : decide (t267 ≤ 160) = false := decide_eq_false c63
             clear c63
             have H' := Aside0.mk H
             clear H
             go_wp2_with (first | ((with_reducible refine gate_callee (f := 56) rfl ?_); refine goesL_ (some 15) rfl rfl Tryd.func56 (by kernel_rfl) rfl #[.string a0, .int .i64 x3_1] rfl (by (try simp only [List.map_toArray, List.map_cons, List.map_nil]); first | done | rfl | (simp only [List.length_drop, List.length_take]; rfl)) ?_; (with_reducible refine (gangerref09_Rune.calls k1 a0 x3_1 t267 t268 _ A3.out).mono ?_); rintro e w' ⟨rfl, ⟨nd, rfl⟩⟩; refine ⟨_, rfl, ?_⟩))
             go_roundg k1
             case measure => have := HK1.out; omega
             case rel => exact ⟨(wrap64 (x3_1 + t268)), (wrap64 (x4_1 + 1)), (by first | rfl | (simp; done) | (simp [*]; done)), (by first | rfl | (simp; done) | (simp [*]; done)), H', ⟨by have := HK1.out; omega⟩, by repeat (first | exact Drawn0.refl _ | apply Drawn0.step)⟩
     ·rw [if_neg c44] at H
      have c44b0 : decide (65 ≤ t267) = false := decide_eq_false c44
      clear c44
      by_cases c64 : t267 ≥ 97
      ·rw [if_pos c64] at H
       have c64b0 : decide (97 ≤ t267) = true := decide_eq_true c64
       clear c64
       by_cases c65 : t267 ≤ 122
       ·rw [if_pos c65] at H
        have c65b0 : decide (t267 ≤ 122) = true := decide_eq_true c65
        clear c65
        by_cases c66 : t268 = 0
        ·rw [if_pos c66] at H
         have c66b0 : (t268 == 0) = true := beq_iff_eq.mpr c66
         have c66b1 : (t268 != 0) = false := bne_eq_false_iff_eq.mpr c66
         clear c66
         obtain rfl := Option.some.inj H
         go_wp2_with (first | ((with_reducible refine gate_callee (f := 56) rfl ?_); refine goesL_ (some 15) rfl rfl Tryd.func56 (by kernel_rfl) rfl #[.string a0, .int .i64 x3_1] rfl (by (try simp only [List.map_toArray, List.map_cons, List.map_nil]); first | done | rfl | (simp only [List.length_drop, List.length_take]; rfl)) ?_; (with_reducible refine (gangerref09_Rune.calls k1 a0 x3_1 t267 t268 _ A3.out).mono ?_); rintro e w' ⟨rfl, ⟨nd, rfl⟩⟩; refine ⟨_, rfl, ?_⟩))
         go_ret
         exact ⟨by first | rfl | (simp; done) | (simp [*]; done), by repeat (first | exact Drawn0.refl _ | apply Drawn0.step)⟩
        ·rw [if_neg c66] at H
         have c66b0 : (t268 == 0) = false := beq_eq_false_iff_ne.mpr c66
         have c66b1 : (t268 != 0) = true := bne_iff_ne.mpr c66
         have H' := Aside0.mk H
         clear H
         go_wp2_with (first | ((with_reducible refine gate_callee (f := 56) rfl ?_); refine goesL_ (some 15) rfl rfl Tryd.func56 (by kernel_rfl) rfl #[.string a0, .int .i64 x3_1] rfl (by (try simp only [List.map_toArray, List.map_cons, List.map_nil]); first | done | rfl | (simp only [List.length_drop, List.length_take]; rfl)) ?_; (with_reducible refine (gangerref09_Rune.calls k1 a0 x3_1 t267 t268 _ A3.out).mono ?_); rintro e w' ⟨rfl, ⟨nd, rfl⟩⟩; refine ⟨_, rfl, ?_⟩))
         go_roundg k1
         case measure => have := HK1.out; omega
         case rel => exact ⟨(wrap64 (x3_1 + t268)), (wrap64 (x4_1 + 1)), (by first | rfl | (simp; done) | (simp [*]; done)), (by first | rfl | (simp; done) | (simp [*]; done)), H', ⟨by have := HK1.out; omega⟩, by repeat (first | exact Drawn0.refl _ | apply Drawn0.step)⟩
       ·rw [if_neg c65] at H
        have c65b0 : decide (t267 ≤ 122) = false := decide_eq_false c65
        clear c65
        by_cases c67 : t267 = 45
        ·rw [if_pos c67] at H
         have c67b0 : (t267 == 45) = true := beq_iff_eq.mpr c67
         have c67b1 : (t267 != 45) = false := bne_eq_false_iff_eq.mpr c67
         clear c67
         by_cases c68 : t268 = 0
         ·rw [if_pos c68] at H
          have c68b0 : (t268 == 0) = true := beq_iff_eq.mpr c68
          have c68b1 : (t268 != 0) = false := bne_eq_false_iff_eq.mpr c68
          clear c68
          obtain rfl := Option.some.inj H
          go_wp2_with (first | ((with_reducible refine gate_callee (f := 56) rfl ?_); refine goesL_ (some 15) rfl rfl Tryd.func56 (by kernel_rfl) rfl #[.string a0, .int .i64 x3_1] rfl (by (try simp only [List.map_toArray, List.map_cons, List.map_nil]); first | done | rfl | (simp only [List.length_drop, List.length_take]; rfl)) ?_; (with_reducible refine (gangerref09_Rune.calls k1 a0 x3_1 t267 t268 _ A3.out).mono ?_); rintro e w' ⟨rfl, ⟨nd, rfl⟩⟩; refine ⟨_, rfl, ?_⟩))
          go_ret
          exact ⟨by first | rfl | (simp; done) | (simp [*]; done), by repeat (first | exact Drawn0.refl _ | apply Drawn0.step)⟩
         ·rw [if_neg c68] at H
          have c68b0 : (t268 == 0) = false := beq_eq_false_iff_ne.mpr c68
          have c68b1 : (t268 != 0) = true := bne_iff_ne.mpr c68
          have H' := Aside0.mk H
          clear H
          go_wp2_with (first | ((with_reducible refine gate_callee (f := 56) rfl ?_); refine goesL_ (some 15) rfl rfl Tryd.func56 (by kernel_rfl) rfl #[.string a0, .int .i64 x3_1] rfl (by (try simp only [List.map_toArray, List.map_cons, List.map_nil]); first | done | rfl | (simp only [List.length_drop, List.length_take]; rfl)) ?_; (with_reducible refine (gangerref09_Rune.calls k1 a0 x3_1 t267 t268 _ A3.out).mono ?_); rintro e w' ⟨rfl, ⟨nd, rfl⟩⟩; refine ⟨_, rfl, ?_⟩))
          go_roundg k1
          case measure => have := HK1.out; omega
          case rel => exact ⟨(wrap64 (x3_1 + t268)), (wrap64 (x4_1 + 1)), (by first | rfl | (simp; done) | (simp [*]; done)), (by first | rfl | (simp; done) | (simp [*]; done)), H', ⟨by have := HK1.out; omega⟩, by repeat (first | exact Drawn0.refl _ | apply Drawn0.step)⟩
        ·rw [if_neg c67] at H
         have c67b0 : (t267 == 45) = false := beq_eq_false_iff_ne.mpr c67
         have c67b1 : (t267 != 45) = true := bne_iff_ne.mpr c67
         by_cases c69 : t267 = 46
         ·rw [if_pos c69] at H
          have c69b0 : (t267 == 46) = true := beq_iff_eq.mpr c69
          have c69b1 : (t267 != 46) = false := bne_eq_false_iff_eq.mpr c69
          clear c69
          by_cases c70 : t268 = 0
          ·rw [if_pos c70] at H
           have c70b0 : (t268 == 0) = true := beq_iff_eq.mpr c70
           have c70b1 : (t268 != 0) = false := bne_eq_false_iff_eq.mpr c70
           clear c70
           obtain rfl := Option.some.inj H
           go_wp2_with (first | ((with_reducible refine gate_callee (f := 56) rfl ?_); refine goesL_ (some 15) rfl rfl Tryd.func56 (by kernel_rfl) rfl #[.string a0, .int .i64 x3_1] rfl (by (try simp only [List.map_toArray, List.map_cons, List.map_nil]); first | done | rfl | (simp only [List.length_drop, List.length_take]; rfl)) ?_; (with_reducible refine (gangerref09_Rune.calls k1 a0 x3_1 t267 t268 _ A3.out).mono ?_); rintro e w' ⟨rfl, ⟨nd, rfl⟩⟩; refine ⟨_, rfl, ?_⟩))
           go_ret
           exact ⟨by first | rfl | (simp; done) | (simp [*]; done), by repeat (first | exact Drawn0.refl _ | apply Drawn0.step)⟩
          ·rw [if_neg c70] at H
           have c70b0 : (t268 == 0) = false := beq_eq_false_iff_ne.mpr c70
           have c70b1 : (t268 != 0) = true := bne_iff_ne.mpr c70
           have H' := Aside0.mk H
           clear H
           go_wp2_with (first | ((with_reducible refine gate_callee (f := 56) rfl ?_); refine goesL_ (some 15) rfl rfl Tryd.func56 (by kernel_rfl) rfl #[.string a0, .int .i64 x3_1] rfl (by (try simp only [List.map_toArray, List.map_cons, List.map_nil]); first | done | rfl | (simp only [List.length_drop, List.length_take]; rfl)) ?_; (with_reducible refine (gangerref09_Rune.calls k1 a0 x3_1 t267 t268 _ A3.out).mono ?_); rintro e w' ⟨rfl, ⟨nd, rfl⟩⟩; refine ⟨_, rfl, ?_⟩))
           go_roundg k1
           case measure => have := HK1.out; omega
           case rel => exact ⟨(wrap64 (x3_1 + t268)), (wrap64 (x4_1 + 1)), (by first | rfl | (simp; done) | (simp [*]; done)), (by first | rfl | (simp; done) | (simp [*]; done)), H', ⟨by have := HK1.out; omega⟩, by repeat (first | exact Drawn0.refl _ | apply Drawn0.step)⟩
         ·rw [if_neg c69] at H
          have c69b0 : (t267 == 46) = false := beq_eq_false_iff_ne.mpr c69
          have c69b1 : (t267 != 46) = true := bne_iff_ne.mpr c69
          by_cases c71 : t268 = 0
          ·rw [if_pos c71] at H
           have c71b0 : (t268 == 0) = true := beq_iff_eq.mpr c71
           have c71b1 : (t268 != 0) = false := bne_eq_false_iff_eq.mpr c71
           clear c71
           obtain rfl := Option.some.inj H
           go_wp2_with (first | ((with_reducible refine gate_callee (f := 56) rfl ?_); refine goesL_ (some 15) rfl rfl Tryd.func56 (by kernel_rfl) rfl #[.string a0, .int .i64 x3_1] rfl (by (try simp only [List.map_toArray, List.map_cons, List.map_nil]); first | done | rfl | (simp only [List.length_drop, List.length_take]; rfl)) ?_; (with_reducible refine (gangerref09_Rune.calls k1 a0 x3_1 t267 t268 _ A3.out).mono ?_); rintro e w' ⟨rfl, ⟨nd, rfl⟩⟩; refine ⟨_, rfl, ?_⟩))
           go_ret
           exact ⟨by first | rfl | (simp; done) | (simp [*]; done), by repeat (first | exact Drawn0.refl _ | apply Drawn0.step)⟩
          ·rw [if_neg c71] at H
           have c71b0 : (t268 == 0) = false := beq_eq_false_iff_ne.mpr c71
           have c71b1 : (t268 != 0) = true := bne_iff_ne.mpr c71
           by_cases c72 : t267 = 95
           ·rw [if_pos c72] at H
            have c72b0 : (t267 == 95) = true := beq_iff_eq.mpr c72
            have c72b1 : (t267 != 95) = false := bne_eq_false_iff_eq.mpr c72
            clear c72
            have H' := Aside0.mk H
            clear H
            go_wp2_with (first | ((with_reducible refine gate_callee (f := 56) rfl ?_); refine goesL_ (some 15) rfl rfl Tryd.func56 (by kernel_rfl) rfl #[.string a0, .int .i64 x3_1] rfl (by (try simp only [List.map_toArray, List.map_cons, List.map_nil]); first | done | rfl | (simp only [List.length_drop, List.length_take]; rfl)) ?_; (with_reducible refine (gangerref09_Rune.calls k1 a0 x3_1 t267 t268 _ A3.out).mono ?_); rintro e w' ⟨rfl, ⟨nd, rfl⟩⟩; refine ⟨_, rfl, ?_⟩))
            go_roundg k1
            case measure => have := HK1.out; omega
            case rel => exact ⟨(wrap64 (x3_1 + t268)), (wrap64 (x4_1 + 1)), (by first | rfl | (simp; done) | (simp [*]; done)), (by first | rfl | (simp; done) | (simp [*]; done)), H', ⟨by have := HK1.out; omega⟩, by repeat (first | exact Drawn0.refl _ | apply Drawn0.step)⟩
           ·rw [if_neg c72] at H
            have c72b0 : (t267 == 95) = false := beq_eq_false_iff_ne.mpr c72
            have c72b1 : (t267 != 95) = true := bne_iff_ne.mpr c72
            by_cases c73 : t267 ≤ 160
            ·rw [if_pos c73] at H
             have c73b0 : decide (t267 ≤ 160) = true := decide_eq_true c73
             clear c73
             obtain rfl := Option.some.inj H
             go_wp2_with (first | ((with_reducible refine gate_callee (f := 56) rfl ?_); refine goesL_ (some 15) rfl rfl Tryd.func56 (by kernel_rfl) rfl #[.string a0, .int .i64 x3_1] rfl (by (try simp only [List.map_toArray, List.map_cons, List.map_nil]); first | done | rfl | (simp only [List.length_drop, List.length_take]; rfl)) ?_; (with_reducible refine (gangerref09_Rune.calls k1 a0 x3_1 t267 t268 _ A3.out).mono ?_); rintro e w' ⟨rfl, ⟨nd, rfl⟩⟩; refine ⟨_, rfl, ?_⟩))
             go_ret
             exact ⟨by first | rfl | (simp; done) | (simp [*]; done), by repeat (first | exact Drawn0.refl _ | apply Drawn0.step)⟩
            ·rw [if_neg c73] at H
             have c73b0 : decide (t267 ≤ 160) = false := decide_eq_false c73
             clear c73
             have H' := Aside0.mk H
             clear H
             go_wp2_with (first | ((with_reducible refine gate_callee (f := 56) rfl ?_); refine goesL_ (some 15) rfl rfl Tryd.func56 (by kernel_rfl) rfl #[.string a0, .int .i64 x3_1] rfl (by (try simp only [List.map_toArray, List.map_cons, List.map_nil]); first | done | rfl | (simp only [List.length_drop, List.length_take]; rfl)) ?_; (with_reducible refine (gangerref09_Rune.calls k1 a0 x3_1 t267 t268 _ A3.out).mono ?_); rintro e w' ⟨rfl, ⟨nd, rfl⟩⟩; refine ⟨_, rfl, ?_⟩))
             go_roundg k1
             case measure => have := HK1.out; omega
             case rel => exact ⟨(wrap64 (x3_1 + t268)), (wrap64 (x4_1 + 1)), (by first | rfl | (simp; done) | (simp [*]; done)), (by first | rfl | (simp; done) | (simp [*]; done)), H', ⟨by have := HK1.out; omega⟩, by repeat (first | exact Drawn0.refl _ | apply Drawn0.step)⟩
      ·rw [if_neg c64] at H
       have c64b0 : decide (97 ≤ t267) = false := decide_eq_false c64
       clear c64
       by_cases c74 : t267 = 45
       ·rw [if_pos c74] at H
        have c74b0 : (t267 == 45) = true := beq_iff_eq.mpr c74
        have c74b1 : (t267 != 45) = false := bne_eq_false_iff_eq.mpr c74
        clear c74
        by_cases c75 : t268 = 0
        ·rw [if_pos c75] at H
         have c75b0 : (t268 == 0) = true := beq_iff_eq.mpr c75
         have c75b1 : (t268 != 0) = false := bne_eq_false_iff_eq.mpr c75
         clear c75
         obtain rfl := Option.some.inj H
         go_wp2_with (first | ((with_reducible refine gate_callee (f := 56) rfl ?_); refine goesL_ (some 15) rfl rfl Tryd.func56 (by kernel_rfl) rfl #[.string a0, .int .i64 x3_1] rfl (by (try simp only [List.map_toArray, List.map_cons, List.map_nil]); first | done | rfl | (simp only [List.length_drop, List.length_take]; rfl)) ?_; (with_reducible refine (gangerref09_Rune.calls k1 a0 x3_1 t267 t268 _ A3.out).mono ?_); rintro e w' ⟨rfl, ⟨nd, rfl⟩⟩; refine ⟨_, rfl, ?_⟩))
         go_ret
         exact ⟨by first | rfl | (simp; done) | (simp [*]; done), by repeat (first | exact Drawn0.refl _ | apply Drawn0.step)⟩
        ·rw [if_neg c75] at H
         have c75b0 : (t268 == 0) = false := beq_eq_false_iff_ne.mpr c75
         have c75b1 : (t268 != 0) = true := bne_iff_ne.mpr c75
         have H' := Aside0.mk H
         clear H
         go_wp2_with (first | ((with_reducible refine gate_callee (f := 56) rfl ?_); refine goesL_ (some 15) rfl rfl Tryd.func56 (by kernel_rfl) rfl #[.string a0, .int .i64 x3_1] rfl (by (try simp only [List.map_toArray, List.map_cons, List.map_nil]); first | done | rfl | (simp only [List.length_drop, List.length_take]; rfl)) ?_; (with_reducible refine (gangerref09_Rune.calls k1 a0 x3_1 t267 t268 _ A3.out).mono ?_); rintro e w' ⟨rfl, ⟨nd, rfl⟩⟩; refine ⟨_, rfl, ?_⟩))
         go_roundg k1
         case measure => have := HK1.out; omega
         case rel => exact ⟨(wrap64 (x3_1 + t268)), (wrap64 (x4_1 + 1)), (by first | rfl | (simp; done) | (simp [*]; done)), (by first | rfl | (simp; done) | (simp [*]; done)), H', ⟨by have := HK1.out; omega⟩, by repeat (first | exact Drawn0.refl _ | apply Drawn0.step)⟩
       ·rw [if_neg c74] at H
        have c74b0 : (t267 == 45) = false := beq_eq_false_iff_ne.mpr c74
        have c74b1 : (t267 != 45) = true := bne_iff_ne.mpr c74
        by_cases c76 : t267 = 46
        ·rw [if_pos c76] at H
         have c76b0 : (t267 == 46) = true := beq_iff_eq.mpr c76
         have c76b1 : (t267 != 46) = false := bne_eq_false_iff_eq.mpr c76
         clear c76
         by_cases c77 : t268 = 0
         ·rw [if_pos c77] at H
          have c77b0 : (t268 == 0) = true := beq_iff_eq.mpr c77
          have c77b1 : (t268 != 0) = false := bne_eq_false_iff_eq.mpr c77
          clear c77
          obtain rfl := Option.some.inj H
          go_wp2_with (first | ((with_reducible refine gate_callee (f := 56) rfl ?_); refine goesL_ (some 15) rfl rfl Tryd.func56 (by kernel_rfl) rfl #[.string a0, .int .i64 x3_1] rfl (by (try simp only [List.map_toArray, List.map_cons, List.map_nil]); first | done | rfl | (simp only [List.length_drop, List.length_take]; rfl)) ?_; (with_reducible refine (gangerref09_Rune.calls k1 a0 x3_1 t267 t268 _ A3.out).mono ?_); rintro e w' ⟨rfl, ⟨nd, rfl⟩⟩; refine ⟨_, rfl, ?_⟩))
          go_ret
          exact ⟨by first | rfl | (simp; done) | (simp [*]; done), by repeat (first | exact Drawn0.refl _ | apply Drawn0.step)⟩
         ·rw [if_neg c77] at H
          have c77b0 : (t268 == 0) = false := beq_eq_false_iff_ne.mpr c77
          have c77b1 : (t268 != 0) = true := bne_iff_ne.mpr c77
          have H' := Aside0.mk H
          clear H
          go_wp2_with (first | ((with_reducible refine gate_callee (f := 56) rfl ?_); refine goesL_ (some 15) rfl rfl Tryd.func56 (by kernel_rfl) rfl #[.string a0, .int .i64 x3_1] rfl (by (try simp only [List.map_toArray, List.map_cons, List.map_nil]); first | done | rfl | (simp only [List.length_drop, List.length_take]; rfl)) ?_; (with_reducible refine (gangerref09_Rune.calls k1 a0 x3_1 t267 t268 _ A3.out).mono ?_); rintro e w' ⟨rfl, ⟨nd, rfl⟩⟩; refine ⟨_, rfl, ?_⟩))
          go_roundg k1
          case measure => have := HK1.out; omega
          case rel => exact ⟨(wrap64 (x3_1 + t268)), (wrap64 (x4_1 + 1)), (by first | rfl | (simp; done) | (simp [*]; done)), (by first | rfl | (simp; done) | (simp [*]; done)), H', ⟨by have := HK1.out; omega⟩, by repeat (first | exact Drawn0.refl _ | apply Drawn0.step)⟩
        ·rw [if_neg c76] at H
         have c76b0 : (t267 == 46) = false := beq_eq_false_iff_ne.mpr c76
         have c76b1 : (t267 != 46) = true := bne_iff_ne.mpr c76
         by_cases c78 : t268 = 0
         ·rw [if_pos c78] at H
          have c78b0 : (t268 == 0) = true := beq_iff_eq.mpr c78
          have c78b1 : (t268 != 0) = false := bne_eq_false_iff_eq.mpr c78
          clear c78
          obtain rfl := Option.some.inj H
          go_wp2_with (first | ((with_reducible refine gate_callee (f := 56) rfl ?_); refine goesL_ (some 15) rfl rfl Tryd.func56 (by kernel_rfl) rfl #[.string a0, .int .i64 x3_1] rfl (by (try simp only [List.map_toArray, List.map_cons, List.map_nil]); first | done | rfl | (simp only [List.length_drop, List.length_take]; rfl)) ?_; (with_reducible refine (gangerref09_Rune.calls k1 a0 x3_1 t267 t268 _ A3.out).mono ?_); rintro e w' ⟨rfl, ⟨nd, rfl⟩⟩; refine ⟨_, rfl, ?_⟩))
          go_ret
          exact ⟨by first | rfl | (simp; done) | (simp [*]; done), by repeat (first | exact Drawn0.refl _ | apply Drawn0.step)⟩
         ·rw [if_neg c78] at H
          have c78b0 : (t268 == 0) = false := beq_eq_false_iff_ne.mpr c78
          have c78b1 : (t268 != 0) = true := bne_iff_ne.mpr c78
          by_cases c79 : t267 = 95
          ·rw [if_pos c79] at H
           have c79b0 : (t267 == 95) = true := beq_iff_eq.mpr c79
           have c79b1 : (t267 != 95) = false := bne_eq_false_iff_eq.mpr c79
           clear c79
           have H' := Aside0.mk H
           clear H
           go_wp2_with (first | ((with_reducible refine gate_callee (f := 56) rfl ?_); refine goesL_ (some 15) rfl rfl Tryd.func56 (by kernel_rfl) rfl #[.string a0, .int .i64 x3_1] rfl (by (try simp only [List.map_toArray, List.map_cons, List.map_nil]); first | done | rfl | (simp only [List.length_drop, List.length_take]; rfl)) ?_; (with_reducible refine (gangerref09_Rune.calls k1 a0 x3_1 t267 t268 _ A3.out).mono ?_); rintro e w' ⟨rfl, ⟨nd, rfl⟩⟩; refine ⟨_, rfl, ?_⟩))
           go_roundg k1
           case measure => have := HK1.out; omega
           case rel => exact ⟨(wrap64 (x3_1 + t268)), (wrap64 (x4_1 + 1)), (by first | rfl | (simp; done) | (simp [*]; done)), (by first | rfl | (simp; done) | (simp [*]; done)), H', ⟨by have := HK1.out; omega⟩, by repeat (first | exact Drawn0.refl _ | apply Drawn0.step)⟩
          ·rw [if_neg c79] at H
           have c79b0 : (t267 == 95) = false := beq_eq_false_iff_ne.mpr c79
           have c79b1 : (t267 != 95) = true := bne_iff_ne.mpr c79
           by_cases c80 : t267 ≤ 160
           ·rw [if_pos c80] at H
            have c80b0 : decide (t267 ≤ 160) = true := decide_eq_true c80
            clear c80
            obtain rfl := Option.some.inj H
            go_wp2_with (first | ((with_reducible refine gate_callee (f := 56) rfl ?_); refine goesL_ (some 15) rfl rfl Tryd.func56 (by kernel_rfl) rfl #[.string a0, .int .i64 x3_1] rfl (by (try simp only [List.map_toArray, List.map_cons, List.map_nil]); first | done | rfl | (simp only [List.length_drop, List.length_take]; rfl)) ?_; (with_reducible refine (gangerref09_Rune.calls k1 a0 x3_1 t267 t268 _ A3.out).mono ?_); rintro e w' ⟨rfl, ⟨nd, rfl⟩⟩; refine ⟨_, rfl, ?_⟩))
            go_ret
            exact ⟨by first | rfl | (simp; done) | (simp [*]; done), by repeat (first | exact Drawn0.refl _ | apply Drawn0.step)⟩
           ·rw [if_neg c80] at H
            have c80b0 : decide (t267 ≤ 160) = false := decide_eq_false c80
            clear c80
            have H' := Aside0.mk H
            clear H
            go_wp2_with (first | ((with_reducible refine gate_callee (f := 56) rfl ?_); refine goesL_ (some 15) rfl rfl Tryd.func56 (by kernel_rfl) rfl #[.string a0, .int .i64 x3_1] rfl (by (try simp only [List.map_toArray, List.map_cons, List.map_nil]); first | done | rfl | (simp only [List.length_drop, List.length_take]; rfl)) ?_; (with_reducible refine (gangerref09_Rune.calls k1 a0 x3_1 t267 t268 _ A3.out).mono ?_); rintro e w' ⟨rfl, ⟨nd, rfl⟩⟩; refine ⟨_, rfl, ?_⟩))
            go_roundg k1
            case measure => have := HK1.out; omega
            case rel => exact ⟨(wrap64 (x3_1 + t268)), (wrap64 (x4_1 + 1)), (by first | rfl | (simp; done) | (simp [*]; done)), (by first | rfl | (simp; done) | (simp [*]; done)), H', ⟨by have := HK1.out; omega⟩, by repeat (first | exact Drawn0.refl _ | apply Drawn0.step)⟩
   ·rw [if_neg c2] at H
    have c2b0 : decide (x3_1 < (a0.size : Int)) = false := decide_eq_false c2
    clear c2
    by_cases c81 : x4_1 ≥ 1
    ·rw [if_pos c81] at H
     have c81b0 : decide (1 ≤ x4_1) = true := decide_eq_true c81
     clear c81
     obtain rfl := Option.some.inj H
     go_wp2
     go_ret
     exact ⟨by first | rfl | (simp; done) | (simp [*]; done), by repeat (first | exact Drawn0.refl _ | apply Drawn0.step)⟩
    ·rw [if_neg c81] at H
     have c81b0 : decide (1 ≤ x4_1) = false := decide_eq_false c81
     clear c81
     obtain rfl := Option.some.inj H
     go_wp2
     go_ret
     exact ⟨by first | rfl | (simp; done) | (simp [*]; done), by repeat (first | exact Drawn0.refl _ | apply Drawn0.step)⟩
end Go.Proofs.YtfccdngejfnmkaaDoor.P
