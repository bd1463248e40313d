/- cut to what one law reaches -/
import Derived.Test.YtakdneopmojjdaaDoorBkShort
import Derived.Test.YtakdneopmojjdaaDoorBkP0
import Derived.Test.YtakdneopmojjdaaDoorBkP11
namespace Go.Proofs.YtakdneopmojjdaaDoor.P
open Go.RowKit Go.Proofs.YtakdneopmojjdaaDoorW.PrintWords Go.Proofs.YtakdneopmojjdaaDoorW.PrintLast Go.Proofs.YtakdneopmojjdaaDoorW.PrintMore
attribute [local go_sem] max2_int min2_int max_two min_two max_three min_three max_four min_four   -- for this text's walks alone
set_option linter.unusedVariables false
set_option linter.unusedSimpArgs false
attribute [local go_sem] isSome_setCell
mutual
def gangerref09_Name.l0 : Nat→ByteArray→Int→Int→Option (Bool)
 | 0,_,_,_=>none
 | k + 1,x0,x3,x4=>if x3 < (x0.size : Int) then ((gangerref09_Rune.f k x0 x3).bind fun bt214=>(if bt214.1 ≥ 48 then (if bt214.1≤57 then (gangerref09_Name.j1 k x0 x3 x4 bt214.1 bt214.2 true) else (if bt214.1 ≥ 65 then (if bt214.1≤90 then (gangerref09_Name.j1 k x0 x3 x4 bt214.1 bt214.2 true) else (if bt214.1 ≥ 97 then (if bt214.1≤122 then (gangerref09_Name.j1 k x0 x3 x4 bt214.1 bt214.2 true) else (if bt214.1 = 45 then (gangerref09_Name.j1 k x0 x3 x4 bt214.1 bt214.2 true) else (if bt214.1 = 46 then (gangerref09_Name.j1 k x0 x3 x4 bt214.1 bt214.2 true) else (gangerref09_Name.j1 k x0 x3 x4 bt214.1 bt214.2 (bt214.1 == 95))))) else (if bt214.1 = 45 then (gangerref09_Name.j1 k x0 x3 x4 bt214.1 bt214.2 true) else (if bt214.1 = 46 then (gangerref09_Name.j1 k x0 x3 x4 bt214.1 bt214.2 true) else (gangerref09_Name.j1 k x0 x3 x4 bt214.1 bt214.2 (bt214.1 == 95)))))) else (if bt214.1 ≥ 97 then (if bt214.1≤122 then (gangerref09_Name.j1 k x0 x3 x4 bt214.1 bt214.2 true) else (if bt214.1 = 45 then (gangerref09_Name.j1 k x0 x3 x4 bt214.1 bt214.2 true) else (if bt214.1 = 46 then (gangerref09_Name.j1 k x0 x3 x4 bt214.1 bt214.2 true) else (gangerref09_Name.j1 k x0 x3 x4 bt214.1 bt214.2 (bt214.1 == 95))))) else (if bt214.1 = 45 then (gangerref09_Name.j1 k x0 x3 x4 bt214.1 bt214.2 true) else (if bt214.1 = 46 then (gangerref09_Name.j1 k x0 x3 x4 bt214.1 bt214.2 true) else (gangerref09_Name.j1 k x0 x3 x4 bt214.1 bt214.2 (bt214.1 == 95))))))) else (if bt214.1 ≥ 65 then (if bt214.1≤90 then (gangerref09_Name.j1 k x0 x3 x4 bt214.1 bt214.2 true) else (if bt214.1 ≥ 97 then (if bt214.1≤122 then (gangerref09_Name.j1 k x0 x3 x4 bt214.1 bt214.2 true) else (if bt214.1 = 45 then (gangerref09_Name.j1 k x0 x3 x4 bt214.1 bt214.2 true) else (if bt214.1 = 46 then (gangerref09_Name.j1 k x0 x3 x4 bt214.1 bt214.2 true) else (gangerref09_Name.j1 k x0 x3 x4 bt214.1 bt214.2 (bt214.1 == 95))))) else (if bt214.1 = 45 then (gangerref09_Name.j1 k x0 x3 x4 bt214.1 bt214.2 true) else (if bt214.1 = 46 then (gangerref09_Name.j1 k x0 x3 x4 bt214.1 bt214.2 true) else (gangerref09_Name.j1 k x0 x3 x4 bt214.1 bt214.2 (bt214.1 == 95)))))) else (if bt214.1 ≥ 97 then (if bt214.1≤122 then (gangerref09_Name.j1 k x0 x3 x4 bt214.1 bt214.2 true) else (if bt214.1 = 45 then (gangerref09_Name.j1 k x0 x3 x4 bt214.1 bt214.2 true) else (if bt214.1 = 46 then (gangerref09_Name.j1 k x0 x3 x4 bt214.1 bt214.2 true) else (gangerref09_Name.j1 k x0 x3 x4 bt214.1 bt214.2 (bt214.1 == 95))))) else (if bt214.1 = 45 then (gangerref09_Name.j1 k x0 x3 x4 bt214.1 bt214.2 true) else (if bt214.1 = 46 then (gangerref09_Name.j1 k x0 x3 x4 bt214.1 bt214.2 true) else (gangerref09_Name.j1 k x0 x3 x4 bt214.1 bt214.2 (bt214.1 == 95)))))))) else (if x4 ≥ 1 then (some (decide (x4≤32))) else (some false))
def gangerref09_Name.j1 : Nat→ByteArray→Int→Int→Int→Int→Bool→Option (Bool)
 | 0,_,_,_,_,_,_=>none
 | k + 1,x0,x3,x4,x5,x6,x7=>if x6 = 0 then (gangerref09_Name.j2 k x0 x3 x4 x6 true) else (if x7 = true then (gangerref09_Name.j2 k x0 x3 x4 x6 false) else (gangerref09_Name.j2 k x0 x3 x4 x6 (decide (x5≤160))))
def gangerref09_Name.j2 : Nat→ByteArray→Int→Int→Int→Bool→Option (Bool)
 | 0,_,_,_,_,_=>none
 | k + 1,x0,x3,x4,x6,x61=>if x61 = true then (some false) else (gangerref09_Name.l0 k x0 (wrap64 (x3 + x6)) (wrap64 (x4 + 1)))
end
def gangerref09_Name.f (k : Nat) (a0 : ByteArray) : Option (Bool):=gangerref09_Name.l0 k a0 0 0
set_option maxHeartbeats 8000000 in
set_option maxRecDepth 100000 in
theorem gangerref09_Name.calls (k : Nat) (a0 : ByteArray) (r : Bool) (w : World) (h : gangerref09_Name.f k a0 = some r) :
  Calls Tryd.prog 44 #[.string a0] w fun e w'=>e = .returned (.bool r)∧Drawn0 w w':=by
 have H : (gangerref09_Name.l0 k a0 0 0) = some r:=h
 clear h
 have H':=Am H
 clear H
 go_enter Tryd.func44,Tryd.ntmps44
 go_wp2
 go_loopg [3,4] k (fun kq v3 v4 w'=>∃ (x3_1 : Int) (x4_1 : Int),v3 = .int .i64 x3_1∧v4 = .int .i64 x4_1∧Aside0 (gangerref09_Name.l0 kq a0 x3_1 x4_1 = some r)∧Aside0 (kq≤k)∧Drawn0 w w')
 case atStart=>exact ⟨(0),(0),(by first|rfl|(simp;done)|(simp [*];done)),(by first|rfl|(simp;done)|(simp [*];done)),H',⟨Nat.le_refl _⟩,by repeat (first|exact Drawn0.refl _|apply Drawn0.step)⟩
 case round =>
  clear H'
  obtain ⟨x3_1,x4_1,rfl,rfl,HA,HK1,⟨m1,rfl⟩⟩:=hrel
  cases gk with
  | zero=>exact absurd HA.out (by simp [gangerref09_Name.l0])
  | succ k1 =>
   have H:=HA.out
   clear HA
   simp only [gangerref09_Name.l0] at H
   by_cases c2 : x3_1 < (a0.size : Int)
   rotate_left
   ·rw [if_neg c2] at H
    have c2b0 : decide (x3_1 < (a0.size : Int)) = false:=decide_eq_false c2
    clear c2
    by_cases c39 : x4_1 ≥ 1
    ·rw [if_pos c39] at H
     have c39b0 : decide (1≤x4_1) = true:=decide_eq_true c39
     clear c39
     obtain rfl:=Option.some.inj H
     go_wp2
     go_ret
     exact ⟨by first|rfl|(simp;done)|(simp [*];done),by repeat (first|exact Drawn0.refl _|apply Drawn0.step)⟩
    rw [if_neg c39] at H
    have c39b0 : decide (1≤x4_1) = false:=decide_eq_false c39
    clear c39
    obtain rfl:=Option.some.inj H
    go_wp2
    go_ret
    exact ⟨by first|rfl|(simp;done)|(simp [*];done),by repeat (first|exact Drawn0.refl _|apply Drawn0.step)⟩
   rw [if_pos c2] at H
   have c2b0 : decide (x3_1 < (a0.size : Int)) = true:=decide_eq_true c2
   clear c2
   replace H:=oB H
   obtain ⟨⟨t214,t215⟩,A30,H⟩:=H
   replace H : (if t214 ≥ 48 then (if t214≤57 then (gangerref09_Name.j1 k1 a0 x3_1 x4_1 t214 t215 true) else (if t214 ≥ 65 then (if t214≤90 then (gangerref09_Name.j1 k1 a0 x3_1 x4_1 t214 t215 true) else (if t214 ≥ 97 then (if t214≤122 then (gangerref09_Name.j1 k1 a0 x3_1 x4_1 t214 t215 true) else (if t214 = 45 then (gangerref09_Name.j1 k1 a0 x3_1 x4_1 t214 t215 true) else (if t214 = 46 then (gangerref09_Name.j1 k1 a0 x3_1 x4_1 t214 t215 true) else (gangerref09_Name.j1 k1 a0 x3_1 x4_1 t214 t215 (t214 == 95))))) else (if t214 = 45 then (gangerref09_Name.j1 k1 a0 x3_1 x4_1 t214 t215 true) else (if t214 = 46 then (gangerref09_Name.j1 k1 a0 x3_1 x4_1 t214 t215 true) else (gangerref09_Name.j1 k1 a0 x3_1 x4_1 t214 t215 (t214 == 95)))))) else (if t214 ≥ 97 then (if t214≤122 then (gangerref09_Name.j1 k1 a0 x3_1 x4_1 t214 t215 true) else (if t214 = 45 then (gangerref09_Name.j1 k1 a0 x3_1 x4_1 t214 t215 true) else (if t214 = 46 then (gangerref09_Name.j1 k1 a0 x3_1 x4_1 t214 t215 true) else (gangerref09_Name.j1 k1 a0 x3_1 x4_1 t214 t215 (t214 == 95))))) else (if t214 = 45 then (gangerref09_Name.j1 k1 a0 x3_1 x4_1 t214 t215 true) else (if t214 = 46 then (gangerref09_Name.j1 k1 a0 x3_1 x4_1 t214 t215 true) else (gangerref09_Name.j1 k1 a0 x3_1 x4_1 t214 t215 (t214 == 95))))))) else (if t214 ≥ 65 then (if t214≤90 then (gangerref09_Name.j1 k1 a0 x3_1 x4_1 t214 t215 true) else (if t214 ≥ 97 then (if t214≤122 then (gangerref09_Name.j1 k1 a0 x3_1 x4_1 t214 t215 true) else (if t214 = 45 then (gangerref09_Name.j1 k1 a0 x3_1 x4_1 t214 t215 true) else (if t214 = 46 then (gangerref09_Name.j1 k1 a0 x3_1 x4_1 t214 t215 true) else (gangerref09_Name.j1 k1 a0 x3_1 x4_1 t214 t215 (t214 == 95))))) else (if t214 = 45 then (gangerref09_Name.j1 k1 a0 x3_1 x4_1 t214 t215 true) else (if t214 = 46 then (gangerref09_Name.j1 k1 a0 x3_1 x4_1 t214 t215 true) else (gangerref09_Name.j1 k1 a0 x3_1 x4_1 t214 t215 (t214 == 95)))))) else (if t214 ≥ 97 then (if t214≤122 then (gangerref09_Name.j1 k1 a0 x3_1 x4_1 t214 t215 true) else (if t214 = 45 then (gangerref09_Name.j1 k1 a0 x3_1 x4_1 t214 t215 true) else (if t214 = 46 then (gangerref09_Name.j1 k1 a0 x3_1 x4_1 t214 t215 true) else (gangerref09_Name.j1 k1 a0 x3_1 x4_1 t214 t215 (t214 == 95))))) else (if t214 = 45 then (gangerref09_Name.j1 k1 a0 x3_1 x4_1 t214 t215 true) else (if t214 = 46 then (gangerref09_Name.j1 k1 a0 x3_1 x4_1 t214 t215 true) else (gangerref09_Name.j1 k1 a0 x3_1 x4_1 t214 t215 (t214 == 95))))))) = some r:=H
   have A3:=Am A30
   clear A30
   have HC4:=Am H
   clear H
   go_upto_region 5 with (first|((with_reducible refine gC (f:=61) rfl ?_);refine goesL_ (some 15) rfl rfl Tryd.func61 (by kernel_rfl) rfl #[.string a0,.int .i64 x3_1] rfl (by (try simp only [mT,mC,mN]);first|done|rfl|(simp only [lD,lT];rfl)) ?_;(with_reducible refine (gangerref09_Rune.calls k1 a0 x3_1 t214 t215 _ A3.out).mono ?_);rintro e w' ⟨rfl,⟨nd,rfl⟩⟩;refine ⟨_,rfl,?_⟩))
   (try simp only [Act.put,sT,sZ,sS])
   go_cut [7] (fun v7 wc=>∃ (kq : Nat) (x7_3 : Bool),v7 = .bool x7_3∧Aside0 (gangerref09_Name.j1 kq a0 x3_1 x4_1 t214 t215 x7_3 = some r)∧Aside0 (kq≤k1)∧Drawn0 w wc)
   case first =>
    have H:=HC4.out
    clear HC4
    by_cases c5 : t214 ≥ 48
    rotate_left
    ·rw [if_neg c5] at H
     have c5b0 : decide (48≤t214) = false:=decide_eq_false c5
     clear c5
     (first|rw [c5b0]|(simp only [iW,iV];rw [c5b0])|skip)
     by_cases c21 : t214 ≥ 65
     rotate_left
     ·rw [if_neg c21] at H
      have c21b0 : decide (65≤t214) = false:=decide_eq_false c21
      clear c21
      by_cases c29 : t214 ≥ 97
      rotate_left
      ·rw [if_neg c29] at H
       have c29b0 : decide (97≤t214) = false:=decide_eq_false c29
       clear c29
       by_cases c33 : t214 = 45
       ·rw [if_pos c33] at H
        have c33b0 : (t214 == 45) = true:=beq_iff_eq.mpr c33
        have c33b1 : (t214 != 45) = false:=bne_eq_false_iff_eq.mpr c33
        clear c33
        have H':=Am H
        clear H
        go_wp2
        go_meet
        case rel=>exact ⟨_,(true),(by first|rfl|(simp;done)|(simp [*];done)),H',⟨by have:=HK1.out;first|omega|exact Nat.le_refl _⟩,by repeat (first|exact Drawn0.refl _|apply Drawn0.step)⟩
       rw [if_neg c33] at H
       have c33b0 : (t214 == 45) = false:=beq_eq_false_iff_ne.mpr c33
       have c33b1 : (t214 != 45) = true:=bne_iff_ne.mpr c33
       by_cases c34 : t214 = 46
       rotate_left
       ·rw [if_neg c34] at H
        have c34b0 : (t214 == 46) = false:=beq_eq_false_iff_ne.mpr c34
        have c34b1 : (t214 != 46) = true:=bne_iff_ne.mpr c34
        have H':=Am H
        clear H
        go_wp2
        go_meet
        case rel=>exact ⟨_,((t214 == 95)),(by first|rfl|(simp;done)|(simp [*];done)),H',⟨by have:=HK1.out;first|omega|exact Nat.le_refl _⟩,by repeat (first|exact Drawn0.refl _|apply Drawn0.step)⟩
       rw [if_pos c34] at H
       have c34b0 : (t214 == 46) = true:=beq_iff_eq.mpr c34
       have c34b1 : (t214 != 46) = false:=bne_eq_false_iff_eq.mpr c34
       clear c34
       have H':=Am H
       clear H
       go_wp2
       go_meet
       case rel=>exact ⟨_,(true),(by first|rfl|(simp;done)|(simp [*];done)),H',⟨by have:=HK1.out;first|omega|exact Nat.le_refl _⟩,by repeat (first|exact Drawn0.refl _|apply Drawn0.step)⟩
      rw [if_pos c29] at H
      have c29b0 : decide (97≤t214) = true:=decide_eq_true c29
      clear c29
      by_cases c30 : t214≤122
      ·rw [if_pos c30] at H
       have c30b0 : decide (t214≤122) = true:=decide_eq_true c30
       clear c30
       have H':=Am H
       clear H
       go_wp2
       go_meet
       case rel=>exact ⟨_,(true),(by first|rfl|(simp;done)|(simp [*];done)),H',⟨by have:=HK1.out;first|omega|exact Nat.le_refl _⟩,by repeat (first|exact Drawn0.refl _|apply Drawn0.step)⟩
      rw [if_neg c30] at H
      have c30b0 : decide (t214≤122) = false:=decide_eq_false c30
      clear c30
      by_cases c31 : t214 = 45
      ·rw [if_pos c31] at H
       have c31b0 : (t214 == 45) = true:=beq_iff_eq.mpr c31
       have c31b1 : (t214 != 45) = false:=bne_eq_false_iff_eq.mpr c31
       clear c31
       have H':=Am H
       clear H
       go_wp2
       go_meet
       case rel=>exact ⟨_,(true),(by first|rfl|(simp;done)|(simp [*];done)),H',⟨by have:=HK1.out;first|omega|exact Nat.le_refl _⟩,by repeat (first|exact Drawn0.refl _|apply Drawn0.step)⟩
      rw [if_neg c31] at H
      have c31b0 : (t214 == 45) = false:=beq_eq_false_iff_ne.mpr c31
      have c31b1 : (t214 != 45) = true:=bne_iff_ne.mpr c31
      by_cases c32 : t214 = 46
      rotate_left
      ·rw [if_neg c32] at H
       have c32b0 : (t214 == 46) = false:=beq_eq_false_iff_ne.mpr c32
       have c32b1 : (t214 != 46) = true:=bne_iff_ne.mpr c32
       have H':=Am H
       clear H
       go_wp2
       go_meet
       case rel=>exact ⟨_,((t214 == 95)),(by first|rfl|(simp;done)|(simp [*];done)),H',⟨by have:=HK1.out;first|omega|exact Nat.le_refl _⟩,by repeat (first|exact Drawn0.refl _|apply Drawn0.step)⟩
      rw [if_pos c32] at H
      have c32b0 : (t214 == 46) = true:=beq_iff_eq.mpr c32
      have c32b1 : (t214 != 46) = false:=bne_eq_false_iff_eq.mpr c32
      clear c32
      have H':=Am H
      clear H
      go_wp2
      go_meet
      case rel=>exact ⟨_,(true),(by first|rfl|(simp;done)|(simp [*];done)),H',⟨by have:=HK1.out;first|omega|exact Nat.le_refl _⟩,by repeat (first|exact Drawn0.refl _|apply Drawn0.step)⟩
     rw [if_pos c21] at H
     have c21b0 : decide (65≤t214) = true:=decide_eq_true c21
     clear c21
     by_cases c22 : t214≤90
     ·rw [if_pos c22] at H
      have c22b0 : decide (t214≤90) = true:=decide_eq_true c22
      clear c22
      have H':=Am H
      clear H
      go_wp2
      go_meet
      case rel=>exact ⟨_,(true),(by first|rfl|(simp;done)|(simp [*];done)),H',⟨by have:=HK1.out;first|omega|exact Nat.le_refl _⟩,by repeat (first|exact Drawn0.refl _|apply Drawn0.step)⟩
     rw [if_neg c22] at H
     have c22b0 : decide (t214≤90) = false:=decide_eq_false c22
     clear c22
     by_cases c23 : t214 ≥ 97
     rotate_left
     ·rw [if_neg c23] at H
      have c23b0 : decide (97≤t214) = false:=decide_eq_false c23
      clear c23
      by_cases c27 : t214 = 45
      ·rw [if_pos c27] at H
       have c27b0 : (t214 == 45) = true:=beq_iff_eq.mpr c27
       have c27b1 : (t214 != 45) = false:=bne_eq_false_iff_eq.mpr c27
       clear c27
       have H':=Am H
       clear H
       go_wp2
       go_meet
       case rel=>exact ⟨_,(true),(by first|rfl|(simp;done)|(simp [*];done)),H',⟨by have:=HK1.out;first|omega|exact Nat.le_refl _⟩,by repeat (first|exact Drawn0.refl _|apply Drawn0.step)⟩
      rw [if_neg c27] at H
      have c27b0 : (t214 == 45) = false:=beq_eq_false_iff_ne.mpr c27
      have c27b1 : (t214 != 45) = true:=bne_iff_ne.mpr c27
      by_cases c28 : t214 = 46
      rotate_left
      ·rw [if_neg c28] at H
       have c28b0 : (t214 == 46) = false:=beq_eq_false_iff_ne.mpr c28
       have c28b1 : (t214 != 46) = true:=bne_iff_ne.mpr c28
       have H':=Am H
       clear H
       go_wp2
       go_meet
       case rel=>exact ⟨_,((t214 == 95)),(by first|rfl|(simp;done)|(simp [*];done)),H',⟨by have:=HK1.out;first|omega|exact Nat.le_refl _⟩,by repeat (first|exact Drawn0.refl _|apply Drawn0.step)⟩
      rw [if_pos c28] at H
      have c28b0 : (t214 == 46) = true:=beq_iff_eq.mpr c28
      have c28b1 : (t214 != 46) = false:=bne_eq_false_iff_eq.mpr c28
      clear c28
      have H':=Am H
      clear H
      go_wp2
      go_meet
      case rel=>exact ⟨_,(true),(by first|rfl|(simp;done)|(simp [*];done)),H',⟨by have:=HK1.out;first|omega|exact Nat.le_refl _⟩,by repeat (first|exact Drawn0.refl _|apply Drawn0.step)⟩
     rw [if_pos c23] at H
     have c23b0 : decide (97≤t214) = true:=decide_eq_true c23
     clear c23
     by_cases c24 : t214≤122
     ·rw [if_pos c24] at H
      have c24b0 : decide (t214≤122) = true:=decide_eq_true c24
      clear c24
      have H':=Am H
      clear H
      go_wp2
      go_meet
      case rel=>exact ⟨_,(true),(by first|rfl|(simp;done)|(simp [*];done)),H',⟨by have:=HK1.out;first|omega|exact Nat.le_refl _⟩,by repeat (first|exact Drawn0.refl _|apply Drawn0.step)⟩
     rw [if_neg c24] at H
     have c24b0 : decide (t214≤122) = false:=decide_eq_false c24
     clear c24
     by_cases c25 : t214 = 45
     ·rw [if_pos c25] at H
      have c25b0 : (t214 == 45) = true:=beq_iff_eq.mpr c25
      have c25b1 : (t214 != 45) = false:=bne_eq_false_iff_eq.mpr c25
      clear c25
      have H':=Am H
      clear H
      go_wp2
      go_meet
      case rel=>exact ⟨_,(true),(by first|rfl|(simp;done)|(simp [*];done)),H',⟨by have:=HK1.out;first|omega|exact Nat.le_refl _⟩,by repeat (first|exact Drawn0.refl _|apply Drawn0.step)⟩
     rw [if_neg c25] at H
     have c25b0 : (t214 == 45) = false:=beq_eq_false_iff_ne.mpr c25
     have c25b1 : (t214 != 45) = true:=bne_iff_ne.mpr c25
     by_cases c26 : t214 = 46
     rotate_left
     ·rw [if_neg c26] at H
      have c26b0 : (t214 == 46) = false:=beq_eq_false_iff_ne.mpr c26
      have c26b1 : (t214 != 46) = true:=bne_iff_ne.mpr c26
      have H':=Am H
      clear H
      go_wp2
      go_meet
      case rel=>exact ⟨_,((t214 == 95)),(by first|rfl|(simp;done)|(simp [*];done)),H',⟨by have:=HK1.out;first|omega|exact Nat.le_refl _⟩,by repeat (first|exact Drawn0.refl _|apply Drawn0.step)⟩
     rw [if_pos c26] at H
     have c26b0 : (t214 == 46) = true:=beq_iff_eq.mpr c26
     have c26b1 : (t214 != 46) = false:=bne_eq_false_iff_eq.mpr c26
     clear c26
     have H':=Am H
     clear H
     go_wp2
     go_meet
     case rel=>exact ⟨_,(true),(by first|rfl|(simp;done)|(simp [*];done)),H',⟨by have:=HK1.out;first|omega|exact Nat.le_refl _⟩,by repeat (first|exact Drawn0.refl _|apply Drawn0.step)⟩
    rw [if_pos c5] at H
    have c5b0 : decide (48≤t214) = true:=decide_eq_true c5
    clear c5
    (first|rw [c5b0]|(simp only [iW,iV];rw [c5b0])|skip)
    by_cases c6 : t214≤57
    ·rw [if_pos c6] at H
     have c6b0 : decide (t214≤57) = true:=decide_eq_true c6
     clear c6
     have H':=Am H
     clear H
     go_wp2
     go_meet
     case rel=>exact ⟨_,(true),(by first|rfl|(simp;done)|(simp [*];done)),H',⟨by have:=HK1.out;first|omega|exact Nat.le_refl _⟩,by repeat (first|exact Drawn0.refl _|apply Drawn0.step)⟩
    rw [if_neg c6] at H
    have c6b0 : decide (t214≤57) = false:=decide_eq_false c6
    clear c6
    by_cases c7 : t214 ≥ 65
    rotate_left
    ·rw [if_neg c7] at H
     have c7b0 : decide (65≤t214) = false:=decide_eq_false c7
     clear c7
     by_cases c15 : t214 ≥ 97
     rotate_left
     ·rw [if_neg c15] at H
      have c15b0 : decide (97≤t214) = false:=decide_eq_false c15
      clear c15
      by_cases c19 : t214 = 45
      ·rw [if_pos c19] at H
       have c19b0 : (t214 == 45) = true:=beq_iff_eq.mpr c19
       have c19b1 : (t214 != 45) = false:=bne_eq_false_iff_eq.mpr c19
       clear c19
       have H':=Am H
       clear H
       go_wp2
       go_meet
       case rel=>exact ⟨_,(true),(by first|rfl|(simp;done)|(simp [*];done)),H',⟨by have:=HK1.out;first|omega|exact Nat.le_refl _⟩,by repeat (first|exact Drawn0.refl _|apply Drawn0.step)⟩
      rw [if_neg c19] at H
      have c19b0 : (t214 == 45) = false:=beq_eq_false_iff_ne.mpr c19
      have c19b1 : (t214 != 45) = true:=bne_iff_ne.mpr c19
      by_cases c20 : t214 = 46
      rotate_left
      ·rw [if_neg c20] at H
       have c20b0 : (t214 == 46) = false:=beq_eq_false_iff_ne.mpr c20
       have c20b1 : (t214 != 46) = true:=bne_iff_ne.mpr c20
       have H':=Am H
       clear H
       go_wp2
       go_meet
       case rel=>exact ⟨_,((t214 == 95)),(by first|rfl|(simp;done)|(simp [*];done)),H',⟨by have:=HK1.out;first|omega|exact Nat.le_refl _⟩,by repeat (first|exact Drawn0.refl _|apply Drawn0.step)⟩
      rw [if_pos c20] at H
      have c20b0 : (t214 == 46) = true:=beq_iff_eq.mpr c20
      have c20b1 : (t214 != 46) = false:=bne_eq_false_iff_eq.mpr c20
      clear c20
      have H':=Am H
      clear H
      go_wp2
      go_meet
      case rel=>exact ⟨_,(true),(by first|rfl|(simp;done)|(simp [*];done)),H',⟨by have:=HK1.out;first|omega|exact Nat.le_refl _⟩,by repeat (first|exact Drawn0.refl _|apply Drawn0.step)⟩
     rw [if_pos c15] at H
     have c15b0 : decide (97≤t214) = true:=decide_eq_true c15
     clear c15
     by_cases c16 : t214≤122
     ·rw [if_pos c16] at H
      have c16b0 : decide (t214≤122) = true:=decide_eq_true c16
      clear c16
      have H':=Am H
      clear H
      go_wp2
      go_meet
      case rel=>exact ⟨_,(true),(by first|rfl|(simp;done)|(simp [*];done)),H',⟨by have:=HK1.out;first|omega|exact Nat.le_refl _⟩,by repeat (first|exact Drawn0.refl _|apply Drawn0.step)⟩
     rw [if_neg c16] at H
     have c16b0 : decide (t214≤122) = false:=decide_eq_false c16
     clear c16
     by_cases c17 : t214 = 45
     ·rw [if_pos c17] at H
      have c17b0 : (t214 == 45) = true:=beq_iff_eq.mpr c17
      have c17b1 : (t214 != 45) = false:=bne_eq_false_iff_eq.mpr c17
      clear c17
      have H':=Am H
      clear H
      go_wp2
      go_meet
      case rel=>exact ⟨_,(true),(by first|rfl|(simp;done)|(simp [*];done)),H',⟨by have:=HK1.out;first|omega|exact Nat.le_refl _⟩,by repeat (first|exact Drawn0.refl _|apply Drawn0.step)⟩
     rw [if_neg c17] at H
     have c17b0 : (t214 == 45) = false:=beq_eq_false_iff_ne.mpr c17
     have c17b1 : (t214 != 45) = true:=bne_iff_ne.mpr c17
     by_cases c18 : t214 = 46
     rotate_left
     ·rw [if_neg c18] at H
      have c18b0 : (t214 == 46) = false:=beq_eq_false_iff_ne.mpr c18
      have c18b1 : (t214 != 46) = true:=bne_iff_ne.mpr c18
      have H':=Am H
      clear H
      go_wp2
      go_meet
      case rel=>exact ⟨_,((t214 == 95)),(by first|rfl|(simp;done)|(simp [*];done)),H',⟨by have:=HK1.out;first|omega|exact Nat.le_refl _⟩,by repeat (first|exact Drawn0.refl _|apply Drawn0.step)⟩
     rw [if_pos c18] at H
     have c18b0 : (t214 == 46) = true:=beq_iff_eq.mpr c18
     have c18b1 : (t214 != 46) = false:=bne_eq_false_iff_eq.mpr c18
     clear c18
     have H':=Am H
     clear H
     go_wp2
     go_meet
     case rel=>exact ⟨_,(true),(by first|rfl|(simp;done)|(simp [*];done)),H',⟨by have:=HK1.out;first|omega|exact Nat.le_refl _⟩,by repeat (first|exact Drawn0.refl _|apply Drawn0.step)⟩
    rw [if_pos c7] at H
    have c7b0 : decide (65≤t214) = true:=decide_eq_true c7
    clear c7
    by_cases c8 : t214≤90
    ·rw [if_pos c8] at H
     have c8b0 : decide (t214≤90) = true:=decide_eq_true c8
     clear c8
     have H':=Am H
     clear H
     go_wp2
     go_meet
     case rel=>exact ⟨_,(true),(by first|rfl|(simp;done)|(simp [*];done)),H',⟨by have:=HK1.out;first|omega|exact Nat.le_refl _⟩,by repeat (first|exact Drawn0.refl _|apply Drawn0.step)⟩
    rw [if_neg c8] at H
    have c8b0 : decide (t214≤90) = false:=decide_eq_false c8
    clear c8
    by_cases c9 : t214 ≥ 97
    rotate_left
    ·rw [if_neg c9] at H
     have c9b0 : decide (97≤t214) = false:=decide_eq_false c9
     clear c9
     by_cases c13 : t214 = 45
     ·rw [if_pos c13] at H
      have c13b0 : (t214 == 45) = true:=beq_iff_eq.mpr c13
      have c13b1 : (t214 != 45) = false:=bne_eq_false_iff_eq.mpr c13
      clear c13
      have H':=Am H
      clear H
      go_wp2
      go_meet
      case rel=>exact ⟨_,(true),(by first|rfl|(simp;done)|(simp [*];done)),H',⟨by have:=HK1.out;first|omega|exact Nat.le_refl _⟩,by repeat (first|exact Drawn0.refl _|apply Drawn0.step)⟩
     rw [if_neg c13] at H
     have c13b0 : (t214 == 45) = false:=beq_eq_false_iff_ne.mpr c13
     have c13b1 : (t214 != 45) = true:=bne_iff_ne.mpr c13
     by_cases c14 : t214 = 46
     rotate_left
     ·rw [if_neg c14] at H
      have c14b0 : (t214 == 46) = false:=beq_eq_false_iff_ne.mpr c14
      have c14b1 : (t214 != 46) = true:=bne_iff_ne.mpr c14
      have H':=Am H
      clear H
      go_wp2
      go_meet
      case rel=>exact ⟨_,((t214 == 95)),(by first|rfl|(simp;done)|(simp [*];done)),H',⟨by have:=HK1.out;first|omega|exact Nat.le_refl _⟩,by repeat (first|exact Drawn0.refl _|apply Drawn0.step)⟩
     rw [if_pos c14] at H
     have c14b0 : (t214 == 46) = true:=beq_iff_eq.mpr c14
     have c14b1 : (t214 != 46) = false:=bne_eq_false_iff_eq.mpr c14
     clear c14
     have H':=Am H
     clear H
     go_wp2
     go_meet
     case rel=>exact ⟨_,(true),(by first|rfl|(simp;done)|(simp [*];done)),H',⟨by have:=HK1.out;first|omega|exact Nat.le_refl _⟩,by repeat (first|exact Drawn0.refl _|apply Drawn0.step)⟩
    rw [if_pos c9] at H
    have c9b0 : decide (97≤t214) = true:=decide_eq_true c9
    clear c9
    by_cases c10 : t214≤122
    ·rw [if_pos c10] at H
     have c10b0 : decide (t214≤122) = true:=decide_eq_true c10
     clear c10
     have H':=Am H
     clear H
     go_wp2
     go_meet
     case rel=>exact ⟨_,(true),(by first|rfl|(simp;done)|(simp [*];done)),H',⟨by have:=HK1.out;first|omega|exact Nat.le_refl _⟩,by repeat (first|exact Drawn0.refl _|apply Drawn0.step)⟩
    rw [if_neg c10] at H
    have c10b0 : decide (t214≤122) = false:=decide_eq_false c10
    clear c10
    by_cases c11 : t214 = 45
    ·rw [if_pos c11] at H
     have c11b0 : (t214 == 45) = true:=beq_iff_eq.mpr c11
     have c11b1 : (t214 != 45) = false:=bne_eq_false_iff_eq.mpr c11
     clear c11
     have H':=Am H
     clear H
     go_wp2
     go_meet
     case rel=>exact ⟨_,(true),(by first|rfl|(simp;done)|(simp [*];done)),H',⟨by have:=HK1.out;first|omega|exact Nat.le_refl _⟩,by repeat (first|exact Drawn0.refl _|apply Drawn0.step)⟩
    rw [if_neg c11] at H
    have c11b0 : (t214 == 45) = false:=beq_eq_false_iff_ne.mpr c11
    have c11b1 : (t214 != 45) = true:=bne_iff_ne.mpr c11
    by_cases c12 : t214 = 46
    rotate_left
    ·rw [if_neg c12] at H
     have c12b0 : (t214 == 46) = false:=beq_eq_false_iff_ne.mpr c12
     have c12b1 : (t214 != 46) = true:=bne_iff_ne.mpr c12
     have H':=Am H
     clear H
     go_wp2
     go_meet
     case rel=>exact ⟨_,((t214 == 95)),(by first|rfl|(simp;done)|(simp [*];done)),H',⟨by have:=HK1.out;first|omega|exact Nat.le_refl _⟩,by repeat (first|exact Drawn0.refl _|apply Drawn0.step)⟩
    rw [if_pos c12] at H
    have c12b0 : (t214 == 46) = true:=beq_iff_eq.mpr c12
    have c12b1 : (t214 != 46) = false:=bne_eq_false_iff_eq.mpr c12
    clear c12
    have H':=Am H
    clear H
    go_wp2
    go_meet
    case rel=>exact ⟨_,(true),(by first|rfl|(simp;done)|(simp [*];done)),H',⟨by have:=HK1.out;first|omega|exact Nat.le_refl _⟩,by repeat (first|exact Drawn0.refl _|apply Drawn0.step)⟩
   case rest =>
    clear HC4
    obtain ⟨kq,x7_3,rfl,HA,HJ3,⟨mc3,rfl⟩⟩:=hcut
    cases kq with
    | zero=>exact absurd HA.out (by simp [gangerref09_Name.j1])
    | succ kj3 =>
     have H:=HA.out
     clear HA
     simp only [gangerref09_Name.j1] at H
     have HC35:=Am H
     clear H
     go_upto_region 6 with (fail)
     go_cut [61] (fun v61 wc=>∃ (kq : Nat) (x61_34 : Bool),v61 = .bool x61_34∧Aside0 (gangerref09_Name.j2 kq a0 x3_1 x4_1 t215 x61_34 = some r)∧Aside0 (kq≤kj3)∧Drawn0 w wc)
     case first =>
      have H:=HC35.out
      clear HC35
      by_cases c36 : t215 = 0
      ·rw [if_pos c36] at H
       have c36b0 : (t215 == 0) = true:=beq_iff_eq.mpr c36
       have c36b1 : (t215 != 0) = false:=bne_eq_false_iff_eq.mpr c36
       clear c36
       (first|rw [c36b0]|(simp only [iW,iV];rw [c36b0])|skip)
       have H':=Am H
       clear H
       go_wp2
       go_meet
       case rel=>exact ⟨_,(true),(by first|rfl|(simp;done)|(simp [*];done)),H',⟨by have:=HK1.out;have:=HJ3.out;first|omega|exact Nat.le_refl _⟩,by repeat (first|exact Drawn0.refl _|apply Drawn0.step)⟩
      rw [if_neg c36] at H
      have c36b0 : (t215 == 0) = false:=beq_eq_false_iff_ne.mpr c36
      have c36b1 : (t215 != 0) = true:=bne_iff_ne.mpr c36
      (first|rw [c36b0]|(simp only [iW,iV];rw [c36b0])|skip)
      by_cases c37 : x7_3 = true
      ·subst c37
       have H1 : (gangerref09_Name.j2 kj3 a0 x3_1 x4_1 t215 false) = some r:=by rw [if_pos rfl] at H;exact H
       clear H
       have H:=H1
       clear H1
       have H':=Am H
       clear H
       go_wp2
       go_meet
       case rel=>exact ⟨_,(false),(by first|rfl|(simp;done)|(simp [*];done)),H',⟨by have:=HK1.out;have:=HJ3.out;first|omega|exact Nat.le_refl _⟩,by repeat (first|exact Drawn0.refl _|apply Drawn0.step)⟩
      replace c37:=Bool.eq_false_iff.mpr c37
      subst c37
      have H1 : (gangerref09_Name.j2 kj3 a0 x3_1 x4_1 t215 (decide (t214≤160))) = some r:=by rw [if_neg (show ¬ (false = true) by decide)] at H;exact H
      clear H
      have H:=H1
      clear H1
      have H':=Am H
      clear H
      go_wp2
      go_meet
      case rel=>exact ⟨_,(decide (t214≤160)),(by first|rfl|(simp;done)|(simp [*];done)),H',⟨by have:=HK1.out;have:=HJ3.out;first|omega|exact Nat.le_refl _⟩,by repeat (first|exact Drawn0.refl _|apply Drawn0.step)⟩
     case rest =>
      clear HC35
      obtain ⟨kq,x61_34,rfl,HA,HJ34,⟨mc34,rfl⟩⟩:=hcut
      cases kq with
      | zero=>exact absurd HA.out (by simp [gangerref09_Name.j2])
      | succ kj34 =>
       have H:=HA.out
       clear HA
       simp only [gangerref09_Name.j2] at H
       by_cases c38 : x61_34 = true
       ·subst c38
        have H1 : (some false) = some r:=by rw [if_pos rfl] at H;exact H
        clear H
        have H:=H1
        clear H1
        obtain rfl:=Option.some.inj H
        go_wp2
        go_ret
        exact ⟨by first|rfl|(simp;done)|(simp [*];done),by repeat (first|exact Drawn0.refl _|apply Drawn0.step)⟩
       replace c38:=Bool.eq_false_iff.mpr c38
       subst c38
       have H1 : (gangerref09_Name.l0 kj34 a0 (wrap64 (x3_1 + t215)) (wrap64 (x4_1 + 1))) = some r:=by rw [if_neg (show ¬ (false = true) by decide)] at H;exact H
       clear H
       have H:=H1
       clear H1
       have H':=Am H
       clear H
       go_wp2
       go_roundg kj34
       case measure=>have:=HK1.out;have:=HJ3.out;have:=HJ34.out;omega
       case rel=>exact ⟨(wrap64 (x3_1 + t215)),(wrap64 (x4_1 + 1)),(by first|rfl|(simp;done)|(simp [*];done)),(by first|rfl|(simp;done)|(simp [*];done)),H',⟨by have:=HK1.out;have:=HJ3.out;have:=HJ34.out;omega⟩,by repeat (first|exact Drawn0.refl _|apply Drawn0.step)⟩
def gangerref20_word.f (a0 : Int) : Option (ByteArray):=if a0 = 0 then (some (⟨#[114,101,113,117,101,117,101,100]⟩ : ByteArray)) else (if a0 = 5 then (some (⟨#[100,111,110,101]⟩ : ByteArray)) else (if a0 = 6 then (some (⟨#[102,97,105,108,101,100]⟩ : ByteArray)) else (if a0 = 7 then (some (⟨#[99,97,110,99,101,108,108,101,100]⟩ : ByteArray)) else (if a0 = 8 then (some (⟨#[108,97,116,101]⟩ : ByteArray)) else (some (⟨#[]⟩ : ByteArray))))))
set_option maxHeartbeats 8000000 in
set_option maxRecDepth 100000 in
theorem gangerref20_word.calls (a0 : Int) (r : ByteArray) (w : World) (h : gangerref20_word.f a0 = some r) :
  Calls Tryd.prog 45 #[.int .i64 a0] w fun e w'=>e = .returned (.string r)∧Drawn0 w w':=by
 have H : (if a0 = 0 then (some (⟨#[114,101,113,117,101,117,101,100]⟩ : ByteArray)) else (if a0 = 5 then (some (⟨#[100,111,110,101]⟩ : ByteArray)) else (if a0 = 6 then (some (⟨#[102,97,105,108,101,100]⟩ : ByteArray)) else (if a0 = 7 then (some (⟨#[99,97,110,99,101,108,108,101,100]⟩ : ByteArray)) else (if a0 = 8 then (some (⟨#[108,97,116,101]⟩ : ByteArray)) else (some (⟨#[]⟩ : ByteArray))))))) = some r:=h
 clear h
 by_cases c2 : a0 = 0
 ·rw [if_pos c2] at H
  have c2b0 : (a0 == 0) = true:=beq_iff_eq.mpr c2
  have c2b1 : (a0 != 0) = false:=bne_eq_false_iff_eq.mpr c2
  clear c2
  obtain rfl:=Option.some.inj H
  go_enter Tryd.func45,Tryd.ntmps45
  go_wp2
  go_ret
  exact ⟨by first|rfl|(simp;done)|(simp [*];done),by repeat (first|exact Drawn0.refl _|apply Drawn0.step)⟩
 rw [if_neg c2] at H
 have c2b0 : (a0 == 0) = false:=beq_eq_false_iff_ne.mpr c2
 have c2b1 : (a0 != 0) = true:=bne_iff_ne.mpr c2
 by_cases c3 : a0 = 5
 ·rw [if_pos c3] at H
  have c3b0 : (a0 == 5) = true:=beq_iff_eq.mpr c3
  have c3b1 : (a0 != 5) = false:=bne_eq_false_iff_eq.mpr c3
  clear c3
  obtain rfl:=Option.some.inj H
  go_enter Tryd.func45,Tryd.ntmps45
  go_wp2
  go_ret
  exact ⟨by first|rfl|(simp;done)|(simp [*];done),by repeat (first|exact Drawn0.refl _|apply Drawn0.step)⟩
 rw [if_neg c3] at H
 have c3b0 : (a0 == 5) = false:=beq_eq_false_iff_ne.mpr c3
 have c3b1 : (a0 != 5) = true:=bne_iff_ne.mpr c3
 by_cases c4 : a0 = 6
 ·rw [if_pos c4] at H
  have c4b0 : (a0 == 6) = true:=beq_iff_eq.mpr c4
  have c4b1 : (a0 != 6) = false:=bne_eq_false_iff_eq.mpr c4
  clear c4
  obtain rfl:=Option.some.inj H
  go_enter Tryd.func45,Tryd.ntmps45
  go_wp2
  go_ret
  exact ⟨by first|rfl|(simp;done)|(simp [*];done),by repeat (first|exact Drawn0.refl _|apply Drawn0.step)⟩
 rw [if_neg c4] at H
 have c4b0 : (a0 == 6) = false:=beq_eq_false_iff_ne.mpr c4
 have c4b1 : (a0 != 6) = true:=bne_iff_ne.mpr c4
 by_cases c5 : a0 = 7
 ·rw [if_pos c5] at H
  have c5b0 : (a0 == 7) = true:=beq_iff_eq.mpr c5
  have c5b1 : (a0 != 7) = false:=bne_eq_false_iff_eq.mpr c5
  clear c5
  obtain rfl:=Option.some.inj H
  go_enter Tryd.func45,Tryd.ntmps45
  go_wp2
  go_ret
  exact ⟨by first|rfl|(simp;done)|(simp [*];done),by repeat (first|exact Drawn0.refl _|apply Drawn0.step)⟩
 rw [if_neg c5] at H
 have c5b0 : (a0 == 7) = false:=beq_eq_false_iff_ne.mpr c5
 have c5b1 : (a0 != 7) = true:=bne_iff_ne.mpr c5
 by_cases c6 : a0 = 8
 rotate_left
 ·rw [if_neg c6] at H
  have c6b0 : (a0 == 8) = false:=beq_eq_false_iff_ne.mpr c6
  have c6b1 : (a0 != 8) = true:=bne_iff_ne.mpr c6
  obtain rfl:=Option.some.inj H
  go_enter Tryd.func45,Tryd.ntmps45
  go_wp2
  go_ret
  exact ⟨by first|rfl|(simp;done)|(simp [*];done),by repeat (first|exact Drawn0.refl _|apply Drawn0.step)⟩
 rw [if_pos c6] at H
 have c6b0 : (a0 == 8) = true:=beq_iff_eq.mpr c6
 have c6b1 : (a0 != 8) = false:=bne_eq_false_iff_eq.mpr c6
 clear c6
 obtain rfl:=Option.some.inj H
 go_enter Tryd.func45,Tryd.ntmps45
 go_wp2
 go_ret
 exact ⟨by first|rfl|(simp;done)|(simp [*];done),by repeat (first|exact Drawn0.refl _|apply Drawn0.step)⟩
end Go.Proofs.YtakdneopmojjdaaDoor.P
