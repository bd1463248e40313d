/- cut to what one law reaches -/
import Derived.Test.YtakdneopmojjdaaDoorBfShort
import Derived.Test.YtakdneopmojjdaaDoorBfP0
import Derived.Test.YtakdneopmojjdaaDoorBfP6
namespace Go.Proofs.YtakdneopmojjdaaDoor.P
open Go.RowKit Go.Proofs.YtakdneopmojjdaaDoorW.PrintWords Go.Proofs.YtakdneopmojjdaaDoorW.PrintLast Go.Proofs.YtakdneopmojjdaaDoorW.PrintMore
attribute [local go_sem] max2_int min2_int max_two min_two max_three min_three max_four min_four   -- for this text's walks alone
set_option linter.unusedVariables false
set_option linter.unusedSimpArgs false
attribute [local go_sem] isSome_setCell
mutual
def gangerlaw20_many.j0 : Nat→List (S24)→Bool→Option (Bool)
 | 0,_,_=>none
 | k + 1,x0,x23=>if x23 = true then (some true) else (gangerlaw20_many.l0 k x0 0)
def gangerlaw20_many.l0 : Nat→List (S24)→Int→Option (Bool)
 | 0,_,_=>none
 | k + 1,x0,x5=>if x5 < (x0.length : Int) then (if 0≤x5 then (if (((rd_T24 x0 x5).f1).size : Int) > 300 then (some true) else (gangerlaw20_many.l0 k x0 (wrap64 (x5 + 1)))) else (none)) else (some false)
end
def gangerlaw20_many.f (k : Nat) (l0 : List (S24)) (a1 : ByteArray) : Option (Bool):=if (l0.length : Int) > 300 then (if (l0.length : Int)≤2000 then (gangerlaw20_many.j0 k l0 true) else (if (l0.length : Int) > 3000 then (gangerlaw20_many.j0 k l0 true) else (gangerlaw20_many.j0 k l0 (decide ((a1.size : Int) > 300))))) else (if (l0.length : Int) > 3000 then (gangerlaw20_many.j0 k l0 true) else (gangerlaw20_many.j0 k l0 (decide ((a1.size : Int) > 300))))
set_option maxHeartbeats 8000000 in
set_option maxRecDepth 100000 in
theorem gangerlaw20_many.calls (k : Nat) (A0 : Option Addr) (c0 : Nat) (l0 : List (S24)) (a1 : ByteArray) (r : Bool) (w : World) (hr0 : Kd.C k24 w A0 l0.length l0) (hc0 : l0.length≤c0) (h : gangerlaw20_many.f k l0 a1 = some r) :
  Calls Tryd.prog 11 #[.slice A0 l0.length c0,.string a1] w fun e w'=>e = .returned (.bool r)∧Drawn0 w w':=by
 have HR0:=Am hr0
 have HC0:=Am hc0
 clear hr0 hc0
 have H : (if (l0.length : Int) > 300 then (if (l0.length : Int)≤2000 then (gangerlaw20_many.j0 k l0 true) else (if (l0.length : Int) > 3000 then (gangerlaw20_many.j0 k l0 true) else (gangerlaw20_many.j0 k l0 (decide ((a1.size : Int) > 300))))) else (if (l0.length : Int) > 3000 then (gangerlaw20_many.j0 k l0 true) else (gangerlaw20_many.j0 k l0 (decide ((a1.size : Int) > 300))))) = some r:=h
 clear h
 have HC3:=Am H
 clear H
 go_enter Tryd.func11,Tryd.ntmps11
 go_upto_region 1 with (fail)
 go_cut [23] (fun v23 wc=>∃ (kq : Nat) (x23_2 : Bool),v23 = .bool x23_2∧Aside0 (gangerlaw20_many.j0 kq l0 x23_2 = some r)∧Aside0 (kq≤k)∧Drawn0 w wc)
 case first =>
  have H:=HC3.out
  clear HC3
  by_cases c4 : (l0.length : Int) > 300
  rotate_left
  ·rw [if_neg c4] at H
   have c4b0 : decide (300 < (l0.length : Int)) = false:=decide_eq_false c4
   have c4b1 : decide (300 < l0.length) = false:=decide_eq_false (by omega)
   clear c4
   (first|rw [c4b0]|(simp only [iW,iV];rw [c4b0])|skip)
   by_cases c7 : (l0.length : Int) > 3000
   ·rw [if_pos c7] at H
    have c7b0 : decide (3000 < (l0.length : Int)) = true:=decide_eq_true c7
    have c7b1 : decide (3000 < l0.length) = true:=decide_eq_true (by omega)
    clear c7
    have H':=Am H
    clear H
    go_wp2
    go_meet
    case rel=>exact ⟨_,(true),(by first|rfl|(simp;done)|(simp [*];done)),H',⟨by first|omega|exact Nat.le_refl _⟩,by repeat (first|exact Drawn0.refl _|apply Drawn0.step)⟩
   rw [if_neg c7] at H
   have c7b0 : decide (3000 < (l0.length : Int)) = false:=decide_eq_false c7
   have c7b1 : decide (3000 < l0.length) = false:=decide_eq_false (by omega)
   clear c7
   have H':=Am H
   clear H
   go_wp2
   go_meet
   case rel=>exact ⟨_,(decide ((a1.size : Int) > 300)),(by first|rfl|(simp;done)|(simp [*];done)),H',⟨by first|omega|exact Nat.le_refl _⟩,by repeat (first|exact Drawn0.refl _|apply Drawn0.step)⟩
  rw [if_pos c4] at H
  have c4b0 : decide (300 < (l0.length : Int)) = true:=decide_eq_true c4
  have c4b1 : decide (300 < l0.length) = true:=decide_eq_true (by omega)
  clear c4
  (first|rw [c4b0]|(simp only [iW,iV];rw [c4b0])|skip)
  by_cases c5 : (l0.length : Int)≤2000
  ·rw [if_pos c5] at H
   have c5b0 : decide ((l0.length : Int)≤2000) = true:=decide_eq_true c5
   have c5b1 : decide (l0.length≤2000) = true:=decide_eq_true (by omega)
   clear c5
   have H':=Am H
   clear H
   go_wp2
   go_meet
   case rel=>exact ⟨_,(true),(by first|rfl|(simp;done)|(simp [*];done)),H',⟨by first|omega|exact Nat.le_refl _⟩,by repeat (first|exact Drawn0.refl _|apply Drawn0.step)⟩
  rw [if_neg c5] at H
  have c5b0 : decide ((l0.length : Int)≤2000) = false:=decide_eq_false c5
  have c5b1 : decide (l0.length≤2000) = false:=decide_eq_false (by omega)
  clear c5
  by_cases c6 : (l0.length : Int) > 3000
  ·rw [if_pos c6] at H
   have c6b0 : decide (3000 < (l0.length : Int)) = true:=decide_eq_true c6
   have c6b1 : decide (3000 < l0.length) = true:=decide_eq_true (by omega)
   clear c6
   have H':=Am H
   clear H
   go_wp2
   go_meet
   case rel=>exact ⟨_,(true),(by first|rfl|(simp;done)|(simp [*];done)),H',⟨by first|omega|exact Nat.le_refl _⟩,by repeat (first|exact Drawn0.refl _|apply Drawn0.step)⟩
  rw [if_neg c6] at H
  have c6b0 : decide (3000 < (l0.length : Int)) = false:=decide_eq_false c6
  have c6b1 : decide (3000 < l0.length) = false:=decide_eq_false (by omega)
  clear c6
  have H':=Am H
  clear H
  go_wp2
  go_meet
  case rel=>exact ⟨_,(decide ((a1.size : Int) > 300)),(by first|rfl|(simp;done)|(simp [*];done)),H',⟨by first|omega|exact Nat.le_refl _⟩,by repeat (first|exact Drawn0.refl _|apply Drawn0.step)⟩
 case rest =>
  clear HC3
  obtain ⟨kq,x23_2,rfl,HA,HJ2,⟨mc2,rfl⟩⟩:=hcut
  cases kq with
  | zero=>exact absurd HA.out (by simp [gangerlaw20_many.j0])
  | succ kj2 =>
   have H:=HA.out
   clear HA
   simp only [gangerlaw20_many.j0] at H
   by_cases c8 : x23_2 = true
   ·subst c8
    have H1 : (some true) = some r:=by rw [if_pos rfl] at H;exact H
    clear H
    have H:=H1
    clear H1
    obtain rfl:=Option.some.inj H
    go_wp2
    go_ret
    exact ⟨by first|rfl|(simp;done)|(simp [*];done),by repeat (first|exact Drawn0.refl _|apply Drawn0.step)⟩
   replace c8:=Bool.eq_false_iff.mpr c8
   subst c8
   have H1 : (gangerlaw20_many.l0 kj2 l0 0) = some r:=by rw [if_neg (show ¬ (false = true) by decide)] at H;exact H
   clear H
   have H:=H1
   clear H1
   have H':=Am H
   clear H
   go_wp2
   go_loopg [5] kj2 (fun kq v5 w'=>∃ (x5_2 : Int),v5 = .int .i64 x5_2∧Aside0 (gangerlaw20_many.l0 kq l0 x5_2 = some r)∧Aside0 (kq≤kj2)∧Drawn0 w w')
   case atStart=>exact ⟨(0),(by first|rfl|(simp;done)|(simp [*];done)),H',⟨Nat.le_refl _⟩,by repeat (first|exact Drawn0.refl _|apply Drawn0.step)⟩
   case round =>
    clear H'
    obtain ⟨x5_2,rfl,HA,HK2,⟨m2,rfl⟩⟩:=hrel
    cases gk with
    | zero=>exact absurd HA.out (by simp [gangerlaw20_many.l0])
    | succ k2 =>
     have H:=HA.out
     clear HA
     simp only [gangerlaw20_many.l0] at H
     by_cases c9 : x5_2 < (l0.length : Int)
     rotate_left
     ·rw [if_neg c9] at H
      have c9b0 : decide (x5_2 < (l0.length : Int)) = false:=decide_eq_false c9
      clear c9
      obtain rfl:=Option.some.inj H
      go_wp2
      go_ret
      exact ⟨by first|rfl|(simp;done)|(simp [*];done),by repeat (first|exact Drawn0.refl _|apply Drawn0.step)⟩
     rw [if_pos c9] at H
     have c9b0 : decide (x5_2 < (l0.length : Int)) = true:=decide_eq_true c9
     clear c9
     by_cases c10 : 0≤x5_2
     rotate_left
     ·rw [if_neg c10] at H
      exact absurd H (by simp)
     rw [if_pos c10] at H
     have c10b0 : decide (0≤x5_2) = true:=decide_eq_true c10
     clear c10
     by_cases c11 : (((rd_T24 l0 x5_2).f1).size : Int) > 300
     ·rw [if_pos c11] at H
      have c11b0 : decide (300 < (((rd_T24 l0 x5_2).f1).size : Int)) = true:=decide_eq_true c11
      have c11b1 : decide (300 < ((rd_T24 l0 x5_2).f1).size) = true:=decide_eq_true (by omega)
      clear c11
      obtain rfl:=Option.some.inj H
      have p208 : 0≤(x5_2 : Int):=of_decide_eq_true (by first|(with_reducible assumption)|assumption)
      have q208 : x5_2 < (l0.length : Int):=of_decide_eq_true (by first|(with_reducible assumption)|assumption)
      obtain ⟨ad208,e208,hx208_0,hx208_1,hx208_2,hx208_3,hx208_4,hx208_5⟩:=at_T24 HR0.out x5_2 p208 q208
      cases e208
      replace p208:=eq_true p208
      replace q208:=eq_true q208
      go_wp2
      go_ret
      exact ⟨by first|rfl|(simp;done)|(simp [*];done),by repeat (first|exact Drawn0.refl _|apply Drawn0.step)⟩
     rw [if_neg c11] at H
     have c11b0 : decide (300 < (((rd_T24 l0 x5_2).f1).size : Int)) = false:=decide_eq_false c11
     have c11b1 : decide (300 < ((rd_T24 l0 x5_2).f1).size) = false:=decide_eq_false (by omega)
     clear c11
     have H':=Am H
     clear H
     have p208 : 0≤(x5_2 : Int):=of_decide_eq_true (by first|(with_reducible assumption)|assumption)
     have q208 : x5_2 < (l0.length : Int):=of_decide_eq_true (by first|(with_reducible assumption)|assumption)
     obtain ⟨ad208,e208,hx208_0,hx208_1,hx208_2,hx208_3,hx208_4,hx208_5⟩:=at_T24 HR0.out x5_2 p208 q208
     cases e208
     replace p208:=eq_true p208
     replace q208:=eq_true q208
     go_wp2
     go_roundg k2
     case measure=>have:=HJ2.out;have:=HK2.out;omega
     case rel=>exact ⟨(wrap64 (x5_2 + 1)),(by first|rfl|(simp;done)|(simp [*];done)),H',⟨by have:=HJ2.out;have:=HK2.out;omega⟩,by repeat (first|exact Drawn0.refl _|apply Drawn0.step)⟩
end Go.Proofs.YtakdneopmojjdaaDoor.P
