/- cut to what one law reaches -/
import Derived.Test.YtgidipomfbikiaaDoorQdShort
import Derived.Test.YtgidipomfbikiaaDoorQdP0
import Derived.Test.YtgidipomfbikiaaDoorQdP14
namespace Go.Proofs.YtgidipomfbikiaaDoor.P
open Go.RowKit Go.Proofs.YtgidipomfbikiaaDoorW.PrintWords Go.Proofs.YtgidipomfbikiaaDoorW.PrintLast Go.Proofs.YtgidipomfbikiaaDoorW.PrintMore
attribute [local go_sem] max2_int min2_int max_two min_two max_three min_three max_four min_four   -- for this text's walks alone
set_option linter.unusedVariables false
set_option linter.unusedSimpArgs false
attribute [local go_sem] isSome_setCell
mutual
def gangerref10_tree.l0 : Nat→List (S48)→Int→Option (Int)
 | 0,_,_=>none
 | k + 1,x0,x3=>if x3 < (x0.length : Int) then (if 0≤x3 then ((gangerref09_Name.f k ((rd_T48 x0 x3).f0)).bind fun t293=>(if t293 = true then ((gangerref10_out.f ((rd_T48 x0 x3).f2) 1 1048576).bind fun t295=>(gangerref10_tree.j1 k x0 x3 t295)) else (gangerref10_tree.j1 k x0 x3 true))) else (none)) else (some 0)
def gangerref10_tree.j1 : Nat→List (S48)→Int→Bool→Option (Int)
 | 0,_,_,_=>none
 | k + 1,x0,x3,x26=>if x26 = true then (some 100) else (if x3 = 0 then (if 0≤x3 then (if x3 < (x0.length : Int) then (gangerref10_tree.j2 k x0 x3 (((rd_T48 x0 x3).f1).toList == ([] : List UInt8))) else (none)) else (none)) else (gangerref10_tree.j2 k x0 x3 false))
def gangerref10_tree.j2 : Nat→List (S48)→Int→Bool→Option (Int)
 | 0,_,_,_=>none
 | k + 1,x0,x3,x4=>gangerref10_tree.l1 k x0 x3 x4 0
def gangerref10_tree.l1 : Nat→List (S48)→Int→Bool→Int→Option (Int)
 | 0,_,_,_,_=>none
 | k + 1,x0,x3,x4,x5=>if x5 < x3 then (if 0≤x5 then (if x5 < (x0.length : Int) then (if 0≤x3 then (if x3 < (x0.length : Int) then (if ((rd_T48 x0 x5).f0).toList = ((rd_T48 x0 x3).f0).toList then (some 100) else (if x4 = true then (gangerref10_tree.l1 k x0 x3 true (wrap64 (x5 + 1))) else (gangerref10_tree.l1 k x0 x3 (((rd_T48 x0 x5).f0).toList == ((rd_T48 x0 x3).f1).toList) (wrap64 (x5 + 1))))) else (none)) else (none)) else (none)) else (none)) else (if x4 = true then (gangerref10_tree.l0 k x0 (wrap64 (x3 + 1))) else (some 100))
end
def gangerref10_tree.f (k : Nat) (l0 : List (S48)) : Option (Int):=gangerref10_tree.l0 k l0 0
set_option maxHeartbeats 8000000 in
set_option maxRecDepth 100000 in
theorem gangerref10_tree.calls (k : Nat) (A0 : Option Addr) (c0 : Nat) (l0 : List (S48)) (r : Int) (w : World) (hr0 : Kd.C k48 w A0 l0.length l0) (hc0 : l0.length≤c0) (h : gangerref10_tree.f k l0 = some r) :
  Calls Tryd.prog 34 #[.slice A0 l0.length c0] w fun e w'=>e = .returned (.int .i64 r)∧Drawn0 w w':=by
 have HR0:=Am hr0
 have HC0:=Am hc0
 clear hr0 hc0
 have H : (gangerref10_tree.l0 k l0 0) = some r:=h
 clear h
 have H':=Am H
 clear H
 go_enter Tryd.func34,Tryd.ntmps34
 go_wp2
 repeat (go_quiet (fail);try go_wp2)
 go_loopg [3] k (fun kq v3 w'=>∃ (x3_1 : Int),v3 = .int .i64 x3_1∧Aside0 (gangerref10_tree.l0 kq l0 x3_1 = some r)∧Aside0 (kq≤k)∧Drawn0 w w')
 case atStart=>exact ⟨(0),(by first|rfl|(simp;done)|(simp [*];done)),H',⟨Nat.le_refl _⟩,by repeat (first|exact Drawn0.refl _|apply Drawn0.step)⟩
 case round =>
  clear H'
  obtain ⟨x3_1,rfl,HA,HK1,⟨m1,rfl⟩⟩:=hrel
  cases gk with
  | zero=>exact absurd HA.out (by simp [gangerref10_tree.l0])
  | succ k1 =>
   have H:=HA.out
   clear HA
   simp only [gangerref10_tree.l0] at H
   by_cases c2 : x3_1 < (l0.length : Int)
   rotate_left
   ·rw [if_neg c2] at H
    have c2b0 : decide (x3_1 < (l0.length : Int)) = false:=decide_eq_false c2
    clear c2
    obtain rfl:=Option.some.inj H
    go_wp2
    repeat (go_quiet (fail);try go_wp2)
    go_ret
    exact ⟨by first|rfl|(simp;done)|(simp [*];done),by repeat (first|exact Drawn0.refl _|apply Drawn0.step)⟩
   rw [if_pos c2] at H
   have c2b0 : decide (x3_1 < (l0.length : Int)) = true:=decide_eq_true c2
   clear c2
   have HC3:=Am H
   clear H
   go_upto_region 4 with (fail)
   repeat (go_quiet (fail);go_upto_region 4 with (fail))
   go_cut [26] (fun v26 wc=>∃ (kq : Nat) (x26_2 : Bool),v26 = .bool x26_2∧Aside0 (gangerref10_tree.j1 kq l0 x3_1 x26_2 = some r)∧Aside0 (kq≤k1)∧Drawn0 w wc)
   case first =>
    have H:=HC3.out
    clear HC3
    by_cases c4 : 0≤x3_1
    rotate_left
    ·rw [if_neg c4] at H
     exact absurd H (by simp)
    rw [if_pos c4] at H
    have c4b0 : decide (0≤x3_1) = true:=decide_eq_true c4
    clear c4
    (first|rw [c4b0]|(simp only [iW,iV];rw [c4b0])|skip)
    replace H:=oB H
    obtain ⟨t293,A50,H⟩:=H
    try dsimp only at H
    have A5:=Am A50
    clear A50
    by_cases c6 : t293 = true
    rotate_left
    ·replace c6:=Bool.eq_false_iff.mpr c6
     subst c6
     have H1 : (gangerref10_tree.j1 k1 l0 x3_1 true) = some r:=by rw [if_neg (show ¬ (false = true) by decide)] at H;exact H
     clear H
     have H:=H1
     clear H1
     have H':=Am H
     clear H
     have p292 : 0≤(x3_1 : Int):=of_decide_eq_true (by first|(with_reducible assumption)|assumption)
     have q292 : x3_1 < (l0.length : Int):=of_decide_eq_true (by first|(with_reducible assumption)|assumption)
     obtain ⟨ad292,e292,hx292_0,hx292_1,hx292_2⟩:=at_T48 HR0.out x3_1 p292 q292
     cases e292
     replace p292:=eq_true p292
     replace q292:=eq_true q292
     go_wp2_with (first|(go_at_call 20;(with_reducible refine (gangerref09_Name.calls k1 ((rd_T48 l0 x3_1).f0) false _ A5.out).mono ?_);rintro e w' ⟨rfl,⟨nd,rfl⟩⟩;(try first|exact ⟨rfl,_,wD _ _ _⟩|exact ⟨rfl,_,wE _ _ _ _⟩)))
     repeat (go_quiet (first|(go_at_call 20;(with_reducible refine (gangerref09_Name.calls k1 ((rd_T48 l0 x3_1).f0) false _ A5.out).mono ?_);rintro e w' ⟨rfl,⟨nd,rfl⟩⟩;(try first|exact ⟨rfl,_,wD _ _ _⟩|exact ⟨rfl,_,wE _ _ _ _⟩)));try go_wp2_with (first|(go_at_call 20;(with_reducible refine (gangerref09_Name.calls k1 ((rd_T48 l0 x3_1).f0) false _ A5.out).mono ?_);rintro e w' ⟨rfl,⟨nd,rfl⟩⟩;(try first|exact ⟨rfl,_,wD _ _ _⟩|exact ⟨rfl,_,wE _ _ _ _⟩))))
     go_meet
     case rel=>exact ⟨_,(true),(by first|rfl|(simp;done)|(simp [*];done)),H',⟨by have:=HK1.out;first|omega|exact Nat.le_refl _⟩,by repeat (first|exact Drawn0.refl _|apply Drawn0.step)⟩
    subst c6
    have H1 : ((gangerref10_out.f ((rd_T48 l0 x3_1).f2) 1 1048576).bind fun t295=>(gangerref10_tree.j1 k1 l0 x3_1 t295)) = some r:=by rw [if_pos rfl] at H;exact H
    clear H
    have H:=H1
    clear H1
    replace H:=oB H
    obtain ⟨t295,A70,H⟩:=H
    try dsimp only at H
    have A7:=Am A70
    clear A70
    have H':=Am H
    clear H
    have p292 : 0≤(x3_1 : Int):=of_decide_eq_true (by first|(with_reducible assumption)|assumption)
    have q292 : x3_1 < (l0.length : Int):=of_decide_eq_true (by first|(with_reducible assumption)|assumption)
    obtain ⟨ad292,e292,hx292_0,hx292_1,hx292_2⟩:=at_T48 HR0.out x3_1 p292 q292
    cases e292
    replace p292:=eq_true p292
    replace q292:=eq_true q292
    go_wp2_with (first|(go_at_call 20;(with_reducible refine (gangerref09_Name.calls k1 ((rd_T48 l0 x3_1).f0) true _ A5.out).mono ?_);rintro e w' ⟨rfl,⟨nd,rfl⟩⟩;(try first|exact ⟨rfl,_,wD _ _ _⟩|exact ⟨rfl,_,wE _ _ _ _⟩);have p294 : 0≤(x3_1 : Int):=of_decide_eq_true (by first|(with_reducible assumption)|assumption);have q294 : x3_1 < (l0.length : Int):=of_decide_eq_true (by first|(with_reducible assumption)|assumption);obtain ⟨ad294,e294,hx294_0,hx294_1,hx294_2⟩:=at_T48 HR0.out x3_1 p294 q294;obtain rfl : ad292 = ad294:=(by injection e294);replace p294:=eq_true p294;replace q294:=eq_true q294)|(go_at_call 33;(with_reducible refine (gangerref10_out.calls ((rd_T48 l0 x3_1).f2) 1 1048576 t295 _ A7.out).mono ?_);rintro e w' ⟨rfl,⟨nd,rfl⟩⟩;(try first|exact ⟨rfl,_,wD _ _ _⟩|exact ⟨rfl,_,wE _ _ _ _⟩)))
    repeat (go_quiet (first|(go_at_call 20;(with_reducible refine (gangerref09_Name.calls k1 ((rd_T48 l0 x3_1).f0) true _ A5.out).mono ?_);rintro e w' ⟨rfl,⟨nd,rfl⟩⟩;(try first|exact ⟨rfl,_,wD _ _ _⟩|exact ⟨rfl,_,wE _ _ _ _⟩);have p294 : 0≤(x3_1 : Int):=of_decide_eq_true (by first|(with_reducible assumption)|assumption);have q294 : x3_1 < (l0.length : Int):=of_decide_eq_true (by first|(with_reducible assumption)|assumption);obtain ⟨ad294,e294,hx294_0,hx294_1,hx294_2⟩:=at_T48 HR0.out x3_1 p294 q294;obtain rfl : ad292 = ad294:=(by injection e294);replace p294:=eq_true p294;replace q294:=eq_true q294)|(go_at_call 33;(with_reducible refine (gangerref10_out.calls ((rd_T48 l0 x3_1).f2) 1 1048576 t295 _ A7.out).mono ?_);rintro e w' ⟨rfl,⟨nd,rfl⟩⟩;(try first|exact ⟨rfl,_,wD _ _ _⟩|exact ⟨rfl,_,wE _ _ _ _⟩)));try go_wp2_with (first|(go_at_call 20;(with_reducible refine (gangerref09_Name.calls k1 ((rd_T48 l0 x3_1).f0) true _ A5.out).mono ?_);rintro e w' ⟨rfl,⟨nd,rfl⟩⟩;(try first|exact ⟨rfl,_,wD _ _ _⟩|exact ⟨rfl,_,wE _ _ _ _⟩);have p294 : 0≤(x3_1 : Int):=of_decide_eq_true (by first|(with_reducible assumption)|assumption);have q294 : x3_1 < (l0.length : Int):=of_decide_eq_true (by first|(with_reducible assumption)|assumption);obtain ⟨ad294,e294,hx294_0,hx294_1,hx294_2⟩:=at_T48 HR0.out x3_1 p294 q294;obtain rfl : ad292 = ad294:=(by injection e294);replace p294:=eq_true p294;replace q294:=eq_true q294)|(go_at_call 33;(with_reducible refine (gangerref10_out.calls ((rd_T48 l0 x3_1).f2) 1 1048576 t295 _ A7.out).mono ?_);rintro e w' ⟨rfl,⟨nd,rfl⟩⟩;(try first|exact ⟨rfl,_,wD _ _ _⟩|exact ⟨rfl,_,wE _ _ _ _⟩))))
    go_meet
    case rel=>exact ⟨_,(t295),(by first|rfl|(simp;done)|(simp [*];done)),H',⟨by have:=HK1.out;first|omega|exact Nat.le_refl _⟩,by repeat (first|exact Drawn0.refl _|apply Drawn0.step)⟩
   case rest =>
    clear HC3
    obtain ⟨kq,x26_2,rfl,HA,HJ2,⟨mc2,rfl⟩⟩:=hcut
    cases kq with
    | zero=>exact absurd HA.out (by simp [gangerref10_tree.j1])
    | succ kj2 =>
     have H:=HA.out
     clear HA
     simp only [gangerref10_tree.j1] at H
     by_cases c8 : x26_2 = true
     ·subst c8
      have H1 : (some 100) = some r:=by rw [if_pos rfl] at H;exact H
      clear H
      have H:=H1
      clear H1
      obtain rfl:=Option.some.inj H
      go_wp2
      repeat (go_quiet (fail);try go_wp2)
      go_ret
      exact ⟨by first|rfl|(simp;done)|(simp [*];done),by repeat (first|exact Drawn0.refl _|apply Drawn0.step)⟩
     replace c8:=Bool.eq_false_iff.mpr c8
     subst c8
     have H1 : (if x3_1 = 0 then (if 0≤x3_1 then (if x3_1 < (l0.length : Int) then (gangerref10_tree.j2 kj2 l0 x3_1 (((rd_T48 l0 x3_1).f1).toList == ([] : List UInt8))) else (none)) else (none)) else (gangerref10_tree.j2 kj2 l0 x3_1 false)) = some r:=by rw [if_neg (show ¬ (false = true) by decide)] at H;exact H
     clear H
     have H:=H1
     clear H1
     have HC9:=Am H
     clear H
     go_upto_region 6 with (fail)
     repeat (go_quiet (fail);go_upto_region 6 with (fail))
     go_cut [4] (fun v4 wc=>∃ (kq : Nat) (x4_8 : Bool),v4 = .bool x4_8∧Aside0 (gangerref10_tree.j2 kq l0 x3_1 x4_8 = some r)∧Aside0 (kq≤kj2)∧Drawn0 w wc)
     case first =>
      have H:=HC9.out
      clear HC9
      by_cases c10 : x3_1 = 0
      rotate_left
      ·rw [if_neg c10] at H
       have c10b0 : (x3_1 == 0) = false:=beq_eq_false_iff_ne.mpr c10
       have c10b1 : (x3_1 != 0) = true:=bne_iff_ne.mpr c10
       (first|rw [c10b0]|(simp only [iW,iV];rw [c10b0])|skip)
       have H':=Am H
       clear H
       go_wp2
       repeat (go_quiet (fail);try go_wp2)
       go_meet
       case rel=>exact ⟨_,(false),(by first|rfl|(simp;done)|(simp [*];done)),H',⟨by have:=HK1.out;have:=HJ2.out;first|omega|exact Nat.le_refl _⟩,by repeat (first|exact Drawn0.refl _|apply Drawn0.step)⟩
      rw [if_pos c10] at H
      have c10b0 : (x3_1 == 0) = true:=beq_iff_eq.mpr c10
      have c10b1 : (x3_1 != 0) = false:=bne_eq_false_iff_eq.mpr c10
      clear c10
      (first|rw [c10b0]|(simp only [iW,iV];rw [c10b0])|skip)
      by_cases c11 : 0≤x3_1
      rotate_left
      ·rw [if_neg c11] at H
       exact absurd H (by simp)
      rw [if_pos c11] at H
      have c11b0 : decide (0≤x3_1) = true:=decide_eq_true c11
      clear c11
      by_cases c12 : x3_1 < (l0.length : Int)
      rotate_left
      ·rw [if_neg c12] at H
       exact absurd H (by simp)
      rw [if_pos c12] at H
      have c12b0 : decide (x3_1 < (l0.length : Int)) = true:=decide_eq_true c12
      clear c12
      have H':=Am H
      clear H
      have p296 : 0≤(x3_1 : Int):=of_decide_eq_true (by first|(with_reducible assumption)|assumption)
      have q296 : x3_1 < (l0.length : Int):=of_decide_eq_true (by first|(with_reducible assumption)|assumption)
      obtain ⟨ad296,e296,hx296_0,hx296_1,hx296_2⟩:=at_T48 HR0.out x3_1 p296 q296
      cases e296
      replace p296:=eq_true p296
      replace q296:=eq_true q296
      go_wp2
      repeat (go_quiet (fail);try go_wp2)
      go_meet
      case rel=>exact ⟨_,((((rd_T48 l0 x3_1).f1).toList == ([] : List UInt8))),(by first|rfl|(simp;done)|(simp [*];done)),H',⟨by have:=HK1.out;have:=HJ2.out;first|omega|exact Nat.le_refl _⟩,by repeat (first|exact Drawn0.refl _|apply Drawn0.step)⟩
     case rest =>
      clear HC9
      obtain ⟨kq,x4_8,rfl,HA,HJ8,⟨mc8,rfl⟩⟩:=hcut
      cases kq with
      | zero=>exact absurd HA.out (by simp [gangerref10_tree.j2])
      | succ kj8 =>
       have H:=HA.out
       clear HA
       simp only [gangerref10_tree.j2] at H
       have H':=Am H
       clear H
       go_wp2
       repeat (go_quiet (fail);try go_wp2)
       go_loopg [4,5] kj8 (fun kq v4 v5 w'=>∃ (x4_4 : Bool) (x5_4 : Int),v4 = .bool x4_4∧v5 = .int .i64 x5_4∧Aside0 (gangerref10_tree.l1 kq l0 x3_1 x4_4 x5_4 = some r)∧Aside0 (kq≤kj8)∧Drawn0 w w')
       case atStart=>exact ⟨(x4_8),(0),(by first|rfl|(simp;done)|(simp [*];done)),(by first|rfl|(simp;done)|(simp [*];done)),H',⟨Nat.le_refl _⟩,by repeat (first|exact Drawn0.refl _|apply Drawn0.step)⟩
       case round =>
        clear H'
        obtain ⟨x4_4,x5_4,rfl,rfl,HA,HK4,⟨m4,rfl⟩⟩:=hrel
        cases gk with
        | zero=>exact absurd HA.out (by simp [gangerref10_tree.l1])
        | succ k4 =>
         have H:=HA.out
         clear HA
         simp only [gangerref10_tree.l1] at H
         by_cases c13 : x5_4 < x3_1
         rotate_left
         ·rw [if_neg c13] at H
          have c13b0 : decide (x5_4 < x3_1) = false:=decide_eq_false c13
          clear c13
          by_cases c20 : x4_4 = true
          rotate_left
          ·replace c20:=Bool.eq_false_iff.mpr c20
           subst c20
           have H1 : (some 100) = some r:=by rw [if_neg (show ¬ (false = true) by decide)] at H;exact H
           clear H
           have H:=H1
           clear H1
           obtain rfl:=Option.some.inj H
           go_wp2
           repeat (go_quiet (fail);try go_wp2)
           go_ret
           exact ⟨by first|rfl|(simp;done)|(simp [*];done),by repeat (first|exact Drawn0.refl _|apply Drawn0.step)⟩
          subst c20
          have H1 : (gangerref10_tree.l0 k4 l0 (wrap64 (x3_1 + 1))) = some r:=by rw [if_pos rfl] at H;exact H
          clear H
          have H:=H1
          clear H1
          have H':=Am H
          clear H
          go_wp2
          repeat (go_quiet (fail);try go_wp2)
          go_roundg k4
          case measure=>have:=HK1.out;have:=HJ2.out;have:=HJ8.out;have:=HK4.out;omega
          case rel=>exact ⟨(wrap64 (x3_1 + 1)),(by first|rfl|(simp;done)|(simp [*];done)),H',⟨by have:=HK1.out;have:=HJ2.out;have:=HJ8.out;have:=HK4.out;omega⟩,by repeat (first|exact Drawn0.refl _|apply Drawn0.step)⟩
         rw [if_pos c13] at H
         have c13b0 : decide (x5_4 < x3_1) = true:=decide_eq_true c13
         clear c13
         by_cases c14 : 0≤x5_4
         rotate_left
         ·rw [if_neg c14] at H
          exact absurd H (by simp)
         rw [if_pos c14] at H
         have c14b0 : decide (0≤x5_4) = true:=decide_eq_true c14
         clear c14
         by_cases c15 : x5_4 < (l0.length : Int)
         rotate_left
         ·rw [if_neg c15] at H
          exact absurd H (by simp)
         rw [if_pos c15] at H
         have c15b0 : decide (x5_4 < (l0.length : Int)) = true:=decide_eq_true c15
         clear c15
         by_cases c16 : 0≤x3_1
         rotate_left
         ·rw [if_neg c16] at H
          exact absurd H (by simp)
         rw [if_pos c16] at H
         have c16b0 : decide (0≤x3_1) = true:=decide_eq_true c16
         clear c16
         by_cases c17 : x3_1 < (l0.length : Int)
         rotate_left
         ·rw [if_neg c17] at H
          exact absurd H (by simp)
         rw [if_pos c17] at H
         have c17b0 : decide (x3_1 < (l0.length : Int)) = true:=decide_eq_true c17
         clear c17
         by_cases c18 : ((rd_T48 l0 x5_4).f0).toList = ((rd_T48 l0 x3_1).f0).toList
         ·rw [if_pos c18] at H
          have c18b0 : (((rd_T48 l0 x5_4).f0).toList == ((rd_T48 l0 x3_1).f0).toList) = true:=beq_iff_eq.mpr c18
          have c18b1 : (((rd_T48 l0 x5_4).f0).toList != ((rd_T48 l0 x3_1).f0).toList) = false:=bne_eq_false_iff_eq.mpr c18
          clear c18
          obtain rfl:=Option.some.inj H
          have p297 : 0≤(x5_4 : Int):=of_decide_eq_true (by first|(with_reducible assumption)|assumption)
          have q297 : x5_4 < (l0.length : Int):=of_decide_eq_true (by first|(with_reducible assumption)|assumption)
          obtain ⟨ad297,e297,hx297_0,hx297_1,hx297_2⟩:=at_T48 HR0.out x5_4 p297 q297
          cases e297
          replace p297:=eq_true p297
          replace q297:=eq_true q297
          have p298 : 0≤(x3_1 : Int):=of_decide_eq_true (by first|(with_reducible assumption)|assumption)
          have q298 : x3_1 < (l0.length : Int):=of_decide_eq_true (by first|(with_reducible assumption)|assumption)
          obtain ⟨ad298,e298,hx298_0,hx298_1,hx298_2⟩:=at_T48 HR0.out x3_1 p298 q298
          obtain rfl : ad297 = ad298:=(by injection e298)
          replace p298:=eq_true p298
          replace q298:=eq_true q298
          go_wp2
          repeat (go_quiet (fail);try go_wp2)
          go_ret
          exact ⟨by first|rfl|(simp;done)|(simp [*];done),by repeat (first|exact Drawn0.refl _|apply Drawn0.step)⟩
         rw [if_neg c18] at H
         have c18b0 : (((rd_T48 l0 x5_4).f0).toList == ((rd_T48 l0 x3_1).f0).toList) = false:=beq_eq_false_iff_ne.mpr c18
         have c18b1 : (((rd_T48 l0 x5_4).f0).toList != ((rd_T48 l0 x3_1).f0).toList) = true:=bne_iff_ne.mpr c18
         by_cases c19 : x4_4 = true
         ·subst c19
          have H1 : (gangerref10_tree.l1 k4 l0 x3_1 true (wrap64 (x5_4 + 1))) = some r:=by rw [if_pos rfl] at H;exact H
          clear H
          have H:=H1
          clear H1
          have H':=Am H
          clear H
          have p297 : 0≤(x5_4 : Int):=of_decide_eq_true (by first|(with_reducible assumption)|assumption)
          have q297 : x5_4 < (l0.length : Int):=of_decide_eq_true (by first|(with_reducible assumption)|assumption)
          obtain ⟨ad297,e297,hx297_0,hx297_1,hx297_2⟩:=at_T48 HR0.out x5_4 p297 q297
          cases e297
          replace p297:=eq_true p297
          replace q297:=eq_true q297
          have p298 : 0≤(x3_1 : Int):=of_decide_eq_true (by first|(with_reducible assumption)|assumption)
          have q298 : x3_1 < (l0.length : Int):=of_decide_eq_true (by first|(with_reducible assumption)|assumption)
          obtain ⟨ad298,e298,hx298_0,hx298_1,hx298_2⟩:=at_T48 HR0.out x3_1 p298 q298
          obtain rfl : ad297 = ad298:=(by injection e298)
          replace p298:=eq_true p298
          replace q298:=eq_true q298
          go_wp2
          repeat (go_quiet (fail);try go_wp2)
          go_roundg k4
          case measure=>have:=HK1.out;have:=HJ2.out;have:=HJ8.out;have:=HK4.out;omega
          case rel=>exact ⟨(true),(wrap64 (x5_4 + 1)),(by first|rfl|(simp;done)|(simp [*];done)),(by first|rfl|(simp;done)|(simp [*];done)),H',⟨by have:=HK1.out;have:=HJ2.out;have:=HJ8.out;have:=HK4.out;omega⟩,by repeat (first|exact Drawn0.refl _|apply Drawn0.step)⟩
         replace c19:=Bool.eq_false_iff.mpr c19
         subst c19
         have H1 : (gangerref10_tree.l1 k4 l0 x3_1 (((rd_T48 l0 x5_4).f0).toList == ((rd_T48 l0 x3_1).f1).toList) (wrap64 (x5_4 + 1))) = some r:=by rw [if_neg (show ¬ (false = true) by decide)] at H;exact H
         clear H
         have H:=H1
         clear H1
         have H':=Am H
         clear H
         have p297 : 0≤(x5_4 : Int):=of_decide_eq_true (by first|(with_reducible assumption)|assumption)
         have q297 : x5_4 < (l0.length : Int):=of_decide_eq_true (by first|(with_reducible assumption)|assumption)
         obtain ⟨ad297,e297,hx297_0,hx297_1,hx297_2⟩:=at_T48 HR0.out x5_4 p297 q297
         cases e297
         replace p297:=eq_true p297
         replace q297:=eq_true q297
         have p298 : 0≤(x3_1 : Int):=of_decide_eq_true (by first|(with_reducible assumption)|assumption)
         have q298 : x3_1 < (l0.length : Int):=of_decide_eq_true (by first|(with_reducible assumption)|assumption)
         obtain ⟨ad298,e298,hx298_0,hx298_1,hx298_2⟩:=at_T48 HR0.out x3_1 p298 q298
         obtain rfl : ad297 = ad298:=(by injection e298)
         replace p298:=eq_true p298
         replace q298:=eq_true q298
         have p299 : 0≤(x5_4 : Int):=of_decide_eq_true (by first|(with_reducible assumption)|assumption)
         have q299 : x5_4 < (l0.length : Int):=of_decide_eq_true (by first|(with_reducible assumption)|assumption)
         obtain ⟨ad299,e299,hx299_0,hx299_1,hx299_2⟩:=at_T48 HR0.out x5_4 p299 q299
         obtain rfl : ad297 = ad299:=(by injection e299)
         replace p299:=eq_true p299
         replace q299:=eq_true q299
         have p300 : 0≤(x3_1 : Int):=of_decide_eq_true (by first|(with_reducible assumption)|assumption)
         have q300 : x3_1 < (l0.length : Int):=of_decide_eq_true (by first|(with_reducible assumption)|assumption)
         obtain ⟨ad300,e300,hx300_0,hx300_1,hx300_2⟩:=at_T48 HR0.out x3_1 p300 q300
         obtain rfl : ad297 = ad300:=(by injection e300)
         replace p300:=eq_true p300
         replace q300:=eq_true q300
         go_wp2
         repeat (go_quiet (fail);try go_wp2)
         go_roundg k4
         case measure=>have:=HK1.out;have:=HJ2.out;have:=HJ8.out;have:=HK4.out;omega
         case rel=>exact ⟨((((rd_T48 l0 x5_4).f0).toList == ((rd_T48 l0 x3_1).f1).toList)),(wrap64 (x5_4 + 1)),(by first|rfl|(simp;done)|(simp [*];done)),(by first|rfl|(simp;done)|(simp [*];done)),H',⟨by have:=HK1.out;have:=HJ2.out;have:=HJ8.out;have:=HK4.out;omega⟩,by repeat (first|exact Drawn0.refl _|apply Drawn0.step)⟩
end Go.Proofs.YtgidipomfbikiaaDoor.P
