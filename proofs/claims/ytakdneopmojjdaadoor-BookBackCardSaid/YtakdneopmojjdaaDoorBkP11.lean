/- cut to what one law reaches -/
import Derived.Test.YtakdneopmojjdaaDoorBkShort
import Derived.Test.YtakdneopmojjdaaDoorBkP0
import Derived.Test.YtakdneopmojjdaaDoorBkP10
namespace Go.Proofs.YtakdneopmojjdaaDoor.P
open Go.RowKit Go.Proofs.YtakdneopmojjdaaDoorW.PrintWords Go.Proofs.YtakdneopmojjdaaDoorW.PrintLast Go.Proofs.YtakdneopmojjdaaDoorW.PrintMore
attribute [local go_sem] max2_int min2_int max_two min_two max_three min_three max_four min_four   -- for this text's walks alone
set_option linter.unusedVariables false
set_option linter.unusedSimpArgs false
attribute [local go_sem] isSome_setCell
mutual
def gangerref09_Rune.j2 : Nat→ByteArray→Int→Int→Int→Int→Option (Int × Int)
 | 0,_,_,_,_,_=>none
 | k + 1,x0,x1,x6,x7,x8=>gangerref09_Rune.l0 k x0 x1 x6 x7 x8 1
def gangerref09_Rune.l0 : Nat→ByteArray→Int→Int→Int→Int→Int→Option (Int × Int)
 | 0,_,_,_,_,_,_=>none
 | k + 1,x0,x1,x6,x7,x8,x9=>if x9≤x7 then ((gangerref09_more.f x0 (wrap64 (x1 + x9))).bind fun bt212=>(if bt212.2 = true then (gangerref09_Rune.l0 k x0 x1 (wrap64 ((wrap64 (x6 * 64)) + bt212.1)) x7 x8 (wrap64 (x9 + 1))) else (some (0,0)))) else (if x6 < x8 then (some (0,0)) else (if x6 > 1114111 then (some (0,0)) else (if x6 ≥ 55296 then (if x6≤57343 then (some (0,0)) else (some (x6,wrap64 (x7 + 1)))) else (some (x6,wrap64 (x7 + 1))))))
def gangerref09_Rune.j0 : Nat→ByteArray→Int→Int→Bool→Option (Int × Int)
 | 0,_,_,_,_=>none
 | k + 1,x0,x1,x6,x19=>if x19 = true then (gangerref09_Rune.j2 k x0 x1 (wrap64 (x6 - 192)) 1 128) else (if x6 ≥ 224 then (gangerref09_Rune.j1 k x0 x1 x6 (decide (x6 < 240))) else (gangerref09_Rune.j1 k x0 x1 x6 false))
def gangerref09_Rune.j1 : Nat→ByteArray→Int→Int→Bool→Option (Int × Int)
 | 0,_,_,_,_=>none
 | k + 1,x0,x1,x6,x28=>if x28 = true then (gangerref09_Rune.j2 k x0 x1 (wrap64 (x6 - 224)) 2 2048) else (if x6 ≥ 240 then (if x6 < 248 then (gangerref09_Rune.j2 k x0 x1 (wrap64 (x6 - 240)) 3 65536) else (some (0,0))) else (some (0,0)))
end
def gangerref09_Rune.f (k : Nat) (a0 : ByteArray) (a1 : Int) : Option (Int × Int):=if 0≤a1 then (if a1 < (a0.size : Int) then (if (wrap64 (bt a0 a1)) < 128 then (some (wrap64 (bt a0 a1),1)) else (if (wrap64 (bt a0 a1)) ≥ 192 then (gangerref09_Rune.j0 k a0 a1 (wrap64 (bt a0 a1)) (decide ((wrap64 (bt a0 a1)) < 224))) else (gangerref09_Rune.j0 k a0 a1 (wrap64 (bt a0 a1)) false))) else (none)) else (none)
set_option maxHeartbeats 8000000 in
set_option maxRecDepth 100000 in
theorem gangerref09_Rune.calls (k : Nat) (a0 : ByteArray) (a1 : Int) (r1 : Int) (r2 : Int) (w : World) (h : gangerref09_Rune.f k a0 a1 = some (r1,r2)) :
  Calls Tryd.prog 61 #[.string a0,.int .i64 a1] w fun e w'=>e = .returned (.tuple #[.int .i64 r1,.int .i64 r2])∧Drawn0 w w':=by
 have H : (if 0≤a1 then (if a1 < (a0.size : Int) then (if (wrap64 (bt a0 a1)) < 128 then (some (wrap64 (bt a0 a1),1)) else (if (wrap64 (bt a0 a1)) ≥ 192 then (gangerref09_Rune.j0 k a0 a1 (wrap64 (bt a0 a1)) (decide ((wrap64 (bt a0 a1)) < 224))) else (gangerref09_Rune.j0 k a0 a1 (wrap64 (bt a0 a1)) false))) else (none)) else (none)) = some (r1,r2):=h
 clear h
 by_cases c3 : 0≤a1
 rotate_left
 ·rw [if_neg c3] at H
  exact absurd H (by simp)
 rw [if_pos c3] at H
 have c3b0 : decide (0≤a1) = true:=decide_eq_true c3
 clear c3
 by_cases c4 : a1 < (a0.size : Int)
 rotate_left
 ·rw [if_neg c4] at H
  exact absurd H (by simp)
 rw [if_pos c4] at H
 have c4b0 : decide (a1 < (a0.size : Int)) = true:=decide_eq_true c4
 clear c4
 by_cases c6 : (wrap64 (bt a0 a1)) < 128
 ·rw [if_pos c6] at H
  have c6b0 : decide ((wrap64 (bt a0 a1)) < 128) = true:=decide_eq_true c6
  clear c6
  simp only [Option.some.injEq,Prod.mk.injEq] at H
  obtain ⟨rfl,rfl⟩:=H
  have p5 : 0≤(a1 : Int):=of_decide_eq_true (by first|(with_reducible assumption)|assumption)
  have q5 : a1 < (a0.size : Int):=of_decide_eq_true (by first|(with_reducible assumption)|assumption)
  have hx5:=bt_at a0 a1
  replace p5:=eq_true p5
  replace q5:=eq_true q5
  go_enter Tryd.func61,Tryd.ntmps61
  go_wp2
  go_ret2
  exact ⟨by first|rfl|(simp;done)|(simp [*];done),by repeat (first|exact Drawn0.refl _|apply Drawn0.step)⟩
 rw [if_neg c6] at H
 have c6b0 : decide ((wrap64 (bt a0 a1)) < 128) = false:=decide_eq_false c6
 clear c6
 have HC7:=Am H
 clear H
 have p5 : 0≤(a1 : Int):=of_decide_eq_true (by first|(with_reducible assumption)|assumption)
 have q5 : a1 < (a0.size : Int):=of_decide_eq_true (by first|(with_reducible assumption)|assumption)
 have hx5:=bt_at a0 a1
 replace p5:=eq_true p5
 replace q5:=eq_true q5
 go_enter Tryd.func61,Tryd.ntmps61
 go_upto_block 0 with (fail)
 go_cut [6,7,8] (fun v6 v7 v8 wc=>∃ (kq : Nat) (x6_6 : Int) (x7_6 : Int) (x8_6 : Int),v6 = .int .i64 x6_6∧v7 = .int .i64 x7_6∧v8 = .int .i64 x8_6∧Aside0 (gangerref09_Rune.j2 kq a0 a1 x6_6 x7_6 x8_6 = some (r1,r2))∧Aside0 (kq≤k)∧Drawn0 w wc)
 case first =>
  have H:=HC7.out
  clear HC7
  have HC8:=Am H
  clear H
  go_upto_region 7 with (fail)
  go_cut [19] (fun v19 wc=>∃ (kq : Nat) (x19_7 : Bool),v19 = .bool x19_7∧Aside0 (gangerref09_Rune.j0 kq a0 a1 (wrap64 (bt a0 a1)) x19_7 = some (r1,r2))∧Aside0 (kq≤k)∧Drawn0 w wc)
  case first =>
   have H:=HC8.out
   clear HC8
   by_cases c9 : (wrap64 (bt a0 a1)) ≥ 192
   rotate_left
   ·rw [if_neg c9] at H
    have c9b0 : decide (192≤(wrap64 (bt a0 a1))) = false:=decide_eq_false c9
    clear c9
    (first|rw [c9b0]|(simp only [iW,iV];rw [c9b0])|skip)
    have H':=Am H
    clear H
    go_wp2
    go_meet
    case rel=>exact ⟨_,(false),(by first|rfl|(simp;done)|(simp [*];done)),H',⟨by first|omega|exact Nat.le_refl _⟩,by repeat (first|exact Drawn0.refl _|apply Drawn0.step)⟩
   rw [if_pos c9] at H
   have c9b0 : decide (192≤(wrap64 (bt a0 a1))) = true:=decide_eq_true c9
   clear c9
   (first|rw [c9b0]|(simp only [iW,iV];rw [c9b0])|skip)
   have H':=Am H
   clear H
   go_wp2
   go_meet
   case rel=>exact ⟨_,(decide ((wrap64 (bt a0 a1)) < 224)),(by first|rfl|(simp;done)|(simp [*];done)),H',⟨by first|omega|exact Nat.le_refl _⟩,by repeat (first|exact Drawn0.refl _|apply Drawn0.step)⟩
  case rest =>
   clear HC8
   obtain ⟨kq,x19_7,rfl,HA,HJ7,⟨mc7,rfl⟩⟩:=hcut
   cases kq with
   | zero=>exact absurd HA.out (by simp [gangerref09_Rune.j0])
   | succ kj7 =>
    have H:=HA.out
    clear HA
    simp only [gangerref09_Rune.j0] at H
    by_cases c10 : x19_7 = true
    ·subst c10
     have H1 : (gangerref09_Rune.j2 kj7 a0 a1 (wrap64 ((wrap64 (bt a0 a1)) - 192)) 1 128) = some (r1,r2):=by rw [if_pos rfl] at H;exact H
     clear H
     have H:=H1
     clear H1
     have H':=Am H
     clear H
     go_wp2
     go_meet
     case rel=>exact ⟨_,(wrap64 ((wrap64 (bt a0 a1)) - 192)),(1),(128),(by first|rfl|(simp;done)|(simp [*];done)),(by first|rfl|(simp;done)|(simp [*];done)),(by first|rfl|(simp;done)|(simp [*];done)),H',⟨by have:=HJ7.out;first|omega|exact Nat.le_refl _⟩,by repeat (first|exact Drawn0.refl _|apply Drawn0.step)⟩
    replace c10:=Bool.eq_false_iff.mpr c10
    subst c10
    have H1 : (if (wrap64 (bt a0 a1)) ≥ 224 then (gangerref09_Rune.j1 kj7 a0 a1 (wrap64 (bt a0 a1)) (decide ((wrap64 (bt a0 a1)) < 240))) else (gangerref09_Rune.j1 kj7 a0 a1 (wrap64 (bt a0 a1)) false)) = some (r1,r2):=by rw [if_neg (show ¬ (false = true) by decide)] at H;exact H
    clear H
    have H:=H1
    clear H1
    have HC11:=Am H
    clear H
    go_upto_region 11 with (fail)
    go_cut [28] (fun v28 wc=>∃ (kq : Nat) (x28_10 : Bool),v28 = .bool x28_10∧Aside0 (gangerref09_Rune.j1 kq a0 a1 (wrap64 (bt a0 a1)) x28_10 = some (r1,r2))∧Aside0 (kq≤kj7)∧Drawn0 w wc)
    case first =>
     have H:=HC11.out
     clear HC11
     by_cases c12 : (wrap64 (bt a0 a1)) ≥ 224
     rotate_left
     ·rw [if_neg c12] at H
      have c12b0 : decide (224≤(wrap64 (bt a0 a1))) = false:=decide_eq_false c12
      clear c12
      (first|rw [c12b0]|(simp only [iW,iV];rw [c12b0])|skip)
      have H':=Am H
      clear H
      go_wp2
      go_meet
      case rel=>exact ⟨_,(false),(by first|rfl|(simp;done)|(simp [*];done)),H',⟨by have:=HJ7.out;first|omega|exact Nat.le_refl _⟩,by repeat (first|exact Drawn0.refl _|apply Drawn0.step)⟩
     rw [if_pos c12] at H
     have c12b0 : decide (224≤(wrap64 (bt a0 a1))) = true:=decide_eq_true c12
     clear c12
     (first|rw [c12b0]|(simp only [iW,iV];rw [c12b0])|skip)
     have H':=Am H
     clear H
     go_wp2
     go_meet
     case rel=>exact ⟨_,(decide ((wrap64 (bt a0 a1)) < 240)),(by first|rfl|(simp;done)|(simp [*];done)),H',⟨by have:=HJ7.out;first|omega|exact Nat.le_refl _⟩,by repeat (first|exact Drawn0.refl _|apply Drawn0.step)⟩
    case rest =>
     clear HC11
     obtain ⟨kq,x28_10,rfl,HA,HJ10,⟨mc10,rfl⟩⟩:=hcut
     cases kq with
     | zero=>exact absurd HA.out (by simp [gangerref09_Rune.j1])
     | succ kj10 =>
      have H:=HA.out
      clear HA
      simp only [gangerref09_Rune.j1] at H
      by_cases c13 : x28_10 = true
      ·subst c13
       have H1 : (gangerref09_Rune.j2 kj10 a0 a1 (wrap64 ((wrap64 (bt a0 a1)) - 224)) 2 2048) = some (r1,r2):=by rw [if_pos rfl] at H;exact H
       clear H
       have H:=H1
       clear H1
       have H':=Am H
       clear H
       go_wp2
       go_meet
       case rel=>exact ⟨_,(wrap64 ((wrap64 (bt a0 a1)) - 224)),(2),(2048),(by first|rfl|(simp;done)|(simp [*];done)),(by first|rfl|(simp;done)|(simp [*];done)),(by first|rfl|(simp;done)|(simp [*];done)),H',⟨by have:=HJ7.out;have:=HJ10.out;first|omega|exact Nat.le_refl _⟩,by repeat (first|exact Drawn0.refl _|apply Drawn0.step)⟩
      replace c13:=Bool.eq_false_iff.mpr c13
      subst c13
      have H1 : (if (wrap64 (bt a0 a1)) ≥ 240 then (if (wrap64 (bt a0 a1)) < 248 then (gangerref09_Rune.j2 kj10 a0 a1 (wrap64 ((wrap64 (bt a0 a1)) - 240)) 3 65536) else (some (0,0))) else (some (0,0))) = some (r1,r2):=by rw [if_neg (show ¬ (false = true) by decide)] at H;exact H
      clear H
      have H:=H1
      clear H1
      by_cases c14 : (wrap64 (bt a0 a1)) ≥ 240
      rotate_left
      ·rw [if_neg c14] at H
       have c14b0 : decide (240≤(wrap64 (bt a0 a1))) = false:=decide_eq_false c14
       clear c14
       simp only [Option.some.injEq,Prod.mk.injEq] at H
       obtain ⟨rfl,rfl⟩:=H
       go_wp2
       go_ret2
       exact ⟨by first|rfl|(simp;done)|(simp [*];done),by repeat (first|exact Drawn0.refl _|apply Drawn0.step)⟩
      rw [if_pos c14] at H
      have c14b0 : decide (240≤(wrap64 (bt a0 a1))) = true:=decide_eq_true c14
      clear c14
      by_cases c15 : (wrap64 (bt a0 a1)) < 248
      rotate_left
      ·rw [if_neg c15] at H
       have c15b0 : decide ((wrap64 (bt a0 a1)) < 248) = false:=decide_eq_false c15
       clear c15
       simp only [Option.some.injEq,Prod.mk.injEq] at H
       obtain ⟨rfl,rfl⟩:=H
       go_wp2
       go_ret2
       exact ⟨by first|rfl|(simp;done)|(simp [*];done),by repeat (first|exact Drawn0.refl _|apply Drawn0.step)⟩
      rw [if_pos c15] at H
      have c15b0 : decide ((wrap64 (bt a0 a1)) < 248) = true:=decide_eq_true c15
      clear c15
      have H':=Am H
      clear H
      go_wp2
      go_meet
      case rel=>exact ⟨_,(wrap64 ((wrap64 (bt a0 a1)) - 240)),(3),(65536),(by first|rfl|(simp;done)|(simp [*];done)),(by first|rfl|(simp;done)|(simp [*];done)),(by first|rfl|(simp;done)|(simp [*];done)),H',⟨by have:=HJ7.out;have:=HJ10.out;first|omega|exact Nat.le_refl _⟩,by repeat (first|exact Drawn0.refl _|apply Drawn0.step)⟩
 case rest =>
  clear HC7
  obtain ⟨kq,x6_6,x7_6,x8_6,rfl,rfl,rfl,HA,HJ6,⟨mc6,rfl⟩⟩:=hcut
  cases kq with
  | zero=>exact absurd HA.out (by simp [gangerref09_Rune.j2])
  | succ kj6 =>
   have H:=HA.out
   clear HA
   simp only [gangerref09_Rune.j2] at H
   have H':=Am H
   clear H
   go_wp2
   go_loopg [6,9] kj6 (fun kq v6 v9 w'=>∃ (x6_2 : Int) (x9_2 : Int),v6 = .int .i64 x6_2∧v9 = .int .i64 x9_2∧Aside0 (gangerref09_Rune.l0 kq a0 a1 x6_2 x7_6 x8_6 x9_2 = some (r1,r2))∧Aside0 (kq≤kj6)∧Drawn0 w w')
   case atStart=>exact ⟨(x6_6),(1),(by first|rfl|(simp;done)|(simp [*];done)),(by first|rfl|(simp;done)|(simp [*];done)),H',⟨Nat.le_refl _⟩,by repeat (first|exact Drawn0.refl _|apply Drawn0.step)⟩
   case round =>
    clear H'
    obtain ⟨x6_2,x9_2,rfl,rfl,HA,HK2,⟨m2,rfl⟩⟩:=hrel
    cases gk with
    | zero=>exact absurd HA.out (by simp [gangerref09_Rune.l0])
    | succ k2 =>
     have H:=HA.out
     clear HA
     simp only [gangerref09_Rune.l0] at H
     by_cases c16 : x9_2≤x7_6
     rotate_left
     ·rw [if_neg c16] at H
      have c16b0 : decide (x9_2≤x7_6) = false:=decide_eq_false c16
      clear c16
      by_cases c19 : x6_2 < x8_6
      ·rw [if_pos c19] at H
       have c19b0 : decide (x6_2 < x8_6) = true:=decide_eq_true c19
       clear c19
       simp only [Option.some.injEq,Prod.mk.injEq] at H
       obtain ⟨rfl,rfl⟩:=H
       go_wp2
       go_ret2
       exact ⟨by first|rfl|(simp;done)|(simp [*];done),by repeat (first|exact Drawn0.refl _|apply Drawn0.step)⟩
      rw [if_neg c19] at H
      have c19b0 : decide (x6_2 < x8_6) = false:=decide_eq_false c19
      clear c19
      by_cases c20 : x6_2 > 1114111
      ·rw [if_pos c20] at H
       have c20b0 : decide (1114111 < x6_2) = true:=decide_eq_true c20
       clear c20
       simp only [Option.some.injEq,Prod.mk.injEq] at H
       obtain ⟨rfl,rfl⟩:=H
       go_wp2
       go_ret2
       exact ⟨by first|rfl|(simp;done)|(simp [*];done),by repeat (first|exact Drawn0.refl _|apply Drawn0.step)⟩
      rw [if_neg c20] at H
      have c20b0 : decide (1114111 < x6_2) = false:=decide_eq_false c20
      clear c20
      by_cases c21 : x6_2 ≥ 55296
      rotate_left
      ·rw [if_neg c21] at H
       have c21b0 : decide (55296≤x6_2) = false:=decide_eq_false c21
       clear c21
       simp only [Option.some.injEq,Prod.mk.injEq] at H
       obtain ⟨rfl,rfl⟩:=H
       go_wp2
       go_ret2
       exact ⟨by first|rfl|(simp;done)|(simp [*];done),by repeat (first|exact Drawn0.refl _|apply Drawn0.step)⟩
      rw [if_pos c21] at H
      have c21b0 : decide (55296≤x6_2) = true:=decide_eq_true c21
      clear c21
      by_cases c22 : x6_2≤57343
      ·rw [if_pos c22] at H
       have c22b0 : decide (x6_2≤57343) = true:=decide_eq_true c22
       clear c22
       simp only [Option.some.injEq,Prod.mk.injEq] at H
       obtain ⟨rfl,rfl⟩:=H
       go_wp2
       go_ret2
       exact ⟨by first|rfl|(simp;done)|(simp [*];done),by repeat (first|exact Drawn0.refl _|apply Drawn0.step)⟩
      rw [if_neg c22] at H
      have c22b0 : decide (x6_2≤57343) = false:=decide_eq_false c22
      clear c22
      simp only [Option.some.injEq,Prod.mk.injEq] at H
      obtain ⟨rfl,rfl⟩:=H
      go_wp2
      go_ret2
      exact ⟨by first|rfl|(simp;done)|(simp [*];done),by repeat (first|exact Drawn0.refl _|apply Drawn0.step)⟩
     rw [if_pos c16] at H
     have c16b0 : decide (x9_2≤x7_6) = true:=decide_eq_true c16
     clear c16
     replace H:=oB H
     obtain ⟨⟨t212,t213⟩,A170,H⟩:=H
     replace H : (if t213 = true then (gangerref09_Rune.l0 k2 a0 a1 (wrap64 ((wrap64 (x6_2 * 64)) + t212)) x7_6 x8_6 (wrap64 (x9_2 + 1))) else (some (0,0))) = some (r1,r2):=H
     have A17:=Am A170
     clear A170
     by_cases c18 : t213 = true
     rotate_left
     ·replace c18:=Bool.eq_false_iff.mpr c18
      subst c18
      have H1 : (some (0,0)) = some (r1,r2):=by rw [if_neg (show ¬ (false = true) by decide)] at H;exact H
      clear H
      have H:=H1
      clear H1
      simp only [Option.some.injEq,Prod.mk.injEq] at H
      obtain ⟨rfl,rfl⟩:=H
      go_wp2_with (first|((with_reducible refine gC (f:=76) rfl ?_);refine goesL_ (some 56) rfl rfl Tryd.func76 (by kernel_rfl) rfl #[.string a0,.int .i64 (wrap64 (a1 + x9_2))] rfl (by (try simp only [mT,mC,mN]);first|done|rfl|(simp only [lD,lT];rfl)) ?_;(with_reducible refine (gangerref09_more.calls a0 (wrap64 (a1 + x9_2)) t212 false _ A17.out).mono ?_);rintro e w' ⟨rfl,⟨nd,rfl⟩⟩;refine ⟨_,rfl,?_⟩))
      go_ret2
      exact ⟨by first|rfl|(simp;done)|(simp [*];done),by repeat (first|exact Drawn0.refl _|apply Drawn0.step)⟩
     subst c18
     have H1 : (gangerref09_Rune.l0 k2 a0 a1 (wrap64 ((wrap64 (x6_2 * 64)) + t212)) x7_6 x8_6 (wrap64 (x9_2 + 1))) = some (r1,r2):=by rw [if_pos rfl] at H;exact H
     clear H
     have H:=H1
     clear H1
     have H':=Am H
     clear H
     go_wp2_with (first|((with_reducible refine gC (f:=76) rfl ?_);refine goesL_ (some 56) rfl rfl Tryd.func76 (by kernel_rfl) rfl #[.string a0,.int .i64 (wrap64 (a1 + x9_2))] rfl (by (try simp only [mT,mC,mN]);first|done|rfl|(simp only [lD,lT];rfl)) ?_;(with_reducible refine (gangerref09_more.calls a0 (wrap64 (a1 + x9_2)) t212 true _ A17.out).mono ?_);rintro e w' ⟨rfl,⟨nd,rfl⟩⟩;refine ⟨_,rfl,?_⟩))
     go_roundg k2
     case measure=>have:=HJ6.out;have:=HK2.out;omega
     case rel=>exact ⟨(wrap64 ((wrap64 (x6_2 * 64)) + t212)),(wrap64 (x9_2 + 1)),(by first|rfl|(simp;done)|(simp [*];done)),(by first|rfl|(simp;done)|(simp [*];done)),H',⟨by have:=HJ6.out;have:=HK2.out;omega⟩,by repeat (first|exact Drawn0.refl _|apply Drawn0.step)⟩
end Go.Proofs.YtakdneopmojjdaaDoor.P
