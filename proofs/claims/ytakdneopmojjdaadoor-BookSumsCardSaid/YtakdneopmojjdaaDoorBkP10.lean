/- cut to what one law reaches -/
import Derived.Test.YtakdneopmojjdaaDoorBkShort
import Derived.Test.YtakdneopmojjdaaDoorBkP0
import Derived.Test.YtakdneopmojjdaaDoorBkP6
namespace Go.Proofs.YtakdneopmojjdaaDoor.P
open Go.RowKit Go.Proofs.YtakdneopmojjdaaDoorW.PrintWords Go.Proofs.YtakdneopmojjdaaDoorW.PrintLast Go.Proofs.YtakdneopmojjdaaDoorW.PrintMore
attribute [local go_sem] max2_int min2_int max_two min_two max_three min_three max_four min_four   -- for this text's walks alone
set_option linter.unusedVariables false
set_option linter.unusedSimpArgs false
attribute [local go_sem] isSome_setCell
mutual
def gangerlaw20_many.j0 : Nat→List (S24)→Bool→Option (Bool)
 | 0,_,_=>none
 | k + 1,x0,x23=>if x23 = true then (some true) else (gangerlaw20_many.l0 k x0 0)
def gangerlaw20_many.l0 : Nat→List (S24)→Int→Option (Bool)
 | 0,_,_=>none
 | k + 1,x0,x5=>if x5 < (x0.length : Int) then (if 0≤x5 then (if (((rd_T24 x0 x5).f1).size : Int) > 300 then (some true) else (gangerlaw20_many.l0 k x0 (wrap64 (x5 + 1)))) else (none)) else (some false)
end
def gangerlaw20_many.f (k : Nat) (l0 : List (S24)) (a1 : ByteArray) : Option (Bool):=if (l0.length : Int) > 300 then (if (l0.length : Int)≤2000 then (gangerlaw20_many.j0 k l0 true) else (if (l0.length : Int) > 3000 then (gangerlaw20_many.j0 k l0 true) else (gangerlaw20_many.j0 k l0 (decide ((a1.size : Int) > 300))))) else (if (l0.length : Int) > 3000 then (gangerlaw20_many.j0 k l0 true) else (gangerlaw20_many.j0 k l0 (decide ((a1.size : Int) > 300))))
set_option maxHeartbeats 8000000 in
set_option maxRecDepth 100000 in
theorem gangerlaw20_many.calls (k : Nat) (A0 : Option Addr) (c0 : Nat) (l0 : List (S24)) (a1 : ByteArray) (r : Bool) (w : World) (hr0 : Kd.C k24 w A0 l0.length l0) (hc0 : l0.length≤c0) (h : gangerlaw20_many.f k l0 a1 = some r) :
  Calls Tryd.prog 11 #[.slice A0 l0.length c0,.string a1] w fun e w'=>e = .returned (.bool r)∧Drawn0 w w':=by
 have HR0:=Am hr0
 have HC0:=Am hc0
 clear hr0 hc0
 have H : (if (l0.length : Int) > 300 then (if (l0.length : Int)≤2000 then (gangerlaw20_many.j0 k l0 true) else (if (l0.length : Int) > 3000 then (gangerlaw20_many.j0 k l0 true) else (gangerlaw20_many.j0 k l0 (decide ((a1.size : Int) > 300))))) else (if (l0.length : Int) > 3000 then (gangerlaw20_many.j0 k l0 true) else (gangerlaw20_many.j0 k l0 (decide ((a1.size : Int) > 300))))) = some r:=h
 clear h
 have HC3:=Am H
 clear H
 go_enter Tryd.func11,Tryd.ntmps11
 go_upto_region 1 with (fail)
 go_cut [23] (fun v23 wc=>∃ (kq : Nat) (x23_2 : Bool),v23 = .bool x23_2∧Aside0 (gangerlaw20_many.j0 kq l0 x23_2 = some r)∧Aside0 (kq≤k)∧Drawn0 w wc)
 case first =>
  have H:=HC3.out
  clear HC3
  by_cases c4 : (l0.length : Int) > 300
  rotate_left
  ·rw [if_neg c4] at H
   have c4b0 : decide (300 < (l0.length : Int)) = false:=decide_eq_false c4
   have c4b1 : decide (300 < l0.length) = false:=decide_eq_false (by omega)
   clear c4
   (first|rw [c4b0]|(simp only [iW,iV];rw [c4b0])|skip)
   by_cases c7 : (l0.length : Int) > 3000
   ·rw [if_pos c7] at H
    have c7b0 : decide (3000 < (l0.length : Int)) = true:=decide_eq_true c7
    have c7b1 : decide (3000 < l0.length) = true:=decide_eq_true (by omega)
    clear c7
    have H':=Am H
    clear H
    go_wp2
    go_meet
    case rel=>exact ⟨_,(true),(by first|rfl|(simp;done)|(simp [*];done)),H',⟨by first|omega|exact Nat.le_refl _⟩,by repeat (first|exact Drawn0.refl _|apply Drawn0.step)⟩
   rw [if_neg c7] at H
   have c7b0 : decide (3000 < (l0.length : Int)) = false:=decide_eq_false c7
   have c7b1 : decide (3000 < l0.length) = false:=decide_eq_false (by omega)
   clear c7
   have H':=Am H
   clear H
   go_wp2
   go_meet
   case rel=>exact ⟨_,(decide ((a1.size : Int) > 300)),(by first|rfl|(simp;done)|(simp [*];done)),H',⟨by first|omega|exact Nat.le_refl _⟩,by repeat (first|exact Drawn0.refl _|apply Drawn0.step)⟩
  rw [if_pos c4] at H
  have c4b0 : decide (300 < (l0.length : Int)) = true:=decide_eq_true c4
  have c4b1 : decide (300 < l0.length) = true:=decide_eq_true (by omega)
  clear c4
  (first|rw [c4b0]|(simp only [iW,iV];rw [c4b0])|skip)
  by_cases c5 : (l0.length : Int)≤2000
  ·rw [if_pos c5] at H
   have c5b0 : decide ((l0.length : Int)≤2000) = true:=decide_eq_true c5
   have c5b1 : decide (l0.length≤2000) = true:=decide_eq_true (by omega)
   clear c5
   have H':=Am H
   clear H
   go_wp2
   go_meet
   case rel=>exact ⟨_,(true),(by first|rfl|(simp;done)|(simp [*];done)),H',⟨by first|omega|exact Nat.le_refl _⟩,by repeat (first|exact Drawn0.refl _|apply Drawn0.step)⟩
  rw [if_neg c5] at H
  have c5b0 : decide ((l0.length : Int)≤2000) = false:=decide_eq_false c5
  have c5b1 : decide (l0.length≤2000) = false:=decide_eq_false (by omega)
  clear c5
  by_cases c6 : (l0.length : Int) > 3000
  ·rw [if_pos c6] at H
   have c6b0 : decide (3000 < (l0.length : Int)) = true:=decide_eq_true c6
   have c6b1 : decide (3000 < l0.length) = true:=decide_eq_true (by omega)
   clear c6
   have H':=Am H
   clear H
   go_wp2
   go_meet
   case rel=>exact ⟨_,(true),(by first|rfl|(simp;done)|(simp [*];done)),H',⟨by first|omega|exact Nat.le_refl _⟩,by repeat (first|exact Drawn0.refl _|apply Drawn0.step)⟩
  rw [if_neg c6] at H
  have c6b0 : decide (3000 < (l0.length : Int)) = false:=decide_eq_false c6
  have c6b1 : decide (3000 < l0.length) = false:=decide_eq_false (by omega)
  clear c6
  have H':=Am H
  clear H
  go_wp2
  go_meet
  case rel=>exact ⟨_,(decide ((a1.size : Int) > 300)),(by first|rfl|(simp;done)|(simp [*];done)),H',⟨by first|omega|exact Nat.le_refl _⟩,by repeat (first|exact Drawn0.refl _|apply Drawn0.step)⟩
 case rest =>
  clear HC3
  obtain ⟨kq,x23_2,rfl,HA,HJ2,⟨mc2,rfl⟩⟩:=hcut
  cases kq with
  | zero=>exact absurd HA.out (by simp [gangerlaw20_many.j0])
  | succ kj2 =>
   have H:=HA.out
   clear HA
   simp only [gangerlaw20_many.j0] at H
   by_cases c8 : x23_2 = true
   ·subst c8
    have H1 : (some true) = some r:=by rw [if_pos rfl] at H;exact H
    clear H
    have H:=H1
    clear H1
    obtain rfl:=Option.some.inj H
    go_wp2
    go_ret
    exact ⟨by first|rfl|(simp;done)|(simp [*];done),by repeat (first|exact Drawn0.refl _|apply Drawn0.step)⟩
   replace c8:=Bool.eq_false_iff.mpr c8
   subst c8
   have H1 : (gangerlaw20_many.l0 kj2 l0 0) = some r:=by rw [if_neg (show ¬ (false = true) by decide)] at H;exact H
   clear H
   have H:=H1
   clear H1
   have H':=Am H
   clear H
   go_wp2
   go_loopg [5] kj2 (fun kq v5 w'=>∃ (x5_2 : Int),v5 = .int .i64 x5_2∧Aside0 (gangerlaw20_many.l0 kq l0 x5_2 = some r)∧Aside0 (kq≤kj2)∧Drawn0 w w')
   case atStart=>exact ⟨(0),(by first|rfl|(simp;done)|(simp [*];done)),H',⟨Nat.le_refl _⟩,by repeat (first|exact Drawn0.refl _|apply Drawn0.step)⟩
   case round =>
    clear H'
    obtain ⟨x5_2,rfl,HA,HK2,⟨m2,rfl⟩⟩:=hrel
    cases gk with
    | zero=>exact absurd HA.out (by simp [gangerlaw20_many.l0])
    | succ k2 =>
     have H:=HA.out
     clear HA
     simp only [gangerlaw20_many.l0] at H
     by_cases c9 : x5_2 < (l0.length : Int)
     rotate_left
     ·rw [if_neg c9] at H
      have c9b0 : decide (x5_2 < (l0.length : Int)) = false:=decide_eq_false c9
      clear c9
      obtain rfl:=Option.some.inj H
      go_wp2
      go_ret
      exact ⟨by first|rfl|(simp;done)|(simp [*];done),by repeat (first|exact Drawn0.refl _|apply Drawn0.step)⟩
     rw [if_pos c9] at H
     have c9b0 : decide (x5_2 < (l0.length : Int)) = true:=decide_eq_true c9
     clear c9
     by_cases c10 : 0≤x5_2
     rotate_left
     ·rw [if_neg c10] at H
      exact absurd H (by simp)
     rw [if_pos c10] at H
     have c10b0 : decide (0≤x5_2) = true:=decide_eq_true c10
     clear c10
     by_cases c11 : (((rd_T24 l0 x5_2).f1).size : Int) > 300
     ·rw [if_pos c11] at H
      have c11b0 : decide (300 < (((rd_T24 l0 x5_2).f1).size : Int)) = true:=decide_eq_true c11
      have c11b1 : decide (300 < ((rd_T24 l0 x5_2).f1).size) = true:=decide_eq_true (by omega)
      clear c11
      obtain rfl:=Option.some.inj H
      have p208 : 0≤(x5_2 : Int):=of_decide_eq_true (by first|(with_reducible assumption)|assumption)
      have q208 : x5_2 < (l0.length : Int):=of_decide_eq_true (by first|(with_reducible assumption)|assumption)
      obtain ⟨ad208,e208,hx208_0,hx208_1,hx208_2,hx208_3,hx208_4,hx208_5⟩:=at_T24 HR0.out x5_2 p208 q208
      cases e208
      replace p208:=eq_true p208
      replace q208:=eq_true q208
      go_wp2
      go_ret
      exact ⟨by first|rfl|(simp;done)|(simp [*];done),by repeat (first|exact Drawn0.refl _|apply Drawn0.step)⟩
     rw [if_neg c11] at H
     have c11b0 : decide (300 < (((rd_T24 l0 x5_2).f1).size : Int)) = false:=decide_eq_false c11
     have c11b1 : decide (300 < ((rd_T24 l0 x5_2).f1).size) = false:=decide_eq_false (by omega)
     clear c11
     have H':=Am H
     clear H
     have p208 : 0≤(x5_2 : Int):=of_decide_eq_true (by first|(with_reducible assumption)|assumption)
     have q208 : x5_2 < (l0.length : Int):=of_decide_eq_true (by first|(with_reducible assumption)|assumption)
     obtain ⟨ad208,e208,hx208_0,hx208_1,hx208_2,hx208_3,hx208_4,hx208_5⟩:=at_T24 HR0.out x5_2 p208 q208
     cases e208
     replace p208:=eq_true p208
     replace q208:=eq_true q208
     go_wp2
     go_roundg k2
     case measure=>have:=HJ2.out;have:=HK2.out;omega
     case rel=>exact ⟨(wrap64 (x5_2 + 1)),(by first|rfl|(simp;done)|(simp [*];done)),H',⟨by have:=HJ2.out;have:=HK2.out;omega⟩,by repeat (first|exact Drawn0.refl _|apply Drawn0.step)⟩
def book_Of.l0 : Nat→Int→Int→Int→List (S24)→Int→Int→Option (Int × Int)
 | 0,_,_,_,_,_,_=>none
 | k + 1,x1,x6,x7,x13,x14,x15=>if x15 < x14 then (if 0≤x15 then (if x15 < (x13.length : Int) then (if ((rd_T24 x13 x15).f0) = x1 then (book_Of.l0 k x1 (wrap64 (x6 + ((rd_T24 x13 x15).f3))) (wrap64 (x7 + 1)) x13 x14 (wrap64 (x15 + 1))) else (book_Of.l0 k x1 x6 x7 x13 x14 (wrap64 (x15 + 1)))) else (none)) else (none)) else (some (x6,x7))
def book_Of.f (k : Nat) (l0 : List (S24)) (a1 : Int) : Option (Int × Int):=(book_Check.f k l0).bind fun t209=>(if t209 = 0 then (book_Of.l0 k a1 0 0 l0 (l0.length : Int) 0) else (some (0,0)))
set_option maxHeartbeats 8000000 in
set_option maxRecDepth 100000 in
theorem book_Of.calls (k : Nat) (A0 : Option Addr) (c0 : Nat) (l0 : List (S24)) (a1 : Int) (r1 : Int) (r2 : Int) (w : World) (hG : Glob w) (hr0 : Kd.C k24 w A0 l0.length l0) (hc0 : l0.length≤c0) (h : book_Of.f k l0 a1 = some (r1,r2)) :
  Calls Tryd.prog 15 #[.slice A0 l0.length c0,.int .u32 a1] w fun e w'=>e = .returned (.tuple #[.int .i64 r1,.int .i64 r2])∧Below w.heap.size w w':=by
 have hu24:=Tryd.underlying24
 have HG:=Am hG
 clear hG
 have HR0:=Am hr0
 have HC0:=Am hc0
 clear hr0 hc0
 have HB:=Am (Below.refl w.heap.size w)
 have H : ((book_Check.f k l0).bind fun t209=>(if t209 = 0 then (book_Of.l0 k a1 0 0 l0 (l0.length : Int) 0) else (some (0,0)))) = some (r1,r2):=h
 clear h
 replace H:=oB H
 obtain ⟨t209,A30,H⟩:=H
 try dsimp only at H
 have A3:=Am A30
 clear A30
 by_cases c4 : t209 = 0
 rotate_left
 ·rw [if_neg c4] at H
  have c4b0 : (t209 == 0) = false:=beq_eq_false_iff_ne.mpr c4
  have c4b1 : (t209 != 0) = true:=bne_iff_ne.mpr c4
  simp only [Option.some.injEq,Prod.mk.injEq] at H
  obtain ⟨rfl,rfl⟩:=H
  go_enter Tryd.func15,Tryd.ntmps15
  go_wp2_with (first|((with_reducible refine gC (f:=12) rfl ?_);refine goesL_ (some 11) rfl rfl Tryd.func12 (by kernel_rfl) rfl #[.slice A0 l0.length c0] rfl (by (try simp only [mT,mC,mN]);first|done|rfl|(simp only [lD,lT];rfl)) ?_;(with_reducible refine (book_Check.calls k _ _ l0 t209 _ ?side1 ?side2 ?side3 A3.out).mono ?_);(case side1=>exact Glob.below HG.out (by repeat (first|(with_reducible first|exact HB.out|apply bL|apply pN|apply bE)|exact HB.out)));(case side2=>repeat (first|exact HR0.out|(with_reducible refine Kd.C_alloc ?_ _)|(with_reducible refine Kd.C_drewN ?_ _)|(with_reducible refine Kd.C_drew ?_)));(case side3=>exact HC0.out);rintro e w14 ⟨rfl,hb⟩;refine ⟨_,rfl,?_⟩;have n0_:=Am (below_step (by repeat (first|(with_reducible first|exact HB.out|apply bL|apply pN|apply bE)|exact HB.out)) hb);clear HB;have HB:=n0_;clear n0_))
  go_ret2
  exact ⟨by first|rfl|(simp [errW_none,errW_some] <;> rfl)|(simp [*,errW_none,errW_some] <;> rfl)|(simp [bne,isE_]),by repeat (first|(with_reducible first|exact HB.out|apply bL|apply pN|apply bE)|exact HB.out)⟩
 rw [if_pos c4] at H
 have c4b0 : (t209 == 0) = true:=beq_iff_eq.mpr c4
 have c4b1 : (t209 != 0) = false:=bne_eq_false_iff_eq.mpr c4
 clear c4
 have H':=Am H
 clear H
 go_enter Tryd.func15,Tryd.ntmps15
 go_wp2_with (first|((with_reducible refine gC (f:=12) rfl ?_);refine goesL_ (some 11) rfl rfl Tryd.func12 (by kernel_rfl) rfl #[.slice A0 l0.length c0] rfl (by (try simp only [mT,mC,mN]);first|done|rfl|(simp only [lD,lT];rfl)) ?_;(with_reducible refine (book_Check.calls k _ _ l0 t209 _ ?side1 ?side2 ?side3 A3.out).mono ?_);(case side1=>exact Glob.below HG.out (by repeat (first|(with_reducible first|exact HB.out|apply bL|apply pN|apply bE)|exact HB.out)));(case side2=>repeat (first|exact HR0.out|(with_reducible refine Kd.C_alloc ?_ _)|(with_reducible refine Kd.C_drewN ?_ _)|(with_reducible refine Kd.C_drew ?_)));(case side3=>exact HC0.out);rintro e w5 ⟨rfl,hb⟩;refine ⟨_,rfl,?_⟩;have n0_:=Am (below_step (by repeat (first|(with_reducible first|exact HB.out|apply bL|apply pN|apply bE)|exact HB.out)) hb);clear HB;have HB:=n0_;clear n0_))
 go_loopg [6,7,15] k (fun kq v6 v7 v15 w'=>∃ (x6_1 : Int) (x7_1 : Int) (x15_1 : Int),v6 = .int .i64 x6_1∧v7 = .int .i64 x7_1∧v15 = .int .i64 x15_1∧Aside0 (book_Of.l0 kq a1 x6_1 x7_1 l0 (l0.length : Int) x15_1 = some (r1,r2))∧Aside0 (kq≤k)∧Aside0 (Below w.heap.size w w'))
 case atStart=>exact ⟨(0),(0),(0),(by first|rfl|(simp;done)|(simp [*];done)),(by first|rfl|(simp;done)|(simp [*];done)),(by first|rfl|(simp;done)|(simp [*];done)),H',⟨Nat.le_refl _⟩,⟨by repeat (first|(with_reducible first|exact HB.out|apply bL|apply pN|apply bE)|exact HB.out)⟩⟩
 case round =>
  clear H'
  obtain ⟨x6_1,x7_1,x15_1,rfl,rfl,rfl,HA,HK1,HB⟩:=hrel
  cases gk with
  | zero=>exact absurd HA.out (by simp [book_Of.l0])
  | succ k1 =>
   have H:=HA.out
   clear HA
   simp only [book_Of.l0] at H
   by_cases c6 : x15_1 < (l0.length : Int)
   rotate_left
   ·rw [if_neg c6] at H
    have c6b0 : decide (x15_1 < (l0.length : Int)) = false:=decide_eq_false c6
    clear c6
    simp only [Option.some.injEq,Prod.mk.injEq] at H
    obtain ⟨rfl,rfl⟩:=H
    go_wp2
    go_ret2
    exact ⟨by first|rfl|(simp [errW_none,errW_some] <;> rfl)|(simp [*,errW_none,errW_some] <;> rfl)|(simp [bne,isE_]),by repeat (first|(with_reducible first|exact HB.out|apply bL|apply pN|apply bE)|exact HB.out)⟩
   rw [if_pos c6] at H
   have c6b0 : decide (x15_1 < (l0.length : Int)) = true:=decide_eq_true c6
   clear c6
   by_cases c7 : 0≤x15_1
   rotate_left
   ·rw [if_neg c7] at H
    exact absurd H (by simp)
   rw [if_pos c7] at H
   have c7b0 : decide (0≤x15_1) = true:=decide_eq_true c7
   clear c7
   by_cases c8 : x15_1 < (l0.length : Int)
   rotate_left
   ·rw [if_neg c8] at H
    exact absurd H (by simp)
   rw [if_pos c8] at H
   have c8b0 : decide (x15_1 < (l0.length : Int)) = true:=decide_eq_true c8
   clear c8
   by_cases c9 : ((rd_T24 l0 x15_1).f0) = a1
   rotate_left
   ·rw [if_neg c9] at H
    have c9b0 : (((rd_T24 l0 x15_1).f0) == a1) = false:=beq_eq_false_iff_ne.mpr c9
    have c9b1 : (((rd_T24 l0 x15_1).f0) != a1) = true:=bne_iff_ne.mpr c9
    have H':=Am H
    clear H
    have p210 : 0≤(x15_1 : Int):=of_decide_eq_true (by first|(with_reducible assumption)|assumption)
    have q210 : x15_1 < (l0.length : Int):=of_decide_eq_true (by first|(with_reducible assumption)|assumption)
    obtain ⟨ad210,e210,hx210_0,hx210_1,hx210_2,hx210_3,hx210_4,hx210_5⟩:=at_T24 HR0.out x15_1 p210 q210
    cases e210
    replace hx210_0:=(HB.out.cell (wB w _ hx210_0)).trans hx210_0
    replace hx210_1:=(HB.out.cell (wB w _ hx210_1)).trans hx210_1
    replace hx210_2:=(HB.out.cell (wB w _ hx210_2)).trans hx210_2
    replace hx210_3:=(HB.out.cell (wB w _ hx210_3)).trans hx210_3
    replace hx210_4:=(HB.out.cell (wB w _ hx210_4)).trans hx210_4
    replace hx210_5:=(HB.out.cell (wB w _ hx210_5)).trans hx210_5
    replace p210:=eq_true p210
    replace q210:=eq_true q210
    go_wp2_with (first|((with_reducible refine gD (N:=9) rfl ?_);refine box_event ?hg (N:=9) ?hd (cs:=#[.int .u32 0,.string (⟨#[]⟩ : ByteArray),.int .i64 0,.int .i64 0,.int .i64 0,.int .i64 0]) (t:=24) ?hr ?_;(case hd=>rfl);(case hg=>rfl);(case hr=>first|(go_simp;done)|(go_simp;rfl));intro gb211 hg w12 hbox hb;have n0_:=Am (below_step (by repeat (first|(with_reducible first|exact HB.out|apply bL|apply pN|apply bE)|exact HB.out)) hb);have n1_:=Am (hbox);have n2_:=Am ((by rw [hg];exact (bZ (by repeat (first|(with_reducible first|exact HB.out|apply bL|apply pN|apply bE)|exact HB.out))) : w.heap.size≤gb211));have n3_:=n2_;clear HB;have HB:=n0_;have BK211:=n1_;have GW211:=n2_;have GE211:=n3_;clear n0_ n1_ n2_ n3_;clear hb hbox hg;obtain ⟨X13_0,X13_1,X13_2,X13_3,X13_4,X13_5,Y13_0,Y13_1,Y13_2,Y13_3,Y13_4,Y13_5⟩:=kc6 (w:=w12) (g:=gb211) BK211.out))
    go_roundg k1
    case measure=>have:=HK1.out;omega
    case rel=>exact ⟨(x6_1),(x7_1),(wrap64 (x15_1 + 1)),(by first|rfl|(simp;done)|(simp [*];done)),(by first|rfl|(simp;done)|(simp [*];done)),(by first|rfl|(simp;done)|(simp [*];done)),H',⟨by have:=HK1.out;omega⟩,⟨by repeat (first|(with_reducible first|exact HB.out|apply bL|apply pN|apply bE|refine bS ?_ GE211.out)|exact HB.out)⟩⟩
   rw [if_pos c9] at H
   have c9b0 : (((rd_T24 l0 x15_1).f0) == a1) = true:=beq_iff_eq.mpr c9
   have c9b1 : (((rd_T24 l0 x15_1).f0) != a1) = false:=bne_eq_false_iff_eq.mpr c9
   clear c9
   have H':=Am H
   clear H
   have p210 : 0≤(x15_1 : Int):=of_decide_eq_true (by first|(with_reducible assumption)|assumption)
   have q210 : x15_1 < (l0.length : Int):=of_decide_eq_true (by first|(with_reducible assumption)|assumption)
   obtain ⟨ad210,e210,hx210_0,hx210_1,hx210_2,hx210_3,hx210_4,hx210_5⟩:=at_T24 HR0.out x15_1 p210 q210
   cases e210
   replace hx210_0:=(HB.out.cell (wB w _ hx210_0)).trans hx210_0
   replace hx210_1:=(HB.out.cell (wB w _ hx210_1)).trans hx210_1
   replace hx210_2:=(HB.out.cell (wB w _ hx210_2)).trans hx210_2
   replace hx210_3:=(HB.out.cell (wB w _ hx210_3)).trans hx210_3
   replace hx210_4:=(HB.out.cell (wB w _ hx210_4)).trans hx210_4
   replace hx210_5:=(HB.out.cell (wB w _ hx210_5)).trans hx210_5
   replace p210:=eq_true p210
   replace q210:=eq_true q210
   go_wp2_with (first|((with_reducible refine gD (N:=9) rfl ?_);refine box_event ?hg (N:=9) ?hd (cs:=#[.int .u32 0,.string (⟨#[]⟩ : ByteArray),.int .i64 0,.int .i64 0,.int .i64 0,.int .i64 0]) (t:=24) ?hr ?_;(case hd=>rfl);(case hg=>rfl);(case hr=>first|(go_simp;done)|(go_simp;rfl));intro gb211 hg w10 hbox hb;have n0_:=Am (below_step (by repeat (first|(with_reducible first|exact HB.out|apply bL|apply pN|apply bE)|exact HB.out)) hb);have n1_:=Am (hbox);have n2_:=Am ((by rw [hg];exact (bZ (by repeat (first|(with_reducible first|exact HB.out|apply bL|apply pN|apply bE)|exact HB.out))) : w.heap.size≤gb211));have n3_:=n2_;clear HB;have HB:=n0_;have BK211:=n1_;have GW211:=n2_;have GE211:=n3_;clear n0_ n1_ n2_ n3_;clear hb hbox hg;obtain ⟨X11_0,X11_1,X11_2,X11_3,X11_4,X11_5,Y11_0,Y11_1,Y11_2,Y11_3,Y11_4,Y11_5⟩:=kc6 (w:=w10) (g:=gb211) BK211.out))
   go_roundg k1
   case measure=>have:=HK1.out;omega
   case rel=>exact ⟨(wrap64 (x6_1 + ((rd_T24 l0 x15_1).f3))),(wrap64 (x7_1 + 1)),(wrap64 (x15_1 + 1)),(by first|rfl|(simp;done)|(simp [*];done)),(by first|rfl|(simp;done)|(simp [*];done)),(by first|rfl|(simp;done)|(simp [*];done)),H',⟨by have:=HK1.out;omega⟩,⟨by repeat (first|(with_reducible first|exact HB.out|apply bL|apply pN|apply bE|refine bS ?_ GE211.out)|exact HB.out)⟩⟩
def gangerref09_more.f (a0 : ByteArray) (a1 : Int) : Option (Int × Bool):=if a1 ≥ (a0.size : Int) then (some (0,false)) else (if 0≤a1 then (if a1 < (a0.size : Int) then (if (bt a0 a1) < 128 then (some (0,false)) else (if (bt a0 a1) > 191 then (some (0,false)) else (some (wrap64 ((wrap64 (bt a0 a1)) - 128),true)))) else (none)) else (none))
set_option maxHeartbeats 8000000 in
set_option maxRecDepth 100000 in
theorem gangerref09_more.calls (a0 : ByteArray) (a1 : Int) (r1 : Int) (r2 : Bool) (w : World) (h : gangerref09_more.f a0 a1 = some (r1,r2)) :
  Calls Tryd.prog 76 #[.string a0,.int .i64 a1] w fun e w'=>e = .returned (.tuple #[.int .i64 r1,.bool r2])∧Drawn0 w w':=by
 have H : (if a1 ≥ (a0.size : Int) then (some (0,false)) else (if 0≤a1 then (if a1 < (a0.size : Int) then (if (bt a0 a1) < 128 then (some (0,false)) else (if (bt a0 a1) > 191 then (some (0,false)) else (some (wrap64 ((wrap64 (bt a0 a1)) - 128),true)))) else (none)) else (none))) = some (r1,r2):=h
 clear h
 by_cases c3 : a1 ≥ (a0.size : Int)
 ·rw [if_pos c3] at H
  have c3b0 : decide ((a0.size : Int)≤a1) = true:=decide_eq_true c3
  clear c3
  simp only [Option.some.injEq,Prod.mk.injEq] at H
  obtain ⟨rfl,rfl⟩:=H
  go_enter Tryd.func76,Tryd.ntmps76
  go_wp2
  go_ret2
  exact ⟨by first|rfl|(simp;done)|(simp [*];done),by repeat (first|exact Drawn0.refl _|apply Drawn0.step)⟩
 rw [if_neg c3] at H
 have c3b0 : decide ((a0.size : Int)≤a1) = false:=decide_eq_false c3
 clear c3
 by_cases c4 : 0≤a1
 rotate_left
 ·rw [if_neg c4] at H
  exact absurd H (by simp)
 rw [if_pos c4] at H
 have c4b0 : decide (0≤a1) = true:=decide_eq_true c4
 clear c4
 by_cases c5 : a1 < (a0.size : Int)
 rotate_left
 ·rw [if_neg c5] at H
  exact absurd H (by simp)
 rw [if_pos c5] at H
 have c5b0 : decide (a1 < (a0.size : Int)) = true:=decide_eq_true c5
 clear c5
 by_cases c7 : (bt a0 a1) < 128
 ·rw [if_pos c7] at H
  have c7b0 : decide ((bt a0 a1) < 128) = true:=decide_eq_true c7
  clear c7
  simp only [Option.some.injEq,Prod.mk.injEq] at H
  obtain ⟨rfl,rfl⟩:=H
  have p6 : 0≤(a1 : Int):=of_decide_eq_true (by first|(with_reducible assumption)|assumption)
  have q6 : a1 < (a0.size : Int):=of_decide_eq_true (by first|(with_reducible assumption)|assumption)
  have hx6:=bt_at a0 a1
  replace p6:=eq_true p6
  replace q6:=eq_true q6
  go_enter Tryd.func76,Tryd.ntmps76
  go_wp2
  go_ret2
  exact ⟨by first|rfl|(simp;done)|(simp [*];done),by repeat (first|exact Drawn0.refl _|apply Drawn0.step)⟩
 rw [if_neg c7] at H
 have c7b0 : decide ((bt a0 a1) < 128) = false:=decide_eq_false c7
 clear c7
 by_cases c9 : (bt a0 a1) > 191
 ·rw [if_pos c9] at H
  have c9b0 : decide (191 < (bt a0 a1)) = true:=decide_eq_true c9
  clear c9
  simp only [Option.some.injEq,Prod.mk.injEq] at H
  obtain ⟨rfl,rfl⟩:=H
  have p6 : 0≤(a1 : Int):=of_decide_eq_true (by first|(with_reducible assumption)|assumption)
  have q6 : a1 < (a0.size : Int):=of_decide_eq_true (by first|(with_reducible assumption)|assumption)
  have hx6:=bt_at a0 a1
  replace p6:=eq_true p6
  replace q6:=eq_true q6
  have p8 : 0≤(a1 : Int):=of_decide_eq_true (by first|(with_reducible assumption)|assumption)
  have q8 : a1 < (a0.size : Int):=of_decide_eq_true (by first|(with_reducible assumption)|assumption)
  have hx8:=bt_at a0 a1
  replace p8:=eq_true p8
  replace q8:=eq_true q8
  go_enter Tryd.func76,Tryd.ntmps76
  go_wp2
  go_ret2
  exact ⟨by first|rfl|(simp;done)|(simp [*];done),by repeat (first|exact Drawn0.refl _|apply Drawn0.step)⟩
 rw [if_neg c9] at H
 have c9b0 : decide (191 < (bt a0 a1)) = false:=decide_eq_false c9
 clear c9
 simp only [Option.some.injEq,Prod.mk.injEq] at H
 obtain ⟨rfl,rfl⟩:=H
 have p6 : 0≤(a1 : Int):=of_decide_eq_true (by first|(with_reducible assumption)|assumption)
 have q6 : a1 < (a0.size : Int):=of_decide_eq_true (by first|(with_reducible assumption)|assumption)
 have hx6:=bt_at a0 a1
 replace p6:=eq_true p6
 replace q6:=eq_true q6
 have p8 : 0≤(a1 : Int):=of_decide_eq_true (by first|(with_reducible assumption)|assumption)
 have q8 : a1 < (a0.size : Int):=of_decide_eq_true (by first|(with_reducible assumption)|assumption)
 have hx8:=bt_at a0 a1
 replace p8:=eq_true p8
 replace q8:=eq_true q8
 have p10 : 0≤(a1 : Int):=of_decide_eq_true (by first|(with_reducible assumption)|assumption)
 have q10 : a1 < (a0.size : Int):=of_decide_eq_true (by first|(with_reducible assumption)|assumption)
 have hx10:=bt_at a0 a1
 replace p10:=eq_true p10
 replace q10:=eq_true q10
 go_enter Tryd.func76,Tryd.ntmps76
 go_wp2
 go_ret2
 exact ⟨by first|rfl|(simp;done)|(simp [*];done),by repeat (first|exact Drawn0.refl _|apply Drawn0.step)⟩
end Go.Proofs.YtakdneopmojjdaaDoor.P
