/- cut to what one law reaches -/
import Derived.Test.YtakdneopmojjdaaDoorBkShort
import Derived.Test.YtakdneopmojjdaaDoorBkP0
import Derived.Test.YtakdneopmojjdaaDoorBkP6
import Derived.Test.YtakdneopmojjdaaDoorBkP7
import Derived.Test.YtakdneopmojjdaaDoorBkP9
import Derived.Test.YtakdneopmojjdaaDoorBkP10
namespace Go.Proofs.YtakdneopmojjdaaDoor.P
open Go.RowKit Go.Proofs.YtakdneopmojjdaaDoorW.PrintWords Go.Proofs.YtakdneopmojjdaaDoorW.PrintLast Go.Proofs.YtakdneopmojjdaaDoorW.PrintMore
attribute [local go_sem] max2_int min2_int max_two min_two max_three min_three max_four min_four   -- for this text's walks alone
set_option linter.unusedVariables false
set_option linter.unusedSimpArgs false
attribute [local go_sem] isSome_setCell
mutual
def gangerlaw20_BookSums.j0 : Nat→List (S24)→Int→Bool→Option (Bool)
 | 0,_,_,_=>none
 | k + 1,x0,x1,x23=>if x23 = true then ((gangerlaw20_known.f k).bind fun t282=>(some t282)) else (gangerlaw20_BookSums.l0 k x0 x1 0 0)
def gangerlaw20_BookSums.l0 : Nat→List (S24)→Int→Int→Int→Option (Bool)
 | 0,_,_,_,_=>none
 | k + 1,x0,x1,x5,x6=>if x6 < (x0.length : Int) then (if 0≤x6 then (gangerlaw20_BookSums.l0 k x0 x1 (wrap64 (x5 + (wrap64 (((rd_T24 x0 x6).f2) * ((rd_T24 x0 x6).f3))))) (wrap64 (x6 + 1))) else (none)) else (if (IntKind.u64.wrap (wrap64 ((x0.length : Int) + 1))) = 0 then (none) else (if 0≤(wrap64 (Int.tmod (IntKind.u64.wrap (x1)) (IntKind.u64.wrap (wrap64 ((x0.length : Int) + 1))))) then (if (wrap64 (Int.tmod (IntKind.u64.wrap (x1)) (IntKind.u64.wrap (wrap64 ((x0.length : Int) + 1)))))≤(x0.length : Int) then ((book_Check.f k (x0.take ((wrap64 (Int.tmod (IntKind.u64.wrap (x1)) (IntKind.u64.wrap (wrap64 ((x0.length : Int) + 1))))) : Int).toNat)).bind fun t289=>(if t289 = 0 then (gangerlaw20_BookSums.l1 k x0 x5 0 (wrap64 (Int.tmod (IntKind.u64.wrap (x1)) (IntKind.u64.wrap (wrap64 ((x0.length : Int) + 1))))) 0) else (none))) else (none)) else (none)))
def gangerlaw20_BookSums.l1 : Nat→List (S24)→Int→Int→Int→Int→Option (Bool)
 | 0,_,_,_,_,_=>none
 | k + 1,x0,x5,x7,x8,x9=>if x9 < (x0.length : Int) then (gangerlaw20_BookSums.l2 k x0 x5 x7 x8 x9 true 0) else (if x7 = x5 then ((gangerlaw20_known.f k).bind fun t290=>(some t290)) else (none))
def gangerlaw20_BookSums.l2 : Nat→List (S24)→Int→Int→Int→Int→Bool→Int→Option (Bool)
 | 0,_,_,_,_,_,_,_=>none
 | k + 1,x0,x5,x7,x8,x9,x10,x11=>if x11 < x9 then (if x10 = true then (if 0≤x11 then (if x11 < (x0.length : Int) then (if 0≤x9 then (if x9 < (x0.length : Int) then (gangerlaw20_BookSums.l2 k x0 x5 x7 x8 x9 (((rd_T24 x0 x11).f1).toList != ((rd_T24 x0 x9).f1).toList) (wrap64 (x11 + 1))) else (none)) else (none)) else (none)) else (none)) else (gangerlaw20_BookSums.l2 k x0 x5 x7 x8 x9 false (wrap64 (x11 + 1)))) else (if x10 = true then (if 0≤x9 then (if x9 < (x0.length : Int) then ((book_Total.f k x0 ((rd_T24 x0 x9).f1)).bind fun t294=>(gangerlaw20_BookSums.j4 k x0 x5 (wrap64 (x7 + t294)) x8 x9)) else (none)) else (none)) else (gangerlaw20_BookSums.j4 k x0 x5 x7 x8 x9))
def gangerlaw20_BookSums.j4 : Nat→List (S24)→Int→Int→Int→Int→Option (Bool)
 | 0,_,_,_,_,_=>none
 | k + 1,x0,x5,x7,x8,x9=>if 0≤x8 then (if x8≤(x0.length : Int) then (if 0≤x9 then (if x9 < (x0.length : Int) then ((book_Total.f k (x0.take (x8 : Int).toNat) ((rd_T24 x0 x9).f1)).bind fun t300=>((book_Total.f k x0 ((rd_T24 x0 x9).f1)).bind fun t302=>(if t300 > t302 then (none) else (gangerlaw20_BookSums.l1 k x0 x5 x7 x8 (wrap64 (x9 + 1)))))) else (none)) else (none)) else (none)) else (none)
end
def gangerlaw20_BookSums.f (k : Nat) (l0 : List (S24)) (a1 : Int) : Option (Bool):=(gangerlaw20_many.f k l0 (⟨#[]⟩ : ByteArray)).bind fun t280=>(if t280 = true then (gangerlaw20_BookSums.j0 k l0 a1 true) else (if (l0.length : Int) > 300 then (gangerlaw20_BookSums.j0 k l0 a1 true) else ((book_Check.f k l0).bind fun t281=>(gangerlaw20_BookSums.j0 k l0 a1 (t281 != 0)))))
def gangerlaw20_BookSums.T7 : Bool × List (List Nat × List Nat):=(true,[([],[]),([],[]),([],[]),([1,2],[1,2]),([3],[3]),([4],[4]),([],[]),([],[]),([6,7],[6,7]),([8],[8]),([9],[9]),([5,10],[5,10]),([0,11],[0,11]),([12,0,1,2,3,4,5,6,7,8,9,10,11,12],[0,12])])
def gangerlaw20_BookSums.B7 : List Nat:=[0,0,0,6,14,30,0,0,192,448,960,2046,4095,8191]
theorem gangerlaw20_BookSums.tab7 : rtab .any (opsOf Tryd.f4 7) = gangerlaw20_BookSums.T7:=by kernel_rfl
theorem gangerlaw20_BookSums.bits7 : waitsOk gangerlaw20_BookSums.T7.2 gangerlaw20_BookSums.B7 = true:=by kernel_rfl
def gangerlaw20_BookSums.T19 : Bool × List (List Nat × List Nat):=(true,[([],[]),([0],[0]),([1],[1]),([1],[1]),([2,3,1],[1,2,3]),([4,1],[1,4]),([5,1],[1,5]),([1],[1]),([1],[1]),([7,8,1],[1,7,8]),([9,1],[1,9]),([10,1],[1,10]),([6,11,1],[1,6,11]),([1,12],[1,12]),([13,1,0,1,2,3,4,5,6,7,8,9,10,11,12,13],[0,13])])
def gangerlaw20_BookSums.B19 : List Nat:=[0,1,3,3,15,31,63,3,3,387,899,1923,4095,8191,16383]
theorem gangerlaw20_BookSums.tab19 : rtab .any (opsOf Tryd.f4 19) = gangerlaw20_BookSums.T19:=by kernel_rfl
theorem gangerlaw20_BookSums.bits19 : waitsOk gangerlaw20_BookSums.T19.2 gangerlaw20_BookSums.B19 = true:=by kernel_rfl
def gangerlaw20_BookSums.T22 : Bool × List (List Nat × List Nat):=(true,[([],[]),([],[]),([0,1],[0,1]),([],[]),([],[]),([3,4],[3,4]),([5],[5]),([6],[6]),([2,7],[2,7]),([],[]),([],[]),([],[]),([10,11],[10,11]),([12],[12]),([13],[13]),([9,14,8],[9,14]),([8,15],[8,15])])
def gangerlaw20_BookSums.B22 : List Nat:=[0,0,3,0,0,24,56,120,255,0,0,0,3072,7168,15360,32767,65535]
theorem gangerlaw20_BookSums.tab22 : rtab .any (opsOf Tryd.f4 22) = gangerlaw20_BookSums.T22:=by kernel_rfl
theorem gangerlaw20_BookSums.bits22 : waitsOk gangerlaw20_BookSums.T22.2 gangerlaw20_BookSums.B22 = true:=by kernel_rfl
set_option maxHeartbeats 8000000 in
set_option maxRecDepth 100000 in
theorem gangerlaw20_BookSums.calls (k : Nat) (A0 : Option Addr) (c0 : Nat) (l0 : List (S24)) (a1 : Int) (r : Bool) (w : World) (hG : Glob w) (hr0 : Kd.C k24 w A0 l0.length l0) (hc0 : l0.length≤c0) (h : gangerlaw20_BookSums.f k l0 a1 = some r) :
  Calls Tryd.prog 4 #[.slice A0 l0.length c0,.int .i64 a1] w fun e w'=>e = .returned (.bool r)∧Below w.heap.size w w':=by
 have HG:=Am hG
 clear hG
 have HR0:=Am hr0
 have HC0:=Am hc0
 clear hr0 hc0
 have HB:=Am (Below.refl w.heap.size w)
 have H : ((gangerlaw20_many.f k l0 (⟨#[]⟩ : ByteArray)).bind fun t280=>(if t280 = true then (gangerlaw20_BookSums.j0 k l0 a1 true) else (if (l0.length : Int) > 300 then (gangerlaw20_BookSums.j0 k l0 a1 true) else ((book_Check.f k l0).bind fun t281=>(gangerlaw20_BookSums.j0 k l0 a1 (t281 != 0)))))) = some r:=h
 clear h
 have HC3:=Am H
 clear H
 go_enter Tryd.func4,Tryd.ntmps4
 go_upto_region 1 with (fail)
 go_cut [23] (fun v23 wc=>∃ (kq : Nat) (x23_2 : Bool),v23 = .bool x23_2∧Aside0 (gangerlaw20_BookSums.j0 kq l0 a1 x23_2 = some r)∧Aside0 (kq≤k)∧Aside0 (Below w.heap.size w wc))
 case first =>
  have H:=HC3.out
  clear HC3
  replace H:=oB H
  obtain ⟨t280,A40,H⟩:=H
  try dsimp only at H
  have A4:=Am A40
  clear A40
  by_cases c5 : t280 = true
  ·subst c5
   have H1 : (gangerlaw20_BookSums.j0 k l0 a1 true) = some r:=by rw [if_pos rfl] at H;exact H
   clear H
   have H:=H1
   clear H1
   have H':=Am H
   clear H
   go_wp2_with (first|((with_reducible refine gC (f:=11) rfl ?_);refine goesL_ (some 13) rfl rfl Tryd.func11 (by kernel_rfl) rfl #[.slice A0 l0.length c0,.string (⟨#[]⟩ : ByteArray)] rfl (by (try simp only [mT,mC,mN]);first|done|rfl|(simp only [lD,lT];rfl)) ?_;(with_reducible refine (gangerlaw20_many.calls k _ _ l0 (⟨#[]⟩ : ByteArray) true _ ?side1 ?side2 A4.out).mono ?_);(case side1=>repeat (first|exact (Kd.C_below HR0.out HB.out)|(with_reducible refine Kd.C_alloc ?_ _)|(with_reducible refine Kd.C_drewN ?_ _)|(with_reducible refine Kd.C_drew ?_)));(case side2=>exact HC0.out);rintro e w' ⟨rfl,⟨nd,rfl⟩⟩;refine ⟨_,rfl,?_⟩))
   go_meet
   case rel=>exact ⟨_,(true),(by first|rfl|(simp;done)|(simp [*];done)),H',⟨by first|omega|exact Nat.le_refl _⟩,⟨by repeat (first|(with_reducible first|exact HB.out|apply bL|apply pN|apply bE)|exact HB.out)⟩⟩
  replace c5:=Bool.eq_false_iff.mpr c5
  subst c5
  have H1 : (if (l0.length : Int) > 300 then (gangerlaw20_BookSums.j0 k l0 a1 true) else ((book_Check.f k l0).bind fun t281=>(gangerlaw20_BookSums.j0 k l0 a1 (t281 != 0)))) = some r:=by rw [if_neg (show ¬ (false = true) by decide)] at H;exact H
  clear H
  have H:=H1
  clear H1
  by_cases c6 : (l0.length : Int) > 300
  ·rw [if_pos c6] at H
   have c6b0 : decide (300 < (l0.length : Int)) = true:=decide_eq_true c6
   have c6b1 : decide (300 < l0.length) = true:=decide_eq_true (by omega)
   clear c6
   (first|rw [c6b0]|(simp only [iW,iV];rw [c6b0])|skip)
   have H':=Am H
   clear H
   go_wp2_with (first|((with_reducible refine gC (f:=11) rfl ?_);refine goesL_ (some 13) rfl rfl Tryd.func11 (by kernel_rfl) rfl #[.slice A0 l0.length c0,.string (⟨#[]⟩ : ByteArray)] rfl (by (try simp only [mT,mC,mN]);first|done|rfl|(simp only [lD,lT];rfl)) ?_;(with_reducible refine (gangerlaw20_many.calls k _ _ l0 (⟨#[]⟩ : ByteArray) false _ ?side1 ?side2 A4.out).mono ?_);(case side1=>repeat (first|exact (Kd.C_below HR0.out HB.out)|(with_reducible refine Kd.C_alloc ?_ _)|(with_reducible refine Kd.C_drewN ?_ _)|(with_reducible refine Kd.C_drew ?_)));(case side2=>exact HC0.out);rintro e w' ⟨rfl,⟨nd,rfl⟩⟩;refine ⟨_,rfl,?_⟩))
   go_meet
   case rel=>exact ⟨_,(true),(by first|rfl|(simp;done)|(simp [*];done)),H',⟨by first|omega|exact Nat.le_refl _⟩,⟨by repeat (first|(with_reducible first|exact HB.out|apply bL|apply pN|apply bE)|exact HB.out)⟩⟩
  rw [if_neg c6] at H
  have c6b0 : decide (300 < (l0.length : Int)) = false:=decide_eq_false c6
  have c6b1 : decide (300 < l0.length) = false:=decide_eq_false (by omega)
  clear c6
  (first|rw [c6b0]|(simp only [iW,iV];rw [c6b0])|skip)
  replace H:=oB H
  obtain ⟨t281,A70,H⟩:=H
  try dsimp only at H
  have A7:=Am A70
  clear A70
  have H':=Am H
  clear H
  go_wp2_with (first|((with_reducible refine gC (f:=11) rfl ?_);refine goesL_ (some 13) rfl rfl Tryd.func11 (by kernel_rfl) rfl #[.slice A0 l0.length c0,.string (⟨#[]⟩ : ByteArray)] rfl (by (try simp only [mT,mC,mN]);first|done|rfl|(simp only [lD,lT];rfl)) ?_;(with_reducible refine (gangerlaw20_many.calls k _ _ l0 (⟨#[]⟩ : ByteArray) false _ ?side1 ?side2 A4.out).mono ?_);(case side1=>repeat (first|exact (Kd.C_below HR0.out HB.out)|(with_reducible refine Kd.C_alloc ?_ _)|(with_reducible refine Kd.C_drewN ?_ _)|(with_reducible refine Kd.C_drew ?_)));(case side2=>exact HC0.out);rintro e w' ⟨rfl,⟨nd,rfl⟩⟩;refine ⟨_,rfl,?_⟩)|(go_at_call 12;(with_reducible refine (book_Check.calls k _ _ l0 t281 _ ?side1 ?side2 ?side3 A7.out).mono ?_);(case side1=>exact Glob.below HG.out (by repeat (first|(with_reducible first|exact HB.out|apply bL|apply pN|apply bE)|exact HB.out)));(case side2=>repeat (first|exact (Kd.C_below HR0.out (by repeat (first|(with_reducible first|exact HB.out|apply bL|apply pN|apply bE)|exact HB.out)))|(with_reducible refine Kd.C_alloc ?_ _)|(with_reducible refine Kd.C_drewN ?_ _)|(with_reducible refine Kd.C_drew ?_)));(case side3=>exact HC0.out);rintro e w8 ⟨rfl,hb⟩;have n0_:=Am (below_step (by repeat (first|(with_reducible first|exact HB.out|apply bL|apply pN|apply bE)|exact HB.out)) hb);clear HB;have HB:=n0_;clear n0_))
  go_meet
  case rel=>exact ⟨_,((t281 != 0)),(by first|rfl|(simp;done)|(simp [*];done)),H',⟨by first|omega|exact Nat.le_refl _⟩,⟨by repeat (first|(with_reducible first|exact HB.out|apply bL|apply pN|apply bE)|exact HB.out)⟩⟩
 case rest =>
  clear HC3
  obtain ⟨kq,x23_2,rfl,HA,HJ2,HB⟩:=hcut
  cases kq with
  | zero=>exact absurd HA.out (by simp [gangerlaw20_BookSums.j0])
  | succ kj2 =>
   have H:=HA.out
   clear HA
   simp only [gangerlaw20_BookSums.j0] at H
   by_cases c9 : x23_2 = true
   ·subst c9
    have H1 : ((gangerlaw20_known.f kj2).bind fun t282=>(some t282)) = some r:=by rw [if_pos rfl] at H;exact H
    clear H
    have H:=H1
    clear H1
    replace H:=oB H
    obtain ⟨t282,A100,H⟩:=H
    try dsimp only at H
    have A10:=Am A100
    clear A100
    obtain rfl:=Option.some.inj H
    go_wp2_with (first|((with_reducible refine gC (f:=8) rfl ?_);refine goesL_ (some 24) rfl rfl Tryd.func8 (by kernel_rfl) rfl #[] rfl (by (try simp only [mT,mC,mN]);first|done|rfl|(simp only [lD,lT];rfl)) ?_;(with_reducible refine (gangerlaw20_known.calls kj2  t282 _ ?side1 A10.out).mono ?_);(case side1=>exact Glob.below HG.out (by repeat (first|(with_reducible first|exact HB.out|apply bL|apply pN|apply bE)|exact HB.out)));rintro e w11 ⟨rfl,hb⟩;refine ⟨_,rfl,?_⟩;have n0_:=Am (below_step (by repeat (first|(with_reducible first|exact HB.out|apply bL|apply pN|apply bE)|exact HB.out)) hb);clear HB;have HB:=n0_;clear n0_))
    go_ret
    exact ⟨by first|rfl|(simp [errW_none,errW_some] <;> rfl)|(simp [*,errW_none,errW_some] <;> rfl)|(simp [bne,isE_]),by repeat (first|(with_reducible first|exact HB.out|apply bL|apply pN|apply bE)|exact HB.out)⟩
   replace c9:=Bool.eq_false_iff.mpr c9
   subst c9
   have H1 : (gangerlaw20_BookSums.l0 kj2 l0 a1 0 0) = some r:=by rw [if_neg (show ¬ (false = true) by decide)] at H;exact H
   clear H
   have H:=H1
   clear H1
   have H':=Am H
   clear H
   go_wp2
   go_loopg [5,6] kj2 (fun kq v5 v6 w'=>∃ (x5_2 : Int) (x6_2 : Int),v5 = .int .i64 x5_2∧v6 = .int .i64 x6_2∧Aside0 (gangerlaw20_BookSums.l0 kq l0 a1 x5_2 x6_2 = some r)∧Aside0 (kq≤kj2)∧Aside0 (Below w.heap.size w w'))
   case atStart=>exact ⟨(0),(0),(by first|rfl|(simp;done)|(simp [*];done)),(by first|rfl|(simp;done)|(simp [*];done)),H',⟨Nat.le_refl _⟩,⟨by repeat (first|(with_reducible first|exact HB.out|apply bL|apply pN|apply bE)|exact HB.out)⟩⟩
   case round =>
    clear H'
    obtain ⟨x5_2,x6_2,rfl,rfl,HA,HK2,HB⟩:=hrel
    cases gk with
    | zero=>exact absurd HA.out (by simp [gangerlaw20_BookSums.l0])
    | succ k2 =>
     have H:=HA.out
     clear HA
     simp only [gangerlaw20_BookSums.l0] at H
     by_cases c12 : x6_2 < (l0.length : Int)
     ·rw [if_pos c12] at H
      have c12b0 : decide (x6_2 < (l0.length : Int)) = true:=decide_eq_true c12
      clear c12
      by_cases c13 : 0≤x6_2
      rotate_left
      ·rw [if_neg c13] at H
       exact absurd H (by simp)
      rw [if_pos c13] at H
      have c13b0 : decide (0≤x6_2) = true:=decide_eq_true c13
      clear c13
      have H':=Am H
      clear H
      try go_wp2
      have n0_:=Am (bE HB.out)
      clear HB
      have HB:=n0_
      clear n0_
      have p283 : 0≤(x6_2 : Int):=of_decide_eq_true (by first|(with_reducible assumption)|assumption)
      have q283 : x6_2 < (l0.length : Int):=of_decide_eq_true (by first|(with_reducible assumption)|assumption)
      obtain ⟨ad283,e283,hx283_0,hx283_1,hx283_2,hx283_3,hx283_4,hx283_5⟩:=at_T24 HR0.out x6_2 p283 q283
      have hw283_5:=hx283_5
      have hw283_4:=hx283_4
      have hw283_3:=hx283_3
      have hw283_2:=hx283_2
      have hw283_1:=hx283_1
      have hw283_0:=hx283_0
      cases e283
      replace hx283_0:=(HB.out.cell (wB w _ hx283_0)).trans hx283_0
      replace hx283_1:=(HB.out.cell (wB w _ hx283_1)).trans hx283_1
      replace hx283_2:=(HB.out.cell (wB w _ hx283_2)).trans hx283_2
      replace hx283_3:=(HB.out.cell (wB w _ hx283_3)).trans hx283_3
      replace hx283_4:=(HB.out.cell (wB w _ hx283_4)).trans hx283_4
      replace hx283_5:=(HB.out.cell (wB w _ hx283_5)).trans hx283_5
      replace p283:=eq_true p283
      replace q283:=eq_true q283
      have p284 : 0≤(x6_2 : Int):=of_decide_eq_true (by first|(with_reducible assumption)|assumption)
      have q284 : x6_2 < (l0.length : Int):=of_decide_eq_true (by first|(with_reducible assumption)|assumption)
      obtain ⟨ad284,e284,hx284_0,hx284_1,hx284_2,hx284_3,hx284_4,hx284_5⟩:=at_T24 HR0.out x6_2 p284 q284
      have hw284_5:=hx284_5
      have hw284_4:=hx284_4
      have hw284_3:=hx284_3
      have hw284_2:=hx284_2
      have hw284_1:=hx284_1
      have hw284_0:=hx284_0
      obtain rfl : ad283 = ad284:=(by injection e284)
      replace hx284_0:=(HB.out.cell (wB w _ hx284_0)).trans hx284_0
      replace hx284_1:=(HB.out.cell (wB w _ hx284_1)).trans hx284_1
      replace hx284_2:=(HB.out.cell (wB w _ hx284_2)).trans hx284_2
      replace hx284_3:=(HB.out.cell (wB w _ hx284_3)).trans hx284_3
      replace hx284_4:=(HB.out.cell (wB w _ hx284_4)).trans hx284_4
      replace hx284_5:=(HB.out.cell (wB w _ hx284_5)).trans hx284_5
      replace p284:=eq_true p284
      replace q284:=eq_true q284
      refine start_ (n:=14) (S:=fun w'=>w'.cell? (ad283.add ((x6_2).toNat * 6)) = some (.int .u32 ((rd_T24 l0 x6_2).f0))∧w'.cell? ⟨(ad283.add ((x6_2).toNat * 6)).block,(ad283.add ((x6_2).toNat * 6)).off + 1,none⟩ = some (.string ((rd_T24 l0 x6_2).f1))∧w'.cell? ⟨(ad283.add ((x6_2).toNat * 6)).block,(ad283.add ((x6_2).toNat * 6)).off + 2,none⟩ = some (.int .i64 ((rd_T24 l0 x6_2).f2))∧w'.cell? ⟨(ad283.add ((x6_2).toNat * 6)).block,(ad283.add ((x6_2).toNat * 6)).off + 3,none⟩ = some (.int .i64 ((rd_T24 l0 x6_2).f3))∧w'.cell? ⟨(ad283.add ((x6_2).toNat * 6)).block,(ad283.add ((x6_2).toNat * 6)).off + 4,none⟩ = some (.int .i64 ((rd_T24 l0 x6_2).f4))∧w'.cell? ⟨(ad283.add ((x6_2).toNat * 6)).block,(ad283.add ((x6_2).toNat * 6)).off + 5,none⟩ = some (.int .i64 ((rd_T24 l0 x6_2).f5))∧w'.cell? (ad283.add ((x6_2).toNat * 6)) = some (.int .u32 ((rd_T24 l0 x6_2).f0))∧w'.cell? ⟨(ad283.add ((x6_2).toNat * 6)).block,(ad283.add ((x6_2).toNat * 6)).off + 1,none⟩ = some (.string ((rd_T24 l0 x6_2).f1))∧w'.cell? ⟨(ad283.add ((x6_2).toNat * 6)).block,(ad283.add ((x6_2).toNat * 6)).off + 2,none⟩ = some (.int .i64 ((rd_T24 l0 x6_2).f2))∧w'.cell? ⟨(ad283.add ((x6_2).toNat * 6)).block,(ad283.add ((x6_2).toNat * 6)).off + 3,none⟩ = some (.int .i64 ((rd_T24 l0 x6_2).f3))∧w'.cell? ⟨(ad283.add ((x6_2).toNat * 6)).block,(ad283.add ((x6_2).toNat * 6)).off + 4,none⟩ = some (.int .i64 ((rd_T24 l0 x6_2).f4))∧w'.cell? ⟨(ad283.add ((x6_2).toNat * 6)).block,(ad283.add ((x6_2).toNat * 6)).off + 5,none⟩ = some (.int .i64 ((rd_T24 l0 x6_2).f5))) (ds:=[]) #[O,O,O,O,O,O,O,O,O,O,O,O,O,O] (by kernel_rfl) rfl rfl ⟨((HB.out.cell (wB w _ hw283_0)).trans hw283_0),((HB.out.cell (wB w _ hw283_1)).trans hw283_1),((HB.out.cell (wB w _ hw283_2)).trans hw283_2),((HB.out.cell (wB w _ hw283_3)).trans hw283_3),((HB.out.cell (wB w _ hw283_4)).trans hw283_4),((HB.out.cell (wB w _ hw283_5)).trans hw283_5),((HB.out.cell (wB w _ hw284_0)).trans hw284_0),((HB.out.cell (wB w _ hw284_1)).trans hw284_1),((HB.out.cell (wB w _ hw284_2)).trans hw284_2),((HB.out.cell (wB w _ hw284_3)).trans hw284_3),((HB.out.cell (wB w _ hw284_4)).trans hw284_4),((HB.out.cell (wB w _ hw284_5)).trans hw284_5)⟩ (fun hHeld=>?_);refine with_tabW gangerlaw20_BookSums.tab7 gangerlaw20_BookSums.bits7 (fun HT_ HW_=>?_)
      generalize wr.drew = w14 at HB hx283_0 hx283_1 hx283_2 hx283_3 hx283_4 hx283_5 hx284_0 hx284_1 hx284_2 hx284_3 hx284_4 hx284_5 hHeld ⊢
      refine pure_ (i:=0) (N:=some 31) (v:=?_) (a':=?_) #[J,O,O,O,O,O,O,O,O,O,O,O,O,O] rfl rfl (any_of HT_.out (by kernel_rfl)) (fun _ _ _ h=>h) (Or.inl ⟨by rfl,?_⟩) ?_ ?_
      rotate_left
      ·intro w'
       go_simp
       with_reducible rfl
      rotate_left
      ·simp only [Act.put,sT,sZ,sS,iW,iV]
       rfl
      refine pure_ (i:=1) (N:=some 32) (v:=?_) (a':=?_) #[J,J,O,O,O,O,O,O,O,O,O,O,O,O] rfl rfl (any_of HT_.out (by kernel_rfl)) (fun _ _ _ h=>h) (Or.inl ⟨by rfl,?_⟩) ?_ ?_
      rotate_left
      ·intro w'
       go_simp
       with_reducible rfl
      rotate_left
      ·simp only [Act.put,sT,sZ,sS,iW,iV]
       rfl
      refine pure_ (i:=2) (N:=some 33) (v:=?_) (a':=?_) #[J,J,J,O,O,O,O,O,O,O,O,O,O,O] rfl rfl (any_of HT_.out (by kernel_rfl)) (fun _ _ _ h=>h) (Or.inl ⟨by rfl,?_⟩) ?_ ?_
      rotate_left
      ·intro w'
       go_simp
       with_reducible rfl
      rotate_left
      ·simp only [Act.put,sT,sZ,sS,iW,iV]
       rfl
      refine pure_ (i:=3) (N:=some 34) (v:=?_) (a':=?_) #[J,J,J,J,O,O,O,O,O,O,O,O,O,O] rfl rfl (any_of HT_.out (by kernel_rfl)) (fun _ _ _ h=>h) (Or.inl ⟨by rfl,?_⟩) ?_ ?_
      rotate_left
      ·intro w'
       go_simp
       with_reducible rfl
      rotate_left
      ·simp only [Act.put,sT,sZ,sS,iW,iV]
       rfl
      refine pure_ (i:=4) (N:=some 35) (v:=?_) (a':=?_) #[J,J,J,J,J,O,O,O,O,O,O,O,O,O] rfl rfl (any_of HT_.out (by kernel_rfl)) (fun _ _ _ h=>h) (Or.inl ⟨by rfl,?_⟩) ?_ ?_
      rotate_left
      ·intro w'
       go_simp
       with_reducible rfl
      rotate_left
      ·simp only [Act.put,sT,sZ,sS,iW,iV]
       rfl
      refine pure_ (i:=6) (N:=some 37) (v:=?_) (a':=?_) #[J,J,J,J,J,O,J,O,O,O,O,O,O,O] rfl rfl (any_of HT_.out (by kernel_rfl)) (fun _ _ _ h=>h) (Or.inl ⟨by rfl,?_⟩) ?_ ?_
      rotate_left
      ·intro w'
       go_simp
       with_reducible rfl
      rotate_left
      ·simp only [Act.put,sT,sZ,sS,iW,iV]
       rfl
      refine pure_ (i:=7) (N:=some 38) (v:=?_) (a':=?_) #[J,J,J,J,J,O,J,J,O,O,O,O,O,O] rfl rfl (any_of HT_.out (by kernel_rfl)) (fun _ _ _ h=>h) (Or.inl ⟨by rfl,?_⟩) ?_ ?_
      rotate_left
      ·intro w'
       go_simp
       with_reducible rfl
      rotate_left
      ·simp only [Act.put,sT,sZ,sS,iW,iV]
       rfl
      refine pure_ (i:=8) (N:=some 39) (v:=?_) (a':=?_) #[J,J,J,J,J,O,J,J,J,O,O,O,O,O] rfl rfl (any_of HT_.out (by kernel_rfl)) (fun _ _ _ h=>h) (Or.inl ⟨by rfl,?_⟩) ?_ ?_
      rotate_left
      ·intro w'
       go_simp
       with_reducible rfl
      rotate_left
      ·simp only [Act.put,sT,sZ,sS,iW,iV]
       rfl
      refine pure_ (i:=9) (N:=some 40) (v:=?_) (a':=?_) #[J,J,J,J,J,O,J,J,J,J,O,O,O,O] rfl rfl (any_of HT_.out (by kernel_rfl)) (fun _ _ _ h=>h) (Or.inl ⟨by rfl,?_⟩) ?_ ?_
      rotate_left
      ·intro w'
       go_simp
       with_reducible rfl
      rotate_left
      ·simp only [Act.put,sT,sZ,sS,iW,iV]
       rfl
      refine take_ (i:=5) (N:=some 36) (v:=?_) (a':=?_) #[J,J,J,J,J,J,J,J,J,J,O,O,O,O] rfl rfl (take_ofW HT_.out HW_.out (by kernel_rfl)) (fun _ _ _ h=>h) (Or.inl ⟨by rfl,?_⟩) hHeld ?_ ?_
      rotate_left
      ·rintro w' ⟨s0,s1,s2,s3,s4,s5,s6,s7,s8,s9,s10,s11⟩
       go_simp
       with_reducible rfl
      rotate_left
      ·simp only [Act.put,sT,sZ,sS,iW,iV]
       rfl
      refine take_ (i:=10) (N:=some 41) (v:=?_) (a':=?_) #[J,J,J,J,J,J,J,J,J,J,J,O,O,O] rfl rfl (take_ofW HT_.out HW_.out (by kernel_rfl)) (fun _ _ _ h=>h) (Or.inl ⟨by rfl,?_⟩) hHeld ?_ ?_
      rotate_left
      ·rintro w' ⟨s0,s1,s2,s3,s4,s5,s6,s7,s8,s9,s10,s11⟩
       go_simp
       with_reducible rfl
      rotate_left
      ·simp only [Act.put,sT,sZ,sS,iW,iV]
       rfl
      refine pure_ (i:=11) (N:=some 42) (v:=?_) (a':=?_) #[J,J,J,J,J,J,J,J,J,J,J,J,O,O] rfl rfl (any_of HT_.out (by kernel_rfl)) (fun _ _ _ h=>h) (Or.inl ⟨by rfl,?_⟩) ?_ ?_
      rotate_left
      ·intro w'
       go_simp
       with_reducible rfl
      rotate_left
      ·simp only [Act.put,sT,sZ,sS,iW,iV]
       rfl
      refine pure_ (i:=12) (N:=some 43) (v:=?_) (a':=?_) #[J,J,J,J,J,J,J,J,J,J,J,J,J,O] rfl rfl (any_of HT_.out (by kernel_rfl)) (fun _ _ _ h=>h) (Or.inl ⟨by rfl,?_⟩) ?_ ?_
      rotate_left
      ·intro w'
       go_simp
       with_reducible rfl
      rotate_left
      ·simp only [Act.put,sT,sZ,sS,iW,iV]
       rfl
      refine pure_ (i:=13) (N:=some 5) (v:=?_) (a':=?_) #[J,J,J,J,J,J,J,J,J,J,J,J,J,J] rfl rfl (any_of HT_.out (by kernel_rfl)) (fun _ _ _ h=>h) (Or.inl ⟨by rfl,?_⟩) ?_ ?_
      rotate_left
      ·intro w'
       go_simp
       with_reducible rfl
      rotate_left
      ·simp only [Act.put,sT,sZ,sS,iW,iV]
       rfl
      refine done_ (done_of HT_.out (by kernel_rfl)) ?_
      try go_wp2
      go_roundg k2
      case measure=>have:=HJ2.out;have:=HK2.out;omega
      case rel=>exact ⟨(wrap64 (x5_2 + (wrap64 (((rd_T24 l0 x6_2).f2) * ((rd_T24 l0 x6_2).f3))))),(wrap64 (x6_2 + 1)),(by first|rfl|(simp;done)|(simp [*];done)),(by first|rfl|(simp;done)|(simp [*];done)),H',⟨by have:=HJ2.out;have:=HK2.out;omega⟩,⟨by repeat (first|(with_reducible first|exact HB.out|apply bL|apply pN|apply bE)|exact HB.out)⟩⟩
     rw [if_neg c12] at H
     have c12b0 : decide (x6_2 < (l0.length : Int)) = false:=decide_eq_false c12
     clear c12
     by_cases c15 : (IntKind.u64.wrap (wrap64 ((l0.length : Int) + 1))) = 0
     ·rw [if_pos c15] at H
      exact absurd H (by simp)
     rw [if_neg c15] at H
     have c15b0 : ((IntKind.u64.wrap (wrap64 ((l0.length : Int) + 1))) == 0) = false:=beq_eq_false_iff_ne.mpr c15
     have c15b1 : ((IntKind.u64.wrap (wrap64 ((l0.length : Int) + 1))) != 0) = true:=bne_iff_ne.mpr c15
     obtain ⟨ji16,hji16⟩ : ∃ j_ : Int,(wrap64 (Int.tmod (IntKind.u64.wrap (a1)) (IntKind.u64.wrap (wrap64 ((l0.length : Int) + 1))))) = j_:=⟨_,rfl⟩
     replace H : (if 0≤(ji16) then (if (ji16)≤(l0.length : Int) then ((book_Check.f k2 (l0.take ((ji16) : Int).toNat)).bind fun t289=>(if t289 = 0 then (gangerlaw20_BookSums.l1 k2 l0 x5_2 0 ji16 0) else (none))) else (none)) else (none)) = some r:=by first|(rw [hji16] at H;exact H)|(simp only [hji16] at H ⊢;exact H)
     have hji16w : (IntKind.i64.wrap (Int.tmod (IntKind.u64.wrap (a1)) (IntKind.u64.wrap (wrap64 ((l0.length : Int) + 1))))) = ji16:=(iW _).trans hji16
     by_cases c17 : 0≤(ji16)
     rotate_left
     ·rw [if_neg c17] at H
      exact absurd H (by simp)
     rw [if_pos c17] at H
     have c17b0:=eq_true c17
     have c17b1 : decide (0≤(ji16)) = true:=decide_eq_true c17
     clear c17
     by_cases c18 : (ji16)≤(l0.length : Int)
     rotate_left
     ·rw [if_neg c18] at H
      exact absurd H (by simp)
     rw [if_pos c18] at H
     have c18b0:=eq_true c18
     have c18b1 : decide ((ji16)≤(l0.length : Int)) = true:=decide_eq_true c18
     clear c18
     obtain ⟨y285,hy285⟩ : ∃ y_ : List (S24),y_ = (l0.take ((ji16) : Int).toNat):=⟨_,rfl⟩
     replace H : ((book_Check.f k2 y285).bind fun t289=>(if t289 = 0 then (gangerlaw20_BookSums.l1 k2 l0 x5_2 0 ji16 0) else (none))) = some r:=by first|(rw [hy285];with_reducible exact H)|(have H2_:=(Option.bind_some _ _).symm.trans H;rw [hy285];with_reducible exact H2_)|(have H2_:=(Option.bind_some _ _).symm.trans H;with_reducible exact H2_)|with_reducible exact H|(rw [hy285];exact H)|exact H
     have Ny285:=Am hy285
     clear hy285
     replace H:=oB H
     obtain ⟨t289,A190,H⟩:=H
     try dsimp only at H
     have A19:=Am A190
     clear A190
     by_cases c20 : t289 = 0
     rotate_left
     ·rw [if_neg c20] at H
      exact absurd H (by simp)
     rw [if_pos c20] at H
     have c20b0 : (t289 == 0) = true:=beq_iff_eq.mpr c20
     have c20b1 : (t289 != 0) = false:=bne_eq_false_iff_eq.mpr c20
     clear c20
     have H':=Am H
     clear H
     have q21 : ((ji16) : Int)≤((l0.length : Int) : Int):=of_decide_eq_true (by first|(with_reducible assumption)|assumption)
     obtain ⟨i021,hi021,_,hsz21,_⟩:=info_parts info24
     have hroom21 : l0.length≤c0:=HC0.out
     have hC21 : Kd.C k24 _ A0 l0.length l0:=HR0.out
     have hcut21:=cut_to (P:=Tryd.prog) 32 24 .i64 Tryd.underlying32 hi021 A0 l0.length c0 (ji16) (of_decide_eq_true (by first|(with_reducible assumption)|assumption)) q21 hroom21
     have hr21:=Kd.C_take (m:=((ji16) : Int).toNat) hC21 (by omega)
     have hy21 : y285.length = ((ji16) : Int).toNat:=(by rw [Ny285.out,lT];omega)
     rw [← Ny285.out] at hr21
     rw [← hy21] at hcut21
     have HR288:=Am hr21
     have HC288:=Am (show y285.length≤c0 from by omega)
     clear hr21 hC21 hroom21 hi021 hsz21
     have KY21:=Am hy21
     clear hy21
     replace q21:=eq_true q21
     go_wp2_with (first|((with_reducible refine gC (f:=12) rfl ?_);refine goesL_ (some 55) rfl rfl Tryd.func12 (by kernel_rfl) rfl #[.slice A0 y285.length c0] rfl (by (try simp only [mT,mC,mN]);first|done|rfl|(simp only [lD,lT];rfl)) ?_;(with_reducible refine (book_Check.calls k2 _ _ y285 t289 _ ?side1 ?side2 ?side3 A19.out).mono ?_);(case side1=>exact Glob.below HG.out (by repeat (first|(with_reducible first|exact HB.out|apply bL|apply pN|apply bE)|exact HB.out)));(case side2=>repeat (first|exact (Kd.C_below HR288.out HB.out)|(with_reducible refine Kd.C_alloc ?_ _)|(with_reducible refine Kd.C_drewN ?_ _)|(with_reducible refine Kd.C_drew ?_)));(case side3=>exact HC288.out);rintro e w22 ⟨rfl,hb⟩;refine ⟨_,rfl,?_⟩;have n0_:=Am (below_step (by repeat (first|(with_reducible first|exact HB.out|apply bL|apply pN|apply bE)|exact HB.out)) hb);clear HB;have HB:=n0_;clear n0_))
     go_loopg [7,9] k2 (fun kq v7 v9 w'=>∃ (x7_3 : Int) (x9_3 : Int),v7 = .int .i64 x7_3∧v9 = .int .i64 x9_3∧Aside0 (gangerlaw20_BookSums.l1 kq l0 x5_2 x7_3 ji16 x9_3 = some r)∧Aside0 (kq≤k2)∧Aside0 (Below w.heap.size w w'))
     case atStart=>exact ⟨(0),(0),(by first|rfl|(simp;done)|(simp [*];done)),(by first|rfl|(simp;done)|(simp [*];done)),H',⟨Nat.le_refl _⟩,⟨by repeat (first|(with_reducible first|exact HB.out|apply bL|apply pN|apply bE)|exact HB.out)⟩⟩
     case round =>
      clear H'
      obtain ⟨x7_3,x9_3,rfl,rfl,HA,HK3,HB⟩:=hrel
      cases gk with
      | zero=>exact absurd HA.out (by simp [gangerlaw20_BookSums.l1])
      | succ k3 =>
       have H:=HA.out
       clear HA
       simp only [gangerlaw20_BookSums.l1] at H
       by_cases c23 : x9_3 < (l0.length : Int)
       rotate_left
       ·rw [if_neg c23] at H
        have c23b0 : decide (x9_3 < (l0.length : Int)) = false:=decide_eq_false c23
        clear c23
        by_cases c49 : x7_3 = x5_2
        rotate_left
        ·rw [if_neg c49] at H
         exact absurd H (by simp)
        rw [if_pos c49] at H
        have c49b0 : (x7_3 == x5_2) = true:=beq_iff_eq.mpr c49
        have c49b1 : (x7_3 != x5_2) = false:=bne_eq_false_iff_eq.mpr c49
        clear c49
        replace H:=oB H
        obtain ⟨t290,A500,H⟩:=H
        try dsimp only at H
        have A50:=Am A500
        clear A500
        obtain rfl:=Option.some.inj H
        go_wp2_with (first|(go_at_call 8;(with_reducible refine (gangerlaw20_known.calls k3  t290 _ ?side1 A50.out).mono ?_);(case side1=>exact Glob.below HG.out (by repeat (first|(with_reducible first|exact HB.out|apply bL|apply pN|apply bE)|exact HB.out)));rintro e w51 ⟨rfl,hb⟩;have n0_:=Am (below_step (by repeat (first|(with_reducible first|exact HB.out|apply bL|apply pN|apply bE)|exact HB.out)) hb);clear HB;have HB:=n0_;clear n0_))
        go_ret
        exact ⟨by first|rfl|(simp [errW_none,errW_some] <;> rfl)|(simp only [← hji16];first|rfl|(simp [errW_none,errW_some] <;> rfl))|(simp [*,errW_none,errW_some] <;> rfl),by repeat (first|(with_reducible first|exact HB.out|apply bL|apply pN|apply bE)|exact HB.out)⟩
       rw [if_pos c23] at H
       have c23b0 : decide (x9_3 < (l0.length : Int)) = true:=decide_eq_true c23
       clear c23
       have H':=Am H
       clear H
       go_wp2
       go_loopg [10,11] k3 (fun kq v10 v11 w'=>∃ (x10_4 : Bool) (x11_4 : Int),v10 = .bool x10_4∧v11 = .int .i64 x11_4∧Aside0 (gangerlaw20_BookSums.l2 kq l0 x5_2 x7_3 ji16 x9_3 x10_4 x11_4 = some r)∧Aside0 (kq≤k3)∧Aside0 (Below w.heap.size w w'))
       case atStart=>exact ⟨(true),(0),(by first|rfl|(simp;done)|(simp [*];done)),(by first|rfl|(simp;done)|(simp [*];done)),H',⟨Nat.le_refl _⟩,⟨by repeat (first|(with_reducible first|exact HB.out|apply bL|apply pN|apply bE)|exact HB.out)⟩⟩
       case round =>
        clear H'
        obtain ⟨x10_4,x11_4,rfl,rfl,HA,HK4,HB⟩:=hrel
        cases gk with
        | zero=>exact absurd HA.out (by simp [gangerlaw20_BookSums.l2])
        | succ k4 =>
         have H:=HA.out
         clear HA
         simp only [gangerlaw20_BookSums.l2] at H
         by_cases c24 : x11_4 < x9_3
         ·rw [if_pos c24] at H
          have c24b0 : decide (x11_4 < x9_3) = true:=decide_eq_true c24
          clear c24
          by_cases c25 : x10_4 = true
          rotate_left
          ·replace c25:=Bool.eq_false_iff.mpr c25
           subst c25
           have H1 : (gangerlaw20_BookSums.l2 k4 l0 x5_2 x7_3 ji16 x9_3 false (wrap64 (x11_4 + 1))) = some r:=by rw [if_neg (show ¬ (false = true) by decide)] at H;exact H
           clear H
           have H:=H1
           clear H1
           have H':=Am H
           clear H
           try go_wp2
           have n0_:=Am (bE HB.out)
           clear HB
           have HB:=n0_
           clear n0_
           refine start_ (n:=15) (S:=fun w'=>True) (ds:=[]) #[O,O,O,O,O,O,O,O,O,O,O,O,O,O,O] (by kernel_rfl) rfl rfl trivial (fun hHeld=>?_);refine with_tabW gangerlaw20_BookSums.tab19 gangerlaw20_BookSums.bits19 (fun HT_ HW_=>?_)
           generalize wr.drew = w31 at HB hHeld ⊢
           refine pure_ (i:=0) (N:=some 68) (v:=?_) (a':=?_) #[J,O,O,O,O,O,O,O,O,O,O,O,O,O,O] rfl rfl (any_of HT_.out (by kernel_rfl)) (fun _ _ _ h=>h) (Or.inl ⟨by rfl,?_⟩) ?_ ?_
           rotate_left
           ·intro w'
            go_simp
            with_reducible rfl
           rotate_left
           ·simp only [Act.put,sT,sZ,sS,iW,iV]
            rfl
           refine pure_ (i:=1) (N:=some 69) (v:=?_) (a':=?_) #[J,J,O,O,O,O,O,O,O,O,O,O,O,O,O] rfl rfl (any_of HT_.out (by kernel_rfl)) (fun _ _ _ h=>h) (Or.inl ⟨by rfl,?_⟩) ?_ ?_
           rotate_left
           ·intro w'
            go_simp
            with_reducible rfl
           rotate_left
           ·simp only [Act.put,sT,sZ,sS,iW,iV]
            rfl
           refine pure_ (i:=2) (N:=some 70) (v:=undef) (a':=?_) #[J,J,J,O,O,O,O,O,O,O,O,O,O,O,O] rfl rfl (any_of HT_.out (by kernel_rfl)) (fun _ _ _ h=>h) (Or.inr ⟨by rfl,rfl⟩) ?_ ?_
           rotate_left
           ·simp only [Act.put,sT,sZ,sS,iW,iV]
            rfl
           refine pure_ (i:=3) (N:=some 71) (v:=undef) (a':=?_) #[J,J,J,J,O,O,O,O,O,O,O,O,O,O,O] rfl rfl (any_of HT_.out (by kernel_rfl)) (fun _ _ _ h=>h) (Or.inr ⟨by rfl,rfl⟩) ?_ ?_
           rotate_left
           ·simp only [Act.put,sT,sZ,sS,iW,iV]
            rfl
           refine pure_ (i:=4) (N:=some 72) (v:=undef) (a':=?_) #[J,J,J,J,J,O,O,O,O,O,O,O,O,O,O] rfl rfl (any_of HT_.out (by kernel_rfl)) (fun _ _ _ h=>h) (Or.inr ⟨by rfl,rfl⟩) ?_ ?_
           rotate_left
           ·simp only [Act.put,sT,sZ,sS,iW,iV]
            rfl
           refine pure_ (i:=5) (N:=some 73) (v:=undef) (a':=?_) #[J,J,J,J,J,J,O,O,O,O,O,O,O,O,O] rfl rfl (any_of HT_.out (by kernel_rfl)) (fun _ _ _ h=>h) (Or.inr ⟨by rfl,rfl⟩) ?_ ?_
           rotate_left
           ·simp only [Act.put,sT,sZ,sS,iW,iV]
            rfl
           refine pure_ (i:=6) (N:=some 74) (v:=undef) (a':=?_) #[J,J,J,J,J,J,J,O,O,O,O,O,O,O,O] rfl rfl (any_of HT_.out (by kernel_rfl)) (fun _ _ _ h=>h) (Or.inr ⟨by rfl,rfl⟩) ?_ ?_
           rotate_left
           ·simp only [Act.put,sT,sZ,sS,iW,iV]
            rfl
           refine pure_ (i:=7) (N:=some 75) (v:=undef) (a':=?_) #[J,J,J,J,J,J,J,J,O,O,O,O,O,O,O] rfl rfl (any_of HT_.out (by kernel_rfl)) (fun _ _ _ h=>h) (Or.inr ⟨by rfl,rfl⟩) ?_ ?_
           rotate_left
           ·simp only [Act.put,sT,sZ,sS,iW,iV]
            rfl
           refine pure_ (i:=8) (N:=some 76) (v:=undef) (a':=?_) #[J,J,J,J,J,J,J,J,J,O,O,O,O,O,O] rfl rfl (any_of HT_.out (by kernel_rfl)) (fun _ _ _ h=>h) (Or.inr ⟨by rfl,rfl⟩) ?_ ?_
           rotate_left
           ·simp only [Act.put,sT,sZ,sS,iW,iV]
            rfl
           refine pure_ (i:=9) (N:=some 77) (v:=undef) (a':=?_) #[J,J,J,J,J,J,J,J,J,J,O,O,O,O,O] rfl rfl (any_of HT_.out (by kernel_rfl)) (fun _ _ _ h=>h) (Or.inr ⟨by rfl,rfl⟩) ?_ ?_
           rotate_left
           ·simp only [Act.put,sT,sZ,sS,iW,iV]
            rfl
           refine pure_ (i:=10) (N:=some 78) (v:=undef) (a':=?_) #[J,J,J,J,J,J,J,J,J,J,J,O,O,O,O] rfl rfl (any_of HT_.out (by kernel_rfl)) (fun _ _ _ h=>h) (Or.inr ⟨by rfl,rfl⟩) ?_ ?_
           rotate_left
           ·simp only [Act.put,sT,sZ,sS,iW,iV]
            rfl
           refine pure_ (i:=11) (N:=some 79) (v:=undef) (a':=?_) #[J,J,J,J,J,J,J,J,J,J,J,J,O,O,O] rfl rfl (any_of HT_.out (by kernel_rfl)) (fun _ _ _ h=>h) (Or.inr ⟨by rfl,rfl⟩) ?_ ?_
           rotate_left
           ·simp only [Act.put,sT,sZ,sS,iW,iV]
            rfl
           refine pure_ (i:=12) (N:=some 80) (v:=undef) (a':=?_) #[J,J,J,J,J,J,J,J,J,J,J,J,J,O,O] rfl rfl (any_of HT_.out (by kernel_rfl)) (fun _ _ _ h=>h) (Or.inr ⟨by rfl,rfl⟩) ?_ ?_
           rotate_left
           ·simp only [Act.put,sT,sZ,sS,iW,iV]
            rfl
           refine pure_ (i:=13) (N:=some 81) (v:=?_) (a':=?_) #[J,J,J,J,J,J,J,J,J,J,J,J,J,J,O] rfl rfl (any_of HT_.out (by kernel_rfl)) (fun _ _ _ h=>h) (Or.inl ⟨by rfl,?_⟩) ?_ ?_
           rotate_left
           ·intro w'
            go_simp
            with_reducible rfl
           rotate_left
           ·simp only [Act.put,sT,sZ,sS,iW,iV]
            rfl
           refine pure_ (i:=14) (N:=some 10) (v:=?_) (a':=?_) #[J,J,J,J,J,J,J,J,J,J,J,J,J,J,J] rfl rfl (any_of HT_.out (by kernel_rfl)) (fun _ _ _ h=>h) (Or.inl ⟨by rfl,?_⟩) ?_ ?_
           rotate_left
           ·intro w'
            go_simp
            with_reducible rfl
           rotate_left
           ·simp only [Act.put,sT,sZ,sS,iW,iV]
            rfl
           refine done_ (done_of HT_.out (by kernel_rfl)) ?_
           try go_wp2
           go_roundg k4
           case measure=>have:=HJ2.out;have:=HK2.out;have:=HK3.out;have:=HK4.out;omega
           case rel=>exact ⟨(false),(wrap64 (x11_4 + 1)),(by first|rfl|(simp;done)|(simp [*];done)),(by first|rfl|(simp;done)|(simp [*];done)),H',⟨by have:=HJ2.out;have:=HK2.out;have:=HK3.out;have:=HK4.out;omega⟩,⟨by repeat (first|(with_reducible first|exact HB.out|apply bL|apply pN|apply bE)|exact HB.out)⟩⟩
          subst c25
          have H1 : (if 0≤x11_4 then (if x11_4 < (l0.length : Int) then (if 0≤x9_3 then (if x9_3 < (l0.length : Int) then (gangerlaw20_BookSums.l2 k4 l0 x5_2 x7_3 ji16 x9_3 (((rd_T24 l0 x11_4).f1).toList != ((rd_T24 l0 x9_3).f1).toList) (wrap64 (x11_4 + 1))) else (none)) else (none)) else (none)) else (none)) = some r:=by rw [if_pos rfl] at H;exact H
          clear H
          have H:=H1
          clear H1
          by_cases c26 : 0≤x11_4
          rotate_left
          ·rw [if_neg c26] at H
           exact absurd H (by simp)
          rw [if_pos c26] at H
          have c26b0 : decide (0≤x11_4) = true:=decide_eq_true c26
          clear c26
          by_cases c27 : x11_4 < (l0.length : Int)
          rotate_left
          ·rw [if_neg c27] at H
           exact absurd H (by simp)
          rw [if_pos c27] at H
          have c27b0 : decide (x11_4 < (l0.length : Int)) = true:=decide_eq_true c27
          clear c27
          by_cases c28 : 0≤x9_3
          rotate_left
          ·rw [if_neg c28] at H
           exact absurd H (by simp)
          rw [if_pos c28] at H
          have c28b0 : decide (0≤x9_3) = true:=decide_eq_true c28
          clear c28
          by_cases c29 : x9_3 < (l0.length : Int)
          rotate_left
          ·rw [if_neg c29] at H
           exact absurd H (by simp)
          rw [if_pos c29] at H
          have c29b0 : decide (x9_3 < (l0.length : Int)) = true:=decide_eq_true c29
          clear c29
          have H':=Am H
          clear H
          try go_wp2
          have n0_:=Am (bE HB.out)
          clear HB
          have HB:=n0_
          clear n0_
          have p291 : 0≤(x11_4 : Int):=of_decide_eq_true (by first|(with_reducible assumption)|assumption)
          have q291 : x11_4 < (l0.length : Int):=of_decide_eq_true (by first|(with_reducible assumption)|assumption)
          obtain ⟨ad291,e291,hx291_0,hx291_1,hx291_2,hx291_3,hx291_4,hx291_5⟩:=at_T24 HR0.out x11_4 p291 q291
          have hw291_5:=hx291_5
          have hw291_4:=hx291_4
          have hw291_3:=hx291_3
          have hw291_2:=hx291_2
          have hw291_1:=hx291_1
          have hw291_0:=hx291_0
          cases e291
          replace hx291_0:=(HB.out.cell (wB w _ hx291_0)).trans hx291_0
          replace hx291_1:=(HB.out.cell (wB w _ hx291_1)).trans hx291_1
          replace hx291_2:=(HB.out.cell (wB w _ hx291_2)).trans hx291_2
          replace hx291_3:=(HB.out.cell (wB w _ hx291_3)).trans hx291_3
          replace hx291_4:=(HB.out.cell (wB w _ hx291_4)).trans hx291_4
          replace hx291_5:=(HB.out.cell (wB w _ hx291_5)).trans hx291_5
          replace p291:=eq_true p291
          replace q291:=eq_true q291
          have p292 : 0≤(x9_3 : Int):=of_decide_eq_true (by first|(with_reducible assumption)|assumption)
          have q292 : x9_3 < (l0.length : Int):=of_decide_eq_true (by first|(with_reducible assumption)|assumption)
          obtain ⟨ad292,e292,hx292_0,hx292_1,hx292_2,hx292_3,hx292_4,hx292_5⟩:=at_T24 HR0.out x9_3 p292 q292
          have hw292_5:=hx292_5
          have hw292_4:=hx292_4
          have hw292_3:=hx292_3
          have hw292_2:=hx292_2
          have hw292_1:=hx292_1
          have hw292_0:=hx292_0
          obtain rfl : ad291 = ad292:=(by injection e292)
          replace hx292_0:=(HB.out.cell (wB w _ hx292_0)).trans hx292_0
          replace hx292_1:=(HB.out.cell (wB w _ hx292_1)).trans hx292_1
          replace hx292_2:=(HB.out.cell (wB w _ hx292_2)).trans hx292_2
          replace hx292_3:=(HB.out.cell (wB w _ hx292_3)).trans hx292_3
          replace hx292_4:=(HB.out.cell (wB w _ hx292_4)).trans hx292_4
          replace hx292_5:=(HB.out.cell (wB w _ hx292_5)).trans hx292_5
          replace p292:=eq_true p292
          replace q292:=eq_true q292
          refine start_ (n:=15) (S:=fun w'=>w'.cell? (ad291.add ((x11_4).toNat * 6)) = some (.int .u32 ((rd_T24 l0 x11_4).f0))∧w'.cell? ⟨(ad291.add ((x11_4).toNat * 6)).block,(ad291.add ((x11_4).toNat * 6)).off + 1,none⟩ = some (.string ((rd_T24 l0 x11_4).f1))∧w'.cell? ⟨(ad291.add ((x11_4).toNat * 6)).block,(ad291.add ((x11_4).toNat * 6)).off + 2,none⟩ = some (.int .i64 ((rd_T24 l0 x11_4).f2))∧w'.cell? ⟨(ad291.add ((x11_4).toNat * 6)).block,(ad291.add ((x11_4).toNat * 6)).off + 3,none⟩ = some (.int .i64 ((rd_T24 l0 x11_4).f3))∧w'.cell? ⟨(ad291.add ((x11_4).toNat * 6)).block,(ad291.add ((x11_4).toNat * 6)).off + 4,none⟩ = some (.int .i64 ((rd_T24 l0 x11_4).f4))∧w'.cell? ⟨(ad291.add ((x11_4).toNat * 6)).block,(ad291.add ((x11_4).toNat * 6)).off + 5,none⟩ = some (.int .i64 ((rd_T24 l0 x11_4).f5))∧w'.cell? (ad291.add ((x9_3).toNat * 6)) = some (.int .u32 ((rd_T24 l0 x9_3).f0))∧w'.cell? ⟨(ad291.add ((x9_3).toNat * 6)).block,(ad291.add ((x9_3).toNat * 6)).off + 1,none⟩ = some (.string ((rd_T24 l0 x9_3).f1))∧w'.cell? ⟨(ad291.add ((x9_3).toNat * 6)).block,(ad291.add ((x9_3).toNat * 6)).off + 2,none⟩ = some (.int .i64 ((rd_T24 l0 x9_3).f2))∧w'.cell? ⟨(ad291.add ((x9_3).toNat * 6)).block,(ad291.add ((x9_3).toNat * 6)).off + 3,none⟩ = some (.int .i64 ((rd_T24 l0 x9_3).f3))∧w'.cell? ⟨(ad291.add ((x9_3).toNat * 6)).block,(ad291.add ((x9_3).toNat * 6)).off + 4,none⟩ = some (.int .i64 ((rd_T24 l0 x9_3).f4))∧w'.cell? ⟨(ad291.add ((x9_3).toNat * 6)).block,(ad291.add ((x9_3).toNat * 6)).off + 5,none⟩ = some (.int .i64 ((rd_T24 l0 x9_3).f5))) (ds:=[]) #[O,O,O,O,O,O,O,O,O,O,O,O,O,O,O] (by kernel_rfl) rfl rfl ⟨((HB.out.cell (wB w _ hw291_0)).trans hw291_0),((HB.out.cell (wB w _ hw291_1)).trans hw291_1),((HB.out.cell (wB w _ hw291_2)).trans hw291_2),((HB.out.cell (wB w _ hw291_3)).trans hw291_3),((HB.out.cell (wB w _ hw291_4)).trans hw291_4),((HB.out.cell (wB w _ hw291_5)).trans hw291_5),((HB.out.cell (wB w _ hw292_0)).trans hw292_0),((HB.out.cell (wB w _ hw292_1)).trans hw292_1),((HB.out.cell (wB w _ hw292_2)).trans hw292_2),((HB.out.cell (wB w _ hw292_3)).trans hw292_3),((HB.out.cell (wB w _ hw292_4)).trans hw292_4),((HB.out.cell (wB w _ hw292_5)).trans hw292_5)⟩ (fun hHeld=>?_);refine with_tabW gangerlaw20_BookSums.tab19 gangerlaw20_BookSums.bits19 (fun HT_ HW_=>?_)
          generalize wr.drew = w30 at HB hx291_0 hx291_1 hx291_2 hx291_3 hx291_4 hx291_5 hx292_0 hx292_1 hx292_2 hx292_3 hx292_4 hx292_5 hHeld ⊢
          refine pure_ (i:=0) (N:=some 68) (v:=?_) (a':=?_) #[J,O,O,O,O,O,O,O,O,O,O,O,O,O,O] rfl rfl (any_of HT_.out (by kernel_rfl)) (fun _ _ _ h=>h) (Or.inl ⟨by rfl,?_⟩) ?_ ?_
          rotate_left
          ·intro w'
           go_simp
           with_reducible rfl
          rotate_left
          ·simp only [Act.put,sT,sZ,sS,iW,iV]
           rfl
          refine pure_ (i:=1) (N:=some 69) (v:=?_) (a':=?_) #[J,J,O,O,O,O,O,O,O,O,O,O,O,O,O] rfl rfl (any_of HT_.out (by kernel_rfl)) (fun _ _ _ h=>h) (Or.inl ⟨by rfl,?_⟩) ?_ ?_
          rotate_left
          ·intro w'
           go_simp
           with_reducible rfl
          rotate_left
          ·simp only [Act.put,sT,sZ,sS,iW,iV]
           rfl
          refine pure_ (i:=2) (N:=some 70) (v:=?_) (a':=?_) #[J,J,J,O,O,O,O,O,O,O,O,O,O,O,O] rfl rfl (any_of HT_.out (by kernel_rfl)) (fun _ _ _ h=>h) (Or.inl ⟨by rfl,?_⟩) ?_ ?_
          rotate_left
          ·intro w'
           go_simp
           with_reducible rfl
          rotate_left
          ·simp only [Act.put,sT,sZ,sS,iW,iV]
           rfl
          refine pure_ (i:=3) (N:=some 71) (v:=?_) (a':=?_) #[J,J,J,J,O,O,O,O,O,O,O,O,O,O,O] rfl rfl (any_of HT_.out (by kernel_rfl)) (fun _ _ _ h=>h) (Or.inl ⟨by rfl,?_⟩) ?_ ?_
          rotate_left
          ·intro w'
           go_simp
           with_reducible rfl
          rotate_left
          ·simp only [Act.put,sT,sZ,sS,iW,iV]
           rfl
          refine pure_ (i:=4) (N:=some 72) (v:=?_) (a':=?_) #[J,J,J,J,J,O,O,O,O,O,O,O,O,O,O] rfl rfl (any_of HT_.out (by kernel_rfl)) (fun _ _ _ h=>h) (Or.inl ⟨by rfl,?_⟩) ?_ ?_
          rotate_left
          ·intro w'
           go_simp
           with_reducible rfl
          rotate_left
          ·simp only [Act.put,sT,sZ,sS,iW,iV]
           rfl
          refine pure_ (i:=5) (N:=some 73) (v:=?_) (a':=?_) #[J,J,J,J,J,J,O,O,O,O,O,O,O,O,O] rfl rfl (any_of HT_.out (by kernel_rfl)) (fun _ _ _ h=>h) (Or.inl ⟨by rfl,?_⟩) ?_ ?_
          rotate_left
          ·intro w'
           go_simp
           with_reducible rfl
          rotate_left
          ·simp only [Act.put,sT,sZ,sS,iW,iV]
           rfl
          refine pure_ (i:=7) (N:=some 75) (v:=?_) (a':=?_) #[J,J,J,J,J,J,O,J,O,O,O,O,O,O,O] rfl rfl (any_of HT_.out (by kernel_rfl)) (fun _ _ _ h=>h) (Or.inl ⟨by rfl,?_⟩) ?_ ?_
          rotate_left
          ·intro w'
           go_simp
           with_reducible rfl
          rotate_left
          ·simp only [Act.put,sT,sZ,sS,iW,iV]
           rfl
          refine pure_ (i:=8) (N:=some 76) (v:=?_) (a':=?_) #[J,J,J,J,J,J,O,J,J,O,O,O,O,O,O] rfl rfl (any_of HT_.out (by kernel_rfl)) (fun _ _ _ h=>h) (Or.inl ⟨by rfl,?_⟩) ?_ ?_
          rotate_left
          ·intro w'
           go_simp
           with_reducible rfl
          rotate_left
          ·simp only [Act.put,sT,sZ,sS,iW,iV]
           rfl
          refine pure_ (i:=9) (N:=some 77) (v:=?_) (a':=?_) #[J,J,J,J,J,J,O,J,J,J,O,O,O,O,O] rfl rfl (any_of HT_.out (by kernel_rfl)) (fun _ _ _ h=>h) (Or.inl ⟨by rfl,?_⟩) ?_ ?_
          rotate_left
          ·intro w'
           go_simp
           with_reducible rfl
          rotate_left
          ·simp only [Act.put,sT,sZ,sS,iW,iV]
           rfl
          refine pure_ (i:=10) (N:=some 78) (v:=?_) (a':=?_) #[J,J,J,J,J,J,O,J,J,J,J,O,O,O,O] rfl rfl (any_of HT_.out (by kernel_rfl)) (fun _ _ _ h=>h) (Or.inl ⟨by rfl,?_⟩) ?_ ?_
          rotate_left
          ·intro w'
           go_simp
           with_reducible rfl
          rotate_left
          ·simp only [Act.put,sT,sZ,sS,iW,iV]
           rfl
          refine take_ (i:=6) (N:=some 74) (v:=?_) (a':=?_) #[J,J,J,J,J,J,J,J,J,J,J,O,O,O,O] rfl rfl (take_ofW HT_.out HW_.out (by kernel_rfl)) (fun _ _ _ h=>h) (Or.inl ⟨by rfl,?_⟩) hHeld ?_ ?_
          rotate_left
          ·rintro w' ⟨s0,s1,s2,s3,s4,s5,s6,s7,s8,s9,s10,s11⟩
           go_simp
           with_reducible rfl
          rotate_left
          ·simp only [Act.put,sT,sZ,sS,iW,iV]
           rfl
          refine take_ (i:=11) (N:=some 79) (v:=?_) (a':=?_) #[J,J,J,J,J,J,J,J,J,J,J,J,O,O,O] rfl rfl (take_ofW HT_.out HW_.out (by kernel_rfl)) (fun _ _ _ h=>h) (Or.inl ⟨by rfl,?_⟩) hHeld ?_ ?_
          rotate_left
          ·rintro w' ⟨s0,s1,s2,s3,s4,s5,s6,s7,s8,s9,s10,s11⟩
           go_simp
           with_reducible rfl
          rotate_left
          ·simp only [Act.put,sT,sZ,sS,iW,iV]
           rfl
          refine pure_ (i:=12) (N:=some 80) (v:=?_) (a':=?_) #[J,J,J,J,J,J,J,J,J,J,J,J,J,O,O] rfl rfl (any_of HT_.out (by kernel_rfl)) (fun _ _ _ h=>h) (Or.inl ⟨by rfl,?_⟩) ?_ ?_
          rotate_left
          ·intro w'
           go_simp
           with_reducible rfl
          rotate_left
          ·simp only [Act.put,sT,sZ,sS,iW,iV]
           rfl
          refine pure_ (i:=13) (N:=some 81) (v:=?_) (a':=?_) #[J,J,J,J,J,J,J,J,J,J,J,J,J,J,O] rfl rfl (any_of HT_.out (by kernel_rfl)) (fun _ _ _ h=>h) (Or.inl ⟨by rfl,?_⟩) ?_ ?_
          rotate_left
          ·intro w'
           go_simp
           with_reducible rfl
          rotate_left
          ·simp only [Act.put,sT,sZ,sS,iW,iV]
           rfl
          refine pure_ (i:=14) (N:=some 10) (v:=?_) (a':=?_) #[J,J,J,J,J,J,J,J,J,J,J,J,J,J,J] rfl rfl (any_of HT_.out (by kernel_rfl)) (fun _ _ _ h=>h) (Or.inl ⟨by rfl,?_⟩) ?_ ?_
          rotate_left
          ·intro w'
           go_simp
           with_reducible rfl
          rotate_left
          ·simp only [Act.put,sT,sZ,sS,iW,iV]
           rfl
          refine done_ (done_of HT_.out (by kernel_rfl)) ?_
          try go_wp2
          go_roundg k4
          case measure=>have:=HJ2.out;have:=HK2.out;have:=HK3.out;have:=HK4.out;omega
          case rel=>exact ⟨((((rd_T24 l0 x11_4).f1).toList != ((rd_T24 l0 x9_3).f1).toList)),(wrap64 (x11_4 + 1)),(by first|rfl|(simp;done)|(simp [*];done)),(by first|rfl|(simp;done)|(simp [*];done)),H',⟨by have:=HJ2.out;have:=HK2.out;have:=HK3.out;have:=HK4.out;omega⟩,⟨by repeat (first|(with_reducible first|exact HB.out|apply bL|apply pN|apply bE)|exact HB.out)⟩⟩
         rw [if_neg c24] at H
         have c24b0 : decide (x11_4 < x9_3) = false:=decide_eq_false c24
         clear c24
         have HC32:=Am H
         clear H
         go_upto_if 82 with (fail)
         go_cut [7] (fun v7 wc=>∃ (kq : Nat) (x7_31 : Int),v7 = .int .i64 x7_31∧Aside0 (gangerlaw20_BookSums.j4 kq l0 x5_2 x7_31 ji16 x9_3 = some r)∧Aside0 (kq≤k4)∧Aside0 (Below w.heap.size w wc))
         case first =>
          have H:=HC32.out
          clear HC32
          by_cases c33 : x10_4 = true
          rotate_left
          ·replace c33:=Bool.eq_false_iff.mpr c33
           subst c33
           have H1 : (gangerlaw20_BookSums.j4 k4 l0 x5_2 x7_3 ji16 x9_3) = some r:=by rw [if_neg (show ¬ (false = true) by decide)] at H;exact H
           clear H
           have H:=H1
           clear H1
           have H':=Am H
           clear H
           go_wp2
           go_meet
           case rel=>exact ⟨_,(x7_3),(by first|rfl|(simp;done)|(simp [*];done)),H',⟨by have:=HJ2.out;have:=HK2.out;have:=HK3.out;have:=HK4.out;first|omega|exact Nat.le_refl _⟩,⟨by repeat (first|(with_reducible first|exact HB.out|apply bL|apply pN|apply bE)|exact HB.out)⟩⟩
          subst c33
          have H1 : (if 0≤x9_3 then (if x9_3 < (l0.length : Int) then ((book_Total.f k4 l0 ((rd_T24 l0 x9_3).f1)).bind fun t294=>(gangerlaw20_BookSums.j4 k4 l0 x5_2 (wrap64 (x7_3 + t294)) ji16 x9_3)) else (none)) else (none)) = some r:=by rw [if_pos rfl] at H;exact H
          clear H
          have H:=H1
          clear H1
          by_cases c34 : 0≤x9_3
          rotate_left
          ·rw [if_neg c34] at H
           exact absurd H (by simp)
          rw [if_pos c34] at H
          have c34b0 : decide (0≤x9_3) = true:=decide_eq_true c34
          clear c34
          (first|rw [c34b0]|(simp only [iW,iV];rw [c34b0])|skip)
          by_cases c35 : x9_3 < (l0.length : Int)
          rotate_left
          ·rw [if_neg c35] at H
           exact absurd H (by simp)
          rw [if_pos c35] at H
          have c35b0 : decide (x9_3 < (l0.length : Int)) = true:=decide_eq_true c35
          clear c35
          replace H:=oB H
          obtain ⟨t294,A360,H⟩:=H
          try dsimp only at H
          have A36:=Am A360
          clear A360
          have H':=Am H
          clear H
          have p293 : 0≤(x9_3 : Int):=of_decide_eq_true (by first|(with_reducible assumption)|assumption)
          have q293 : x9_3 < (l0.length : Int):=of_decide_eq_true (by first|(with_reducible assumption)|assumption)
          obtain ⟨ad293,e293,hx293_0,hx293_1,hx293_2,hx293_3,hx293_4,hx293_5⟩:=at_T24 HR0.out x9_3 p293 q293
          cases e293
          replace hx293_0:=(HB.out.cell (wB w _ hx293_0)).trans hx293_0
          replace hx293_1:=(HB.out.cell (wB w _ hx293_1)).trans hx293_1
          replace hx293_2:=(HB.out.cell (wB w _ hx293_2)).trans hx293_2
          replace hx293_3:=(HB.out.cell (wB w _ hx293_3)).trans hx293_3
          replace hx293_4:=(HB.out.cell (wB w _ hx293_4)).trans hx293_4
          replace hx293_5:=(HB.out.cell (wB w _ hx293_5)).trans hx293_5
          replace p293:=eq_true p293
          replace q293:=eq_true q293
          go_wp2_with (first|((with_reducible refine gC (f:=13) rfl ?_);refine goesL_ (some 90) rfl rfl Tryd.func13 (by kernel_rfl) rfl #[.slice (some ad293) l0.length c0,.string ((rd_T24 l0 x9_3).f1)] rfl (by (try simp only [mT,mC,mN]);first|done|rfl|(simp only [lD,lT];rfl)) ?_;(with_reducible refine (book_Total.calls k4 _ _ l0 ((rd_T24 l0 x9_3).f1) t294 _ ?side1 ?side2 ?side3 A36.out).mono ?_);(case side1=>exact Glob.below HG.out (by repeat (first|(with_reducible first|exact HB.out|apply bL|apply pN|apply bE)|exact HB.out)));(case side2=>repeat (first|exact (Kd.C_below HR0.out HB.out)|(with_reducible refine Kd.C_alloc ?_ _)|(with_reducible refine Kd.C_drewN ?_ _)|(with_reducible refine Kd.C_drew ?_)));(case side3=>exact HC0.out);rintro e w37 ⟨rfl,hb⟩;refine ⟨_,rfl,?_⟩;have n0_:=Am (below_step (by repeat (first|(with_reducible first|exact HB.out|apply bL|apply pN|apply bE)|exact HB.out)) hb);clear HB;have HB:=n0_;clear n0_))
          go_meet
          case rel=>exact ⟨_,(wrap64 (x7_3 + t294)),(by first|rfl|(simp;done)|(simp [*];done)),H',⟨by have:=HJ2.out;have:=HK2.out;have:=HK3.out;have:=HK4.out;first|omega|exact Nat.le_refl _⟩,⟨by repeat (first|(with_reducible first|exact HB.out|apply bL|apply pN|apply bE)|exact HB.out)⟩⟩
         case rest =>
          clear HC32
          obtain ⟨kq,x7_31,rfl,HA,HJ31,HB⟩:=hcut
          cases kq with
          | zero=>exact absurd HA.out (by simp [gangerlaw20_BookSums.j4])
          | succ kj31 =>
           have H:=HA.out
           clear HA
           simp only [gangerlaw20_BookSums.j4] at H
           by_cases c38 : 0≤ji16
           rotate_left
           ·rw [if_neg c38] at H
            exact absurd H (by simp)
           rw [if_pos c38] at H
           have c38b0:=eq_true c38
           have c38b1 : decide (0≤ji16) = true:=decide_eq_true c38
           clear c38
           by_cases c39 : ji16≤(l0.length : Int)
           rotate_left
           ·rw [if_neg c39] at H
            exact absurd H (by simp)
           rw [if_pos c39] at H
           have c39b0:=eq_true c39
           have c39b1 : decide (ji16≤(l0.length : Int)) = true:=decide_eq_true c39
           clear c39
           obtain ⟨y295,hy295⟩ : ∃ y_ : List (S24),y_ = (l0.take (ji16 : Int).toNat):=⟨_,rfl⟩
           replace H : (if 0≤x9_3 then (if x9_3 < (l0.length : Int) then ((book_Total.f kj31 y295 ((rd_T24 l0 x9_3).f1)).bind fun t300=>((book_Total.f kj31 l0 ((rd_T24 l0 x9_3).f1)).bind fun t302=>(if t300 > t302 then (none) else (gangerlaw20_BookSums.l1 kj31 l0 x5_2 x7_31 ji16 (wrap64 (x9_3 + 1)))))) else (none)) else (none)) = some r:=by first|(rw [hy295];with_reducible exact H)|(have H2_:=(Option.bind_some _ _).symm.trans H;rw [hy295];with_reducible exact H2_)|(have H2_:=(Option.bind_some _ _).symm.trans H;with_reducible exact H2_)|with_reducible exact H|(rw [hy295];exact H)|exact H
           have Ny295:=Am hy295
           clear hy295
           by_cases c40 : 0≤x9_3
           rotate_left
           ·rw [if_neg c40] at H
            exact absurd H (by simp)
           rw [if_pos c40] at H
           have c40b0 : decide (0≤x9_3) = true:=decide_eq_true c40
           clear c40
           by_cases c41 : x9_3 < (l0.length : Int)
           rotate_left
           ·rw [if_neg c41] at H
            exact absurd H (by simp)
           rw [if_pos c41] at H
           have c41b0 : decide (x9_3 < (l0.length : Int)) = true:=decide_eq_true c41
           clear c41
           replace H:=oB H
           obtain ⟨t300,A420,H⟩:=H
           try dsimp only at H
           have A42:=Am A420
           clear A420
           replace H:=oB H
           obtain ⟨t302,A430,H⟩:=H
           try dsimp only at H
           have A43:=Am A430
           clear A430
           by_cases c44 : t300 > t302
           ·rw [if_pos c44] at H
            exact absurd H (by simp)
           rw [if_neg c44] at H
           have c44b0 : decide (t302 < t300) = false:=decide_eq_false c44
           clear c44
           have H':=Am H
           clear H
           try go_wp2
           have n0_:=Am (bE HB.out)
           clear HB
           have HB:=n0_
           clear n0_
           have q46 : (ji16 : Int)≤((l0.length : Int) : Int):=of_decide_eq_true (by first|(with_reducible assumption)|assumption)
           obtain ⟨i046,hi046,_,hsz46,_⟩:=info_parts info24
           have hroom46 : l0.length≤c0:=HC0.out
           have hC46 : Kd.C k24 _ A0 l0.length l0:=HR0.out
           have hcut46:=cut_to (P:=Tryd.prog) 32 24 .i64 Tryd.underlying32 hi046 A0 l0.length c0 ji16 (of_decide_eq_true (by first|(with_reducible assumption)|assumption)) q46 hroom46
           have hr46:=Kd.C_take (m:=(ji16 : Int).toNat) hC46 (by omega)
           have hy46 : y295.length = (ji16 : Int).toNat:=(by rw [Ny295.out,lT];omega)
           rw [← Ny295.out] at hr46
           rw [← hy46] at hcut46
           have HR298:=Am hr46
           have HC298:=Am (show y295.length≤c0 from by omega)
           clear hr46 hC46 hroom46 hi046 hsz46
           have KY46:=Am hy46
           clear hy46
           replace q46:=eq_true q46
           have p299 : 0≤(x9_3 : Int):=of_decide_eq_true (by first|(with_reducible assumption)|assumption)
           have q299 : x9_3 < (l0.length : Int):=of_decide_eq_true (by first|(with_reducible assumption)|assumption)
           obtain ⟨ad299,e299,hx299_0,hx299_1,hx299_2,hx299_3,hx299_4,hx299_5⟩:=at_T24 HR0.out x9_3 p299 q299
           have hw299_5:=hx299_5
           have hw299_4:=hx299_4
           have hw299_3:=hx299_3
           have hw299_2:=hx299_2
           have hw299_1:=hx299_1
           have hw299_0:=hx299_0
           cases e299
           replace hx299_0:=(HB.out.cell (wB w _ hx299_0)).trans hx299_0
           replace hx299_1:=(HB.out.cell (wB w _ hx299_1)).trans hx299_1
           replace hx299_2:=(HB.out.cell (wB w _ hx299_2)).trans hx299_2
           replace hx299_3:=(HB.out.cell (wB w _ hx299_3)).trans hx299_3
           replace hx299_4:=(HB.out.cell (wB w _ hx299_4)).trans hx299_4
           replace hx299_5:=(HB.out.cell (wB w _ hx299_5)).trans hx299_5
           replace p299:=eq_true p299
           replace q299:=eq_true q299
           have p301 : 0≤(x9_3 : Int):=of_decide_eq_true (by first|(with_reducible assumption)|assumption)
           have q301 : x9_3 < (l0.length : Int):=of_decide_eq_true (by first|(with_reducible assumption)|assumption)
           obtain ⟨ad301,e301,hx301_0,hx301_1,hx301_2,hx301_3,hx301_4,hx301_5⟩:=at_T24 HR0.out x9_3 p301 q301
           have hw301_5:=hx301_5
           have hw301_4:=hx301_4
           have hw301_3:=hx301_3
           have hw301_2:=hx301_2
           have hw301_1:=hx301_1
           have hw301_0:=hx301_0
           obtain rfl : ad299 = ad301:=(by injection e301)
           replace hx301_0:=(HB.out.cell (wB w _ hx301_0)).trans hx301_0
           replace hx301_1:=(HB.out.cell (wB w _ hx301_1)).trans hx301_1
           replace hx301_2:=(HB.out.cell (wB w _ hx301_2)).trans hx301_2
           replace hx301_3:=(HB.out.cell (wB w _ hx301_3)).trans hx301_3
           replace hx301_4:=(HB.out.cell (wB w _ hx301_4)).trans hx301_4
           replace hx301_5:=(HB.out.cell (wB w _ hx301_5)).trans hx301_5
           replace p301:=eq_true p301
           replace q301:=eq_true q301
           refine start_ (n:=17) (S:=fun w'=>w'.cell? (ad299.add ((x9_3).toNat * 6)) = some (.int .u32 ((rd_T24 l0 x9_3).f0))∧w'.cell? ⟨(ad299.add ((x9_3).toNat * 6)).block,(ad299.add ((x9_3).toNat * 6)).off + 1,none⟩ = some (.string ((rd_T24 l0 x9_3).f1))∧w'.cell? ⟨(ad299.add ((x9_3).toNat * 6)).block,(ad299.add ((x9_3).toNat * 6)).off + 2,none⟩ = some (.int .i64 ((rd_T24 l0 x9_3).f2))∧w'.cell? ⟨(ad299.add ((x9_3).toNat * 6)).block,(ad299.add ((x9_3).toNat * 6)).off + 3,none⟩ = some (.int .i64 ((rd_T24 l0 x9_3).f3))∧w'.cell? ⟨(ad299.add ((x9_3).toNat * 6)).block,(ad299.add ((x9_3).toNat * 6)).off + 4,none⟩ = some (.int .i64 ((rd_T24 l0 x9_3).f4))∧w'.cell? ⟨(ad299.add ((x9_3).toNat * 6)).block,(ad299.add ((x9_3).toNat * 6)).off + 5,none⟩ = some (.int .i64 ((rd_T24 l0 x9_3).f5))∧w'.cell? (ad299.add ((x9_3).toNat * 6)) = some (.int .u32 ((rd_T24 l0 x9_3).f0))∧w'.cell? ⟨(ad299.add ((x9_3).toNat * 6)).block,(ad299.add ((x9_3).toNat * 6)).off + 1,none⟩ = some (.string ((rd_T24 l0 x9_3).f1))∧w'.cell? ⟨(ad299.add ((x9_3).toNat * 6)).block,(ad299.add ((x9_3).toNat * 6)).off + 2,none⟩ = some (.int .i64 ((rd_T24 l0 x9_3).f2))∧w'.cell? ⟨(ad299.add ((x9_3).toNat * 6)).block,(ad299.add ((x9_3).toNat * 6)).off + 3,none⟩ = some (.int .i64 ((rd_T24 l0 x9_3).f3))∧w'.cell? ⟨(ad299.add ((x9_3).toNat * 6)).block,(ad299.add ((x9_3).toNat * 6)).off + 4,none⟩ = some (.int .i64 ((rd_T24 l0 x9_3).f4))∧w'.cell? ⟨(ad299.add ((x9_3).toNat * 6)).block,(ad299.add ((x9_3).toNat * 6)).off + 5,none⟩ = some (.int .i64 ((rd_T24 l0 x9_3).f5))) (ds:=[]) #[O,O,O,O,O,O,O,O,O,O,O,O,O,O,O,O,O] (by kernel_rfl) rfl rfl ⟨((HB.out.cell (wB w _ hw299_0)).trans hw299_0),((HB.out.cell (wB w _ hw299_1)).trans hw299_1),((HB.out.cell (wB w _ hw299_2)).trans hw299_2),((HB.out.cell (wB w _ hw299_3)).trans hw299_3),((HB.out.cell (wB w _ hw299_4)).trans hw299_4),((HB.out.cell (wB w _ hw299_5)).trans hw299_5),((HB.out.cell (wB w _ hw301_0)).trans hw301_0),((HB.out.cell (wB w _ hw301_1)).trans hw301_1),((HB.out.cell (wB w _ hw301_2)).trans hw301_2),((HB.out.cell (wB w _ hw301_3)).trans hw301_3),((HB.out.cell (wB w _ hw301_4)).trans hw301_4),((HB.out.cell (wB w _ hw301_5)).trans hw301_5)⟩ (fun hHeld=>?_);refine with_tabW gangerlaw20_BookSums.tab22 gangerlaw20_BookSums.bits22 (fun HT_ HW_=>?_)
           generalize wc.drew = w45 at HB HR298 hx299_0 hx299_1 hx299_2 hx299_3 hx299_4 hx299_5 hx301_0 hx301_1 hx301_2 hx301_3 hx301_4 hx301_5 hHeld ⊢
           refine pure_ (i:=0) (N:=some 92) (v:=?_) (a':=?_) #[J,O,O,O,O,O,O,O,O,O,O,O,O,O,O,O,O] rfl rfl (any_of HT_.out (by kernel_rfl)) (fun _ _ _ h=>h) (Or.inl ⟨by rfl,?_⟩) ?_ ?_
           rotate_left
           ·intro w'
            go_simp
            with_reducible rfl
           rotate_left
           ·simp only [Act.put,sT,sZ,sS,iW,iV]
            rfl
           refine pure_ (i:=1) (N:=some 93) (v:=?_) (a':=?_) #[J,J,O,O,O,O,O,O,O,O,O,O,O,O,O,O,O] rfl rfl (any_of HT_.out (by kernel_rfl)) (fun _ _ _ h=>h) (Or.inl ⟨by rfl,?_⟩) ?_ ?_
           rotate_left
           ·intro w'
            go_simp
            with_reducible rfl
           rotate_left
           ·simp only [Act.put,sT,sZ,sS,iW,iV]
            rfl
           refine pure_ (i:=2) (N:=some 94) (v:=?_) (a':=?_) #[J,J,J,O,O,O,O,O,O,O,O,O,O,O,O,O,O] rfl rfl (any_of HT_.out (by kernel_rfl)) (fun _ _ _ h=>h) (Or.inl ⟨by rfl,?_⟩) ?_ ?_
           rotate_left
           ·intro w'
            go_simp
            with_reducible rfl
           rotate_left
           ·simp only [Act.put,sT,sZ,sS,iW,iV]
            rfl
           refine pure_ (i:=3) (N:=some 95) (v:=?_) (a':=?_) #[J,J,J,J,O,O,O,O,O,O,O,O,O,O,O,O,O] rfl rfl (any_of HT_.out (by kernel_rfl)) (fun _ _ _ h=>h) (Or.inl ⟨by rfl,?_⟩) ?_ ?_
           rotate_left
           ·intro w'
            go_simp
            with_reducible rfl
           rotate_left
           ·simp only [Act.put,sT,sZ,sS,iW,iV]
            rfl
           refine pure_ (i:=4) (N:=some 96) (v:=?_) (a':=?_) #[J,J,J,J,J,O,O,O,O,O,O,O,O,O,O,O,O] rfl rfl (any_of HT_.out (by kernel_rfl)) (fun _ _ _ h=>h) (Or.inl ⟨by rfl,?_⟩) ?_ ?_
           rotate_left
           ·intro w'
            go_simp
            with_reducible rfl
           rotate_left
           ·simp only [Act.put,sT,sZ,sS,iW,iV]
            rfl
           refine pure_ (i:=5) (N:=some 97) (v:=?_) (a':=?_) #[J,J,J,J,J,J,O,O,O,O,O,O,O,O,O,O,O] rfl rfl (any_of HT_.out (by kernel_rfl)) (fun _ _ _ h=>h) (Or.inl ⟨by rfl,?_⟩) ?_ ?_
           rotate_left
           ·intro w'
            go_simp
            with_reducible rfl
           rotate_left
           ·simp only [Act.put,sT,sZ,sS,iW,iV]
            rfl
           refine pure_ (i:=6) (N:=some 98) (v:=?_) (a':=?_) #[J,J,J,J,J,J,J,O,O,O,O,O,O,O,O,O,O] rfl rfl (any_of HT_.out (by kernel_rfl)) (fun _ _ _ h=>h) (Or.inl ⟨by rfl,?_⟩) ?_ ?_
           rotate_left
           ·intro w'
            go_simp
            with_reducible rfl
           rotate_left
           ·simp only [Act.put,sT,sZ,sS,iW,iV]
            rfl
           refine pure_ (i:=9) (N:=some 101) (v:=?_) (a':=?_) #[J,J,J,J,J,J,J,O,O,J,O,O,O,O,O,O,O] rfl rfl (any_of HT_.out (by kernel_rfl)) (fun _ _ _ h=>h) (Or.inl ⟨by rfl,?_⟩) ?_ ?_
           rotate_left
           ·intro w'
            go_simp
            with_reducible rfl
           rotate_left
           ·simp only [Act.put,sT,sZ,sS,iW,iV]
            rfl
           refine pure_ (i:=10) (N:=some 102) (v:=?_) (a':=?_) #[J,J,J,J,J,J,J,O,O,J,J,O,O,O,O,O,O] rfl rfl (any_of HT_.out (by kernel_rfl)) (fun _ _ _ h=>h) (Or.inl ⟨by rfl,?_⟩) ?_ ?_
           rotate_left
           ·intro w'
            go_simp
            with_reducible rfl
           rotate_left
           ·simp only [Act.put,sT,sZ,sS,iW,iV]
            rfl
           refine pure_ (i:=11) (N:=some 103) (v:=?_) (a':=?_) #[J,J,J,J,J,J,J,O,O,J,J,J,O,O,O,O,O] rfl rfl (any_of HT_.out (by kernel_rfl)) (fun _ _ _ h=>h) (Or.inl ⟨by rfl,?_⟩) ?_ ?_
           rotate_left
           ·intro w'
            go_simp
            with_reducible rfl
           rotate_left
           ·simp only [Act.put,sT,sZ,sS,iW,iV]
            rfl
           refine pure_ (i:=12) (N:=some 104) (v:=?_) (a':=?_) #[J,J,J,J,J,J,J,O,O,J,J,J,J,O,O,O,O] rfl rfl (any_of HT_.out (by kernel_rfl)) (fun _ _ _ h=>h) (Or.inl ⟨by rfl,?_⟩) ?_ ?_
           rotate_left
           ·intro w'
            go_simp
            with_reducible rfl
           rotate_left
           ·simp only [Act.put,sT,sZ,sS,iW,iV]
            rfl
           refine pure_ (i:=13) (N:=some 105) (v:=?_) (a':=?_) #[J,J,J,J,J,J,J,O,O,J,J,J,J,J,O,O,O] rfl rfl (any_of HT_.out (by kernel_rfl)) (fun _ _ _ h=>h) (Or.inl ⟨by rfl,?_⟩) ?_ ?_
           rotate_left
           ·intro w'
            go_simp
            with_reducible rfl
           rotate_left
           ·simp only [Act.put,sT,sZ,sS,iW,iV]
            rfl
           refine take_ (i:=7) (N:=some 99) (v:=?_) (a':=?_) #[J,J,J,J,J,J,J,J,O,J,J,J,J,J,O,O,O] rfl rfl (take_ofW HT_.out HW_.out (by kernel_rfl)) (fun _ _ _ h=>h) (Or.inl ⟨by rfl,?_⟩) hHeld ?_ ?_
           rotate_left
           ·rintro w' ⟨s0,s1,s2,s3,s4,s5,s6,s7,s8,s9,s10,s11⟩
            go_simp
            with_reducible rfl
           rotate_left
           ·simp only [Act.put,sT,sZ,sS,iW,iV]
            rfl
           refine take_ (i:=14) (N:=some 106) (v:=?_) (a':=?_) #[J,J,J,J,J,J,J,J,O,J,J,J,J,J,J,O,O] rfl rfl (take_ofW HT_.out HW_.out (by kernel_rfl)) (fun _ _ _ h=>h) (Or.inl ⟨by rfl,?_⟩) hHeld ?_ ?_
           rotate_left
           ·rintro w' ⟨s0,s1,s2,s3,s4,s5,s6,s7,s8,s9,s10,s11⟩
            go_simp
            with_reducible rfl
           rotate_left
           ·simp only [Act.put,sT,sZ,sS,iW,iV]
            rfl
           refine one_ (i:=8) (N:=some 100) #[J,J,J,J,J,J,J,J,J,J,J,J,J,J,J,O,O] rfl rfl (one_of HT_.out (by kernel_rfl)) (by decide) (fun K hK=>?_)
           refine goes_ Tryd.func13 (by kernel_rfl) rfl #[.slice (some ad299) y295.length c0,.string ((rd_T24 l0 x9_3).f1)] (by rfl) rfl rfl (by (try simp only [mT,mC,mN]);first|done|rfl|(rw [KY46.out];rfl)|(rw [KY46.out,← KY21.out];rfl)|(simp only [lD,lT];rfl)) ?_
           with_reducible refine (book_Total.calls kj31 _ _ y295 ((rd_T24 l0 x9_3).f1) t300 _ ?side1 ?side2 ?side3 A42.out).mono ?_
           (case side1=>exact Glob.below HG.out (by repeat (first|(with_reducible first|exact HB.out|apply bL|apply pN|apply bE)|exact HB.out)))
           (case side2=>repeat (first|exact (Kd.C_below HR298.out HB.out)|(with_reducible refine Kd.C_alloc ?_ _)|(with_reducible refine Kd.C_drewN ?_ _)|(with_reducible refine Kd.C_drew ?_)))
           (case side3=>exact HC298.out)
           rintro e w47 ⟨rfl,hb⟩
           refine ⟨_,rfl,?_⟩
           have n0_:=Am (below_step (by repeat (first|(with_reducible first|exact HB.out|apply bL|apply pN|apply bE)|exact HB.out)) hb)
           clear HB
           have HB:=n0_
           clear n0_
           refine hK.out _ _ ⟨((HB.out.cell (wB w _ hw299_0)).trans hw299_0),((HB.out.cell (wB w _ hw299_1)).trans hw299_1),((HB.out.cell (wB w _ hw299_2)).trans hw299_2),((HB.out.cell (wB w _ hw299_3)).trans hw299_3),((HB.out.cell (wB w _ hw299_4)).trans hw299_4),((HB.out.cell (wB w _ hw299_5)).trans hw299_5),((HB.out.cell (wB w _ hw301_0)).trans hw301_0),((HB.out.cell (wB w _ hw301_1)).trans hw301_1),((HB.out.cell (wB w _ hw301_2)).trans hw301_2),((HB.out.cell (wB w _ hw301_3)).trans hw301_3),((HB.out.cell (wB w _ hw301_4)).trans hw301_4),((HB.out.cell (wB w _ hw301_5)).trans hw301_5)⟩ (fun hHeld=>?_)
           clear hK K
           refine norm_ (a':=?_) ?_ ?_
           rotate_left
           ·show Act.put _ (some 100) _ = _
            simp only [Act.put,sT,sZ,sS,iW,iV]
            rfl
           refine one_ (i:=15) (N:=some 107) #[J,J,J,J,J,J,J,J,J,J,J,J,J,J,J,J,O] rfl rfl (one_of HT_.out (by kernel_rfl)) (by decide) (fun K hK=>?_)
           refine goes_ Tryd.func13 (by kernel_rfl) rfl #[.slice (some ad299) l0.length c0,.string ((rd_T24 l0 x9_3).f1)] (by rfl) rfl rfl (by (try simp only [mT,mC,mN]);first|done|rfl|(simp only [lD,lT];rfl)) ?_
           with_reducible refine (book_Total.calls kj31 _ _ l0 ((rd_T24 l0 x9_3).f1) t302 _ ?side1 ?side2 ?side3 A43.out).mono ?_
           (case side1=>exact Glob.below HG.out (by repeat (first|(with_reducible first|exact HB.out|apply bL|apply pN|apply bE)|exact HB.out)))
           (case side2=>repeat (first|exact (Kd.C_below HR0.out HB.out)|(with_reducible refine Kd.C_alloc ?_ _)|(with_reducible refine Kd.C_drewN ?_ _)|(with_reducible refine Kd.C_drew ?_)))
           (case side3=>exact HC0.out)
           rintro e w48 ⟨rfl,hb⟩
           refine ⟨_,rfl,?_⟩
           have n0_:=Am (below_step (by repeat (first|(with_reducible first|exact HB.out|apply bL|apply pN|apply bE)|exact HB.out)) hb)
           clear HB
           have HB:=n0_
           clear n0_
           refine hK.out _ _ ⟨((HB.out.cell (wB w _ hw299_0)).trans hw299_0),((HB.out.cell (wB w _ hw299_1)).trans hw299_1),((HB.out.cell (wB w _ hw299_2)).trans hw299_2),((HB.out.cell (wB w _ hw299_3)).trans hw299_3),((HB.out.cell (wB w _ hw299_4)).trans hw299_4),((HB.out.cell (wB w _ hw299_5)).trans hw299_5),((HB.out.cell (wB w _ hw301_0)).trans hw301_0),((HB.out.cell (wB w _ hw301_1)).trans hw301_1),((HB.out.cell (wB w _ hw301_2)).trans hw301_2),((HB.out.cell (wB w _ hw301_3)).trans hw301_3),((HB.out.cell (wB w _ hw301_4)).trans hw301_4),((HB.out.cell (wB w _ hw301_5)).trans hw301_5)⟩ (fun hHeld=>?_)
           clear hK K
           refine norm_ (a':=?_) ?_ ?_
           rotate_left
           ·show Act.put _ (some 107) _ = _
            simp only [Act.put,sT,sZ,sS,iW,iV]
            rfl
           refine pure_ (i:=16) (N:=some 108) (v:=?_) (a':=?_) #[J,J,J,J,J,J,J,J,J,J,J,J,J,J,J,J,J] rfl rfl (any_of HT_.out (by kernel_rfl)) (fun _ _ _ h=>h) (Or.inl ⟨by rfl,?_⟩) ?_ ?_
           rotate_left
           ·intro w'
            go_simp
            with_reducible rfl
           rotate_left
           ·simp only [Act.put,sT,sZ,sS,iW,iV]
            rfl
           refine done_ (done_of HT_.out (by kernel_rfl)) ?_
           try go_wp2
           go_roundg kj31
           case measure=>have:=HJ2.out;have:=HK2.out;have:=HK3.out;have:=HK4.out;have:=HJ31.out;omega
           case rel=>exact ⟨(x7_31),(wrap64 (x9_3 + 1)),(by first|rfl|(simp;done)|(simp [*];done)),(by first|rfl|(simp;done)|(simp [*];done)),H',⟨by have:=HJ2.out;have:=HK2.out;have:=HK3.out;have:=HK4.out;have:=HJ31.out;omega⟩,⟨by repeat (first|(with_reducible first|exact HB.out|apply bL|apply pN|apply bE)|exact HB.out)⟩⟩
def gangerlaw20_BookSums.Pure : Prop:=∀ (l0 : List (S24)) (a1 : Int),(l0.length≤maxLen∧∀ x2 ∈ l0,(((Lit.int .u32 x2.f0).wf = true)∧((x2.f1.size≤maxLen)∧(((Lit.int .i64 x2.f2).wf = true)∧(((Lit.int .i64 x2.f3).wf = true)∧(((Lit.int .i64 x2.f4).wf = true)∧((Lit.int .i64 x2.f5).wf = true)))))))→((Lit.int .i64 a1).wf = true)→∃ k,gangerlaw20_BookSums.f k l0 a1 = some true
end Go.Proofs.YtakdneopmojjdaaDoor.P
