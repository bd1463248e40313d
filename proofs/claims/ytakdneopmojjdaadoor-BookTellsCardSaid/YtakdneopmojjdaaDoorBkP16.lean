/- cut to what one law reaches -/
import Derived.Test.YtakdneopmojjdaaDoorBkShort
import Derived.Test.YtakdneopmojjdaaDoorBkP0
import Derived.Test.YtakdneopmojjdaaDoorBkP6
import Derived.Test.YtakdneopmojjdaaDoorBkP7
import Derived.Test.YtakdneopmojjdaaDoorBkP9
import Derived.Test.YtakdneopmojjdaaDoorBkP10
import Derived.Test.YtakdneopmojjdaaDoorBkP14
import Derived.Test.YtakdneopmojjdaaDoorBkP15
namespace Go.Proofs.YtakdneopmojjdaaDoor.P
open Go.RowKit Go.Proofs.YtakdneopmojjdaaDoorW.PrintWords Go.Proofs.YtakdneopmojjdaaDoorW.PrintLast Go.Proofs.YtakdneopmojjdaaDoorW.PrintMore
attribute [local go_sem] max2_int min2_int max_two min_two max_three min_three max_four min_four   -- for this text's walks alone
set_option linter.unusedVariables false
set_option linter.unusedSimpArgs false
attribute [local go_sem] isSome_setCell
mutual
def gangerref20_Total.l0 : Nat→List (S24)→ByteArray→Int→Int→Int→Option (Int)
 | 0,_,_,_,_,_=>none
 | k + 1,x0,x1,x5,x6,x7=>if x7 < (x0.length : Int) then (gangerref20_Total.j1 k x0 x1 x5 x6 x7 (x5 == 0)) else (gangerref20_Total.j1 k x0 x1 x5 x6 x7 false)
def gangerref20_Total.j1 : Nat→List (S24)→ByteArray→Int→Int→Int→Bool→Option (Int)
 | 0,_,_,_,_,_,_=>none
 | k + 1,x0,x1,x5,x6,x7,x17=>if x17 = true then (if 0≤x7 then (if x7 < (x0.length : Int) then (if ((rd_T24 x0 x7).f1).toList = x1.toList then ((gangerref01_Of.f x6).bind fun bt257=>((gangerref01_Of.f (wrap64 (((rd_T24 x0 x7).f2) * ((rd_T24 x0 x7).f3)))).bind fun bt262=>((gangerref01_Plus.f bt257.1 bt257.2.1 bt257.2.2 bt262.1 bt262.2.1 bt262.2.2).bind fun bt265=>((gangerref01_End.f k bt265.1 bt265.2.1 bt265.2.2).bind fun t268=>(gangerref20_Total.l0 k x0 x1 x5 t268 (wrap64 (x7 + 1))))))) else (gangerref20_Total.l0 k x0 x1 x5 x6 (wrap64 (x7 + 1)))) else (none)) else (none)) else (some x6)
end
def gangerref20_Total.f (k : Nat) (l0 : List (S24)) (a1 : ByteArray) : Option (Int):=(gangerref20_Check.f k l0).bind fun t255=>(gangerref20_Total.l0 k l0 a1 t255 0 0)
def gangerref20_Total.T7 : Bool × List (List Nat × List Nat):=(true,[([],[]),([0],[0]),([],[]),([],[]),([2,3],[2,3]),([4],[4]),([5],[5]),([],[]),([],[]),([7,8],[7,8]),([9],[9]),([10],[10]),([6,11],[6,11]),([12,1],[12]),([1,13,13],[1,13]),([14,14],[14]),([15,15,0,1,2,3,4,5,6,7,8,9,10,11,12,13,14,15],[0,15])])
def gangerref20_Total.B7 : List Nat:=[0,1,0,0,12,28,60,0,0,384,896,1920,4092,8191,16383,32767,65535]
theorem gangerref20_Total.tab7 : rtab .any (opsOf Tryd.f18 7) = gangerref20_Total.T7:=by kernel_rfl
theorem gangerref20_Total.bits7 : waitsOk gangerref20_Total.T7.2 gangerref20_Total.B7 = true:=by kernel_rfl
set_option maxHeartbeats 8000000 in
set_option maxRecDepth 100000 in
theorem gangerref20_Total.calls (k : Nat) (A0 : Option Addr) (c0 : Nat) (l0 : List (S24)) (a1 : ByteArray) (r : Int) (w : World) (hr0 : Kd.C k24 w A0 l0.length l0) (hc0 : l0.length≤c0) (h : gangerref20_Total.f k l0 a1 = some r) :
  Calls Tryd.prog 18 #[.slice A0 l0.length c0,.string a1] w fun e w'=>e = .returned (.int .i64 r)∧Below w.heap.size w w':=by
 have HR0:=Am hr0
 have HC0:=Am hc0
 clear hr0 hc0
 have HB:=Am (Below.refl w.heap.size w)
 have H : ((gangerref20_Check.f k l0).bind fun t255=>(gangerref20_Total.l0 k l0 a1 t255 0 0)) = some r:=h
 clear h
 replace H:=oB H
 obtain ⟨t255,A30,H⟩:=H
 try dsimp only at H
 have A3:=Am A30
 clear A30
 have H':=Am H
 clear H
 go_enter Tryd.func18,Tryd.ntmps18
 go_wp2_with (first|((with_reducible refine gC (f:=17) rfl ?_);refine goesL_ (some 9) rfl rfl Tryd.func17 (by kernel_rfl) rfl #[.slice A0 l0.length c0] rfl (by (try simp only [mT,mC,mN]);first|done|rfl|(simp only [lD,lT];rfl)) ?_;(with_reducible refine (gangerref20_Check.calls k _ _ l0 t255 _ ?side1 ?side2 A3.out).mono ?_);(case side1=>repeat (first|exact HR0.out|(with_reducible refine Kd.C_alloc ?_ _)|(with_reducible refine Kd.C_drewN ?_ _)|(with_reducible refine Kd.C_drew ?_)));(case side2=>exact HC0.out);rintro e w4 ⟨rfl,hb⟩;refine ⟨_,rfl,?_⟩;have n0_:=Am (below_step (by repeat (first|(with_reducible first|exact HB.out|apply bL|apply pN|apply bE)|exact HB.out)) hb);clear HB;have HB:=n0_;clear n0_))
 go_loopg [6,7] k (fun kq v6 v7 w'=>∃ (x6_1 : Int) (x7_1 : Int),v6 = .int .i64 x6_1∧v7 = .int .i64 x7_1∧Aside0 (gangerref20_Total.l0 kq l0 a1 t255 x6_1 x7_1 = some r)∧Aside0 (kq≤k)∧Aside0 (Below w.heap.size w w'))
 case atStart=>exact ⟨(0),(0),(by first|rfl|(simp;done)|(simp [*];done)),(by first|rfl|(simp;done)|(simp [*];done)),H',⟨Nat.le_refl _⟩,⟨by repeat (first|(with_reducible first|exact HB.out|apply bL|apply pN|apply bE)|exact HB.out)⟩⟩
 case round =>
  clear H'
  obtain ⟨x6_1,x7_1,rfl,rfl,HA,HK1,HB⟩:=hrel
  cases gk with
  | zero=>exact absurd HA.out (by simp [gangerref20_Total.l0])
  | succ k1 =>
   have H:=HA.out
   clear HA
   simp only [gangerref20_Total.l0] at H
   have HC5:=Am H
   clear H
   go_upto_region 4 with (fail)
   go_cut [17] (fun v17 wc=>∃ (kq : Nat) (x17_4 : Bool),v17 = .bool x17_4∧Aside0 (gangerref20_Total.j1 kq l0 a1 t255 x6_1 x7_1 x17_4 = some r)∧Aside0 (kq≤k1)∧Aside0 (Below w.heap.size w wc))
   case first =>
    have H:=HC5.out
    clear HC5
    by_cases c6 : x7_1 < (l0.length : Int)
    rotate_left
    ·rw [if_neg c6] at H
     have c6b0 : decide (x7_1 < (l0.length : Int)) = false:=decide_eq_false c6
     clear c6
     (first|rw [c6b0]|(simp only [iW,iV];rw [c6b0])|skip)
     have H':=Am H
     clear H
     go_wp2
     go_meet
     case rel=>exact ⟨_,(false),(by first|rfl|(simp;done)|(simp [*];done)),H',⟨by have:=HK1.out;first|omega|exact Nat.le_refl _⟩,⟨by repeat (first|(with_reducible first|exact HB.out|apply bL|apply pN|apply bE)|exact HB.out)⟩⟩
    rw [if_pos c6] at H
    have c6b0 : decide (x7_1 < (l0.length : Int)) = true:=decide_eq_true c6
    clear c6
    (first|rw [c6b0]|(simp only [iW,iV];rw [c6b0])|skip)
    have H':=Am H
    clear H
    go_wp2
    go_meet
    case rel=>exact ⟨_,((t255 == 0)),(by first|rfl|(simp;done)|(simp [*];done)),H',⟨by have:=HK1.out;first|omega|exact Nat.le_refl _⟩,⟨by repeat (first|(with_reducible first|exact HB.out|apply bL|apply pN|apply bE)|exact HB.out)⟩⟩
   case rest =>
    clear HC5
    obtain ⟨kq,x17_4,rfl,HA,HJ4,HB⟩:=hcut
    cases kq with
    | zero=>exact absurd HA.out (by simp [gangerref20_Total.j1])
    | succ kj4 =>
     have H:=HA.out
     clear HA
     simp only [gangerref20_Total.j1] at H
     by_cases c7 : x17_4 = true
     rotate_left
     ·replace c7:=Bool.eq_false_iff.mpr c7
      subst c7
      have H1 : (some x6_1) = some r:=by rw [if_neg (show ¬ (false = true) by decide)] at H;exact H
      clear H
      have H:=H1
      clear H1
      obtain rfl:=Option.some.inj H
      go_wp2
      go_ret
      exact ⟨by first|rfl|(simp [errW_none,errW_some] <;> rfl)|(simp [*,errW_none,errW_some] <;> rfl)|(simp [bne,isE_]),by repeat (first|(with_reducible first|exact HB.out|apply bL|apply pN|apply bE)|exact HB.out)⟩
     subst c7
     have H1 : (if 0≤x7_1 then (if x7_1 < (l0.length : Int) then (if ((rd_T24 l0 x7_1).f1).toList = a1.toList then ((gangerref01_Of.f x6_1).bind fun bt257=>((gangerref01_Of.f (wrap64 (((rd_T24 l0 x7_1).f2) * ((rd_T24 l0 x7_1).f3)))).bind fun bt262=>((gangerref01_Plus.f bt257.1 bt257.2.1 bt257.2.2 bt262.1 bt262.2.1 bt262.2.2).bind fun bt265=>((gangerref01_End.f kj4 bt265.1 bt265.2.1 bt265.2.2).bind fun t268=>(gangerref20_Total.l0 kj4 l0 a1 t255 t268 (wrap64 (x7_1 + 1))))))) else (gangerref20_Total.l0 kj4 l0 a1 t255 x6_1 (wrap64 (x7_1 + 1)))) else (none)) else (none)) = some r:=by rw [if_pos rfl] at H;exact H
     clear H
     have H:=H1
     clear H1
     by_cases c8 : 0≤x7_1
     rotate_left
     ·rw [if_neg c8] at H
      exact absurd H (by simp)
     rw [if_pos c8] at H
     have c8b0 : decide (0≤x7_1) = true:=decide_eq_true c8
     clear c8
     by_cases c9 : x7_1 < (l0.length : Int)
     rotate_left
     ·rw [if_neg c9] at H
      exact absurd H (by simp)
     rw [if_pos c9] at H
     have c9b0 : decide (x7_1 < (l0.length : Int)) = true:=decide_eq_true c9
     clear c9
     by_cases c10 : ((rd_T24 l0 x7_1).f1).toList = a1.toList
     rotate_left
     ·rw [if_neg c10] at H
      have c10b0 : (((rd_T24 l0 x7_1).f1).toList == a1.toList) = false:=beq_eq_false_iff_ne.mpr c10
      have c10b1 : (((rd_T24 l0 x7_1).f1).toList != a1.toList) = true:=bne_iff_ne.mpr c10
      have H':=Am H
      clear H
      have p256 : 0≤(x7_1 : Int):=of_decide_eq_true (by first|(with_reducible assumption)|assumption)
      have q256 : x7_1 < (l0.length : Int):=of_decide_eq_true (by first|(with_reducible assumption)|assumption)
      obtain ⟨ad256,e256,hx256_0,hx256_1,hx256_2,hx256_3,hx256_4,hx256_5⟩:=at_T24 HR0.out x7_1 p256 q256
      cases e256
      replace hx256_0:=(HB.out.cell (wB w _ hx256_0)).trans hx256_0
      replace hx256_1:=(HB.out.cell (wB w _ hx256_1)).trans hx256_1
      replace hx256_2:=(HB.out.cell (wB w _ hx256_2)).trans hx256_2
      replace hx256_3:=(HB.out.cell (wB w _ hx256_3)).trans hx256_3
      replace hx256_4:=(HB.out.cell (wB w _ hx256_4)).trans hx256_4
      replace hx256_5:=(HB.out.cell (wB w _ hx256_5)).trans hx256_5
      replace p256:=eq_true p256
      replace q256:=eq_true q256
      go_wp2
      go_roundg kj4
      case measure=>have:=HK1.out;have:=HJ4.out;omega
      case rel=>exact ⟨(x6_1),(wrap64 (x7_1 + 1)),(by first|rfl|(simp;done)|(simp [*];done)),(by first|rfl|(simp;done)|(simp [*];done)),H',⟨by have:=HK1.out;have:=HJ4.out;omega⟩,⟨by repeat (first|(with_reducible first|exact HB.out|apply bL|apply pN|apply bE)|exact HB.out)⟩⟩
     rw [if_pos c10] at H
     have c10b0 : (((rd_T24 l0 x7_1).f1).toList == a1.toList) = true:=beq_iff_eq.mpr c10
     have c10b1 : (((rd_T24 l0 x7_1).f1).toList != a1.toList) = false:=bne_eq_false_iff_eq.mpr c10
     clear c10
     replace H:=oB H
     obtain ⟨⟨t257,t258,t259⟩,A110,H⟩:=H
     replace H : ((gangerref01_Of.f (wrap64 (((rd_T24 l0 x7_1).f2) * ((rd_T24 l0 x7_1).f3)))).bind fun bt262=>((gangerref01_Plus.f t257 t258 t259 bt262.1 bt262.2.1 bt262.2.2).bind fun bt265=>((gangerref01_End.f kj4 bt265.1 bt265.2.1 bt265.2.2).bind fun t268=>(gangerref20_Total.l0 kj4 l0 a1 t255 t268 (wrap64 (x7_1 + 1)))))) = some r:=H
     have A11:=Am A110
     clear A110
     replace H:=oB H
     obtain ⟨⟨t262,t263,t264⟩,A120,H⟩:=H
     replace H : ((gangerref01_Plus.f t257 t258 t259 t262 t263 t264).bind fun bt265=>((gangerref01_End.f kj4 bt265.1 bt265.2.1 bt265.2.2).bind fun t268=>(gangerref20_Total.l0 kj4 l0 a1 t255 t268 (wrap64 (x7_1 + 1))))) = some r:=H
     have A12:=Am A120
     clear A120
     replace H:=oB H
     obtain ⟨⟨t265,t266,t267⟩,A130,H⟩:=H
     replace H : ((gangerref01_End.f kj4 t265 t266 t267).bind fun t268=>(gangerref20_Total.l0 kj4 l0 a1 t255 t268 (wrap64 (x7_1 + 1)))) = some r:=H
     have A13:=Am A130
     clear A130
     replace H:=oB H
     obtain ⟨t268,A140,H⟩:=H
     try dsimp only at H
     have A14:=Am A140
     clear A140
     have H':=Am H
     clear H
     have p256 : 0≤(x7_1 : Int):=of_decide_eq_true (by first|(with_reducible assumption)|assumption)
     have q256 : x7_1 < (l0.length : Int):=of_decide_eq_true (by first|(with_reducible assumption)|assumption)
     obtain ⟨ad256,e256,hx256_0,hx256_1,hx256_2,hx256_3,hx256_4,hx256_5⟩:=at_T24 HR0.out x7_1 p256 q256
     cases e256
     replace hx256_0:=(HB.out.cell (wB w _ hx256_0)).trans hx256_0
     replace hx256_1:=(HB.out.cell (wB w _ hx256_1)).trans hx256_1
     replace hx256_2:=(HB.out.cell (wB w _ hx256_2)).trans hx256_2
     replace hx256_3:=(HB.out.cell (wB w _ hx256_3)).trans hx256_3
     replace hx256_4:=(HB.out.cell (wB w _ hx256_4)).trans hx256_4
     replace hx256_5:=(HB.out.cell (wB w _ hx256_5)).trans hx256_5
     replace p256:=eq_true p256
     replace q256:=eq_true q256
     try go_wp2
     have n0_:=Am (bE HB.out)
     clear HB
     have HB:=n0_
     clear n0_
     have p260 : 0≤(x7_1 : Int):=of_decide_eq_true (by first|(with_reducible assumption)|assumption)
     have q260 : x7_1 < (l0.length : Int):=of_decide_eq_true (by first|(with_reducible assumption)|assumption)
     obtain ⟨ad260,e260,hx260_0,hx260_1,hx260_2,hx260_3,hx260_4,hx260_5⟩:=at_T24 HR0.out x7_1 p260 q260
     have hw260_5:=hx260_5
     have hw260_4:=hx260_4
     have hw260_3:=hx260_3
     have hw260_2:=hx260_2
     have hw260_1:=hx260_1
     have hw260_0:=hx260_0
     obtain rfl : ad256 = ad260:=(by injection e260)
     replace hx260_0:=(HB.out.cell (wB w _ hx260_0)).trans hx260_0
     replace hx260_1:=(HB.out.cell (wB w _ hx260_1)).trans hx260_1
     replace hx260_2:=(HB.out.cell (wB w _ hx260_2)).trans hx260_2
     replace hx260_3:=(HB.out.cell (wB w _ hx260_3)).trans hx260_3
     replace hx260_4:=(HB.out.cell (wB w _ hx260_4)).trans hx260_4
     replace hx260_5:=(HB.out.cell (wB w _ hx260_5)).trans hx260_5
     replace p260:=eq_true p260
     replace q260:=eq_true q260
     have p261 : 0≤(x7_1 : Int):=of_decide_eq_true (by first|(with_reducible assumption)|assumption)
     have q261 : x7_1 < (l0.length : Int):=of_decide_eq_true (by first|(with_reducible assumption)|assumption)
     obtain ⟨ad261,e261,hx261_0,hx261_1,hx261_2,hx261_3,hx261_4,hx261_5⟩:=at_T24 HR0.out x7_1 p261 q261
     have hw261_5:=hx261_5
     have hw261_4:=hx261_4
     have hw261_3:=hx261_3
     have hw261_2:=hx261_2
     have hw261_1:=hx261_1
     have hw261_0:=hx261_0
     obtain rfl : ad256 = ad261:=(by injection e261)
     replace hx261_0:=(HB.out.cell (wB w _ hx261_0)).trans hx261_0
     replace hx261_1:=(HB.out.cell (wB w _ hx261_1)).trans hx261_1
     replace hx261_2:=(HB.out.cell (wB w _ hx261_2)).trans hx261_2
     replace hx261_3:=(HB.out.cell (wB w _ hx261_3)).trans hx261_3
     replace hx261_4:=(HB.out.cell (wB w _ hx261_4)).trans hx261_4
     replace hx261_5:=(HB.out.cell (wB w _ hx261_5)).trans hx261_5
     replace p261:=eq_true p261
     replace q261:=eq_true q261
     refine start_ (n:=17) (S:=fun w'=>w'.cell? (ad256.add ((x7_1).toNat * 6)) = some (.int .u32 ((rd_T24 l0 x7_1).f0))∧w'.cell? ⟨(ad256.add ((x7_1).toNat * 6)).block,(ad256.add ((x7_1).toNat * 6)).off + 1,none⟩ = some (.string ((rd_T24 l0 x7_1).f1))∧w'.cell? ⟨(ad256.add ((x7_1).toNat * 6)).block,(ad256.add ((x7_1).toNat * 6)).off + 2,none⟩ = some (.int .i64 ((rd_T24 l0 x7_1).f2))∧w'.cell? ⟨(ad256.add ((x7_1).toNat * 6)).block,(ad256.add ((x7_1).toNat * 6)).off + 3,none⟩ = some (.int .i64 ((rd_T24 l0 x7_1).f3))∧w'.cell? ⟨(ad256.add ((x7_1).toNat * 6)).block,(ad256.add ((x7_1).toNat * 6)).off + 4,none⟩ = some (.int .i64 ((rd_T24 l0 x7_1).f4))∧w'.cell? ⟨(ad256.add ((x7_1).toNat * 6)).block,(ad256.add ((x7_1).toNat * 6)).off + 5,none⟩ = some (.int .i64 ((rd_T24 l0 x7_1).f5))∧w'.cell? (ad256.add ((x7_1).toNat * 6)) = some (.int .u32 ((rd_T24 l0 x7_1).f0))∧w'.cell? ⟨(ad256.add ((x7_1).toNat * 6)).block,(ad256.add ((x7_1).toNat * 6)).off + 1,none⟩ = some (.string ((rd_T24 l0 x7_1).f1))∧w'.cell? ⟨(ad256.add ((x7_1).toNat * 6)).block,(ad256.add ((x7_1).toNat * 6)).off + 2,none⟩ = some (.int .i64 ((rd_T24 l0 x7_1).f2))∧w'.cell? ⟨(ad256.add ((x7_1).toNat * 6)).block,(ad256.add ((x7_1).toNat * 6)).off + 3,none⟩ = some (.int .i64 ((rd_T24 l0 x7_1).f3))∧w'.cell? ⟨(ad256.add ((x7_1).toNat * 6)).block,(ad256.add ((x7_1).toNat * 6)).off + 4,none⟩ = some (.int .i64 ((rd_T24 l0 x7_1).f4))∧w'.cell? ⟨(ad256.add ((x7_1).toNat * 6)).block,(ad256.add ((x7_1).toNat * 6)).off + 5,none⟩ = some (.int .i64 ((rd_T24 l0 x7_1).f5))) (ds:=[]) #[O,O,O,O,O,O,O,O,O,O,O,O,O,O,O,O,O] (by kernel_rfl) rfl rfl ⟨((HB.out.cell (wB w _ hw260_0)).trans hw260_0),((HB.out.cell (wB w _ hw260_1)).trans hw260_1),((HB.out.cell (wB w _ hw260_2)).trans hw260_2),((HB.out.cell (wB w _ hw260_3)).trans hw260_3),((HB.out.cell (wB w _ hw260_4)).trans hw260_4),((HB.out.cell (wB w _ hw260_5)).trans hw260_5),((HB.out.cell (wB w _ hw261_0)).trans hw261_0),((HB.out.cell (wB w _ hw261_1)).trans hw261_1),((HB.out.cell (wB w _ hw261_2)).trans hw261_2),((HB.out.cell (wB w _ hw261_3)).trans hw261_3),((HB.out.cell (wB w _ hw261_4)).trans hw261_4),((HB.out.cell (wB w _ hw261_5)).trans hw261_5)⟩ (fun hHeld=>?_);refine with_tabW gangerref20_Total.tab7 gangerref20_Total.bits7 (fun HT_ HW_=>?_)
     generalize wc.drew = w15 at HB hx260_0 hx260_1 hx260_2 hx260_3 hx260_4 hx260_5 hx261_0 hx261_1 hx261_2 hx261_3 hx261_4 hx261_5 hHeld ⊢
     refine pure_ (i:=0) (N:=some 27) (v:=?_) (a':=?_) #[J,O,O,O,O,O,O,O,O,O,O,O,O,O,O,O,O] rfl rfl (any_of HT_.out (by kernel_rfl)) (fun _ _ _ h=>h) (Or.inl ⟨by rfl,?_⟩) ?_ ?_
     rotate_left
     ·intro w'
      go_simp
      with_reducible rfl
     rotate_left
     ·simp only [Act.put,sT,sZ,sS,iW,iV]
      rfl
     refine pure_ (i:=2) (N:=some 29) (v:=?_) (a':=?_) #[J,O,J,O,O,O,O,O,O,O,O,O,O,O,O,O,O] rfl rfl (any_of HT_.out (by kernel_rfl)) (fun _ _ _ h=>h) (Or.inl ⟨by rfl,?_⟩) ?_ ?_
     rotate_left
     ·intro w'
      go_simp
      with_reducible rfl
     rotate_left
     ·simp only [Act.put,sT,sZ,sS,iW,iV]
      rfl
     refine pure_ (i:=3) (N:=some 30) (v:=?_) (a':=?_) #[J,O,J,J,O,O,O,O,O,O,O,O,O,O,O,O,O] rfl rfl (any_of HT_.out (by kernel_rfl)) (fun _ _ _ h=>h) (Or.inl ⟨by rfl,?_⟩) ?_ ?_
     rotate_left
     ·intro w'
      go_simp
      with_reducible rfl
     rotate_left
     ·simp only [Act.put,sT,sZ,sS,iW,iV]
      rfl
     refine pure_ (i:=4) (N:=some 31) (v:=?_) (a':=?_) #[J,O,J,J,J,O,O,O,O,O,O,O,O,O,O,O,O] rfl rfl (any_of HT_.out (by kernel_rfl)) (fun _ _ _ h=>h) (Or.inl ⟨by rfl,?_⟩) ?_ ?_
     rotate_left
     ·intro w'
      go_simp
      with_reducible rfl
     rotate_left
     ·simp only [Act.put,sT,sZ,sS,iW,iV]
      rfl
     refine pure_ (i:=5) (N:=some 32) (v:=?_) (a':=?_) #[J,O,J,J,J,J,O,O,O,O,O,O,O,O,O,O,O] rfl rfl (any_of HT_.out (by kernel_rfl)) (fun _ _ _ h=>h) (Or.inl ⟨by rfl,?_⟩) ?_ ?_
     rotate_left
     ·intro w'
      go_simp
      with_reducible rfl
     rotate_left
     ·simp only [Act.put,sT,sZ,sS,iW,iV]
      rfl
     refine pure_ (i:=7) (N:=some 34) (v:=?_) (a':=?_) #[J,O,J,J,J,J,O,J,O,O,O,O,O,O,O,O,O] rfl rfl (any_of HT_.out (by kernel_rfl)) (fun _ _ _ h=>h) (Or.inl ⟨by rfl,?_⟩) ?_ ?_
     rotate_left
     ·intro w'
      go_simp
      with_reducible rfl
     rotate_left
     ·simp only [Act.put,sT,sZ,sS,iW,iV]
      rfl
     refine pure_ (i:=8) (N:=some 35) (v:=?_) (a':=?_) #[J,O,J,J,J,J,O,J,J,O,O,O,O,O,O,O,O] rfl rfl (any_of HT_.out (by kernel_rfl)) (fun _ _ _ h=>h) (Or.inl ⟨by rfl,?_⟩) ?_ ?_
     rotate_left
     ·intro w'
      go_simp
      with_reducible rfl
     rotate_left
     ·simp only [Act.put,sT,sZ,sS,iW,iV]
      rfl
     refine pure_ (i:=9) (N:=some 36) (v:=?_) (a':=?_) #[J,O,J,J,J,J,O,J,J,J,O,O,O,O,O,O,O] rfl rfl (any_of HT_.out (by kernel_rfl)) (fun _ _ _ h=>h) (Or.inl ⟨by rfl,?_⟩) ?_ ?_
     rotate_left
     ·intro w'
      go_simp
      with_reducible rfl
     rotate_left
     ·simp only [Act.put,sT,sZ,sS,iW,iV]
      rfl
     refine pure_ (i:=10) (N:=some 37) (v:=?_) (a':=?_) #[J,O,J,J,J,J,O,J,J,J,J,O,O,O,O,O,O] rfl rfl (any_of HT_.out (by kernel_rfl)) (fun _ _ _ h=>h) (Or.inl ⟨by rfl,?_⟩) ?_ ?_
     rotate_left
     ·intro w'
      go_simp
      with_reducible rfl
     rotate_left
     ·simp only [Act.put,sT,sZ,sS,iW,iV]
      rfl
     refine take_ (i:=6) (N:=some 33) (v:=?_) (a':=?_) #[J,O,J,J,J,J,J,J,J,J,J,O,O,O,O,O,O] rfl rfl (take_ofW HT_.out HW_.out (by kernel_rfl)) (fun _ _ _ h=>h) (Or.inl ⟨by rfl,?_⟩) hHeld ?_ ?_
     rotate_left
     ·rintro w' ⟨s0,s1,s2,s3,s4,s5,s6,s7,s8,s9,s10,s11⟩
      go_simp
      with_reducible rfl
     rotate_left
     ·simp only [Act.put,sT,sZ,sS,iW,iV]
      rfl
     refine take_ (i:=11) (N:=some 38) (v:=?_) (a':=?_) #[J,O,J,J,J,J,J,J,J,J,J,J,O,O,O,O,O] rfl rfl (take_ofW HT_.out HW_.out (by kernel_rfl)) (fun _ _ _ h=>h) (Or.inl ⟨by rfl,?_⟩) hHeld ?_ ?_
     rotate_left
     ·rintro w' ⟨s0,s1,s2,s3,s4,s5,s6,s7,s8,s9,s10,s11⟩
      go_simp
      with_reducible rfl
     rotate_left
     ·simp only [Act.put,sT,sZ,sS,iW,iV]
      rfl
     refine pure_ (i:=12) (N:=some 39) (v:=?_) (a':=?_) #[J,O,J,J,J,J,J,J,J,J,J,J,J,O,O,O,O] rfl rfl (any_of HT_.out (by kernel_rfl)) (fun _ _ _ h=>h) (Or.inl ⟨by rfl,?_⟩) ?_ ?_
     rotate_left
     ·intro w'
      go_simp
      with_reducible rfl
     rotate_left
     ·simp only [Act.put,sT,sZ,sS,iW,iV]
      rfl
     refine one_ (i:=1) (N:=some 28) #[J,J,J,J,J,J,J,J,J,J,J,J,J,O,O,O,O] rfl rfl (one_of HT_.out (by kernel_rfl)) (by decide) (fun K hK=>?_)
     refine goes_ Tryd.func33 (by kernel_rfl) rfl #[.int .i64 x6_1] (by rfl) rfl rfl (by (try simp only [mT,mC,mN]);first|done|rfl|(simp only [lD,lT];rfl)) ?_
     with_reducible refine (gangerref01_Of.calls x6_1 t257 t258 t259 _ A11.out).mono ?_
     rintro e w16 ⟨rfl,hb⟩
     refine ⟨_,rfl,?_⟩
     have n0_:=Am (below_step (by repeat (first|(with_reducible first|exact HB.out|apply bL|apply pN|apply bE)|exact HB.out)) hb)
     clear HB
     have HB:=n0_
     clear n0_
     refine hK.out _ _ ⟨((HB.out.cell (wB w _ hw260_0)).trans hw260_0),((HB.out.cell (wB w _ hw260_1)).trans hw260_1),((HB.out.cell (wB w _ hw260_2)).trans hw260_2),((HB.out.cell (wB w _ hw260_3)).trans hw260_3),((HB.out.cell (wB w _ hw260_4)).trans hw260_4),((HB.out.cell (wB w _ hw260_5)).trans hw260_5),((HB.out.cell (wB w _ hw261_0)).trans hw261_0),((HB.out.cell (wB w _ hw261_1)).trans hw261_1),((HB.out.cell (wB w _ hw261_2)).trans hw261_2),((HB.out.cell (wB w _ hw261_3)).trans hw261_3),((HB.out.cell (wB w _ hw261_4)).trans hw261_4),((HB.out.cell (wB w _ hw261_5)).trans hw261_5)⟩ (fun hHeld=>?_)
     clear hK K
     refine norm_ (a':=?_) ?_ ?_
     rotate_left
     ·show Act.put _ (some 28) _ = _
      simp only [Act.put,sT,sZ,sS,iW,iV]
      rfl
     refine one_ (i:=13) (N:=some 40) #[J,J,J,J,J,J,J,J,J,J,J,J,J,J,O,O,O] rfl rfl (one_of HT_.out (by kernel_rfl)) (by decide) (fun K hK=>?_)
     refine goes_ Tryd.func33 (by kernel_rfl) rfl #[.int .i64 (wrap64 (((rd_T24 l0 x7_1).f2) * ((rd_T24 l0 x7_1).f3)))] (by rfl) rfl rfl (by (try simp only [mT,mC,mN]);first|done|rfl|(simp only [lD,lT];rfl)) ?_
     with_reducible refine (gangerref01_Of.calls (wrap64 (((rd_T24 l0 x7_1).f2) * ((rd_T24 l0 x7_1).f3))) t262 t263 t264 _ A12.out).mono ?_
     rintro e w17 ⟨rfl,hb⟩
     refine ⟨_,rfl,?_⟩
     have n0_:=Am (below_step (by repeat (first|(with_reducible first|exact HB.out|apply bL|apply pN|apply bE)|exact HB.out)) hb)
     clear HB
     have HB:=n0_
     clear n0_
     refine hK.out _ _ ⟨((HB.out.cell (wB w _ hw260_0)).trans hw260_0),((HB.out.cell (wB w _ hw260_1)).trans hw260_1),((HB.out.cell (wB w _ hw260_2)).trans hw260_2),((HB.out.cell (wB w _ hw260_3)).trans hw260_3),((HB.out.cell (wB w _ hw260_4)).trans hw260_4),((HB.out.cell (wB w _ hw260_5)).trans hw260_5),((HB.out.cell (wB w _ hw261_0)).trans hw261_0),((HB.out.cell (wB w _ hw261_1)).trans hw261_1),((HB.out.cell (wB w _ hw261_2)).trans hw261_2),((HB.out.cell (wB w _ hw261_3)).trans hw261_3),((HB.out.cell (wB w _ hw261_4)).trans hw261_4),((HB.out.cell (wB w _ hw261_5)).trans hw261_5)⟩ (fun hHeld=>?_)
     clear hK K
     refine norm_ (a':=?_) ?_ ?_
     rotate_left
     ·show Act.put _ (some 40) _ = _
      simp only [Act.put,sT,sZ,sS,iW,iV]
      rfl
     refine one_ (i:=14) (N:=some 41) #[J,J,J,J,J,J,J,J,J,J,J,J,J,J,J,O,O] rfl rfl (one_of HT_.out (by kernel_rfl)) (by decide) (fun K hK=>?_)
     refine goes_ Tryd.func32 (by kernel_rfl) rfl #[.agg #[.bool t257,.int .u64 t258,.int .u64 t259],.agg #[.bool t262,.int .u64 t263,.int .u64 t264]] (by rfl) rfl rfl (by (try simp only [mT,mC,mN]);first|done|rfl|(simp only [lD,lT];rfl)) ?_
     with_reducible refine (gangerref01_Plus.calls t257 t258 t259 t262 t263 t264 t265 t266 t267 _ A13.out).mono ?_
     rintro e w18 ⟨rfl,hb⟩
     refine ⟨_,rfl,?_⟩
     have n0_:=Am (below_step (by repeat (first|(with_reducible first|exact HB.out|apply bL|apply pN|apply bE)|exact HB.out)) hb)
     clear HB
     have HB:=n0_
     clear n0_
     refine hK.out _ _ ⟨((HB.out.cell (wB w _ hw260_0)).trans hw260_0),((HB.out.cell (wB w _ hw260_1)).trans hw260_1),((HB.out.cell (wB w _ hw260_2)).trans hw260_2),((HB.out.cell (wB w _ hw260_3)).trans hw260_3),((HB.out.cell (wB w _ hw260_4)).trans hw260_4),((HB.out.cell (wB w _ hw260_5)).trans hw260_5),((HB.out.cell (wB w _ hw261_0)).trans hw261_0),((HB.out.cell (wB w _ hw261_1)).trans hw261_1),((HB.out.cell (wB w _ hw261_2)).trans hw261_2),((HB.out.cell (wB w _ hw261_3)).trans hw261_3),((HB.out.cell (wB w _ hw261_4)).trans hw261_4),((HB.out.cell (wB w _ hw261_5)).trans hw261_5)⟩ (fun hHeld=>?_)
     clear hK K
     refine norm_ (a':=?_) ?_ ?_
     rotate_left
     ·show Act.put _ (some 41) _ = _
      simp only [Act.put,sT,sZ,sS,iW,iV]
      rfl
     refine one_ (i:=15) (N:=some 42) #[J,J,J,J,J,J,J,J,J,J,J,J,J,J,J,J,O] rfl rfl (one_of HT_.out (by kernel_rfl)) (by decide) (fun K hK=>?_)
     refine goes_ Tryd.func31 (by kernel_rfl) rfl #[.agg #[.bool t265,.int .u64 t266,.int .u64 t267]] (by rfl) rfl rfl (by (try simp only [mT,mC,mN]);first|done|rfl|(simp only [lD,lT];rfl)) ?_
     with_reducible refine (gangerref01_End.calls kj4 t265 t266 t267 t268 _ A14.out).mono ?_
     rintro e w19 ⟨rfl,hb⟩
     refine ⟨_,rfl,?_⟩
     have n0_:=Am (below_step (by repeat (first|(with_reducible first|exact HB.out|apply bL|apply pN|apply bE)|exact HB.out)) hb)
     clear HB
     have HB:=n0_
     clear n0_
     refine hK.out _ _ ⟨((HB.out.cell (wB w _ hw260_0)).trans hw260_0),((HB.out.cell (wB w _ hw260_1)).trans hw260_1),((HB.out.cell (wB w _ hw260_2)).trans hw260_2),((HB.out.cell (wB w _ hw260_3)).trans hw260_3),((HB.out.cell (wB w _ hw260_4)).trans hw260_4),((HB.out.cell (wB w _ hw260_5)).trans hw260_5),((HB.out.cell (wB w _ hw261_0)).trans hw261_0),((HB.out.cell (wB w _ hw261_1)).trans hw261_1),((HB.out.cell (wB w _ hw261_2)).trans hw261_2),((HB.out.cell (wB w _ hw261_3)).trans hw261_3),((HB.out.cell (wB w _ hw261_4)).trans hw261_4),((HB.out.cell (wB w _ hw261_5)).trans hw261_5)⟩ (fun hHeld=>?_)
     clear hK K
     refine norm_ (a':=?_) ?_ ?_
     rotate_left
     ·show Act.put _ (some 42) _ = _
      simp only [Act.put,sT,sZ,sS,iW,iV]
      rfl
     refine pure_ (i:=16) (N:=some 6) (v:=?_) (a':=?_) #[J,J,J,J,J,J,J,J,J,J,J,J,J,J,J,J,J] rfl rfl (any_of HT_.out (by kernel_rfl)) (fun _ _ _ h=>h) (Or.inl ⟨by rfl,?_⟩) ?_ ?_
     rotate_left
     ·intro w'
      go_simp
      with_reducible rfl
     rotate_left
     ·simp only [Act.put,sT,sZ,sS,iW,iV]
      rfl
     refine done_ (done_of HT_.out (by kernel_rfl)) ?_
     try go_wp2
     go_roundg kj4
     case measure=>have:=HK1.out;have:=HJ4.out;omega
     case rel=>exact ⟨(t268),(wrap64 (x7_1 + 1)),(by first|rfl|(simp;done)|(simp [*];done)),(by first|rfl|(simp;done)|(simp [*];done)),H',⟨by have:=HK1.out;have:=HJ4.out;omega⟩,⟨by repeat (first|(with_reducible first|exact HB.out|apply bL|apply pN|apply bE)|exact HB.out)⟩⟩
def gangerlaw20_BookTells.f (k : Nat) (l0 : List (S24)) (a1 : ByteArray) (a2 : Int) : Option (Bool):=(gangerlaw20_many.f k l0 a1).bind fun t269=>(if t269 = true then ((gangerlaw20_known.f k).bind fun t270=>(some t270)) else ((book_Of.f k l0 a2).bind fun bt271=>((gangerref20_Of.f k l0 a2).bind fun bt273=>((book_Check.f k l0).bind fun t275=>((gangerref20_Check.f k l0).bind fun t276=>(if t275 = t276 then ((book_Total.f k l0 a1).bind fun t277=>((gangerref20_Total.f k l0 a1).bind fun t278=>(if t277 = t278 then (if bt271.1 = bt273.1 then (if bt271.2 = bt273.2 then ((gangerlaw20_known.f k).bind fun t279=>(some t279)) else (none)) else (none)) else (none)))) else (none)))))))
set_option maxHeartbeats 8000000 in
set_option maxRecDepth 100000 in
theorem gangerlaw20_BookTells.calls (k : Nat) (A0 : Option Addr) (c0 : Nat) (l0 : List (S24)) (a1 : ByteArray) (a2 : Int) (r : Bool) (w : World) (hG : Glob w) (hr0 : Kd.C k24 w A0 l0.length l0) (hc0 : l0.length≤c0) (h : gangerlaw20_BookTells.f k l0 a1 a2 = some r) :
  Calls Tryd.prog 6 #[.slice A0 l0.length c0,.string a1,.int .u32 a2] w fun e w'=>e = .returned (.bool r)∧Below w.heap.size w w':=by
 have HG:=Am hG
 clear hG
 have HR0:=Am hr0
 have HC0:=Am hc0
 clear hr0 hc0
 have HB:=Am (Below.refl w.heap.size w)
 have H : ((gangerlaw20_many.f k l0 a1).bind fun t269=>(if t269 = true then ((gangerlaw20_known.f k).bind fun t270=>(some t270)) else ((book_Of.f k l0 a2).bind fun bt271=>((gangerref20_Of.f k l0 a2).bind fun bt273=>((book_Check.f k l0).bind fun t275=>((gangerref20_Check.f k l0).bind fun t276=>(if t275 = t276 then ((book_Total.f k l0 a1).bind fun t277=>((gangerref20_Total.f k l0 a1).bind fun t278=>(if t277 = t278 then (if bt271.1 = bt273.1 then (if bt271.2 = bt273.2 then ((gangerlaw20_known.f k).bind fun t279=>(some t279)) else (none)) else (none)) else (none)))) else (none)))))))) = some r:=h
 clear h
 replace H:=oB H
 obtain ⟨t269,A40,H⟩:=H
 try dsimp only at H
 have A4:=Am A40
 clear A40
 by_cases c5 : t269 = true
 ·subst c5
  have H1 : ((gangerlaw20_known.f k).bind fun t270=>(some t270)) = some r:=by rw [if_pos rfl] at H;exact H
  clear H
  have H:=H1
  clear H1
  replace H:=oB H
  obtain ⟨t270,A60,H⟩:=H
  try dsimp only at H
  have A6:=Am A60
  clear A60
  obtain rfl:=Option.some.inj H
  go_enter Tryd.func6,Tryd.ntmps6
  go_wp2_with (first|((with_reducible refine gC (f:=11) rfl ?_);refine goesL_ (some 13) rfl rfl Tryd.func11 (by kernel_rfl) rfl #[.slice A0 l0.length c0,.string a1] rfl (by (try simp only [mT,mC,mN]);first|done|rfl|(simp only [lD,lT];rfl)) ?_;(with_reducible refine (gangerlaw20_many.calls k _ _ l0 a1 true _ ?side1 ?side2 A4.out).mono ?_);(case side1=>repeat (first|exact HR0.out|(with_reducible refine Kd.C_alloc ?_ _)|(with_reducible refine Kd.C_drewN ?_ _)|(with_reducible refine Kd.C_drew ?_)));(case side2=>exact HC0.out);rintro e w' ⟨rfl,⟨nd,rfl⟩⟩;refine ⟨_,rfl,?_⟩)|((with_reducible refine gC (f:=8) rfl ?_);refine goesL_ (some 14) rfl rfl Tryd.func8 (by kernel_rfl) rfl #[] rfl (by (try simp only [mT,mC,mN]);first|done|rfl|(simp only [lD,lT];rfl)) ?_;(with_reducible refine (gangerlaw20_known.calls k  t270 _ ?side1 A6.out).mono ?_);(case side1=>exact Glob.below HG.out (by repeat (first|(with_reducible first|exact HB.out|apply bL|apply pN|apply bE)|exact HB.out)));rintro e w7 ⟨rfl,hb⟩;refine ⟨_,rfl,?_⟩;have n0_:=Am (below_step (by repeat (first|(with_reducible first|exact HB.out|apply bL|apply pN|apply bE)|exact HB.out)) hb);clear HB;have HB:=n0_;clear n0_))
  go_ret
  exact ⟨by first|rfl|(simp [errW_none,errW_some] <;> rfl)|(simp [*,errW_none,errW_some] <;> rfl)|(simp [bne,isE_]),by repeat (first|(with_reducible first|exact HB.out|apply bL|apply pN|apply bE)|exact HB.out)⟩
 replace c5:=Bool.eq_false_iff.mpr c5
 subst c5
 have H1 : ((book_Of.f k l0 a2).bind fun bt271=>((gangerref20_Of.f k l0 a2).bind fun bt273=>((book_Check.f k l0).bind fun t275=>((gangerref20_Check.f k l0).bind fun t276=>(if t275 = t276 then ((book_Total.f k l0 a1).bind fun t277=>((gangerref20_Total.f k l0 a1).bind fun t278=>(if t277 = t278 then (if bt271.1 = bt273.1 then (if bt271.2 = bt273.2 then ((gangerlaw20_known.f k).bind fun t279=>(some t279)) else (none)) else (none)) else (none)))) else (none)))))) = some r:=by rw [if_neg (show ¬ (false = true) by decide)] at H;exact H
 clear H
 have H:=H1
 clear H1
 replace H:=oB H
 obtain ⟨⟨t271,t272⟩,A80,H⟩:=H
 replace H : ((gangerref20_Of.f k l0 a2).bind fun bt273=>((book_Check.f k l0).bind fun t275=>((gangerref20_Check.f k l0).bind fun t276=>(if t275 = t276 then ((book_Total.f k l0 a1).bind fun t277=>((gangerref20_Total.f k l0 a1).bind fun t278=>(if t277 = t278 then (if t271 = bt273.1 then (if t272 = bt273.2 then ((gangerlaw20_known.f k).bind fun t279=>(some t279)) else (none)) else (none)) else (none)))) else (none))))) = some r:=H
 have A8:=Am A80
 clear A80
 replace H:=oB H
 obtain ⟨⟨t273,t274⟩,A90,H⟩:=H
 replace H : ((book_Check.f k l0).bind fun t275=>((gangerref20_Check.f k l0).bind fun t276=>(if t275 = t276 then ((book_Total.f k l0 a1).bind fun t277=>((gangerref20_Total.f k l0 a1).bind fun t278=>(if t277 = t278 then (if t271 = t273 then (if t272 = t274 then ((gangerlaw20_known.f k).bind fun t279=>(some t279)) else (none)) else (none)) else (none)))) else (none)))) = some r:=H
 have A9:=Am A90
 clear A90
 replace H:=oB H
 obtain ⟨t275,A100,H⟩:=H
 try dsimp only at H
 have A10:=Am A100
 clear A100
 replace H:=oB H
 obtain ⟨t276,A110,H⟩:=H
 try dsimp only at H
 have A11:=Am A110
 clear A110
 by_cases c12 : t275 = t276
 rotate_left
 ·rw [if_neg c12] at H
  exact absurd H (by simp)
 rw [if_pos c12] at H
 have c12b0 : (t275 == t276) = true:=beq_iff_eq.mpr c12
 have c12b1 : (t275 != t276) = false:=bne_eq_false_iff_eq.mpr c12
 clear c12
 replace H:=oB H
 obtain ⟨t277,A130,H⟩:=H
 try dsimp only at H
 have A13:=Am A130
 clear A130
 replace H:=oB H
 obtain ⟨t278,A140,H⟩:=H
 try dsimp only at H
 have A14:=Am A140
 clear A140
 by_cases c15 : t277 = t278
 rotate_left
 ·rw [if_neg c15] at H
  exact absurd H (by simp)
 rw [if_pos c15] at H
 have c15b0 : (t277 == t278) = true:=beq_iff_eq.mpr c15
 have c15b1 : (t277 != t278) = false:=bne_eq_false_iff_eq.mpr c15
 clear c15
 by_cases c16 : t271 = t273
 rotate_left
 ·rw [if_neg c16] at H
  exact absurd H (by simp)
 rw [if_pos c16] at H
 have c16b0 : (t271 == t273) = true:=beq_iff_eq.mpr c16
 have c16b1 : (t271 != t273) = false:=bne_eq_false_iff_eq.mpr c16
 clear c16
 by_cases c17 : t272 = t274
 rotate_left
 ·rw [if_neg c17] at H
  exact absurd H (by simp)
 rw [if_pos c17] at H
 have c17b0 : (t272 == t274) = true:=beq_iff_eq.mpr c17
 have c17b1 : (t272 != t274) = false:=bne_eq_false_iff_eq.mpr c17
 clear c17
 replace H:=oB H
 obtain ⟨t279,A180,H⟩:=H
 try dsimp only at H
 have A18:=Am A180
 clear A180
 obtain rfl:=Option.some.inj H
 go_enter Tryd.func6,Tryd.ntmps6
 go_wp2_with (first|((with_reducible refine gC (f:=11) rfl ?_);refine goesL_ (some 13) rfl rfl Tryd.func11 (by kernel_rfl) rfl #[.slice A0 l0.length c0,.string a1] rfl (by (try simp only [mT,mC,mN]);first|done|rfl|(simp only [lD,lT];rfl)) ?_;(with_reducible refine (gangerlaw20_many.calls k _ _ l0 a1 false _ ?side1 ?side2 A4.out).mono ?_);(case side1=>repeat (first|exact HR0.out|(with_reducible refine Kd.C_alloc ?_ _)|(with_reducible refine Kd.C_drewN ?_ _)|(with_reducible refine Kd.C_drew ?_)));(case side2=>exact HC0.out);rintro e w' ⟨rfl,⟨nd,rfl⟩⟩;refine ⟨_,rfl,?_⟩)|((with_reducible refine gC (f:=15) rfl ?_);refine goesL_ (some 18) rfl rfl Tryd.func15 (by kernel_rfl) rfl #[.slice A0 l0.length c0,.int .u32 a2] rfl (by (try simp only [mT,mC,mN]);first|done|rfl|(simp only [lD,lT];rfl)) ?_;(with_reducible refine (book_Of.calls k _ _ l0 a2 t271 t272 _ ?side1 ?side2 ?side3 A8.out).mono ?_);(case side1=>exact Glob.below HG.out (by repeat (first|(with_reducible first|exact HB.out|apply bL|apply pN|apply bE)|exact HB.out)));(case side2=>repeat (first|exact HR0.out|(with_reducible refine Kd.C_alloc ?_ _)|(with_reducible refine Kd.C_drewN ?_ _)|(with_reducible refine Kd.C_drew ?_)));(case side3=>exact HC0.out);rintro e w19 ⟨rfl,hb⟩;refine ⟨_,rfl,?_⟩;have n0_:=Am (below_step (by repeat (first|(with_reducible first|exact HB.out|apply bL|apply pN|apply bE)|exact HB.out)) hb);clear HB;have HB:=n0_;clear n0_)|((with_reducible refine gC (f:=16) rfl ?_);refine goesL_ (some 24) rfl rfl Tryd.func16 (by kernel_rfl) rfl #[.slice A0 l0.length c0,.int .u32 a2] rfl (by (try simp only [mT,mC,mN]);first|done|rfl|(simp only [lD,lT];rfl)) ?_;(with_reducible refine (gangerref20_Of.calls k _ _ l0 a2 t273 t274 _ ?side1 ?side2 A9.out).mono ?_);(case side1=>repeat (first|exact (Kd.C_below HR0.out HB.out)|(with_reducible refine Kd.C_alloc ?_ _)|(with_reducible refine Kd.C_drewN ?_ _)|(with_reducible refine Kd.C_drew ?_)));(case side2=>exact HC0.out);rintro e w20 ⟨rfl,hb⟩;refine ⟨_,rfl,?_⟩;have n0_:=Am (below_step (by repeat (first|(with_reducible first|exact HB.out|apply bL|apply pN|apply bE)|exact HB.out)) hb);clear HB;have HB:=n0_;clear n0_)|((with_reducible refine gC (f:=12) rfl ?_);refine goesL_ (some 28) rfl rfl Tryd.func12 (by kernel_rfl) rfl #[.slice A0 l0.length c0] rfl (by (try simp only [mT,mC,mN]);first|done|rfl|(simp only [lD,lT];rfl)) ?_;(with_reducible refine (book_Check.calls k _ _ l0 t275 _ ?side1 ?side2 ?side3 A10.out).mono ?_);(case side1=>exact Glob.below HG.out (by repeat (first|(with_reducible first|exact HB.out|apply bL|apply pN|apply bE)|exact HB.out)));(case side2=>repeat (first|exact (Kd.C_below HR0.out HB.out)|(with_reducible refine Kd.C_alloc ?_ _)|(with_reducible refine Kd.C_drewN ?_ _)|(with_reducible refine Kd.C_drew ?_)));(case side3=>exact HC0.out);rintro e w21 ⟨rfl,hb⟩;refine ⟨_,rfl,?_⟩;have n0_:=Am (below_step (by repeat (first|(with_reducible first|exact HB.out|apply bL|apply pN|apply bE)|exact HB.out)) hb);clear HB;have HB:=n0_;clear n0_)|((with_reducible refine gC (f:=17) rfl ?_);refine goesL_ (some 30) rfl rfl Tryd.func17 (by kernel_rfl) rfl #[.slice A0 l0.length c0] rfl (by (try simp only [mT,mC,mN]);first|done|rfl|(simp only [lD,lT];rfl)) ?_;(with_reducible refine (gangerref20_Check.calls k _ _ l0 t276 _ ?side1 ?side2 A11.out).mono ?_);(case side1=>repeat (first|exact (Kd.C_below HR0.out HB.out)|(with_reducible refine Kd.C_alloc ?_ _)|(with_reducible refine Kd.C_drewN ?_ _)|(with_reducible refine Kd.C_drew ?_)));(case side2=>exact HC0.out);rintro e w22 ⟨rfl,hb⟩;refine ⟨_,rfl,?_⟩;have n0_:=Am (below_step (by repeat (first|(with_reducible first|exact HB.out|apply bL|apply pN|apply bE)|exact HB.out)) hb);clear HB;have HB:=n0_;clear n0_)|(go_at_call 13;(with_reducible refine (book_Total.calls k _ _ l0 a1 t277 _ ?side1 ?side2 ?side3 A13.out).mono ?_);(case side1=>exact Glob.below HG.out (by repeat (first|(with_reducible first|exact HB.out|apply bL|apply pN|apply bE)|exact HB.out)));(case side2=>repeat (first|exact (Kd.C_below HR0.out HB.out)|(with_reducible refine Kd.C_alloc ?_ _)|(with_reducible refine Kd.C_drewN ?_ _)|(with_reducible refine Kd.C_drew ?_)));(case side3=>exact HC0.out);rintro e w23 ⟨rfl,hb⟩;have n0_:=Am (below_step (by repeat (first|(with_reducible first|exact HB.out|apply bL|apply pN|apply bE)|exact HB.out)) hb);clear HB;have HB:=n0_;clear n0_)|(go_at_call 18;(with_reducible refine (gangerref20_Total.calls k _ _ l0 a1 t278 _ ?side1 ?side2 A14.out).mono ?_);(case side1=>repeat (first|exact (Kd.C_below HR0.out HB.out)|(with_reducible refine Kd.C_alloc ?_ _)|(with_reducible refine Kd.C_drewN ?_ _)|(with_reducible refine Kd.C_drew ?_)));(case side2=>exact HC0.out);rintro e w24 ⟨rfl,hb⟩;have n0_:=Am (below_step (by repeat (first|(with_reducible first|exact HB.out|apply bL|apply pN|apply bE)|exact HB.out)) hb);clear HB;have HB:=n0_;clear n0_)|(go_at_call 8;(with_reducible refine (gangerlaw20_known.calls k  t279 _ ?side1 A18.out).mono ?_);(case side1=>exact Glob.below HG.out (by repeat (first|(with_reducible first|exact HB.out|apply bL|apply pN|apply bE)|exact HB.out)));rintro e w25 ⟨rfl,hb⟩;have n0_:=Am (below_step (by repeat (first|(with_reducible first|exact HB.out|apply bL|apply pN|apply bE)|exact HB.out)) hb);clear HB;have HB:=n0_;clear n0_))
 go_ret
 exact ⟨by first|rfl|(simp [errW_none,errW_some] <;> rfl)|(simp [*,errW_none,errW_some] <;> rfl)|(simp [bne,isE_]),by repeat (first|(with_reducible first|exact HB.out|apply bL|apply pN|apply bE)|exact HB.out)⟩
def gangerlaw20_BookTells.Pure : Prop:=∀ (l0 : List (S24)) (a1 : ByteArray) (a2 : Int),(l0.length≤maxLen∧∀ x2 ∈ l0,(((Lit.int .u32 x2.f0).wf = true)∧((x2.f1.size≤maxLen)∧(((Lit.int .i64 x2.f2).wf = true)∧(((Lit.int .i64 x2.f3).wf = true)∧(((Lit.int .i64 x2.f4).wf = true)∧((Lit.int .i64 x2.f5).wf = true)))))))→a1.size≤140737488351232→((Lit.int .u32 a2).wf = true)→∃ k,gangerlaw20_BookTells.f k l0 a1 a2 = some true
end Go.Proofs.YtakdneopmojjdaaDoor.P
