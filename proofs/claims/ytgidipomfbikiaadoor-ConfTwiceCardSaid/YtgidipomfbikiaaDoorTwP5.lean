/- cut to what one law reaches -/
import Derived.Test.YtgidipomfbikiaaDoorTwShort
import Derived.Test.YtgidipomfbikiaaDoorTwP0
namespace Go.Proofs.YtgidipomfbikiaaDoor.P
open Go.RowKit Go.Proofs.YtgidipomfbikiaaDoorW.PrintWords Go.Proofs.YtgidipomfbikiaaDoorW.PrintLast Go.Proofs.YtgidipomfbikiaaDoorW.PrintMore
attribute [local go_sem] max2_int min2_int max_two min_two max_three min_three max_four min_four   -- for this text's walks alone
set_option linter.unusedVariables false
set_option linter.unusedSimpArgs false
attribute [local go_sem] isSome_setCell
mutual
def gangerlaw10_long.j0 : Nat→Bool→Int→Int→Int→Int→Int→Int→Int→Int→Int→List (S50)→List (S52)→List (S48)→Option (Bool)
 | 0,_,_,_,_,_,_,_,_,_,_,_,_,_=>none
 | k + 1,x21,u_0,u_1,u_2,u_3,u_4,u_5,u_6,u_7,u_8,u_9,u_10,u_11=>if x21 = true then (some true) else (gangerlaw10_long.l0 k 0 u_0 u_1 u_2 u_3 u_4 u_5 u_6 u_7 u_8 u_9 u_10 u_11)
def gangerlaw10_long.l0 : Nat→Int→Int→Int→Int→Int→Int→Int→Int→Int→Int→List (S50)→List (S52)→List (S48)→Option (Bool)
 | 0,_,_,_,_,_,_,_,_,_,_,_,_,_=>none
 | k + 1,x3,u_0,u_1,u_2,u_3,u_4,u_5,u_6,u_7,u_8,u_9,u_10,u_11=>if x3 < (u_9.length : Int) then (if 0≤x3 then (if (((rd_T50 u_9 x3).f0).size : Int) > 300 then (some true) else (gangerlaw10_long.l0 k (wrap64 (x3 + 1)) u_0 u_1 u_2 u_3 u_4 u_5 u_6 u_7 u_8 u_9 u_10 u_11)) else (none)) else (gangerlaw10_long.l1 k 0 u_0 u_1 u_2 u_3 u_4 u_5 u_6 u_7 u_8 u_9 u_10 u_11)
def gangerlaw10_long.l1 : Nat→Int→Int→Int→Int→Int→Int→Int→Int→Int→Int→List (S50)→List (S52)→List (S48)→Option (Bool)
 | 0,_,_,_,_,_,_,_,_,_,_,_,_,_=>none
 | k + 1,x4,u_0,u_1,u_2,u_3,u_4,u_5,u_6,u_7,u_8,u_9,u_10,u_11=>if x4 < (u_10.length : Int) then (if 0≤x4 then (if (((rd_T52 u_10 x4).f0).size : Int) > 300 then (some true) else (gangerlaw10_long.l1 k (wrap64 (x4 + 1)) u_0 u_1 u_2 u_3 u_4 u_5 u_6 u_7 u_8 u_9 u_10 u_11)) else (none)) else (gangerlaw10_long.l2 k 0 u_0 u_1 u_2 u_3 u_4 u_5 u_6 u_7 u_8 u_9 u_10 u_11)
def gangerlaw10_long.l2 : Nat→Int→Int→Int→Int→Int→Int→Int→Int→Int→Int→List (S50)→List (S52)→List (S48)→Option (Bool)
 | 0,_,_,_,_,_,_,_,_,_,_,_,_,_=>none
 | k + 1,x5,u_0,u_1,u_2,u_3,u_4,u_5,u_6,u_7,u_8,u_9,u_10,u_11=>if x5 < (u_11.length : Int) then (if 0≤x5 then (if (((rd_T48 u_11 x5).f0).size : Int) > 300 then (some true) else (if (((rd_T48 u_11 x5).f1).size : Int) > 300 then (some true) else (gangerlaw10_long.l2 k (wrap64 (x5 + 1)) u_0 u_1 u_2 u_3 u_4 u_5 u_6 u_7 u_8 u_9 u_10 u_11))) else (none)) else (some false)
end
def gangerlaw10_long.f (k : Nat) (a0_0 : Int) (a0_1 : Int) (a0_2 : Int) (a0_3 : Int) (a0_4 : Int) (a0_5 : Int) (a0_6 : Int) (a0_7 : Int) (a0_8 : Int) (l0_9 : List (S50)) (l0_10 : List (S52)) (l0_11 : List (S48)) : Option (Bool):=if (l0_9.length : Int) > 40 then (gangerlaw10_long.j0 k true a0_0 a0_1 a0_2 a0_3 a0_4 a0_5 a0_6 a0_7 a0_8 l0_9 l0_10 l0_11) else (if (l0_10.length : Int) > 40 then (gangerlaw10_long.j0 k true a0_0 a0_1 a0_2 a0_3 a0_4 a0_5 a0_6 a0_7 a0_8 l0_9 l0_10 l0_11) else (gangerlaw10_long.j0 k (decide ((l0_11.length : Int) > 120)) a0_0 a0_1 a0_2 a0_3 a0_4 a0_5 a0_6 a0_7 a0_8 l0_9 l0_10 l0_11))
set_option maxHeartbeats 8000000 in
set_option maxRecDepth 100000 in
theorem gangerlaw10_long.calls (k : Nat) (a0_0 : Int) (a0_1 : Int) (a0_2 : Int) (a0_3 : Int) (a0_4 : Int) (a0_5 : Int) (a0_6 : Int) (a0_7 : Int) (a0_8 : Int) (A0_9 : Option Addr) (c0_9 : Nat) (l0_9 : List (S50)) (A0_10 : Option Addr) (c0_10 : Nat) (l0_10 : List (S52)) (A0_11 : Option Addr) (c0_11 : Nat) (l0_11 : List (S48)) (r : Bool) (w : World) (hr0_9 : Kd.C k50 w A0_9 l0_9.length l0_9) (hc0_9 : l0_9.length≤c0_9) (hr0_10 : Kd.C k52 w A0_10 l0_10.length l0_10) (hc0_10 : l0_10.length≤c0_10) (hr0_11 : Kd.C k48 w A0_11 l0_11.length l0_11) (hc0_11 : l0_11.length≤c0_11) (h : gangerlaw10_long.f k a0_0 a0_1 a0_2 a0_3 a0_4 a0_5 a0_6 a0_7 a0_8 l0_9 l0_10 l0_11 = some r) :
  Calls Tryd.prog 9 #[.agg #[.int .i64 a0_0,.int .i64 a0_1,.int .i64 a0_2,.int .i64 a0_3,.int .i64 a0_4,.int .i64 a0_5,.int .i64 a0_6,.int .i64 a0_7,.int .i64 a0_8,.slice A0_9 l0_9.length c0_9,.slice A0_10 l0_10.length c0_10,.slice A0_11 l0_11.length c0_11]] w fun e w'=>e = .returned (.bool r)∧Below w.heap.size w w':=by
 have hu28:=Tryd.underlying28
 have HR0_9:=Am hr0_9
 have HC0_9:=Am hc0_9
 clear hr0_9 hc0_9
 have HR0_10:=Am hr0_10
 have HC0_10:=Am hc0_10
 clear hr0_10 hc0_10
 have HR0_11:=Am hr0_11
 have HC0_11:=Am hc0_11
 clear hr0_11 hc0_11
 have HB:=Am (Below.refl w.heap.size w)
 have H : (if (l0_9.length : Int) > 40 then (gangerlaw10_long.j0 k true a0_0 a0_1 a0_2 a0_3 a0_4 a0_5 a0_6 a0_7 a0_8 l0_9 l0_10 l0_11) else (if (l0_10.length : Int) > 40 then (gangerlaw10_long.j0 k true a0_0 a0_1 a0_2 a0_3 a0_4 a0_5 a0_6 a0_7 a0_8 l0_9 l0_10 l0_11) else (gangerlaw10_long.j0 k (decide ((l0_11.length : Int) > 120)) a0_0 a0_1 a0_2 a0_3 a0_4 a0_5 a0_6 a0_7 a0_8 l0_9 l0_10 l0_11))) = some r:=h
 clear h
 have HC2:=Am H
 clear H
 go_enter Tryd.func9,Tryd.ntmps9
 go_upto_region 1 with (first|((with_reducible refine gD (N:=1) rfl ?_);(try (refine gate_guard (by rfl) ?_;dsimp only));refine box_event ?hg (N:=1) ?hd (cs:=#[.int .i64 a0_0,.int .i64 a0_1,.int .i64 a0_2,.int .i64 a0_3,.int .i64 a0_4,.int .i64 a0_5,.int .i64 a0_6,.int .i64 a0_7,.int .i64 a0_8,.slice A0_9 l0_9.length c0_9,.slice A0_10 l0_10.length c0_10,.slice A0_11 l0_11.length c0_11]) (t:=28) ?hr ?_;(case hd=>rfl);(case hg=>rfl);(case hr=>first|(go_simp;done)|(go_simp;rfl));intro gb101 hg w3 hbox hb;have n0_:=Am (below_step (by repeat (first|(with_reducible first|exact HB.out|apply bL|apply pN|apply bE)|exact HB.out)) hb);have n1_:=Am (hbox);have n2_:=Am ((by rw [hg];exact (bZ (by repeat (first|(with_reducible first|exact HB.out|apply bL|apply pN|apply bE)|exact HB.out))) : w.heap.size≤gb101));have n3_:=n2_;clear HB;have HB:=n0_;have BK101:=n1_;have GW101:=n2_;have GE101:=n3_;clear n0_ n1_ n2_ n3_;clear hb hbox hg))
 (try simp only [Act.put,sT,sZ,sS])
 go_cut [21] (fun v21 wc=>∃ (kq : Nat) (x21_1 : Bool),v21 = .bool x21_1∧Aside0 (gangerlaw10_long.j0 kq x21_1 a0_0 a0_1 a0_2 a0_3 a0_4 a0_5 a0_6 a0_7 a0_8 l0_9 l0_10 l0_11 = some r)∧Aside0 (kq≤k)∧Aside0 (wc.heap[gb101]? = some (.cells #[.int .i64 a0_0,.int .i64 a0_1,.int .i64 a0_2,.int .i64 a0_3,.int .i64 a0_4,.int .i64 a0_5,.int .i64 a0_6,.int .i64 a0_7,.int .i64 a0_8,(.slice A0_9 l0_9.length c0_9),(.slice A0_10 l0_10.length c0_10),(.slice A0_11 l0_11.length c0_11)] 28 (0,0)))∧Aside0 (Below w.heap.size w wc))
 case first =>
  have H:=HC2.out
  clear HC2
  by_cases c4 : (l0_9.length : Int) > 40
  ·rw [if_pos c4] at H
   have c4b0 : decide (40 < (l0_9.length : Int)) = true:=decide_eq_true c4
   have c4b1 : decide (40 < l0_9.length) = true:=decide_eq_true (by omega)
   clear c4
   (first|rw [c4b0]|(simp only [iW,iV];rw [c4b0])|skip)
   have H':=Am H
   clear H
   obtain ⟨X5_0,X5_1,X5_2,X5_3,X5_4,X5_5,X5_6,X5_7,X5_8,X5_9,X5_10,X5_11,Y5_0,Y5_1,Y5_2,Y5_3,Y5_4,Y5_5,Y5_6,Y5_7,Y5_8,Y5_9,Y5_10,Y5_11⟩:=kc12 (w:=w3) (g:=gb101) BK101.out
   go_wp2
   go_meet
   case rel=>exact ⟨_,(true),(by first|rfl|(simp;done)|(simp [*];done)),H',⟨by first|omega|exact Nat.le_refl _⟩,⟨by (with_reducible repeat (first|refine bN ?_ _|refine bD ?_|refine bA ?_ _));exact BK101.out⟩,⟨by repeat (first|(with_reducible first|exact HB.out|apply bL|apply pN|apply bE|refine bS ?_ GE101.out)|exact HB.out)⟩⟩
  rw [if_neg c4] at H
  have c4b0 : decide (40 < (l0_9.length : Int)) = false:=decide_eq_false c4
  have c4b1 : decide (40 < l0_9.length) = false:=decide_eq_false (by omega)
  clear c4
  (first|rw [c4b0]|(simp only [iW,iV];rw [c4b0])|skip)
  by_cases c6 : (l0_10.length : Int) > 40
  ·rw [if_pos c6] at H
   have c6b0 : decide (40 < (l0_10.length : Int)) = true:=decide_eq_true c6
   have c6b1 : decide (40 < l0_10.length) = true:=decide_eq_true (by omega)
   clear c6
   have H':=Am H
   clear H
   obtain ⟨X7_0,X7_1,X7_2,X7_3,X7_4,X7_5,X7_6,X7_7,X7_8,X7_9,X7_10,X7_11,Y7_0,Y7_1,Y7_2,Y7_3,Y7_4,Y7_5,Y7_6,Y7_7,Y7_8,Y7_9,Y7_10,Y7_11⟩:=kc12 (w:=w3) (g:=gb101) BK101.out
   go_wp2
   go_meet
   case rel=>exact ⟨_,(true),(by first|rfl|(simp;done)|(simp [*];done)),H',⟨by first|omega|exact Nat.le_refl _⟩,⟨by (with_reducible repeat (first|refine bN ?_ _|refine bD ?_|refine bA ?_ _));exact BK101.out⟩,⟨by repeat (first|(with_reducible first|exact HB.out|apply bL|apply pN|apply bE|refine bS ?_ GE101.out)|exact HB.out)⟩⟩
  rw [if_neg c6] at H
  have c6b0 : decide (40 < (l0_10.length : Int)) = false:=decide_eq_false c6
  have c6b1 : decide (40 < l0_10.length) = false:=decide_eq_false (by omega)
  clear c6
  have H':=Am H
  clear H
  obtain ⟨X8_0,X8_1,X8_2,X8_3,X8_4,X8_5,X8_6,X8_7,X8_8,X8_9,X8_10,X8_11,Y8_0,Y8_1,Y8_2,Y8_3,Y8_4,Y8_5,Y8_6,Y8_7,Y8_8,Y8_9,Y8_10,Y8_11⟩:=kc12 (w:=w3) (g:=gb101) BK101.out
  go_wp2
  go_meet
  case rel=>exact ⟨_,(decide ((l0_11.length : Int) > 120)),(by first|rfl|(simp;done)|(simp [*];done)),H',⟨by first|omega|exact Nat.le_refl _⟩,⟨by (with_reducible repeat (first|refine bN ?_ _|refine bD ?_|refine bA ?_ _));exact BK101.out⟩,⟨by repeat (first|(with_reducible first|exact HB.out|apply bL|apply pN|apply bE|refine bS ?_ GE101.out)|exact HB.out)⟩⟩
 case rest =>
  clear HC2
  obtain ⟨kq,x21_1,rfl,HA,HJ1,BK101,HB⟩:=hcut
  cases kq with
  | zero=>exact absurd HA.out (by simp [gangerlaw10_long.j0])
  | succ kj1 =>
   have H:=HA.out
   clear HA
   simp only [gangerlaw10_long.j0] at H
   by_cases c9 : x21_1 = true
   ·subst c9
    have H1 : (some true) = some r:=by rw [if_pos rfl] at H;exact H
    clear H
    have H:=H1
    clear H1
    obtain rfl:=Option.some.inj H
    go_wp2
    go_ret
    exact ⟨by first|rfl|(simp [errW_none,errW_some] <;> rfl)|(simp [*,errW_none,errW_some] <;> rfl),by repeat (first|(with_reducible first|exact HB.out|apply bL|apply pN|apply bE|refine bS ?_ GE101.out)|exact HB.out)⟩
   replace c9:=Bool.eq_false_iff.mpr c9
   subst c9
   have H1 : (gangerlaw10_long.l0 kj1 0 a0_0 a0_1 a0_2 a0_3 a0_4 a0_5 a0_6 a0_7 a0_8 l0_9 l0_10 l0_11) = some r:=by rw [if_neg (show ¬ (false = true) by decide)] at H;exact H
   clear H
   have H:=H1
   clear H1
   have H':=Am H
   clear H
   go_wp2
   go_loopg [3] kj1 (fun kq v3 w'=>∃ (x3_2 : Int),v3 = .int .i64 x3_2∧Aside0 (gangerlaw10_long.l0 kq x3_2 a0_0 a0_1 a0_2 a0_3 a0_4 a0_5 a0_6 a0_7 a0_8 l0_9 l0_10 l0_11 = some r)∧Aside0 (kq≤kj1)∧Aside0 (w'.heap[gb101]? = some (.cells #[.int .i64 a0_0,.int .i64 a0_1,.int .i64 a0_2,.int .i64 a0_3,.int .i64 a0_4,.int .i64 a0_5,.int .i64 a0_6,.int .i64 a0_7,.int .i64 a0_8,(.slice A0_9 l0_9.length c0_9),(.slice A0_10 l0_10.length c0_10),(.slice A0_11 l0_11.length c0_11)] 28 (0,0)))∧Aside0 (Below w.heap.size w w'))
   case atStart=>exact ⟨(0),(by first|rfl|(simp;done)|(simp [*];done)),H',⟨Nat.le_refl _⟩,⟨by (with_reducible repeat (first|refine bN ?_ _|refine bD ?_|refine bA ?_ _));exact BK101.out⟩,⟨by repeat (first|(with_reducible first|exact HB.out|apply bL|apply pN|apply bE|refine bS ?_ GE101.out)|exact HB.out)⟩⟩
   case round =>
    clear H'
    obtain ⟨x3_2,rfl,HA,HK2,BK101,HB⟩:=hrel
    cases gk with
    | zero=>exact absurd HA.out (by simp [gangerlaw10_long.l0])
    | succ k2 =>
     have H:=HA.out
     clear HA
     simp only [gangerlaw10_long.l0] at H
     by_cases c10 : x3_2 < (l0_9.length : Int)
     ·rw [if_pos c10] at H
      have c10b0 : decide (x3_2 < (l0_9.length : Int)) = true:=decide_eq_true c10
      clear c10
      by_cases c11 : 0≤x3_2
      rotate_left
      ·rw [if_neg c11] at H
       exact absurd H (by simp)
      rw [if_pos c11] at H
      have c11b0 : decide (0≤x3_2) = true:=decide_eq_true c11
      clear c11
      by_cases c12 : (((rd_T50 l0_9 x3_2).f0).size : Int) > 300
      ·rw [if_pos c12] at H
       have c12b0 : decide (300 < (((rd_T50 l0_9 x3_2).f0).size : Int)) = true:=decide_eq_true c12
       have c12b1 : decide (300 < ((rd_T50 l0_9 x3_2).f0).size) = true:=decide_eq_true (by omega)
       clear c12
       obtain rfl:=Option.some.inj H
       obtain ⟨X13_0,X13_1,X13_2,X13_3,X13_4,X13_5,X13_6,X13_7,X13_8,X13_9,X13_10,X13_11,Y13_0,Y13_1,Y13_2,Y13_3,Y13_4,Y13_5,Y13_6,Y13_7,Y13_8,Y13_9,Y13_10,Y13_11⟩:=kc12 (w:=wr) (g:=gb101) BK101.out
       have p102 : 0≤(x3_2 : Int):=of_decide_eq_true (by first|(with_reducible assumption)|assumption)
       have q102 : x3_2 < (l0_9.length : Int):=of_decide_eq_true (by first|(with_reducible assumption)|assumption)
       obtain ⟨ad102,e102,hx102_0,hx102_1,hx102_2,hx102_3⟩:=at_T50 HR0_9.out x3_2 p102 q102
       cases e102
       replace hx102_0:=(HB.out.cell (wB w _ hx102_0)).trans hx102_0
       replace hx102_1:=(HB.out.cell (wB w _ hx102_1)).trans hx102_1
       replace hx102_2:=(HB.out.cell (wB w _ hx102_2)).trans hx102_2
       replace hx102_3:=(HB.out.cell (wB w _ hx102_3)).trans hx102_3
       replace p102:=eq_true p102
       replace q102:=eq_true q102
       go_wp2
       go_ret
       exact ⟨by first|rfl|(simp [errW_none,errW_some] <;> rfl)|(simp [*,errW_none,errW_some] <;> rfl),by repeat (first|(with_reducible first|exact HB.out|apply bL|apply pN|apply bE|refine bS ?_ GE101.out)|exact HB.out)⟩
      rw [if_neg c12] at H
      have c12b0 : decide (300 < (((rd_T50 l0_9 x3_2).f0).size : Int)) = false:=decide_eq_false c12
      have c12b1 : decide (300 < ((rd_T50 l0_9 x3_2).f0).size) = false:=decide_eq_false (by omega)
      clear c12
      have H':=Am H
      clear H
      obtain ⟨X14_0,X14_1,X14_2,X14_3,X14_4,X14_5,X14_6,X14_7,X14_8,X14_9,X14_10,X14_11,Y14_0,Y14_1,Y14_2,Y14_3,Y14_4,Y14_5,Y14_6,Y14_7,Y14_8,Y14_9,Y14_10,Y14_11⟩:=kc12 (w:=wr) (g:=gb101) BK101.out
      have p102 : 0≤(x3_2 : Int):=of_decide_eq_true (by first|(with_reducible assumption)|assumption)
      have q102 : x3_2 < (l0_9.length : Int):=of_decide_eq_true (by first|(with_reducible assumption)|assumption)
      obtain ⟨ad102,e102,hx102_0,hx102_1,hx102_2,hx102_3⟩:=at_T50 HR0_9.out x3_2 p102 q102
      cases e102
      replace hx102_0:=(HB.out.cell (wB w _ hx102_0)).trans hx102_0
      replace hx102_1:=(HB.out.cell (wB w _ hx102_1)).trans hx102_1
      replace hx102_2:=(HB.out.cell (wB w _ hx102_2)).trans hx102_2
      replace hx102_3:=(HB.out.cell (wB w _ hx102_3)).trans hx102_3
      replace p102:=eq_true p102
      replace q102:=eq_true q102
      go_wp2
      go_roundg k2
      case measure=>have:=HJ1.out;have:=HK2.out;omega
      case rel=>exact ⟨(wrap64 (x3_2 + 1)),(by first|rfl|(simp;done)|(simp [*];done)),H',⟨by have:=HJ1.out;have:=HK2.out;omega⟩,⟨by (with_reducible repeat (first|refine bN ?_ _|refine bD ?_|refine bA ?_ _));exact BK101.out⟩,⟨by repeat (first|(with_reducible first|exact HB.out|apply bL|apply pN|apply bE|refine bS ?_ GE101.out)|exact HB.out)⟩⟩
     rw [if_neg c10] at H
     have c10b0 : decide (x3_2 < (l0_9.length : Int)) = false:=decide_eq_false c10
     clear c10
     have H':=Am H
     clear H
     obtain ⟨X15_0,X15_1,X15_2,X15_3,X15_4,X15_5,X15_6,X15_7,X15_8,X15_9,X15_10,X15_11,Y15_0,Y15_1,Y15_2,Y15_3,Y15_4,Y15_5,Y15_6,Y15_7,Y15_8,Y15_9,Y15_10,Y15_11⟩:=kc12 (w:=wr) (g:=gb101) BK101.out
     go_wp2
     go_loopg [4] k2 (fun kq v4 w'=>∃ (x4_3 : Int),v4 = .int .i64 x4_3∧Aside0 (gangerlaw10_long.l1 kq x4_3 a0_0 a0_1 a0_2 a0_3 a0_4 a0_5 a0_6 a0_7 a0_8 l0_9 l0_10 l0_11 = some r)∧Aside0 (kq≤k2)∧Aside0 (w'.heap[gb101]? = some (.cells #[.int .i64 a0_0,.int .i64 a0_1,.int .i64 a0_2,.int .i64 a0_3,.int .i64 a0_4,.int .i64 a0_5,.int .i64 a0_6,.int .i64 a0_7,.int .i64 a0_8,(.slice A0_9 l0_9.length c0_9),(.slice A0_10 l0_10.length c0_10),(.slice A0_11 l0_11.length c0_11)] 28 (0,0)))∧Aside0 (Below w.heap.size w w'))
     case atStart=>exact ⟨(0),(by first|rfl|(simp;done)|(simp [*];done)),H',⟨Nat.le_refl _⟩,⟨by (with_reducible repeat (first|refine bN ?_ _|refine bD ?_|refine bA ?_ _));exact BK101.out⟩,⟨by repeat (first|(with_reducible first|exact HB.out|apply bL|apply pN|apply bE|refine bS ?_ GE101.out)|exact HB.out)⟩⟩
     case round =>
      clear H'
      obtain ⟨x4_3,rfl,HA,HK3,BK101,HB⟩:=hrel
      cases gk with
      | zero=>exact absurd HA.out (by simp [gangerlaw10_long.l1])
      | succ k3 =>
       have H:=HA.out
       clear HA
       simp only [gangerlaw10_long.l1] at H
       by_cases c16 : x4_3 < (l0_10.length : Int)
       ·rw [if_pos c16] at H
        have c16b0 : decide (x4_3 < (l0_10.length : Int)) = true:=decide_eq_true c16
        clear c16
        by_cases c17 : 0≤x4_3
        rotate_left
        ·rw [if_neg c17] at H
         exact absurd H (by simp)
        rw [if_pos c17] at H
        have c17b0 : decide (0≤x4_3) = true:=decide_eq_true c17
        clear c17
        by_cases c18 : (((rd_T52 l0_10 x4_3).f0).size : Int) > 300
        ·rw [if_pos c18] at H
         have c18b0 : decide (300 < (((rd_T52 l0_10 x4_3).f0).size : Int)) = true:=decide_eq_true c18
         have c18b1 : decide (300 < ((rd_T52 l0_10 x4_3).f0).size) = true:=decide_eq_true (by omega)
         clear c18
         obtain rfl:=Option.some.inj H
         obtain ⟨X19_0,X19_1,X19_2,X19_3,X19_4,X19_5,X19_6,X19_7,X19_8,X19_9,X19_10,X19_11,Y19_0,Y19_1,Y19_2,Y19_3,Y19_4,Y19_5,Y19_6,Y19_7,Y19_8,Y19_9,Y19_10,Y19_11⟩:=kc12 (w:=wr) (g:=gb101) BK101.out
         have p103 : 0≤(x4_3 : Int):=of_decide_eq_true (by first|(with_reducible assumption)|assumption)
         have q103 : x4_3 < (l0_10.length : Int):=of_decide_eq_true (by first|(with_reducible assumption)|assumption)
         obtain ⟨ad103,e103,hx103_0,hx103_1,hx103_2⟩:=at_T52 HR0_10.out x4_3 p103 q103
         cases e103
         replace hx103_0:=(HB.out.cell (wB w _ hx103_0)).trans hx103_0
         replace hx103_1:=(HB.out.cell (wB w _ hx103_1)).trans hx103_1
         replace hx103_2:=(HB.out.cell (wB w _ hx103_2)).trans hx103_2
         replace p103:=eq_true p103
         replace q103:=eq_true q103
         go_wp2
         go_ret
         exact ⟨by first|rfl|(simp [errW_none,errW_some] <;> rfl)|(simp [*,errW_none,errW_some] <;> rfl),by repeat (first|(with_reducible first|exact HB.out|apply bL|apply pN|apply bE|refine bS ?_ GE101.out)|exact HB.out)⟩
        rw [if_neg c18] at H
        have c18b0 : decide (300 < (((rd_T52 l0_10 x4_3).f0).size : Int)) = false:=decide_eq_false c18
        have c18b1 : decide (300 < ((rd_T52 l0_10 x4_3).f0).size) = false:=decide_eq_false (by omega)
        clear c18
        have H':=Am H
        clear H
        obtain ⟨X20_0,X20_1,X20_2,X20_3,X20_4,X20_5,X20_6,X20_7,X20_8,X20_9,X20_10,X20_11,Y20_0,Y20_1,Y20_2,Y20_3,Y20_4,Y20_5,Y20_6,Y20_7,Y20_8,Y20_9,Y20_10,Y20_11⟩:=kc12 (w:=wr) (g:=gb101) BK101.out
        have p103 : 0≤(x4_3 : Int):=of_decide_eq_true (by first|(with_reducible assumption)|assumption)
        have q103 : x4_3 < (l0_10.length : Int):=of_decide_eq_true (by first|(with_reducible assumption)|assumption)
        obtain ⟨ad103,e103,hx103_0,hx103_1,hx103_2⟩:=at_T52 HR0_10.out x4_3 p103 q103
        cases e103
        replace hx103_0:=(HB.out.cell (wB w _ hx103_0)).trans hx103_0
        replace hx103_1:=(HB.out.cell (wB w _ hx103_1)).trans hx103_1
        replace hx103_2:=(HB.out.cell (wB w _ hx103_2)).trans hx103_2
        replace p103:=eq_true p103
        replace q103:=eq_true q103
        go_wp2
        go_roundg k3
        case measure=>have:=HJ1.out;have:=HK2.out;have:=HK3.out;omega
        case rel=>exact ⟨(wrap64 (x4_3 + 1)),(by first|rfl|(simp;done)|(simp [*];done)),H',⟨by have:=HJ1.out;have:=HK2.out;have:=HK3.out;omega⟩,⟨by (with_reducible repeat (first|refine bN ?_ _|refine bD ?_|refine bA ?_ _));exact BK101.out⟩,⟨by repeat (first|(with_reducible first|exact HB.out|apply bL|apply pN|apply bE|refine bS ?_ GE101.out)|exact HB.out)⟩⟩
       rw [if_neg c16] at H
       have c16b0 : decide (x4_3 < (l0_10.length : Int)) = false:=decide_eq_false c16
       clear c16
       have H':=Am H
       clear H
       obtain ⟨X21_0,X21_1,X21_2,X21_3,X21_4,X21_5,X21_6,X21_7,X21_8,X21_9,X21_10,X21_11,Y21_0,Y21_1,Y21_2,Y21_3,Y21_4,Y21_5,Y21_6,Y21_7,Y21_8,Y21_9,Y21_10,Y21_11⟩:=kc12 (w:=wr) (g:=gb101) BK101.out
       go_wp2
       go_loopg [5] k3 (fun kq v5 w'=>∃ (x5_4 : Int),v5 = .int .i64 x5_4∧Aside0 (gangerlaw10_long.l2 kq x5_4 a0_0 a0_1 a0_2 a0_3 a0_4 a0_5 a0_6 a0_7 a0_8 l0_9 l0_10 l0_11 = some r)∧Aside0 (kq≤k3)∧Aside0 (w'.heap[gb101]? = some (.cells #[.int .i64 a0_0,.int .i64 a0_1,.int .i64 a0_2,.int .i64 a0_3,.int .i64 a0_4,.int .i64 a0_5,.int .i64 a0_6,.int .i64 a0_7,.int .i64 a0_8,(.slice A0_9 l0_9.length c0_9),(.slice A0_10 l0_10.length c0_10),(.slice A0_11 l0_11.length c0_11)] 28 (0,0)))∧Aside0 (Below w.heap.size w w'))
       case atStart=>exact ⟨(0),(by first|rfl|(simp;done)|(simp [*];done)),H',⟨Nat.le_refl _⟩,⟨by (with_reducible repeat (first|refine bN ?_ _|refine bD ?_|refine bA ?_ _));exact BK101.out⟩,⟨by repeat (first|(with_reducible first|exact HB.out|apply bL|apply pN|apply bE|refine bS ?_ GE101.out)|exact HB.out)⟩⟩
       case round =>
        clear H'
        obtain ⟨x5_4,rfl,HA,HK4,BK101,HB⟩:=hrel
        cases gk with
        | zero=>exact absurd HA.out (by simp [gangerlaw10_long.l2])
        | succ k4 =>
         have H:=HA.out
         clear HA
         simp only [gangerlaw10_long.l2] at H
         by_cases c22 : x5_4 < (l0_11.length : Int)
         rotate_left
         ·rw [if_neg c22] at H
          have c22b0 : decide (x5_4 < (l0_11.length : Int)) = false:=decide_eq_false c22
          clear c22
          obtain rfl:=Option.some.inj H
          obtain ⟨X29_0,X29_1,X29_2,X29_3,X29_4,X29_5,X29_6,X29_7,X29_8,X29_9,X29_10,X29_11,Y29_0,Y29_1,Y29_2,Y29_3,Y29_4,Y29_5,Y29_6,Y29_7,Y29_8,Y29_9,Y29_10,Y29_11⟩:=kc12 (w:=wr) (g:=gb101) BK101.out
          go_wp2
          go_ret
          exact ⟨by first|rfl|(simp [errW_none,errW_some] <;> rfl)|(simp [*,errW_none,errW_some] <;> rfl),by repeat (first|(with_reducible first|exact HB.out|apply bL|apply pN|apply bE|refine bS ?_ GE101.out)|exact HB.out)⟩
         rw [if_pos c22] at H
         have c22b0 : decide (x5_4 < (l0_11.length : Int)) = true:=decide_eq_true c22
         clear c22
         by_cases c23 : 0≤x5_4
         rotate_left
         ·rw [if_neg c23] at H
          exact absurd H (by simp)
         rw [if_pos c23] at H
         have c23b0 : decide (0≤x5_4) = true:=decide_eq_true c23
         clear c23
         by_cases c24 : (((rd_T48 l0_11 x5_4).f0).size : Int) > 300
         ·rw [if_pos c24] at H
          have c24b0 : decide (300 < (((rd_T48 l0_11 x5_4).f0).size : Int)) = true:=decide_eq_true c24
          have c24b1 : decide (300 < ((rd_T48 l0_11 x5_4).f0).size) = true:=decide_eq_true (by omega)
          clear c24
          obtain rfl:=Option.some.inj H
          obtain ⟨X25_0,X25_1,X25_2,X25_3,X25_4,X25_5,X25_6,X25_7,X25_8,X25_9,X25_10,X25_11,Y25_0,Y25_1,Y25_2,Y25_3,Y25_4,Y25_5,Y25_6,Y25_7,Y25_8,Y25_9,Y25_10,Y25_11⟩:=kc12 (w:=wr) (g:=gb101) BK101.out
          have p104 : 0≤(x5_4 : Int):=of_decide_eq_true (by first|(with_reducible assumption)|assumption)
          have q104 : x5_4 < (l0_11.length : Int):=of_decide_eq_true (by first|(with_reducible assumption)|assumption)
          obtain ⟨ad104,e104,hx104_0,hx104_1,hx104_2⟩:=at_T48 HR0_11.out x5_4 p104 q104
          cases e104
          replace hx104_0:=(HB.out.cell (wB w _ hx104_0)).trans hx104_0
          replace hx104_1:=(HB.out.cell (wB w _ hx104_1)).trans hx104_1
          replace hx104_2:=(HB.out.cell (wB w _ hx104_2)).trans hx104_2
          replace p104:=eq_true p104
          replace q104:=eq_true q104
          go_wp2
          go_ret
          exact ⟨by first|rfl|(simp [errW_none,errW_some] <;> rfl)|(simp [*,errW_none,errW_some] <;> rfl),by repeat (first|(with_reducible first|exact HB.out|apply bL|apply pN|apply bE|refine bS ?_ GE101.out)|exact HB.out)⟩
         rw [if_neg c24] at H
         have c24b0 : decide (300 < (((rd_T48 l0_11 x5_4).f0).size : Int)) = false:=decide_eq_false c24
         have c24b1 : decide (300 < ((rd_T48 l0_11 x5_4).f0).size) = false:=decide_eq_false (by omega)
         clear c24
         by_cases c26 : (((rd_T48 l0_11 x5_4).f1).size : Int) > 300
         ·rw [if_pos c26] at H
          have c26b0 : decide (300 < (((rd_T48 l0_11 x5_4).f1).size : Int)) = true:=decide_eq_true c26
          have c26b1 : decide (300 < ((rd_T48 l0_11 x5_4).f1).size) = true:=decide_eq_true (by omega)
          clear c26
          obtain rfl:=Option.some.inj H
          obtain ⟨X27_0,X27_1,X27_2,X27_3,X27_4,X27_5,X27_6,X27_7,X27_8,X27_9,X27_10,X27_11,Y27_0,Y27_1,Y27_2,Y27_3,Y27_4,Y27_5,Y27_6,Y27_7,Y27_8,Y27_9,Y27_10,Y27_11⟩:=kc12 (w:=wr) (g:=gb101) BK101.out
          have p104 : 0≤(x5_4 : Int):=of_decide_eq_true (by first|(with_reducible assumption)|assumption)
          have q104 : x5_4 < (l0_11.length : Int):=of_decide_eq_true (by first|(with_reducible assumption)|assumption)
          obtain ⟨ad104,e104,hx104_0,hx104_1,hx104_2⟩:=at_T48 HR0_11.out x5_4 p104 q104
          cases e104
          replace hx104_0:=(HB.out.cell (wB w _ hx104_0)).trans hx104_0
          replace hx104_1:=(HB.out.cell (wB w _ hx104_1)).trans hx104_1
          replace hx104_2:=(HB.out.cell (wB w _ hx104_2)).trans hx104_2
          replace p104:=eq_true p104
          replace q104:=eq_true q104
          have p105 : 0≤(x5_4 : Int):=of_decide_eq_true (by first|(with_reducible assumption)|assumption)
          have q105 : x5_4 < (l0_11.length : Int):=of_decide_eq_true (by first|(with_reducible assumption)|assumption)
          obtain ⟨ad105,e105,hx105_0,hx105_1,hx105_2⟩:=at_T48 HR0_11.out x5_4 p105 q105
          obtain rfl : ad104 = ad105:=(by injection e105)
          replace hx105_0:=(HB.out.cell (wB w _ hx105_0)).trans hx105_0
          replace hx105_1:=(HB.out.cell (wB w _ hx105_1)).trans hx105_1
          replace hx105_2:=(HB.out.cell (wB w _ hx105_2)).trans hx105_2
          replace p105:=eq_true p105
          replace q105:=eq_true q105
          go_wp2
          go_ret
          exact ⟨by first|rfl|(simp [errW_none,errW_some] <;> rfl)|(simp [*,errW_none,errW_some] <;> rfl),by repeat (first|(with_reducible first|exact HB.out|apply bL|apply pN|apply bE|refine bS ?_ GE101.out)|exact HB.out)⟩
         rw [if_neg c26] at H
         have c26b0 : decide (300 < (((rd_T48 l0_11 x5_4).f1).size : Int)) = false:=decide_eq_false c26
         have c26b1 : decide (300 < ((rd_T48 l0_11 x5_4).f1).size) = false:=decide_eq_false (by omega)
         clear c26
         have H':=Am H
         clear H
         obtain ⟨X28_0,X28_1,X28_2,X28_3,X28_4,X28_5,X28_6,X28_7,X28_8,X28_9,X28_10,X28_11,Y28_0,Y28_1,Y28_2,Y28_3,Y28_4,Y28_5,Y28_6,Y28_7,Y28_8,Y28_9,Y28_10,Y28_11⟩:=kc12 (w:=wr) (g:=gb101) BK101.out
         have p104 : 0≤(x5_4 : Int):=of_decide_eq_true (by first|(with_reducible assumption)|assumption)
         have q104 : x5_4 < (l0_11.length : Int):=of_decide_eq_true (by first|(with_reducible assumption)|assumption)
         obtain ⟨ad104,e104,hx104_0,hx104_1,hx104_2⟩:=at_T48 HR0_11.out x5_4 p104 q104
         cases e104
         replace hx104_0:=(HB.out.cell (wB w _ hx104_0)).trans hx104_0
         replace hx104_1:=(HB.out.cell (wB w _ hx104_1)).trans hx104_1
         replace hx104_2:=(HB.out.cell (wB w _ hx104_2)).trans hx104_2
         replace p104:=eq_true p104
         replace q104:=eq_true q104
         have p105 : 0≤(x5_4 : Int):=of_decide_eq_true (by first|(with_reducible assumption)|assumption)
         have q105 : x5_4 < (l0_11.length : Int):=of_decide_eq_true (by first|(with_reducible assumption)|assumption)
         obtain ⟨ad105,e105,hx105_0,hx105_1,hx105_2⟩:=at_T48 HR0_11.out x5_4 p105 q105
         obtain rfl : ad104 = ad105:=(by injection e105)
         replace hx105_0:=(HB.out.cell (wB w _ hx105_0)).trans hx105_0
         replace hx105_1:=(HB.out.cell (wB w _ hx105_1)).trans hx105_1
         replace hx105_2:=(HB.out.cell (wB w _ hx105_2)).trans hx105_2
         replace p105:=eq_true p105
         replace q105:=eq_true q105
         go_wp2
         go_roundg k4
         case measure=>have:=HJ1.out;have:=HK2.out;have:=HK3.out;have:=HK4.out;omega
         case rel=>exact ⟨(wrap64 (x5_4 + 1)),(by first|rfl|(simp;done)|(simp [*];done)),H',⟨by have:=HJ1.out;have:=HK2.out;have:=HK3.out;have:=HK4.out;omega⟩,⟨by (with_reducible repeat (first|refine bN ?_ _|refine bD ?_|refine bA ?_ _));exact BK101.out⟩,⟨by repeat (first|(with_reducible first|exact HB.out|apply bL|apply pN|apply bE|refine bS ?_ GE101.out)|exact HB.out)⟩⟩
end Go.Proofs.YtgidipomfbikiaaDoor.P
