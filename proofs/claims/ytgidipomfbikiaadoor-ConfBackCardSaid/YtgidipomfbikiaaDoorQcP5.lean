/- cut to what one law reaches -/
import Derived.Test.YtgidipomfbikiaaDoorQcShort
import Derived.Test.YtgidipomfbikiaaDoorQcP0
namespace Go.Proofs.YtgidipomfbikiaaDoor.P
open Go.RowKit Go.Proofs.YtgidipomfbikiaaDoorW.PrintWords Go.Proofs.YtgidipomfbikiaaDoorW.PrintLast Go.Proofs.YtgidipomfbikiaaDoorW.PrintMore
attribute [local go_sem] max2_int min2_int max_two min_two max_three min_three max_four min_four   -- for this text's walks alone
set_option linter.unusedVariables false
set_option linter.unusedSimpArgs false
attribute [local go_sem] isSome_setCell
mutual
def gangerlaw10_long.j0 : Nat→Bool→Int→Int→Int→Int→Int→Int→Int→Int→Int→List (S50)→List (S52)→List (S48)→Option (Bool)
 | 0,_,_,_,_,_,_,_,_,_,_,_,_,_=>none
 | k + 1,x21,u_0,u_1,u_2,u_3,u_4,u_5,u_6,u_7,u_8,u_9,u_10,u_11=>if x21 = true then (some true) else (gangerlaw10_long.l0 k 0 u_0 u_1 u_2 u_3 u_4 u_5 u_6 u_7 u_8 u_9 u_10 u_11)
def gangerlaw10_long.l0 : Nat→Int→Int→Int→Int→Int→Int→Int→Int→Int→Int→List (S50)→List (S52)→List (S48)→Option (Bool)
 | 0,_,_,_,_,_,_,_,_,_,_,_,_,_=>none
 | k + 1,x3,u_0,u_1,u_2,u_3,u_4,u_5,u_6,u_7,u_8,u_9,u_10,u_11=>if x3 < (u_9.length : Int) then (if 0≤x3 then (if (((rd_T50 u_9 x3).f0).size : Int) > 300 then (some true) else (gangerlaw10_long.l0 k (wrap64 (x3 + 1)) u_0 u_1 u_2 u_3 u_4 u_5 u_6 u_7 u_8 u_9 u_10 u_11)) else (none)) else (gangerlaw10_long.l1 k 0 u_0 u_1 u_2 u_3 u_4 u_5 u_6 u_7 u_8 u_9 u_10 u_11)
def gangerlaw10_long.l1 : Nat→Int→Int→Int→Int→Int→Int→Int→Int→Int→Int→List (S50)→List (S52)→List (S48)→Option (Bool)
 | 0,_,_,_,_,_,_,_,_,_,_,_,_,_=>none
 | k + 1,x4,u_0,u_1,u_2,u_3,u_4,u_5,u_6,u_7,u_8,u_9,u_10,u_11=>if x4 < (u_10.length : Int) then (if 0≤x4 then (if (((rd_T52 u_10 x4).f0).size : Int) > 300 then (some true) else (gangerlaw10_long.l1 k (wrap64 (x4 + 1)) u_0 u_1 u_2 u_3 u_4 u_5 u_6 u_7 u_8 u_9 u_10 u_11)) else (none)) else (gangerlaw10_long.l2 k 0 u_0 u_1 u_2 u_3 u_4 u_5 u_6 u_7 u_8 u_9 u_10 u_11)
def gangerlaw10_long.l2 : Nat→Int→Int→Int→Int→Int→Int→Int→Int→Int→Int→List (S50)→List (S52)→List (S48)→Option (Bool)
 | 0,_,_,_,_,_,_,_,_,_,_,_,_,_=>none
 | k + 1,x5,u_0,u_1,u_2,u_3,u_4,u_5,u_6,u_7,u_8,u_9,u_10,u_11=>if x5 < (u_11.length : Int) then (if 0≤x5 then (if (((rd_T48 u_11 x5).f0).size : Int) > 300 then (some true) else (if (((rd_T48 u_11 x5).f1).size : Int) > 300 then (some true) else (gangerlaw10_long.l2 k (wrap64 (x5 + 1)) u_0 u_1 u_2 u_3 u_4 u_5 u_6 u_7 u_8 u_9 u_10 u_11))) else (none)) else (some false)
end
def gangerlaw10_long.f (k : Nat) (a0_0 : Int) (a0_1 : Int) (a0_2 : Int) (a0_3 : Int) (a0_4 : Int) (a0_5 : Int) (a0_6 : Int) (a0_7 : Int) (a0_8 : Int) (l0_9 : List (S50)) (l0_10 : List (S52)) (l0_11 : List (S48)) : Option (Bool):=if (l0_9.length : Int) > 40 then (gangerlaw10_long.j0 k true a0_0 a0_1 a0_2 a0_3 a0_4 a0_5 a0_6 a0_7 a0_8 l0_9 l0_10 l0_11) else (if (l0_10.length : Int) > 40 then (gangerlaw10_long.j0 k true a0_0 a0_1 a0_2 a0_3 a0_4 a0_5 a0_6 a0_7 a0_8 l0_9 l0_10 l0_11) else (gangerlaw10_long.j0 k (decide ((l0_11.length : Int) > 120)) a0_0 a0_1 a0_2 a0_3 a0_4 a0_5 a0_6 a0_7 a0_8 l0_9 l0_10 l0_11))
set_option maxHeartbeats 8000000 in
set_option maxRecDepth 100000 in
theorem gangerlaw10_long.calls (k : Nat) (a0_0 : Int) (a0_1 : Int) (a0_2 : Int) (a0_3 : Int) (a0_4 : Int) (a0_5 : Int) (a0_6 : Int) (a0_7 : Int) (a0_8 : Int) (A0_9 : Option Addr) (c0_9 : Nat) (l0_9 : List (S50)) (A0_10 : Option Addr) (c0_10 : Nat) (l0_10 : List (S52)) (A0_11 : Option Addr) (c0_11 : Nat) (l0_11 : List (S48)) (r : Bool) (w : World) (hr0_9 : Kd.C k50 w A0_9 l0_9.length l0_9) (hc0_9 : l0_9.length≤c0_9) (hr0_10 : Kd.C k52 w A0_10 l0_10.length l0_10) (hc0_10 : l0_10.length≤c0_10) (hr0_11 : Kd.C k48 w A0_11 l0_11.length l0_11) (hc0_11 : l0_11.length≤c0_11) (h : gangerlaw10_long.f k a0_0 a0_1 a0_2 a0_3 a0_4 a0_5 a0_6 a0_7 a0_8 l0_9 l0_10 l0_11 = some r) :
  Calls Tryd.prog 9 #[.agg #[.int .i64 a0_0,.int .i64 a0_1,.int .i64 a0_2,.int .i64 a0_3,.int .i64 a0_4,.int .i64 a0_5,.int .i64 a0_6,.int .i64 a0_7,.int .i64 a0_8,.slice A0_9 l0_9.length c0_9,.slice A0_10 l0_10.length c0_10,.slice A0_11 l0_11.length c0_11]] w fun e w'=>e = .returned (.bool r)∧Below w.heap.size w w':=by
 have hu28:=Tryd.underlying28
 have HR0_9:=Am hr0_9
 have HC0_9:=Am hc0_9
 clear hr0_9 hc0_9
 have HR0_10:=Am hr0_10
 have HC0_10:=Am hc0_10
 clear hr0_10 hc0_10
 have HR0_11:=Am hr0_11
 have HC0_11:=Am hc0_11
 clear hr0_11 hc0_11
 have HB:=Am (Below.refl w.heap.size w)
 have H : (if (l0_9.length : Int) > 40 then (gangerlaw10_long.j0 k true a0_0 a0_1 a0_2 a0_3 a0_4 a0_5 a0_6 a0_7 a0_8 l0_9 l0_10 l0_11) else (if (l0_10.length : Int) > 40 then (gangerlaw10_long.j0 k true a0_0 a0_1 a0_2 a0_3 a0_4 a0_5 a0_6 a0_7 a0_8 l0_9 l0_10 l0_11) else (gangerlaw10_long.j0 k (decide ((l0_11.length : Int) > 120)) a0_0 a0_1 a0_2 a0_3 a0_4 a0_5 a0_6 a0_7 a0_8 l0_9 l0_10 l0_11))) = some r:=h
 clear h
 have HC2:=Am H
 clear H
 go_enter Tryd.func9,Tryd.ntmps9
 go_upto_region 1 with (first|((with_reducible refine gD (N:=1) rfl ?_);(try (refine gate_guard (by rfl) ?_;dsimp only));refine box_event ?hg (N:=1) ?hd (cs:=#[.int .i64 a0_0,.int .i64 a0_1,.int .i64 a0_2,.int .i64 a0_3,.int .i64 a0_4,.int .i64 a0_5,.int .i64 a0_6,.int .i64 a0_7,.int .i64 a0_8,.slice A0_9 l0_9.length c0_9,.slice A0_10 l0_10.length c0_10,.slice A0_11 l0_11.length c0_11]) (t:=28) ?hr ?_;(case hd=>rfl);(case hg=>rfl);(case hr=>first|(go_simp;done)|(go_simp;rfl));intro gb101 hg w3 hbox hb;have n0_:=Am (below_step (by repeat (first|(with_reducible first|exact HB.out|apply bL|apply pN|apply bE)|exact HB.out)) hb);have n1_:=Am (hbox);have n2_:=Am ((by rw [hg];exact (bZ (by repeat (first|(with_reducible first|exact HB.out|apply bL|apply pN|apply bE)|exact HB.out))) : w.heap.size≤gb101));have n3_:=Am ((by rw [hg];exact (bZ (by repeat (first|(with_reducible first|exact HB.out|apply bL|apply pN|apply bE)|exact HB.out))) : w.heap.size≤gb101));clear HB;have HB:=n0_;have BK101:=n1_;have GW101:=n2_;have GE101:=n3_;clear n0_ n1_ n2_ n3_;clear hb hbox hg))
 (try simp only [Act.put,sT,sZ,sS])
 go_cut [21] (fun v21 wc=>∃ (kq : Nat) (x21_1 : Bool),v21 = .bool x21_1∧Aside0 (gangerlaw10_long.j0 kq x21_1 a0_0 a0_1 a0_2 a0_3 a0_4 a0_5 a0_6 a0_7 a0_8 l0_9 l0_10 l0_11 = some r)∧Aside0 (kq≤k)∧Aside0 (wc.heap[gb101]? = some (.cells #[.int .i64 a0_0,.int .i64 a0_1,.int .i64 a0_2,.int .i64 a0_3,.int .i64 a0_4,.int .i64 a0_5,.int .i64 a0_6,.int .i64 a0_7,.int .i64 a0_8,(.slice A0_9 l0_9.length c0_9),(.slice A0_10 l0_10.length c0_10),(.slice A0_11 l0_11.length c0_11)] 28 (0,0)))∧Aside0 (Below w.heap.size w wc))
 case first =>
  have H:=HC2.out
  clear HC2
  by_cases c4 : (l0_9.length : Int) > 40
  ·rw [if_pos c4] at H
   have c4b0 : decide (40 < (l0_9.length : Int)) = true:=decide_eq_true c4
   have c4b1 : decide (40 < l0_9.length) = true:=decide_eq_true (by omega)
   clear c4
   (first|rw [c4b0]|(simp only [iW,iV];rw [c4b0])|skip)
   have H':=Am H
   clear H
   have hcz5_0 : w3.cell? ⟨gb101,0,none⟩ = some (.int .i64 a0_0):=(bC BK101.out 0).trans rfl
   have hcz5_1 : w3.cell? ⟨gb101,1,none⟩ = some (.int .i64 a0_1):=(bC BK101.out 1).trans rfl
   have hcz5_2 : w3.cell? ⟨gb101,2,none⟩ = some (.int .i64 a0_2):=(bC BK101.out 2).trans rfl
   have hcz5_3 : w3.cell? ⟨gb101,3,none⟩ = some (.int .i64 a0_3):=(bC BK101.out 3).trans rfl
   have hcz5_4 : w3.cell? ⟨gb101,4,none⟩ = some (.int .i64 a0_4):=(bC BK101.out 4).trans rfl
   have hcz5_5 : w3.cell? ⟨gb101,5,none⟩ = some (.int .i64 a0_5):=(bC BK101.out 5).trans rfl
   have hcz5_6 : w3.cell? ⟨gb101,6,none⟩ = some (.int .i64 a0_6):=(bC BK101.out 6).trans rfl
   have hcz5_7 : w3.cell? ⟨gb101,7,none⟩ = some (.int .i64 a0_7):=(bC BK101.out 7).trans rfl
   have hcz5_8 : w3.cell? ⟨gb101,8,none⟩ = some (.int .i64 a0_8):=(bC BK101.out 8).trans rfl
   have hcz5_9 : w3.cell? ⟨gb101,9,none⟩ = some (.slice A0_9 l0_9.length c0_9):=(bC BK101.out 9).trans rfl
   have hcz5_10 : w3.cell? ⟨gb101,10,none⟩ = some (.slice A0_10 l0_10.length c0_10):=(bC BK101.out 10).trans rfl
   have hcz5_11 : w3.cell? ⟨gb101,11,none⟩ = some (.slice A0_11 l0_11.length c0_11):=(bC BK101.out 11).trans rfl
   have hfz5_0:=bF BK101.out 0
   have hfz5_1:=bF BK101.out 1
   have hfz5_2:=bF BK101.out 2
   have hfz5_3:=bF BK101.out 3
   have hfz5_4:=bF BK101.out 4
   have hfz5_5:=bF BK101.out 5
   have hfz5_6:=bF BK101.out 6
   have hfz5_7:=bF BK101.out 7
   have hfz5_8:=bF BK101.out 8
   have hfz5_9:=bF BK101.out 9
   have hfz5_10:=bF BK101.out 10
   have hfz5_11:=bF BK101.out 11
   go_wp2
   go_meet
   case rel=>exact ⟨_,(true),(by first|rfl|(simp;done)|(simp [*];done)),H',⟨by first|omega|exact Nat.le_refl _⟩,⟨by (with_reducible repeat (first|refine bN ?_ _|refine bD ?_|refine bA ?_ _));exact BK101.out⟩,⟨by repeat (first|(with_reducible first|exact HB.out|apply bL|apply pN|apply bE|refine bS ?_ GE101.out)|exact HB.out)⟩⟩
  rw [if_neg c4] at H
  have c4b0 : decide (40 < (l0_9.length : Int)) = false:=decide_eq_false c4
  have c4b1 : decide (40 < l0_9.length) = false:=decide_eq_false (by omega)
  clear c4
  (first|rw [c4b0]|(simp only [iW,iV];rw [c4b0])|skip)
  by_cases c6 : (l0_10.length : Int) > 40
  ·rw [if_pos c6] at H
   have c6b0 : decide (40 < (l0_10.length : Int)) = true:=decide_eq_true c6
   have c6b1 : decide (40 < l0_10.length) = true:=decide_eq_true (by omega)
   clear c6
   have H':=Am H
   clear H
   have hcz7_0 : w3.cell? ⟨gb101,0,none⟩ = some (.int .i64 a0_0):=(bC BK101.out 0).trans rfl
   have hcz7_1 : w3.cell? ⟨gb101,1,none⟩ = some (.int .i64 a0_1):=(bC BK101.out 1).trans rfl
   have hcz7_2 : w3.cell? ⟨gb101,2,none⟩ = some (.int .i64 a0_2):=(bC BK101.out 2).trans rfl
   have hcz7_3 : w3.cell? ⟨gb101,3,none⟩ = some (.int .i64 a0_3):=(bC BK101.out 3).trans rfl
   have hcz7_4 : w3.cell? ⟨gb101,4,none⟩ = some (.int .i64 a0_4):=(bC BK101.out 4).trans rfl
   have hcz7_5 : w3.cell? ⟨gb101,5,none⟩ = some (.int .i64 a0_5):=(bC BK101.out 5).trans rfl
   have hcz7_6 : w3.cell? ⟨gb101,6,none⟩ = some (.int .i64 a0_6):=(bC BK101.out 6).trans rfl
   have hcz7_7 : w3.cell? ⟨gb101,7,none⟩ = some (.int .i64 a0_7):=(bC BK101.out 7).trans rfl
   have hcz7_8 : w3.cell? ⟨gb101,8,none⟩ = some (.int .i64 a0_8):=(bC BK101.out 8).trans rfl
   have hcz7_9 : w3.cell? ⟨gb101,9,none⟩ = some (.slice A0_9 l0_9.length c0_9):=(bC BK101.out 9).trans rfl
   have hcz7_10 : w3.cell? ⟨gb101,10,none⟩ = some (.slice A0_10 l0_10.length c0_10):=(bC BK101.out 10).trans rfl
   have hcz7_11 : w3.cell? ⟨gb101,11,none⟩ = some (.slice A0_11 l0_11.length c0_11):=(bC BK101.out 11).trans rfl
   have hfz7_0:=bF BK101.out 0
   have hfz7_1:=bF BK101.out 1
   have hfz7_2:=bF BK101.out 2
   have hfz7_3:=bF BK101.out 3
   have hfz7_4:=bF BK101.out 4
   have hfz7_5:=bF BK101.out 5
   have hfz7_6:=bF BK101.out 6
   have hfz7_7:=bF BK101.out 7
   have hfz7_8:=bF BK101.out 8
   have hfz7_9:=bF BK101.out 9
   have hfz7_10:=bF BK101.out 10
   have hfz7_11:=bF BK101.out 11
   go_wp2
   go_meet
   case rel=>exact ⟨_,(true),(by first|rfl|(simp;done)|(simp [*];done)),H',⟨by first|omega|exact Nat.le_refl _⟩,⟨by (with_reducible repeat (first|refine bN ?_ _|refine bD ?_|refine bA ?_ _));exact BK101.out⟩,⟨by repeat (first|(with_reducible first|exact HB.out|apply bL|apply pN|apply bE|refine bS ?_ GE101.out)|exact HB.out)⟩⟩
  rw [if_neg c6] at H
  have c6b0 : decide (40 < (l0_10.length : Int)) = false:=decide_eq_false c6
  have c6b1 : decide (40 < l0_10.length) = false:=decide_eq_false (by omega)
  clear c6
  have H':=Am H
  clear H
  have hcz8_0 : w3.cell? ⟨gb101,0,none⟩ = some (.int .i64 a0_0):=(bC BK101.out 0).trans rfl
  have hcz8_1 : w3.cell? ⟨gb101,1,none⟩ = some (.int .i64 a0_1):=(bC BK101.out 1).trans rfl
  have hcz8_2 : w3.cell? ⟨gb101,2,none⟩ = some (.int .i64 a0_2):=(bC BK101.out 2).trans rfl
  have hcz8_3 : w3.cell? ⟨gb101,3,none⟩ = some (.int .i64 a0_3):=(bC BK101.out 3).trans rfl
  have hcz8_4 : w3.cell? ⟨gb101,4,none⟩ = some (.int .i64 a0_4):=(bC BK101.out 4).trans rfl
  have hcz8_5 : w3.cell? ⟨gb101,5,none⟩ = some (.int .i64 a0_5):=(bC BK101.out 5).trans rfl
  have hcz8_6 : w3.cell? ⟨gb101,6,none⟩ = some (.int .i64 a0_6):=(bC BK101.out 6).trans rfl
  have hcz8_7 : w3.cell? ⟨gb101,7,none⟩ = some (.int .i64 a0_7):=(bC BK101.out 7).trans rfl
  have hcz8_8 : w3.cell? ⟨gb101,8,none⟩ = some (.int .i64 a0_8):=(bC BK101.out 8).trans rfl
  have hcz8_9 : w3.cell? ⟨gb101,9,none⟩ = some (.slice A0_9 l0_9.length c0_9):=(bC BK101.out 9).trans rfl
  have hcz8_10 : w3.cell? ⟨gb101,10,none⟩ = some (.slice A0_10 l0_10.length c0_10):=(bC BK101.out 10).trans rfl
  have hcz8_11 : w3.cell? ⟨gb101,11,none⟩ = some (.slice A0_11 l0_11.length c0_11):=(bC BK101.out 11).trans rfl
  have hfz8_0:=bF BK101.out 0
  have hfz8_1:=bF BK101.out 1
  have hfz8_2:=bF BK101.out 2
  have hfz8_3:=bF BK101.out 3
  have hfz8_4:=bF BK101.out 4
  have hfz8_5:=bF BK101.out 5
  have hfz8_6:=bF BK101.out 6
  have hfz8_7:=bF BK101.out 7
  have hfz8_8:=bF BK101.out 8
  have hfz8_9:=bF BK101.out 9
  have hfz8_10:=bF BK101.out 10
  have hfz8_11:=bF BK101.out 11
  go_wp2
  go_meet
  case rel=>exact ⟨_,(decide ((l0_11.length : Int) > 120)),(by first|rfl|(simp;done)|(simp [*];done)),H',⟨by first|omega|exact Nat.le_refl _⟩,⟨by (with_reducible repeat (first|refine bN ?_ _|refine bD ?_|refine bA ?_ _));exact BK101.out⟩,⟨by repeat (first|(with_reducible first|exact HB.out|apply bL|apply pN|apply bE|refine bS ?_ GE101.out)|exact HB.out)⟩⟩
 case rest =>
  clear HC2
  obtain ⟨kq,x21_1,rfl,HA,HJ1,BK101,HB⟩:=hcut
  cases kq with
  | zero=>exact absurd HA.out (by simp [gangerlaw10_long.j0])
  | succ kj1 =>
   have H:=HA.out
   clear HA
   simp only [gangerlaw10_long.j0] at H
   by_cases c9 : x21_1 = true
   ·subst c9
    have H1 : (some true) = some r:=by rw [if_pos rfl] at H;exact H
    clear H
    have H:=H1
    clear H1
    obtain rfl:=Option.some.inj H
    go_wp2
    go_ret
    exact ⟨by first|rfl|(simp [errW_none,errW_some] <;> rfl)|(simp [*,errW_none,errW_some] <;> rfl),by repeat (first|(with_reducible first|exact HB.out|apply bL|apply pN|apply bE|refine bS ?_ GE101.out)|exact HB.out)⟩
   replace c9:=Bool.eq_false_iff.mpr c9
   subst c9
   have H1 : (gangerlaw10_long.l0 kj1 0 a0_0 a0_1 a0_2 a0_3 a0_4 a0_5 a0_6 a0_7 a0_8 l0_9 l0_10 l0_11) = some r:=by rw [if_neg (show ¬ (false = true) by decide)] at H;exact H
   clear H
   have H:=H1
   clear H1
   have H':=Am H
   clear H
   go_wp2
   go_loopg [3] kj1 (fun kq v3 w'=>∃ (x3_2 : Int),v3 = .int .i64 x3_2∧Aside0 (gangerlaw10_long.l0 kq x3_2 a0_0 a0_1 a0_2 a0_3 a0_4 a0_5 a0_6 a0_7 a0_8 l0_9 l0_10 l0_11 = some r)∧Aside0 (kq≤kj1)∧Aside0 (w'.heap[gb101]? = some (.cells #[.int .i64 a0_0,.int .i64 a0_1,.int .i64 a0_2,.int .i64 a0_3,.int .i64 a0_4,.int .i64 a0_5,.int .i64 a0_6,.int .i64 a0_7,.int .i64 a0_8,(.slice A0_9 l0_9.length c0_9),(.slice A0_10 l0_10.length c0_10),(.slice A0_11 l0_11.length c0_11)] 28 (0,0)))∧Aside0 (Below w.heap.size w w'))
   case atStart=>exact ⟨(0),(by first|rfl|(simp;done)|(simp [*];done)),H',⟨Nat.le_refl _⟩,⟨by (with_reducible repeat (first|refine bN ?_ _|refine bD ?_|refine bA ?_ _));exact BK101.out⟩,⟨by repeat (first|(with_reducible first|exact HB.out|apply bL|apply pN|apply bE|refine bS ?_ GE101.out)|exact HB.out)⟩⟩
   case round =>
    clear H'
    obtain ⟨x3_2,rfl,HA,HK2,BK101,HB⟩:=hrel
    cases gk with
    | zero=>exact absurd HA.out (by simp [gangerlaw10_long.l0])
    | succ k2 =>
     have H:=HA.out
     clear HA
     simp only [gangerlaw10_long.l0] at H
     by_cases c10 : x3_2 < (l0_9.length : Int)
     ·rw [if_pos c10] at H
      have c10b0 : decide (x3_2 < (l0_9.length : Int)) = true:=decide_eq_true c10
      clear c10
      by_cases c11 : 0≤x3_2
      rotate_left
      ·rw [if_neg c11] at H
       exact absurd H (by simp)
      rw [if_pos c11] at H
      have c11b0 : decide (0≤x3_2) = true:=decide_eq_true c11
      clear c11
      by_cases c12 : (((rd_T50 l0_9 x3_2).f0).size : Int) > 300
      ·rw [if_pos c12] at H
       have c12b0 : decide (300 < (((rd_T50 l0_9 x3_2).f0).size : Int)) = true:=decide_eq_true c12
       have c12b1 : decide (300 < ((rd_T50 l0_9 x3_2).f0).size) = true:=decide_eq_true (by omega)
       clear c12
       obtain rfl:=Option.some.inj H
       have hcz13_0 : wr.cell? ⟨gb101,0,none⟩ = some (.int .i64 a0_0):=(bC BK101.out 0).trans rfl
       have hcz13_1 : wr.cell? ⟨gb101,1,none⟩ = some (.int .i64 a0_1):=(bC BK101.out 1).trans rfl
       have hcz13_2 : wr.cell? ⟨gb101,2,none⟩ = some (.int .i64 a0_2):=(bC BK101.out 2).trans rfl
       have hcz13_3 : wr.cell? ⟨gb101,3,none⟩ = some (.int .i64 a0_3):=(bC BK101.out 3).trans rfl
       have hcz13_4 : wr.cell? ⟨gb101,4,none⟩ = some (.int .i64 a0_4):=(bC BK101.out 4).trans rfl
       have hcz13_5 : wr.cell? ⟨gb101,5,none⟩ = some (.int .i64 a0_5):=(bC BK101.out 5).trans rfl
       have hcz13_6 : wr.cell? ⟨gb101,6,none⟩ = some (.int .i64 a0_6):=(bC BK101.out 6).trans rfl
       have hcz13_7 : wr.cell? ⟨gb101,7,none⟩ = some (.int .i64 a0_7):=(bC BK101.out 7).trans rfl
       have hcz13_8 : wr.cell? ⟨gb101,8,none⟩ = some (.int .i64 a0_8):=(bC BK101.out 8).trans rfl
       have hcz13_9 : wr.cell? ⟨gb101,9,none⟩ = some (.slice A0_9 l0_9.length c0_9):=(bC BK101.out 9).trans rfl
       have hcz13_10 : wr.cell? ⟨gb101,10,none⟩ = some (.slice A0_10 l0_10.length c0_10):=(bC BK101.out 10).trans rfl
       have hcz13_11 : wr.cell? ⟨gb101,11,none⟩ = some (.slice A0_11 l0_11.length c0_11):=(bC BK101.out 11).trans rfl
       have hfz13_0:=bF BK101.out 0
       have hfz13_1:=bF BK101.out 1
       have hfz13_2:=bF BK101.out 2
       have hfz13_3:=bF BK101.out 3
       have hfz13_4:=bF BK101.out 4
       have hfz13_5:=bF BK101.out 5
       have hfz13_6:=bF BK101.out 6
       have hfz13_7:=bF BK101.out 7
       have hfz13_8:=bF BK101.out 8
       have hfz13_9:=bF BK101.out 9
       have hfz13_10:=bF BK101.out 10
       have hfz13_11:=bF BK101.out 11
       have p102 : 0≤(x3_2 : Int):=of_decide_eq_true (by first|(with_reducible assumption)|assumption)
       have q102 : x3_2 < (l0_9.length : Int):=of_decide_eq_true (by first|(with_reducible assumption)|assumption)
       obtain ⟨ad102,e102,hx102_0,hx102_1,hx102_2,hx102_3⟩:=at_T50 HR0_9.out x3_2 p102 q102
       cases e102
       replace hx102_0:=(HB.out.cell (wB w _ hx102_0)).trans hx102_0
       replace hx102_1:=(HB.out.cell (wB w _ hx102_1)).trans hx102_1
       replace hx102_2:=(HB.out.cell (wB w _ hx102_2)).trans hx102_2
       replace hx102_3:=(HB.out.cell (wB w _ hx102_3)).trans hx102_3
       replace p102:=eq_true p102
       replace q102:=eq_true q102
       go_wp2
       go_ret
       exact ⟨by first|rfl|(simp [errW_none,errW_some] <;> rfl)|(simp [*,errW_none,errW_some] <;> rfl),by repeat (first|(with_reducible first|exact HB.out|apply bL|apply pN|apply bE|refine bS ?_ GE101.out)|exact HB.out)⟩
      rw [if_neg c12] at H
      have c12b0 : decide (300 < (((rd_T50 l0_9 x3_2).f0).size : Int)) = false:=decide_eq_false c12
      have c12b1 : decide (300 < ((rd_T50 l0_9 x3_2).f0).size) = false:=decide_eq_false (by omega)
      clear c12
      have H':=Am H
      clear H
      have hcz14_0 : wr.cell? ⟨gb101,0,none⟩ = some (.int .i64 a0_0):=(bC BK101.out 0).trans rfl
      have hcz14_1 : wr.cell? ⟨gb101,1,none⟩ = some (.int .i64 a0_1):=(bC BK101.out 1).trans rfl
      have hcz14_2 : wr.cell? ⟨gb101,2,none⟩ = some (.int .i64 a0_2):=(bC BK101.out 2).trans rfl
      have hcz14_3 : wr.cell? ⟨gb101,3,none⟩ = some (.int .i64 a0_3):=(bC BK101.out 3).trans rfl
      have hcz14_4 : wr.cell? ⟨gb101,4,none⟩ = some (.int .i64 a0_4):=(bC BK101.out 4).trans rfl
      have hcz14_5 : wr.cell? ⟨gb101,5,none⟩ = some (.int .i64 a0_5):=(bC BK101.out 5).trans rfl
      have hcz14_6 : wr.cell? ⟨gb101,6,none⟩ = some (.int .i64 a0_6):=(bC BK101.out 6).trans rfl
      have hcz14_7 : wr.cell? ⟨gb101,7,none⟩ = some (.int .i64 a0_7):=(bC BK101.out 7).trans rfl
      have hcz14_8 : wr.cell? ⟨gb101,8,none⟩ = some (.int .i64 a0_8):=(bC BK101.out 8).trans rfl
      have hcz14_9 : wr.cell? ⟨gb101,9,none⟩ = some (.slice A0_9 l0_9.length c0_9):=(bC BK101.out 9).trans rfl
      have hcz14_10 : wr.cell? ⟨gb101,10,none⟩ = some (.slice A0_10 l0_10.length c0_10):=(bC BK101.out 10).trans rfl
      have hcz14_11 : wr.cell? ⟨gb101,11,none⟩ = some (.slice A0_11 l0_11.length c0_11):=(bC BK101.out 11).trans rfl
      have hfz14_0:=bF BK101.out 0
      have hfz14_1:=bF BK101.out 1
      have hfz14_2:=bF BK101.out 2
      have hfz14_3:=bF BK101.out 3
      have hfz14_4:=bF BK101.out 4
      have hfz14_5:=bF BK101.out 5
      have hfz14_6:=bF BK101.out 6
      have hfz14_7:=bF BK101.out 7
      have hfz14_8:=bF BK101.out 8
      have hfz14_9:=bF BK101.out 9
      have hfz14_10:=bF BK101.out 10
      have hfz14_11:=bF BK101.out 11
      have p102 : 0≤(x3_2 : Int):=of_decide_eq_true (by first|(with_reducible assumption)|assumption)
      have q102 : x3_2 < (l0_9.length : Int):=of_decide_eq_true (by first|(with_reducible assumption)|assumption)
      obtain ⟨ad102,e102,hx102_0,hx102_1,hx102_2,hx102_3⟩:=at_T50 HR0_9.out x3_2 p102 q102
      cases e102
      replace hx102_0:=(HB.out.cell (wB w _ hx102_0)).trans hx102_0
      replace hx102_1:=(HB.out.cell (wB w _ hx102_1)).trans hx102_1
      replace hx102_2:=(HB.out.cell (wB w _ hx102_2)).trans hx102_2
      replace hx102_3:=(HB.out.cell (wB w _ hx102_3)).trans hx102_3
      replace p102:=eq_true p102
      replace q102:=eq_true q102
      go_wp2
      go_roundg k2
      case measure=>have:=HJ1.out;have:=HK2.out;omega
      case rel=>exact ⟨(wrap64 (x3_2 + 1)),(by first|rfl|(simp;done)|(simp [*];done)),H',⟨by have:=HJ1.out;have:=HK2.out;omega⟩,⟨by (with_reducible repeat (first|refine bN ?_ _|refine bD ?_|refine bA ?_ _));exact BK101.out⟩,⟨by repeat (first|(with_reducible first|exact HB.out|apply bL|apply pN|apply bE|refine bS ?_ GE101.out)|exact HB.out)⟩⟩
     rw [if_neg c10] at H
     have c10b0 : decide (x3_2 < (l0_9.length : Int)) = false:=decide_eq_false c10
     clear c10
     have H':=Am H
     clear H
     have hcz15_0 : wr.cell? ⟨gb101,0,none⟩ = some (.int .i64 a0_0):=(bC BK101.out 0).trans rfl
     have hcz15_1 : wr.cell? ⟨gb101,1,none⟩ = some (.int .i64 a0_1):=(bC BK101.out 1).trans rfl
     have hcz15_2 : wr.cell? ⟨gb101,2,none⟩ = some (.int .i64 a0_2):=(bC BK101.out 2).trans rfl
     have hcz15_3 : wr.cell? ⟨gb101,3,none⟩ = some (.int .i64 a0_3):=(bC BK101.out 3).trans rfl
     have hcz15_4 : wr.cell? ⟨gb101,4,none⟩ = some (.int .i64 a0_4):=(bC BK101.out 4).trans rfl
     have hcz15_5 : wr.cell? ⟨gb101,5,none⟩ = some (.int .i64 a0_5):=(bC BK101.out 5).trans rfl
     have hcz15_6 : wr.cell? ⟨gb101,6,none⟩ = some (.int .i64 a0_6):=(bC BK101.out 6).trans rfl
     have hcz15_7 : wr.cell? ⟨gb101,7,none⟩ = some (.int .i64 a0_7):=(bC BK101.out 7).trans rfl
     have hcz15_8 : wr.cell? ⟨gb101,8,none⟩ = some (.int .i64 a0_8):=(bC BK101.out 8).trans rfl
     have hcz15_9 : wr.cell? ⟨gb101,9,none⟩ = some (.slice A0_9 l0_9.length c0_9):=(bC BK101.out 9).trans rfl
     have hcz15_10 : wr.cell? ⟨gb101,10,none⟩ = some (.slice A0_10 l0_10.length c0_10):=(bC BK101.out 10).trans rfl
     have hcz15_11 : wr.cell? ⟨gb101,11,none⟩ = some (.slice A0_11 l0_11.length c0_11):=(bC BK101.out 11).trans rfl
     have hfz15_0:=bF BK101.out 0
     have hfz15_1:=bF BK101.out 1
     have hfz15_2:=bF BK101.out 2
     have hfz15_3:=bF BK101.out 3
     have hfz15_4:=bF BK101.out 4
     have hfz15_5:=bF BK101.out 5
     have hfz15_6:=bF BK101.out 6
     have hfz15_7:=bF BK101.out 7
     have hfz15_8:=bF BK101.out 8
     have hfz15_9:=bF BK101.out 9
     have hfz15_10:=bF BK101.out 10
     have hfz15_11:=bF BK101.out 11
     go_wp2
     go_loopg [4] k2 (fun kq v4 w'=>∃ (x4_3 : Int),v4 = .int .i64 x4_3∧Aside0 (gangerlaw10_long.l1 kq x4_3 a0_0 a0_1 a0_2 a0_3 a0_4 a0_5 a0_6 a0_7 a0_8 l0_9 l0_10 l0_11 = some r)∧Aside0 (kq≤k2)∧Aside0 (w'.heap[gb101]? = some (.cells #[.int .i64 a0_0,.int .i64 a0_1,.int .i64 a0_2,.int .i64 a0_3,.int .i64 a0_4,.int .i64 a0_5,.int .i64 a0_6,.int .i64 a0_7,.int .i64 a0_8,(.slice A0_9 l0_9.length c0_9),(.slice A0_10 l0_10.length c0_10),(.slice A0_11 l0_11.length c0_11)] 28 (0,0)))∧Aside0 (Below w.heap.size w w'))
     case atStart=>exact ⟨(0),(by first|rfl|(simp;done)|(simp [*];done)),H',⟨Nat.le_refl _⟩,⟨by (with_reducible repeat (first|refine bN ?_ _|refine bD ?_|refine bA ?_ _));exact BK101.out⟩,⟨by repeat (first|(with_reducible first|exact HB.out|apply bL|apply pN|apply bE|refine bS ?_ GE101.out)|exact HB.out)⟩⟩
     case round =>
      clear H'
      obtain ⟨x4_3,rfl,HA,HK3,BK101,HB⟩:=hrel
      cases gk with
      | zero=>exact absurd HA.out (by simp [gangerlaw10_long.l1])
      | succ k3 =>
       have H:=HA.out
       clear HA
       simp only [gangerlaw10_long.l1] at H
       by_cases c16 : x4_3 < (l0_10.length : Int)
       ·rw [if_pos c16] at H
        have c16b0 : decide (x4_3 < (l0_10.length : Int)) = true:=decide_eq_true c16
        clear c16
        by_cases c17 : 0≤x4_3
        rotate_left
        ·rw [if_neg c17] at H
         exact absurd H (by simp)
        rw [if_pos c17] at H
        have c17b0 : decide (0≤x4_3) = true:=decide_eq_true c17
        clear c17
        by_cases c18 : (((rd_T52 l0_10 x4_3).f0).size : Int) > 300
        ·rw [if_pos c18] at H
         have c18b0 : decide (300 < (((rd_T52 l0_10 x4_3).f0).size : Int)) = true:=decide_eq_true c18
         have c18b1 : decide (300 < ((rd_T52 l0_10 x4_3).f0).size) = true:=decide_eq_true (by omega)
         clear c18
         obtain rfl:=Option.some.inj H
         have hcz19_0 : wr.cell? ⟨gb101,0,none⟩ = some (.int .i64 a0_0):=(bC BK101.out 0).trans rfl
         have hcz19_1 : wr.cell? ⟨gb101,1,none⟩ = some (.int .i64 a0_1):=(bC BK101.out 1).trans rfl
         have hcz19_2 : wr.cell? ⟨gb101,2,none⟩ = some (.int .i64 a0_2):=(bC BK101.out 2).trans rfl
         have hcz19_3 : wr.cell? ⟨gb101,3,none⟩ = some (.int .i64 a0_3):=(bC BK101.out 3).trans rfl
         have hcz19_4 : wr.cell? ⟨gb101,4,none⟩ = some (.int .i64 a0_4):=(bC BK101.out 4).trans rfl
         have hcz19_5 : wr.cell? ⟨gb101,5,none⟩ = some (.int .i64 a0_5):=(bC BK101.out 5).trans rfl
         have hcz19_6 : wr.cell? ⟨gb101,6,none⟩ = some (.int .i64 a0_6):=(bC BK101.out 6).trans rfl
         have hcz19_7 : wr.cell? ⟨gb101,7,none⟩ = some (.int .i64 a0_7):=(bC BK101.out 7).trans rfl
         have hcz19_8 : wr.cell? ⟨gb101,8,none⟩ = some (.int .i64 a0_8):=(bC BK101.out 8).trans rfl
         have hcz19_9 : wr.cell? ⟨gb101,9,none⟩ = some (.slice A0_9 l0_9.length c0_9):=(bC BK101.out 9).trans rfl
         have hcz19_10 : wr.cell? ⟨gb101,10,none⟩ = some (.slice A0_10 l0_10.length c0_10):=(bC BK101.out 10).trans rfl
         have hcz19_11 : wr.cell? ⟨gb101,11,none⟩ = some (.slice A0_11 l0_11.length c0_11):=(bC BK101.out 11).trans rfl
         have hfz19_0:=bF BK101.out 0
         have hfz19_1:=bF BK101.out 1
         have hfz19_2:=bF BK101.out 2
         have hfz19_3:=bF BK101.out 3
         have hfz19_4:=bF BK101.out 4
         have hfz19_5:=bF BK101.out 5
         have hfz19_6:=bF BK101.out 6
         have hfz19_7:=bF BK101.out 7
         have hfz19_8:=bF BK101.out 8
         have hfz19_9:=bF BK101.out 9
         have hfz19_10:=bF BK101.out 10
         have hfz19_11:=bF BK101.out 11
         have p103 : 0≤(x4_3 : Int):=of_decide_eq_true (by first|(with_reducible assumption)|assumption)
         have q103 : x4_3 < (l0_10.length : Int):=of_decide_eq_true (by first|(with_reducible assumption)|assumption)
         obtain ⟨ad103,e103,hx103_0,hx103_1,hx103_2⟩:=at_T52 HR0_10.out x4_3 p103 q103
         cases e103
         replace hx103_0:=(HB.out.cell (wB w _ hx103_0)).trans hx103_0
         replace hx103_1:=(HB.out.cell (wB w _ hx103_1)).trans hx103_1
         replace hx103_2:=(HB.out.cell (wB w _ hx103_2)).trans hx103_2
         replace p103:=eq_true p103
         replace q103:=eq_true q103
         go_wp2
         go_ret
         exact ⟨by first|rfl|(simp [errW_none,errW_some] <;> rfl)|(simp [*,errW_none,errW_some] <;> rfl),by repeat (first|(with_reducible first|exact HB.out|apply bL|apply pN|apply bE|refine bS ?_ GE101.out)|exact HB.out)⟩
        rw [if_neg c18] at H
        have c18b0 : decide (300 < (((rd_T52 l0_10 x4_3).f0).size : Int)) = false:=decide_eq_false c18
        have c18b1 : decide (300 < ((rd_T52 l0_10 x4_3).f0).size) = false:=decide_eq_false (by omega)
        clear c18
        have H':=Am H
        clear H
        have hcz20_0 : wr.cell? ⟨gb101,0,none⟩ = some (.int .i64 a0_0):=(bC BK101.out 0).trans rfl
        have hcz20_1 : wr.cell? ⟨gb101,1,none⟩ = some (.int .i64 a0_1):=(bC BK101.out 1).trans rfl
        have hcz20_2 : wr.cell? ⟨gb101,2,none⟩ = some (.int .i64 a0_2):=(bC BK101.out 2).trans rfl
        have hcz20_3 : wr.cell? ⟨gb101,3,none⟩ = some (.int .i64 a0_3):=(bC BK101.out 3).trans rfl
        have hcz20_4 : wr.cell? ⟨gb101,4,none⟩ = some (.int .i64 a0_4):=(bC BK101.out 4).trans rfl
        have hcz20_5 : wr.cell? ⟨gb101,5,none⟩ = some (.int .i64 a0_5):=(bC BK101.out 5).trans rfl
        have hcz20_6 : wr.cell? ⟨gb101,6,none⟩ = some (.int .i64 a0_6):=(bC BK101.out 6).trans rfl
        have hcz20_7 : wr.cell? ⟨gb101,7,none⟩ = some (.int .i64 a0_7):=(bC BK101.out 7).trans rfl
        have hcz20_8 : wr.cell? ⟨gb101,8,none⟩ = some (.int .i64 a0_8):=(bC BK101.out 8).trans rfl
        have hcz20_9 : wr.cell? ⟨gb101,9,none⟩ = some (.slice A0_9 l0_9.length c0_9):=(bC BK101.out 9).trans rfl
        have hcz20_10 : wr.cell? ⟨gb101,10,none⟩ = some (.slice A0_10 l0_10.length c0_10):=(bC BK101.out 10).trans rfl
        have hcz20_11 : wr.cell? ⟨gb101,11,none⟩ = some (.slice A0_11 l0_11.length c0_11):=(bC BK101.out 11).trans rfl
        have hfz20_0:=bF BK101.out 0
        have hfz20_1:=bF BK101.out 1
        have hfz20_2:=bF BK101.out 2
        have hfz20_3:=bF BK101.out 3
        have hfz20_4:=bF BK101.out 4
        have hfz20_5:=bF BK101.out 5
        have hfz20_6:=bF BK101.out 6
        have hfz20_7:=bF BK101.out 7
        have hfz20_8:=bF BK101.out 8
        have hfz20_9:=bF BK101.out 9
        have hfz20_10:=bF BK101.out 10
        have hfz20_11:=bF BK101.out 11
        have p103 : 0≤(x4_3 : Int):=of_decide_eq_true (by first|(with_reducible assumption)|assumption)
        have q103 : x4_3 < (l0_10.length : Int):=of_decide_eq_true (by first|(with_reducible assumption)|assumption)
        obtain ⟨ad103,e103,hx103_0,hx103_1,hx103_2⟩:=at_T52 HR0_10.out x4_3 p103 q103
        cases e103
        replace hx103_0:=(HB.out.cell (wB w _ hx103_0)).trans hx103_0
        replace hx103_1:=(HB.out.cell (wB w _ hx103_1)).trans hx103_1
        replace hx103_2:=(HB.out.cell (wB w _ hx103_2)).trans hx103_2
        replace p103:=eq_true p103
        replace q103:=eq_true q103
        go_wp2
        go_roundg k3
        case measure=>have:=HJ1.out;have:=HK2.out;have:=HK3.out;omega
        case rel=>exact ⟨(wrap64 (x4_3 + 1)),(by first|rfl|(simp;done)|(simp [*];done)),H',⟨by have:=HJ1.out;have:=HK2.out;have:=HK3.out;omega⟩,⟨by (with_reducible repeat (first|refine bN ?_ _|refine bD ?_|refine bA ?_ _));exact BK101.out⟩,⟨by repeat (first|(with_reducible first|exact HB.out|apply bL|apply pN|apply bE|refine bS ?_ GE101.out)|exact HB.out)⟩⟩
       rw [if_neg c16] at H
       have c16b0 : decide (x4_3 < (l0_10.length : Int)) = false:=decide_eq_false c16
       clear c16
       have H':=Am H
       clear H
       have hcz21_0 : wr.cell? ⟨gb101,0,none⟩ = some (.int .i64 a0_0):=(bC BK101.out 0).trans rfl
       have hcz21_1 : wr.cell? ⟨gb101,1,none⟩ = some (.int .i64 a0_1):=(bC BK101.out 1).trans rfl
       have hcz21_2 : wr.cell? ⟨gb101,2,none⟩ = some (.int .i64 a0_2):=(bC BK101.out 2).trans rfl
       have hcz21_3 : wr.cell? ⟨gb101,3,none⟩ = some (.int .i64 a0_3):=(bC BK101.out 3).trans rfl
       have hcz21_4 : wr.cell? ⟨gb101,4,none⟩ = some (.int .i64 a0_4):=(bC BK101.out 4).trans rfl
       have hcz21_5 : wr.cell? ⟨gb101,5,none⟩ = some (.int .i64 a0_5):=(bC BK101.out 5).trans rfl
       have hcz21_6 : wr.cell? ⟨gb101,6,none⟩ = some (.int .i64 a0_6):=(bC BK101.out 6).trans rfl
       have hcz21_7 : wr.cell? ⟨gb101,7,none⟩ = some (.int .i64 a0_7):=(bC BK101.out 7).trans rfl
       have hcz21_8 : wr.cell? ⟨gb101,8,none⟩ = some (.int .i64 a0_8):=(bC BK101.out 8).trans rfl
       have hcz21_9 : wr.cell? ⟨gb101,9,none⟩ = some (.slice A0_9 l0_9.length c0_9):=(bC BK101.out 9).trans rfl
       have hcz21_10 : wr.cell? ⟨gb101,10,none⟩ = some (.slice A0_10 l0_10.length c0_10):=(bC BK101.out 10).trans rfl
       have hcz21_11 : wr.cell? ⟨gb101,11,none⟩ = some (.slice A0_11 l0_11.length c0_11):=(bC BK101.out 11).trans rfl
       have hfz21_0:=bF BK101.out 0
       have hfz21_1:=bF BK101.out 1
       have hfz21_2:=bF BK101.out 2
       have hfz21_3:=bF BK101.out 3
       have hfz21_4:=bF BK101.out 4
       have hfz21_5:=bF BK101.out 5
       have hfz21_6:=bF BK101.out 6
       have hfz21_7:=bF BK101.out 7
       have hfz21_8:=bF BK101.out 8
       have hfz21_9:=bF BK101.out 9
       have hfz21_10:=bF BK101.out 10
       have hfz21_11:=bF BK101.out 11
       go_wp2
       go_loopg [5] k3 (fun kq v5 w'=>∃ (x5_4 : Int),v5 = .int .i64 x5_4∧Aside0 (gangerlaw10_long.l2 kq x5_4 a0_0 a0_1 a0_2 a0_3 a0_4 a0_5 a0_6 a0_7 a0_8 l0_9 l0_10 l0_11 = some r)∧Aside0 (kq≤k3)∧Aside0 (w'.heap[gb101]? = some (.cells #[.int .i64 a0_0,.int .i64 a0_1,.int .i64 a0_2,.int .i64 a0_3,.int .i64 a0_4,.int .i64 a0_5,.int .i64 a0_6,.int .i64 a0_7,.int .i64 a0_8,(.slice A0_9 l0_9.length c0_9),(.slice A0_10 l0_10.length c0_10),(.slice A0_11 l0_11.length c0_11)] 28 (0,0)))∧Aside0 (Below w.heap.size w w'))
       case atStart=>exact ⟨(0),(by first|rfl|(simp;done)|(simp [*];done)),H',⟨Nat.le_refl _⟩,⟨by (with_reducible repeat (first|refine bN ?_ _|refine bD ?_|refine bA ?_ _));exact BK101.out⟩,⟨by repeat (first|(with_reducible first|exact HB.out|apply bL|apply pN|apply bE|refine bS ?_ GE101.out)|exact HB.out)⟩⟩
       case round =>
        clear H'
        obtain ⟨x5_4,rfl,HA,HK4,BK101,HB⟩:=hrel
        cases gk with
        | zero=>exact absurd HA.out (by simp [gangerlaw10_long.l2])
        | succ k4 =>
         have H:=HA.out
         clear HA
         simp only [gangerlaw10_long.l2] at H
         by_cases c22 : x5_4 < (l0_11.length : Int)
         rotate_left
         ·rw [if_neg c22] at H
          have c22b0 : decide (x5_4 < (l0_11.length : Int)) = false:=decide_eq_false c22
          clear c22
          obtain rfl:=Option.some.inj H
          have hcz29_0 : wr.cell? ⟨gb101,0,none⟩ = some (.int .i64 a0_0):=(bC BK101.out 0).trans rfl
          have hcz29_1 : wr.cell? ⟨gb101,1,none⟩ = some (.int .i64 a0_1):=(bC BK101.out 1).trans rfl
          have hcz29_2 : wr.cell? ⟨gb101,2,none⟩ = some (.int .i64 a0_2):=(bC BK101.out 2).trans rfl
          have hcz29_3 : wr.cell? ⟨gb101,3,none⟩ = some (.int .i64 a0_3):=(bC BK101.out 3).trans rfl
          have hcz29_4 : wr.cell? ⟨gb101,4,none⟩ = some (.int .i64 a0_4):=(bC BK101.out 4).trans rfl
          have hcz29_5 : wr.cell? ⟨gb101,5,none⟩ = some (.int .i64 a0_5):=(bC BK101.out 5).trans rfl
          have hcz29_6 : wr.cell? ⟨gb101,6,none⟩ = some (.int .i64 a0_6):=(bC BK101.out 6).trans rfl
          have hcz29_7 : wr.cell? ⟨gb101,7,none⟩ = some (.int .i64 a0_7):=(bC BK101.out 7).trans rfl
          have hcz29_8 : wr.cell? ⟨gb101,8,none⟩ = some (.int .i64 a0_8):=(bC BK101.out 8).trans rfl
          have hcz29_9 : wr.cell? ⟨gb101,9,none⟩ = some (.slice A0_9 l0_9.length c0_9):=(bC BK101.out 9).trans rfl
          have hcz29_10 : wr.cell? ⟨gb101,10,none⟩ = some (.slice A0_10 l0_10.length c0_10):=(bC BK101.out 10).trans rfl
          have hcz29_11 : wr.cell? ⟨gb101,11,none⟩ = some (.slice A0_11 l0_11.length c0_11):=(bC BK101.out 11).trans rfl
          have hfz29_0:=bF BK101.out 0
          have hfz29_1:=bF BK101.out 1
          have hfz29_2:=bF BK101.out 2
          have hfz29_3:=bF BK101.out 3
          have hfz29_4:=bF BK101.out 4
          have hfz29_5:=bF BK101.out 5
          have hfz29_6:=bF BK101.out 6
          have hfz29_7:=bF BK101.out 7
          have hfz29_8:=bF BK101.out 8
          have hfz29_9:=bF BK101.out 9
          have hfz29_10:=bF BK101.out 10
          have hfz29_11:=bF BK101.out 11
          go_wp2
          go_ret
          exact ⟨by first|rfl|(simp [errW_none,errW_some] <;> rfl)|(simp [*,errW_none,errW_some] <;> rfl),by repeat (first|(with_reducible first|exact HB.out|apply bL|apply pN|apply bE|refine bS ?_ GE101.out)|exact HB.out)⟩
         rw [if_pos c22] at H
         have c22b0 : decide (x5_4 < (l0_11.length : Int)) = true:=decide_eq_true c22
         clear c22
         by_cases c23 : 0≤x5_4
         rotate_left
         ·rw [if_neg c23] at H
          exact absurd H (by simp)
         rw [if_pos c23] at H
         have c23b0 : decide (0≤x5_4) = true:=decide_eq_true c23
         clear c23
         by_cases c24 : (((rd_T48 l0_11 x5_4).f0).size : Int) > 300
         ·rw [if_pos c24] at H
          have c24b0 : decide (300 < (((rd_T48 l0_11 x5_4).f0).size : Int)) = true:=decide_eq_true c24
          have c24b1 : decide (300 < ((rd_T48 l0_11 x5_4).f0).size) = true:=decide_eq_true (by omega)
          clear c24
          obtain rfl:=Option.some.inj H
          have hcz25_0 : wr.cell? ⟨gb101,0,none⟩ = some (.int .i64 a0_0):=(bC BK101.out 0).trans rfl
          have hcz25_1 : wr.cell? ⟨gb101,1,none⟩ = some (.int .i64 a0_1):=(bC BK101.out 1).trans rfl
          have hcz25_2 : wr.cell? ⟨gb101,2,none⟩ = some (.int .i64 a0_2):=(bC BK101.out 2).trans rfl
          have hcz25_3 : wr.cell? ⟨gb101,3,none⟩ = some (.int .i64 a0_3):=(bC BK101.out 3).trans rfl
          have hcz25_4 : wr.cell? ⟨gb101,4,none⟩ = some (.int .i64 a0_4):=(bC BK101.out 4).trans rfl
          have hcz25_5 : wr.cell? ⟨gb101,5,none⟩ = some (.int .i64 a0_5):=(bC BK101.out 5).trans rfl
          have hcz25_6 : wr.cell? ⟨gb101,6,none⟩ = some (.int .i64 a0_6):=(bC BK101.out 6).trans rfl
          have hcz25_7 : wr.cell? ⟨gb101,7,none⟩ = some (.int .i64 a0_7):=(bC BK101.out 7).trans rfl
          have hcz25_8 : wr.cell? ⟨gb101,8,none⟩ = some (.int .i64 a0_8):=(bC BK101.out 8).trans rfl
          have hcz25_9 : wr.cell? ⟨gb101,9,none⟩ = some (.slice A0_9 l0_9.length c0_9):=(bC BK101.out 9).trans rfl
          have hcz25_10 : wr.cell? ⟨gb101,10,none⟩ = some (.slice A0_10 l0_10.length c0_10):=(bC BK101.out 10).trans rfl
          have hcz25_11 : wr.cell? ⟨gb101,11,none⟩ = some (.slice A0_11 l0_11.length c0_11):=(bC BK101.out 11).trans rfl
          have hfz25_0:=bF BK101.out 0
          have hfz25_1:=bF BK101.out 1
          have hfz25_2:=bF BK101.out 2
          have hfz25_3:=bF BK101.out 3
          have hfz25_4:=bF BK101.out 4
          have hfz25_5:=bF BK101.out 5
          have hfz25_6:=bF BK101.out 6
          have hfz25_7:=bF BK101.out 7
          have hfz25_8:=bF BK101.out 8
          have hfz25_9:=bF BK101.out 9
          have hfz25_10:=bF BK101.out 10
          have hfz25_11:=bF BK101.out 11
          have p104 : 0≤(x5_4 : Int):=of_decide_eq_true (by first|(with_reducible assumption)|assumption)
          have q104 : x5_4 < (l0_11.length : Int):=of_decide_eq_true (by first|(with_reducible assumption)|assumption)
          obtain ⟨ad104,e104,hx104_0,hx104_1,hx104_2⟩:=at_T48 HR0_11.out x5_4 p104 q104
          cases e104
          replace hx104_0:=(HB.out.cell (wB w _ hx104_0)).trans hx104_0
          replace hx104_1:=(HB.out.cell (wB w _ hx104_1)).trans hx104_1
          replace hx104_2:=(HB.out.cell (wB w _ hx104_2)).trans hx104_2
          replace p104:=eq_true p104
          replace q104:=eq_true q104
          go_wp2
          go_ret
          exact ⟨by first|rfl|(simp [errW_none,errW_some] <;> rfl)|(simp [*,errW_none,errW_some] <;> rfl),by repeat (first|(with_reducible first|exact HB.out|apply bL|apply pN|apply bE|refine bS ?_ GE101.out)|exact HB.out)⟩
         rw [if_neg c24] at H
         have c24b0 : decide (300 < (((rd_T48 l0_11 x5_4).f0).size : Int)) = false:=decide_eq_false c24
         have c24b1 : decide (300 < ((rd_T48 l0_11 x5_4).f0).size) = false:=decide_eq_false (by omega)
         clear c24
         by_cases c26 : (((rd_T48 l0_11 x5_4).f1).size : Int) > 300
         ·rw [if_pos c26] at H
          have c26b0 : decide (300 < (((rd_T48 l0_11 x5_4).f1).size : Int)) = true:=decide_eq_true c26
          have c26b1 : decide (300 < ((rd_T48 l0_11 x5_4).f1).size) = true:=decide_eq_true (by omega)
          clear c26
          obtain rfl:=Option.some.inj H
          have hcz27_0 : wr.cell? ⟨gb101,0,none⟩ = some (.int .i64 a0_0):=(bC BK101.out 0).trans rfl
          have hcz27_1 : wr.cell? ⟨gb101,1,none⟩ = some (.int .i64 a0_1):=(bC BK101.out 1).trans rfl
          have hcz27_2 : wr.cell? ⟨gb101,2,none⟩ = some (.int .i64 a0_2):=(bC BK101.out 2).trans rfl
          have hcz27_3 : wr.cell? ⟨gb101,3,none⟩ = some (.int .i64 a0_3):=(bC BK101.out 3).trans rfl
          have hcz27_4 : wr.cell? ⟨gb101,4,none⟩ = some (.int .i64 a0_4):=(bC BK101.out 4).trans rfl
          have hcz27_5 : wr.cell? ⟨gb101,5,none⟩ = some (.int .i64 a0_5):=(bC BK101.out 5).trans rfl
          have hcz27_6 : wr.cell? ⟨gb101,6,none⟩ = some (.int .i64 a0_6):=(bC BK101.out 6).trans rfl
          have hcz27_7 : wr.cell? ⟨gb101,7,none⟩ = some (.int .i64 a0_7):=(bC BK101.out 7).trans rfl
          have hcz27_8 : wr.cell? ⟨gb101,8,none⟩ = some (.int .i64 a0_8):=(bC BK101.out 8).trans rfl
          have hcz27_9 : wr.cell? ⟨gb101,9,none⟩ = some (.slice A0_9 l0_9.length c0_9):=(bC BK101.out 9).trans rfl
          have hcz27_10 : wr.cell? ⟨gb101,10,none⟩ = some (.slice A0_10 l0_10.length c0_10):=(bC BK101.out 10).trans rfl
          have hcz27_11 : wr.cell? ⟨gb101,11,none⟩ = some (.slice A0_11 l0_11.length c0_11):=(bC BK101.out 11).trans rfl
          have hfz27_0:=bF BK101.out 0
          have hfz27_1:=bF BK101.out 1
          have hfz27_2:=bF BK101.out 2
          have hfz27_3:=bF BK101.out 3
          have hfz27_4:=bF BK101.out 4
          have hfz27_5:=bF BK101.out 5
          have hfz27_6:=bF BK101.out 6
          have hfz27_7:=bF BK101.out 7
          have hfz27_8:=bF BK101.out 8
          have hfz27_9:=bF BK101.out 9
          have hfz27_10:=bF BK101.out 10
          have hfz27_11:=bF BK101.out 11
          have p104 : 0≤(x5_4 : Int):=of_decide_eq_true (by first|(with_reducible assumption)|assumption)
          have q104 : x5_4 < (l0_11.length : Int):=of_decide_eq_true (by first|(with_reducible assumption)|assumption)
          obtain ⟨ad104,e104,hx104_0,hx104_1,hx104_2⟩:=at_T48 HR0_11.out x5_4 p104 q104
          cases e104
          replace hx104_0:=(HB.out.cell (wB w _ hx104_0)).trans hx104_0
          replace hx104_1:=(HB.out.cell (wB w _ hx104_1)).trans hx104_1
          replace hx104_2:=(HB.out.cell (wB w _ hx104_2)).trans hx104_2
          replace p104:=eq_true p104
          replace q104:=eq_true q104
          have p105 : 0≤(x5_4 : Int):=of_decide_eq_true (by first|(with_reducible assumption)|assumption)
          have q105 : x5_4 < (l0_11.length : Int):=of_decide_eq_true (by first|(with_reducible assumption)|assumption)
          obtain ⟨ad105,e105,hx105_0,hx105_1,hx105_2⟩:=at_T48 HR0_11.out x5_4 p105 q105
          obtain rfl : ad104 = ad105:=(by injection e105)
          replace hx105_0:=(HB.out.cell (wB w _ hx105_0)).trans hx105_0
          replace hx105_1:=(HB.out.cell (wB w _ hx105_1)).trans hx105_1
          replace hx105_2:=(HB.out.cell (wB w _ hx105_2)).trans hx105_2
          replace p105:=eq_true p105
          replace q105:=eq_true q105
          go_wp2
          go_ret
          exact ⟨by first|rfl|(simp [errW_none,errW_some] <;> rfl)|(simp [*,errW_none,errW_some] <;> rfl),by repeat (first|(with_reducible first|exact HB.out|apply bL|apply pN|apply bE|refine bS ?_ GE101.out)|exact HB.out)⟩
         rw [if_neg c26] at H
         have c26b0 : decide (300 < (((rd_T48 l0_11 x5_4).f1).size : Int)) = false:=decide_eq_false c26
         have c26b1 : decide (300 < ((rd_T48 l0_11 x5_4).f1).size) = false:=decide_eq_false (by omega)
         clear c26
         have H':=Am H
         clear H
         have hcz28_0 : wr.cell? ⟨gb101,0,none⟩ = some (.int .i64 a0_0):=(bC BK101.out 0).trans rfl
         have hcz28_1 : wr.cell? ⟨gb101,1,none⟩ = some (.int .i64 a0_1):=(bC BK101.out 1).trans rfl
         have hcz28_2 : wr.cell? ⟨gb101,2,none⟩ = some (.int .i64 a0_2):=(bC BK101.out 2).trans rfl
         have hcz28_3 : wr.cell? ⟨gb101,3,none⟩ = some (.int .i64 a0_3):=(bC BK101.out 3).trans rfl
         have hcz28_4 : wr.cell? ⟨gb101,4,none⟩ = some (.int .i64 a0_4):=(bC BK101.out 4).trans rfl
         have hcz28_5 : wr.cell? ⟨gb101,5,none⟩ = some (.int .i64 a0_5):=(bC BK101.out 5).trans rfl
         have hcz28_6 : wr.cell? ⟨gb101,6,none⟩ = some (.int .i64 a0_6):=(bC BK101.out 6).trans rfl
         have hcz28_7 : wr.cell? ⟨gb101,7,none⟩ = some (.int .i64 a0_7):=(bC BK101.out 7).trans rfl
         have hcz28_8 : wr.cell? ⟨gb101,8,none⟩ = some (.int .i64 a0_8):=(bC BK101.out 8).trans rfl
         have hcz28_9 : wr.cell? ⟨gb101,9,none⟩ = some (.slice A0_9 l0_9.length c0_9):=(bC BK101.out 9).trans rfl
         have hcz28_10 : wr.cell? ⟨gb101,10,none⟩ = some (.slice A0_10 l0_10.length c0_10):=(bC BK101.out 10).trans rfl
         have hcz28_11 : wr.cell? ⟨gb101,11,none⟩ = some (.slice A0_11 l0_11.length c0_11):=(bC BK101.out 11).trans rfl
         have hfz28_0:=bF BK101.out 0
         have hfz28_1:=bF BK101.out 1
         have hfz28_2:=bF BK101.out 2
         have hfz28_3:=bF BK101.out 3
         have hfz28_4:=bF BK101.out 4
         have hfz28_5:=bF BK101.out 5
         have hfz28_6:=bF BK101.out 6
         have hfz28_7:=bF BK101.out 7
         have hfz28_8:=bF BK101.out 8
         have hfz28_9:=bF BK101.out 9
         have hfz28_10:=bF BK101.out 10
         have hfz28_11:=bF BK101.out 11
         have p104 : 0≤(x5_4 : Int):=of_decide_eq_true (by first|(with_reducible assumption)|assumption)
         have q104 : x5_4 < (l0_11.length : Int):=of_decide_eq_true (by first|(with_reducible assumption)|assumption)
         obtain ⟨ad104,e104,hx104_0,hx104_1,hx104_2⟩:=at_T48 HR0_11.out x5_4 p104 q104
         cases e104
         replace hx104_0:=(HB.out.cell (wB w _ hx104_0)).trans hx104_0
         replace hx104_1:=(HB.out.cell (wB w _ hx104_1)).trans hx104_1
         replace hx104_2:=(HB.out.cell (wB w _ hx104_2)).trans hx104_2
         replace p104:=eq_true p104
         replace q104:=eq_true q104
         have p105 : 0≤(x5_4 : Int):=of_decide_eq_true (by first|(with_reducible assumption)|assumption)
         have q105 : x5_4 < (l0_11.length : Int):=of_decide_eq_true (by first|(with_reducible assumption)|assumption)
         obtain ⟨ad105,e105,hx105_0,hx105_1,hx105_2⟩:=at_T48 HR0_11.out x5_4 p105 q105
         obtain rfl : ad104 = ad105:=(by injection e105)
         replace hx105_0:=(HB.out.cell (wB w _ hx105_0)).trans hx105_0
         replace hx105_1:=(HB.out.cell (wB w _ hx105_1)).trans hx105_1
         replace hx105_2:=(HB.out.cell (wB w _ hx105_2)).trans hx105_2
         replace p105:=eq_true p105
         replace q105:=eq_true q105
         go_wp2
         go_roundg k4
         case measure=>have:=HJ1.out;have:=HK2.out;have:=HK3.out;have:=HK4.out;omega
         case rel=>exact ⟨(wrap64 (x5_4 + 1)),(by first|rfl|(simp;done)|(simp [*];done)),H',⟨by have:=HJ1.out;have:=HK2.out;have:=HK3.out;have:=HK4.out;omega⟩,⟨by (with_reducible repeat (first|refine bN ?_ _|refine bD ?_|refine bA ?_ _));exact BK101.out⟩,⟨by repeat (first|(with_reducible first|exact HB.out|apply bL|apply pN|apply bE|refine bS ?_ GE101.out)|exact HB.out)⟩⟩
end Go.Proofs.YtgidipomfbikiaaDoor.P
