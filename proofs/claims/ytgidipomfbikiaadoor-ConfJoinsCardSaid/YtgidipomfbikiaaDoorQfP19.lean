/- cut to what one law reaches -/
import Derived.Test.YtgidipomfbikiaaDoorQfShort
import Derived.Test.YtgidipomfbikiaaDoorQfP0
import Derived.Test.YtgidipomfbikiaaDoorQfP1
import Derived.Test.YtgidipomfbikiaaDoorQfP2
import Derived.Test.YtgidipomfbikiaaDoorQfP3
import Derived.Test.YtgidipomfbikiaaDoorQfP4
namespace Go.Proofs.YtgidipomfbikiaaDoor.P
open Go.RowKit Go.Proofs.YtgidipomfbikiaaDoorW.PrintWords Go.Proofs.YtgidipomfbikiaaDoorW.PrintLast Go.Proofs.YtgidipomfbikiaaDoorW.PrintMore
attribute [local go_sem] max2_int min2_int max_two min_two max_three min_three max_four min_four   -- for this text's walks alone
set_option linter.unusedVariables false
set_option linter.unusedSimpArgs false
attribute [local go_sem high] eqA23 eqA48 eqA50 eqA52
attribute [local go_sem] isSome_setCell
mutual
def gangerref10_Same.j0 : Nat→Bool→Int→Int→Int→Int→Int→Int→Int→Int→Int→List (S50)→List (S52)→List (S48)→Int→Int→Int→Int→Int→Int→Int→Int→Int→List (S50)→List (S52)→List (S48)→Option (Bool)
 | 0,_,_,_,_,_,_,_,_,_,_,_,_,_,_,_,_,_,_,_,_,_,_,_,_,_=>none
 | k + 1,x67,u_0,u_1,u_2,u_3,u_4,u_5,u_6,u_7,u_8,u_9,u_10,u_11,v_0,v_1,v_2,v_3,v_4,v_5,v_6,v_7,v_8,v_9,v_10,v_11=>if x67 = true then (some false) else (gangerref10_Same.l0 k 0 u_0 u_1 u_2 u_3 u_4 u_5 u_6 u_7 u_8 u_9 u_10 u_11 v_0 v_1 v_2 v_3 v_4 v_5 v_6 v_7 v_8 v_9 v_10 v_11)
def gangerref10_Same.l0 : Nat→Int→Int→Int→Int→Int→Int→Int→Int→Int→Int→List (S50)→List (S52)→List (S48)→Int→Int→Int→Int→Int→Int→Int→Int→Int→List (S50)→List (S52)→List (S48)→Option (Bool)
 | 0,_,_,_,_,_,_,_,_,_,_,_,_,_,_,_,_,_,_,_,_,_,_,_,_,_=>none
 | k + 1,x5,u_0,u_1,u_2,u_3,u_4,u_5,u_6,u_7,u_8,u_9,u_10,u_11,v_0,v_1,v_2,v_3,v_4,v_5,v_6,v_7,v_8,v_9,v_10,v_11=>if x5 < (u_9.length : Int) then (if 0≤x5 then (if x5 < (v_9.length : Int) then (if (!((((rd_T50 u_9 x5).f0).toList) == (((rd_T50 v_9 x5).f0).toList)) || (!(((rd_T50 u_9 x5).f1) == ((rd_T50 v_9 x5).f1)) || (!(((rd_T50 u_9 x5).f2) == ((rd_T50 v_9 x5).f2)) || (!(((rd_T50 u_9 x5).f3) == ((rd_T50 v_9 x5).f3)))))) = true then (some false) else (gangerref10_Same.l0 k (wrap64 (x5 + 1)) u_0 u_1 u_2 u_3 u_4 u_5 u_6 u_7 u_8 u_9 u_10 u_11 v_0 v_1 v_2 v_3 v_4 v_5 v_6 v_7 v_8 v_9 v_10 v_11)) else (none)) else (none)) else (gangerref10_Same.l1 k 0 u_0 u_1 u_2 u_3 u_4 u_5 u_6 u_7 u_8 u_9 u_10 u_11 v_0 v_1 v_2 v_3 v_4 v_5 v_6 v_7 v_8 v_9 v_10 v_11)
def gangerref10_Same.l1 : Nat→Int→Int→Int→Int→Int→Int→Int→Int→Int→Int→List (S50)→List (S52)→List (S48)→Int→Int→Int→Int→Int→Int→Int→Int→Int→List (S50)→List (S52)→List (S48)→Option (Bool)
 | 0,_,_,_,_,_,_,_,_,_,_,_,_,_,_,_,_,_,_,_,_,_,_,_,_,_=>none
 | k + 1,x6,u_0,u_1,u_2,u_3,u_4,u_5,u_6,u_7,u_8,u_9,u_10,u_11,v_0,v_1,v_2,v_3,v_4,v_5,v_6,v_7,v_8,v_9,v_10,v_11=>if x6 < (u_10.length : Int) then (if 0≤x6 then (if x6 < (v_10.length : Int) then (if (!((((rd_T52 u_10 x6).f0).toList) == (((rd_T52 v_10 x6).f0).toList)) || (!(((rd_T52 u_10 x6).f1) == ((rd_T52 v_10 x6).f1)) || (!(((rd_T52 u_10 x6).f2) == ((rd_T52 v_10 x6).f2))))) = true then (some false) else (gangerref10_Same.l1 k (wrap64 (x6 + 1)) u_0 u_1 u_2 u_3 u_4 u_5 u_6 u_7 u_8 u_9 u_10 u_11 v_0 v_1 v_2 v_3 v_4 v_5 v_6 v_7 v_8 v_9 v_10 v_11)) else (none)) else (none)) else (gangerref10_Same.l2 k 0 u_0 u_1 u_2 u_3 u_4 u_5 u_6 u_7 u_8 u_9 u_10 u_11 v_0 v_1 v_2 v_3 v_4 v_5 v_6 v_7 v_8 v_9 v_10 v_11)
def gangerref10_Same.l2 : Nat→Int→Int→Int→Int→Int→Int→Int→Int→Int→Int→List (S50)→List (S52)→List (S48)→Int→Int→Int→Int→Int→Int→Int→Int→Int→List (S50)→List (S52)→List (S48)→Option (Bool)
 | 0,_,_,_,_,_,_,_,_,_,_,_,_,_,_,_,_,_,_,_,_,_,_,_,_,_=>none
 | k + 1,x7,u_0,u_1,u_2,u_3,u_4,u_5,u_6,u_7,u_8,u_9,u_10,u_11,v_0,v_1,v_2,v_3,v_4,v_5,v_6,v_7,v_8,v_9,v_10,v_11=>if x7 < (u_11.length : Int) then (if 0≤x7 then (if x7 < (v_11.length : Int) then (if (!((((rd_T48 u_11 x7).f0).toList) == (((rd_T48 v_11 x7).f0).toList)) || (!((((rd_T48 u_11 x7).f1).toList) == (((rd_T48 v_11 x7).f1).toList)) || (!(((rd_T48 u_11 x7).f2) == ((rd_T48 v_11 x7).f2))))) = true then (some false) else (gangerref10_Same.l2 k (wrap64 (x7 + 1)) u_0 u_1 u_2 u_3 u_4 u_5 u_6 u_7 u_8 u_9 u_10 u_11 v_0 v_1 v_2 v_3 v_4 v_5 v_6 v_7 v_8 v_9 v_10 v_11)) else (none)) else (none)) else (some true)
end
def gangerref10_Same.f (k : Nat) (a0_0 : Int) (a0_1 : Int) (a0_2 : Int) (a0_3 : Int) (a0_4 : Int) (a0_5 : Int) (a0_6 : Int) (a0_7 : Int) (a0_8 : Int) (l0_9 : List (S50)) (l0_10 : List (S52)) (l0_11 : List (S48)) (a1_0 : Int) (a1_1 : Int) (a1_2 : Int) (a1_3 : Int) (a1_4 : Int) (a1_5 : Int) (a1_6 : Int) (a1_7 : Int) (a1_8 : Int) (l1_9 : List (S50)) (l1_10 : List (S52)) (l1_11 : List (S48)) : Option (Bool):=if a0_0 = a1_0 then (if a0_1 = a1_1 then (if a0_2 = a1_2 then (if a0_3 = a1_3 then (if (!(a0_4 == a1_4) || (!(a0_5 == a1_5) || (!(a0_6 == a1_6) || (!(a0_7 == a1_7) || (!(a0_8 == a1_8)))))) = true then (gangerref10_Same.j0 k true a0_0 a0_1 a0_2 a0_3 a0_4 a0_5 a0_6 a0_7 a0_8 l0_9 l0_10 l0_11 a1_0 a1_1 a1_2 a1_3 a1_4 a1_5 a1_6 a1_7 a1_8 l1_9 l1_10 l1_11) else (if (l0_9.length : Int) = (l1_9.length : Int) then (if (l0_10.length : Int) = (l1_10.length : Int) then (gangerref10_Same.j0 k ((l0_11.length : Int) != (l1_11.length : Int)) a0_0 a0_1 a0_2 a0_3 a0_4 a0_5 a0_6 a0_7 a0_8 l0_9 l0_10 l0_11 a1_0 a1_1 a1_2 a1_3 a1_4 a1_5 a1_6 a1_7 a1_8 l1_9 l1_10 l1_11) else (gangerref10_Same.j0 k true a0_0 a0_1 a0_2 a0_3 a0_4 a0_5 a0_6 a0_7 a0_8 l0_9 l0_10 l0_11 a1_0 a1_1 a1_2 a1_3 a1_4 a1_5 a1_6 a1_7 a1_8 l1_9 l1_10 l1_11)) else (gangerref10_Same.j0 k true a0_0 a0_1 a0_2 a0_3 a0_4 a0_5 a0_6 a0_7 a0_8 l0_9 l0_10 l0_11 a1_0 a1_1 a1_2 a1_3 a1_4 a1_5 a1_6 a1_7 a1_8 l1_9 l1_10 l1_11))) else (gangerref10_Same.j0 k true a0_0 a0_1 a0_2 a0_3 a0_4 a0_5 a0_6 a0_7 a0_8 l0_9 l0_10 l0_11 a1_0 a1_1 a1_2 a1_3 a1_4 a1_5 a1_6 a1_7 a1_8 l1_9 l1_10 l1_11)) else (gangerref10_Same.j0 k true a0_0 a0_1 a0_2 a0_3 a0_4 a0_5 a0_6 a0_7 a0_8 l0_9 l0_10 l0_11 a1_0 a1_1 a1_2 a1_3 a1_4 a1_5 a1_6 a1_7 a1_8 l1_9 l1_10 l1_11)) else (gangerref10_Same.j0 k true a0_0 a0_1 a0_2 a0_3 a0_4 a0_5 a0_6 a0_7 a0_8 l0_9 l0_10 l0_11 a1_0 a1_1 a1_2 a1_3 a1_4 a1_5 a1_6 a1_7 a1_8 l1_9 l1_10 l1_11)) else (gangerref10_Same.j0 k true a0_0 a0_1 a0_2 a0_3 a0_4 a0_5 a0_6 a0_7 a0_8 l0_9 l0_10 l0_11 a1_0 a1_1 a1_2 a1_3 a1_4 a1_5 a1_6 a1_7 a1_8 l1_9 l1_10 l1_11)
set_option maxHeartbeats 8000000 in
set_option maxRecDepth 100000 in
theorem gangerref10_Same.calls (k : Nat) (a0_0 : Int) (a0_1 : Int) (a0_2 : Int) (a0_3 : Int) (a0_4 : Int) (a0_5 : Int) (a0_6 : Int) (a0_7 : Int) (a0_8 : Int) (A0_9 : Option Addr) (c0_9 : Nat) (l0_9 : List (S50)) (A0_10 : Option Addr) (c0_10 : Nat) (l0_10 : List (S52)) (A0_11 : Option Addr) (c0_11 : Nat) (l0_11 : List (S48)) (a1_0 : Int) (a1_1 : Int) (a1_2 : Int) (a1_3 : Int) (a1_4 : Int) (a1_5 : Int) (a1_6 : Int) (a1_7 : Int) (a1_8 : Int) (A1_9 : Option Addr) (c1_9 : Nat) (l1_9 : List (S50)) (A1_10 : Option Addr) (c1_10 : Nat) (l1_10 : List (S52)) (A1_11 : Option Addr) (c1_11 : Nat) (l1_11 : List (S48)) (r : Bool) (w : World) (hr0_9 : Kd.C k50 w A0_9 l0_9.length l0_9) (hc0_9 : l0_9.length≤c0_9) (hr0_10 : Kd.C k52 w A0_10 l0_10.length l0_10) (hc0_10 : l0_10.length≤c0_10) (hr0_11 : Kd.C k48 w A0_11 l0_11.length l0_11) (hc0_11 : l0_11.length≤c0_11) (hr1_9 : Kd.C k50 w A1_9 l1_9.length l1_9) (hc1_9 : l1_9.length≤c1_9) (hr1_10 : Kd.C k52 w A1_10 l1_10.length l1_10) (hc1_10 : l1_10.length≤c1_10) (hr1_11 : Kd.C k48 w A1_11 l1_11.length l1_11) (hc1_11 : l1_11.length≤c1_11) (h : gangerref10_Same.f k a0_0 a0_1 a0_2 a0_3 a0_4 a0_5 a0_6 a0_7 a0_8 l0_9 l0_10 l0_11 a1_0 a1_1 a1_2 a1_3 a1_4 a1_5 a1_6 a1_7 a1_8 l1_9 l1_10 l1_11 = some r) :
  Calls Tryd.prog 16 #[.agg #[.int .i64 a0_0,.int .i64 a0_1,.int .i64 a0_2,.int .i64 a0_3,.int .i64 a0_4,.int .i64 a0_5,.int .i64 a0_6,.int .i64 a0_7,.int .i64 a0_8,.slice A0_9 l0_9.length c0_9,.slice A0_10 l0_10.length c0_10,.slice A0_11 l0_11.length c0_11],.agg #[.int .i64 a1_0,.int .i64 a1_1,.int .i64 a1_2,.int .i64 a1_3,.int .i64 a1_4,.int .i64 a1_5,.int .i64 a1_6,.int .i64 a1_7,.int .i64 a1_8,.slice A1_9 l1_9.length c1_9,.slice A1_10 l1_10.length c1_10,.slice A1_11 l1_11.length c1_11]] w fun e w'=>e = .returned (.bool r)∧Below w.heap.size w w':=by
 have hu28:=Tryd.underlying28
 have hu23:=Tryd.underlying23
 have hu50:=Tryd.underlying50
 have hu52:=Tryd.underlying52
 have hu48:=Tryd.underlying48
 have HR0_9:=Am hr0_9
 have HC0_9:=Am hc0_9
 clear hr0_9 hc0_9
 have HR0_10:=Am hr0_10
 have HC0_10:=Am hc0_10
 clear hr0_10 hc0_10
 have HR0_11:=Am hr0_11
 have HC0_11:=Am hc0_11
 clear hr0_11 hc0_11
 have HR1_9:=Am hr1_9
 have HC1_9:=Am hc1_9
 clear hr1_9 hc1_9
 have HR1_10:=Am hr1_10
 have HC1_10:=Am hc1_10
 clear hr1_10 hc1_10
 have HR1_11:=Am hr1_11
 have HC1_11:=Am hc1_11
 clear hr1_11 hc1_11
 have HB:=Am (Below.refl w.heap.size w)
 have H : (if a0_0 = a1_0 then (if a0_1 = a1_1 then (if a0_2 = a1_2 then (if a0_3 = a1_3 then (if (!(a0_4 == a1_4) || (!(a0_5 == a1_5) || (!(a0_6 == a1_6) || (!(a0_7 == a1_7) || (!(a0_8 == a1_8)))))) = true then (gangerref10_Same.j0 k true a0_0 a0_1 a0_2 a0_3 a0_4 a0_5 a0_6 a0_7 a0_8 l0_9 l0_10 l0_11 a1_0 a1_1 a1_2 a1_3 a1_4 a1_5 a1_6 a1_7 a1_8 l1_9 l1_10 l1_11) else (if (l0_9.length : Int) = (l1_9.length : Int) then (if (l0_10.length : Int) = (l1_10.length : Int) then (gangerref10_Same.j0 k ((l0_11.length : Int) != (l1_11.length : Int)) a0_0 a0_1 a0_2 a0_3 a0_4 a0_5 a0_6 a0_7 a0_8 l0_9 l0_10 l0_11 a1_0 a1_1 a1_2 a1_3 a1_4 a1_5 a1_6 a1_7 a1_8 l1_9 l1_10 l1_11) else (gangerref10_Same.j0 k true a0_0 a0_1 a0_2 a0_3 a0_4 a0_5 a0_6 a0_7 a0_8 l0_9 l0_10 l0_11 a1_0 a1_1 a1_2 a1_3 a1_4 a1_5 a1_6 a1_7 a1_8 l1_9 l1_10 l1_11)) else (gangerref10_Same.j0 k true a0_0 a0_1 a0_2 a0_3 a0_4 a0_5 a0_6 a0_7 a0_8 l0_9 l0_10 l0_11 a1_0 a1_1 a1_2 a1_3 a1_4 a1_5 a1_6 a1_7 a1_8 l1_9 l1_10 l1_11))) else (gangerref10_Same.j0 k true a0_0 a0_1 a0_2 a0_3 a0_4 a0_5 a0_6 a0_7 a0_8 l0_9 l0_10 l0_11 a1_0 a1_1 a1_2 a1_3 a1_4 a1_5 a1_6 a1_7 a1_8 l1_9 l1_10 l1_11)) else (gangerref10_Same.j0 k true a0_0 a0_1 a0_2 a0_3 a0_4 a0_5 a0_6 a0_7 a0_8 l0_9 l0_10 l0_11 a1_0 a1_1 a1_2 a1_3 a1_4 a1_5 a1_6 a1_7 a1_8 l1_9 l1_10 l1_11)) else (gangerref10_Same.j0 k true a0_0 a0_1 a0_2 a0_3 a0_4 a0_5 a0_6 a0_7 a0_8 l0_9 l0_10 l0_11 a1_0 a1_1 a1_2 a1_3 a1_4 a1_5 a1_6 a1_7 a1_8 l1_9 l1_10 l1_11)) else (gangerref10_Same.j0 k true a0_0 a0_1 a0_2 a0_3 a0_4 a0_5 a0_6 a0_7 a0_8 l0_9 l0_10 l0_11 a1_0 a1_1 a1_2 a1_3 a1_4 a1_5 a1_6 a1_7 a1_8 l1_9 l1_10 l1_11)) = some r:=h
 clear h
 have HC3:=Am H
 clear H
 go_enter Tryd.func16,Tryd.ntmps16
 go_upto_region 1 with (first|((with_reducible refine gD (N:=2) rfl ?_);(try (refine gate_guard (by rfl) ?_;dsimp only));refine box_event ?hg (N:=2) ?hd (cs:=#[.int .i64 a0_0,.int .i64 a0_1,.int .i64 a0_2,.int .i64 a0_3,.int .i64 a0_4,.int .i64 a0_5,.int .i64 a0_6,.int .i64 a0_7,.int .i64 a0_8,.slice A0_9 l0_9.length c0_9,.slice A0_10 l0_10.length c0_10,.slice A0_11 l0_11.length c0_11]) (t:=28) ?hr ?_;(case hd=>rfl);(case hg=>rfl);(case hr=>first|(go_simp;done)|(go_simp;rfl));intro gb366 hg w4 hbox hb;have n0_:=Am (below_step (by repeat (first|(with_reducible first|exact HB.out|apply bL|apply pN|apply bE)|exact HB.out)) hb);have n1_:=Am (hbox);have n2_:=Am ((by rw [hg];exact (bZ (by repeat (first|(with_reducible first|exact HB.out|apply bL|apply pN|apply bE)|exact HB.out))) : w.heap.size≤gb366));have n3_:=n2_;clear HB;have HB:=n0_;have BK366:=n1_;have GW366:=n2_;have GE366:=n3_;clear n0_ n1_ n2_ n3_;clear hb hbox hg)|((with_reducible refine gD (N:=3) rfl ?_);(try (refine gate_guard (by rfl) ?_;dsimp only));refine box_event ?hg (N:=3) ?hd (cs:=#[.int .i64 a1_0,.int .i64 a1_1,.int .i64 a1_2,.int .i64 a1_3,.int .i64 a1_4,.int .i64 a1_5,.int .i64 a1_6,.int .i64 a1_7,.int .i64 a1_8,.slice A1_9 l1_9.length c1_9,.slice A1_10 l1_10.length c1_10,.slice A1_11 l1_11.length c1_11]) (t:=28) ?hr ?_;(case hd=>rfl);(case hg=>rfl);(case hr=>first|(go_simp;done)|(go_simp;rfl));intro gb367 hg w5 hbox hb;have n0_:=Am (blk_below (g:=gb366) (by (with_reducible repeat (first|refine bN ?_ _|refine bD ?_|refine bA ?_ _));exact BK366.out) hb);have n1_:=Am (below_step (by repeat (first|(with_reducible first|exact HB.out|apply bL|apply pN|apply bE|refine bS ?_ GE366.out)|exact HB.out)) hb);have n2_:=Am (hbox);have n3_:=Am ((by rw [hg];exact (bZ (by repeat (first|(with_reducible first|exact HB.out|apply bL|apply pN|apply bE|refine bS ?_ GE366.out)|exact HB.out))) : w.heap.size≤gb367));have n4_:=n3_;have n5_:=Am ((by rw [hg];exact Nat.ne_of_lt (blk_lt (g:=gb366) (by (with_reducible repeat (first|refine bN ?_ _|refine bD ?_|refine bA ?_ _));exact BK366.out)) : gb366 ≠ gb367));have n6_:=Am ((by rw [hg];exact Nat.ne_of_gt (blk_lt (g:=gb366) (by (with_reducible repeat (first|refine bN ?_ _|refine bD ?_|refine bA ?_ _));exact BK366.out)) : gb367 ≠ gb366));clear BK366;clear HB;have BK366:=n0_;have HB:=n1_;have BK367:=n2_;have GW367:=n3_;have GE367:=n4_;have NB366_367:=n5_;have NB367_366:=n6_;clear n0_ n1_ n2_ n3_ n4_ n5_ n6_;clear hb hbox hg))
 repeat (go_quiet (first|((with_reducible refine gD (N:=2) rfl ?_);(try (refine gate_guard (by rfl) ?_;dsimp only));refine box_event ?hg (N:=2) ?hd (cs:=#[.int .i64 a0_0,.int .i64 a0_1,.int .i64 a0_2,.int .i64 a0_3,.int .i64 a0_4,.int .i64 a0_5,.int .i64 a0_6,.int .i64 a0_7,.int .i64 a0_8,.slice A0_9 l0_9.length c0_9,.slice A0_10 l0_10.length c0_10,.slice A0_11 l0_11.length c0_11]) (t:=28) ?hr ?_;(case hd=>rfl);(case hg=>rfl);(case hr=>first|(go_simp;done)|(go_simp;rfl));intro gb366 hg w4 hbox hb;have n0_:=Am (below_step (by repeat (first|(with_reducible first|exact HB.out|apply bL|apply pN|apply bE)|exact HB.out)) hb);have n1_:=Am (hbox);have n2_:=Am ((by rw [hg];exact (bZ (by repeat (first|(with_reducible first|exact HB.out|apply bL|apply pN|apply bE)|exact HB.out))) : w.heap.size≤gb366));have n3_:=n2_;clear HB;have HB:=n0_;have BK366:=n1_;have GW366:=n2_;have GE366:=n3_;clear n0_ n1_ n2_ n3_;clear hb hbox hg)|((with_reducible refine gD (N:=3) rfl ?_);(try (refine gate_guard (by rfl) ?_;dsimp only));refine box_event ?hg (N:=3) ?hd (cs:=#[.int .i64 a1_0,.int .i64 a1_1,.int .i64 a1_2,.int .i64 a1_3,.int .i64 a1_4,.int .i64 a1_5,.int .i64 a1_6,.int .i64 a1_7,.int .i64 a1_8,.slice A1_9 l1_9.length c1_9,.slice A1_10 l1_10.length c1_10,.slice A1_11 l1_11.length c1_11]) (t:=28) ?hr ?_;(case hd=>rfl);(case hg=>rfl);(case hr=>first|(go_simp;done)|(go_simp;rfl));intro gb367 hg w5 hbox hb;have n0_:=Am (blk_below (g:=gb366) (by (with_reducible repeat (first|refine bN ?_ _|refine bD ?_|refine bA ?_ _));exact BK366.out) hb);have n1_:=Am (below_step (by repeat (first|(with_reducible first|exact HB.out|apply bL|apply pN|apply bE|refine bS ?_ GE366.out)|exact HB.out)) hb);have n2_:=Am (hbox);have n3_:=Am ((by rw [hg];exact (bZ (by repeat (first|(with_reducible first|exact HB.out|apply bL|apply pN|apply bE|refine bS ?_ GE366.out)|exact HB.out))) : w.heap.size≤gb367));have n4_:=n3_;have n5_:=Am ((by rw [hg];exact Nat.ne_of_lt (blk_lt (g:=gb366) (by (with_reducible repeat (first|refine bN ?_ _|refine bD ?_|refine bA ?_ _));exact BK366.out)) : gb366 ≠ gb367));have n6_:=Am ((by rw [hg];exact Nat.ne_of_gt (blk_lt (g:=gb366) (by (with_reducible repeat (first|refine bN ?_ _|refine bD ?_|refine bA ?_ _));exact BK366.out)) : gb367 ≠ gb366));clear BK366;clear HB;have BK366:=n0_;have HB:=n1_;have BK367:=n2_;have GW367:=n3_;have GE367:=n4_;have NB366_367:=n5_;have NB367_366:=n6_;clear n0_ n1_ n2_ n3_ n4_ n5_ n6_;clear hb hbox hg));go_upto_region 1 with (first|((with_reducible refine gD (N:=2) rfl ?_);(try (refine gate_guard (by rfl) ?_;dsimp only));refine box_event ?hg (N:=2) ?hd (cs:=#[.int .i64 a0_0,.int .i64 a0_1,.int .i64 a0_2,.int .i64 a0_3,.int .i64 a0_4,.int .i64 a0_5,.int .i64 a0_6,.int .i64 a0_7,.int .i64 a0_8,.slice A0_9 l0_9.length c0_9,.slice A0_10 l0_10.length c0_10,.slice A0_11 l0_11.length c0_11]) (t:=28) ?hr ?_;(case hd=>rfl);(case hg=>rfl);(case hr=>first|(go_simp;done)|(go_simp;rfl));intro gb366 hg w4 hbox hb;have n0_:=Am (below_step (by repeat (first|(with_reducible first|exact HB.out|apply bL|apply pN|apply bE)|exact HB.out)) hb);have n1_:=Am (hbox);have n2_:=Am ((by rw [hg];exact (bZ (by repeat (first|(with_reducible first|exact HB.out|apply bL|apply pN|apply bE)|exact HB.out))) : w.heap.size≤gb366));have n3_:=n2_;clear HB;have HB:=n0_;have BK366:=n1_;have GW366:=n2_;have GE366:=n3_;clear n0_ n1_ n2_ n3_;clear hb hbox hg)|((with_reducible refine gD (N:=3) rfl ?_);(try (refine gate_guard (by rfl) ?_;dsimp only));refine box_event ?hg (N:=3) ?hd (cs:=#[.int .i64 a1_0,.int .i64 a1_1,.int .i64 a1_2,.int .i64 a1_3,.int .i64 a1_4,.int .i64 a1_5,.int .i64 a1_6,.int .i64 a1_7,.int .i64 a1_8,.slice A1_9 l1_9.length c1_9,.slice A1_10 l1_10.length c1_10,.slice A1_11 l1_11.length c1_11]) (t:=28) ?hr ?_;(case hd=>rfl);(case hg=>rfl);(case hr=>first|(go_simp;done)|(go_simp;rfl));intro gb367 hg w5 hbox hb;have n0_:=Am (blk_below (g:=gb366) (by (with_reducible repeat (first|refine bN ?_ _|refine bD ?_|refine bA ?_ _));exact BK366.out) hb);have n1_:=Am (below_step (by repeat (first|(with_reducible first|exact HB.out|apply bL|apply pN|apply bE|refine bS ?_ GE366.out)|exact HB.out)) hb);have n2_:=Am (hbox);have n3_:=Am ((by rw [hg];exact (bZ (by repeat (first|(with_reducible first|exact HB.out|apply bL|apply pN|apply bE|refine bS ?_ GE366.out)|exact HB.out))) : w.heap.size≤gb367));have n4_:=n3_;have n5_:=Am ((by rw [hg];exact Nat.ne_of_lt (blk_lt (g:=gb366) (by (with_reducible repeat (first|refine bN ?_ _|refine bD ?_|refine bA ?_ _));exact BK366.out)) : gb366 ≠ gb367));have n6_:=Am ((by rw [hg];exact Nat.ne_of_gt (blk_lt (g:=gb366) (by (with_reducible repeat (first|refine bN ?_ _|refine bD ?_|refine bA ?_ _));exact BK366.out)) : gb367 ≠ gb366));clear BK366;clear HB;have BK366:=n0_;have HB:=n1_;have BK367:=n2_;have GW367:=n3_;have GE367:=n4_;have NB366_367:=n5_;have NB367_366:=n6_;clear n0_ n1_ n2_ n3_ n4_ n5_ n6_;clear hb hbox hg)))
 (try simp only [Act.put,sT,sZ,sS])
 go_cut [67] (fun v67 wc=>∃ (kq : Nat) (x67_2 : Bool),v67 = .bool x67_2∧Aside0 (gangerref10_Same.j0 kq x67_2 a0_0 a0_1 a0_2 a0_3 a0_4 a0_5 a0_6 a0_7 a0_8 l0_9 l0_10 l0_11 a1_0 a1_1 a1_2 a1_3 a1_4 a1_5 a1_6 a1_7 a1_8 l1_9 l1_10 l1_11 = some r)∧Aside0 (kq≤k)∧Aside0 (wc.heap[gb366]? = some (.cells #[.int .i64 a0_0,.int .i64 a0_1,.int .i64 a0_2,.int .i64 a0_3,.int .i64 a0_4,.int .i64 a0_5,.int .i64 a0_6,.int .i64 a0_7,.int .i64 a0_8,(.slice A0_9 l0_9.length c0_9),(.slice A0_10 l0_10.length c0_10),(.slice A0_11 l0_11.length c0_11)] 28 (0,0)))∧Aside0 (wc.heap[gb367]? = some (.cells #[.int .i64 a1_0,.int .i64 a1_1,.int .i64 a1_2,.int .i64 a1_3,.int .i64 a1_4,.int .i64 a1_5,.int .i64 a1_6,.int .i64 a1_7,.int .i64 a1_8,(.slice A1_9 l1_9.length c1_9),(.slice A1_10 l1_10.length c1_10),(.slice A1_11 l1_11.length c1_11)] 28 (0,0)))∧Aside0 (Below w.heap.size w wc))
 case first =>
  have H:=HC3.out
  clear HC3
  by_cases c6 : a0_0 = a1_0
  rotate_left
  ·rw [if_neg c6] at H
   have c6b0 : (a0_0 == a1_0) = false:=beq_eq_false_iff_ne.mpr c6
   have c6b1 : (a0_0 != a1_0) = true:=bne_iff_ne.mpr c6
   (first|rw [c6b0]|(simp only [iW,iV];rw [c6b0])|skip)
   have H':=Am H
   clear H
   have hnb34:=NB366_367.out
   have hnc34:=NB367_366.out
   obtain ⟨X35_0,X35_1,X35_2,X35_3,X35_4,X35_5,X35_6,X35_7,X35_8,X35_9,X35_10,X35_11,Y35_0,Y35_1,Y35_2,Y35_3,Y35_4,Y35_5,Y35_6,Y35_7,Y35_8,Y35_9,Y35_10,Y35_11⟩:=kc12 (w:=w5) (g:=gb366) BK366.out
   obtain ⟨X36_0,X36_1,X36_2,X36_3,X36_4,X36_5,X36_6,X36_7,X36_8,X36_9,X36_10,X36_11,Y36_0,Y36_1,Y36_2,Y36_3,Y36_4,Y36_5,Y36_6,Y36_7,Y36_8,Y36_9,Y36_10,Y36_11⟩:=kc12 (w:=w5) (g:=gb367) BK367.out
   go_wp2
   repeat (go_quiet (fail);try go_wp2)
   go_meet
   case rel=>exact ⟨_,(true),(by first|rfl|(simp;done)|(simp [*];done)),H',⟨by first|omega|exact Nat.le_refl _⟩,⟨by (with_reducible repeat (first|refine bN ?_ _|refine bD ?_|refine bA ?_ _));exact BK366.out⟩,⟨by (with_reducible repeat (first|refine bN ?_ _|refine bD ?_|refine bA ?_ _));exact BK367.out⟩,⟨by repeat (first|(with_reducible first|exact HB.out|apply bL|apply pN|apply bE|refine bS ?_ GE366.out|refine bS ?_ GE367.out)|exact HB.out)⟩⟩
  rw [if_pos c6] at H
  have c6b0 : (a0_0 == a1_0) = true:=beq_iff_eq.mpr c6
  have c6b1 : (a0_0 != a1_0) = false:=bne_eq_false_iff_eq.mpr c6
  clear c6
  (first|rw [c6b0]|(simp only [iW,iV];rw [c6b0])|skip)
  by_cases c7 : a0_1 = a1_1
  rotate_left
  ·rw [if_neg c7] at H
   have c7b0 : (a0_1 == a1_1) = false:=beq_eq_false_iff_ne.mpr c7
   have c7b1 : (a0_1 != a1_1) = true:=bne_iff_ne.mpr c7
   have H':=Am H
   clear H
   have hnb31:=NB366_367.out
   have hnc31:=NB367_366.out
   obtain ⟨X32_0,X32_1,X32_2,X32_3,X32_4,X32_5,X32_6,X32_7,X32_8,X32_9,X32_10,X32_11,Y32_0,Y32_1,Y32_2,Y32_3,Y32_4,Y32_5,Y32_6,Y32_7,Y32_8,Y32_9,Y32_10,Y32_11⟩:=kc12 (w:=w5) (g:=gb366) BK366.out
   obtain ⟨X33_0,X33_1,X33_2,X33_3,X33_4,X33_5,X33_6,X33_7,X33_8,X33_9,X33_10,X33_11,Y33_0,Y33_1,Y33_2,Y33_3,Y33_4,Y33_5,Y33_6,Y33_7,Y33_8,Y33_9,Y33_10,Y33_11⟩:=kc12 (w:=w5) (g:=gb367) BK367.out
   go_wp2
   repeat (go_quiet (fail);try go_wp2)
   go_meet
   case rel=>exact ⟨_,(true),(by first|rfl|(simp;done)|(simp [*];done)),H',⟨by first|omega|exact Nat.le_refl _⟩,⟨by (with_reducible repeat (first|refine bN ?_ _|refine bD ?_|refine bA ?_ _));exact BK366.out⟩,⟨by (with_reducible repeat (first|refine bN ?_ _|refine bD ?_|refine bA ?_ _));exact BK367.out⟩,⟨by repeat (first|(with_reducible first|exact HB.out|apply bL|apply pN|apply bE|refine bS ?_ GE366.out|refine bS ?_ GE367.out)|exact HB.out)⟩⟩
  rw [if_pos c7] at H
  have c7b0 : (a0_1 == a1_1) = true:=beq_iff_eq.mpr c7
  have c7b1 : (a0_1 != a1_1) = false:=bne_eq_false_iff_eq.mpr c7
  clear c7
  by_cases c8 : a0_2 = a1_2
  rotate_left
  ·rw [if_neg c8] at H
   have c8b0 : (a0_2 == a1_2) = false:=beq_eq_false_iff_ne.mpr c8
   have c8b1 : (a0_2 != a1_2) = true:=bne_iff_ne.mpr c8
   have H':=Am H
   clear H
   have hnb28:=NB366_367.out
   have hnc28:=NB367_366.out
   obtain ⟨X29_0,X29_1,X29_2,X29_3,X29_4,X29_5,X29_6,X29_7,X29_8,X29_9,X29_10,X29_11,Y29_0,Y29_1,Y29_2,Y29_3,Y29_4,Y29_5,Y29_6,Y29_7,Y29_8,Y29_9,Y29_10,Y29_11⟩:=kc12 (w:=w5) (g:=gb366) BK366.out
   obtain ⟨X30_0,X30_1,X30_2,X30_3,X30_4,X30_5,X30_6,X30_7,X30_8,X30_9,X30_10,X30_11,Y30_0,Y30_1,Y30_2,Y30_3,Y30_4,Y30_5,Y30_6,Y30_7,Y30_8,Y30_9,Y30_10,Y30_11⟩:=kc12 (w:=w5) (g:=gb367) BK367.out
   go_wp2
   repeat (go_quiet (fail);try go_wp2)
   go_meet
   case rel=>exact ⟨_,(true),(by first|rfl|(simp;done)|(simp [*];done)),H',⟨by first|omega|exact Nat.le_refl _⟩,⟨by (with_reducible repeat (first|refine bN ?_ _|refine bD ?_|refine bA ?_ _));exact BK366.out⟩,⟨by (with_reducible repeat (first|refine bN ?_ _|refine bD ?_|refine bA ?_ _));exact BK367.out⟩,⟨by repeat (first|(with_reducible first|exact HB.out|apply bL|apply pN|apply bE|refine bS ?_ GE366.out|refine bS ?_ GE367.out)|exact HB.out)⟩⟩
  rw [if_pos c8] at H
  have c8b0 : (a0_2 == a1_2) = true:=beq_iff_eq.mpr c8
  have c8b1 : (a0_2 != a1_2) = false:=bne_eq_false_iff_eq.mpr c8
  clear c8
  by_cases c9 : a0_3 = a1_3
  rotate_left
  ·rw [if_neg c9] at H
   have c9b0 : (a0_3 == a1_3) = false:=beq_eq_false_iff_ne.mpr c9
   have c9b1 : (a0_3 != a1_3) = true:=bne_iff_ne.mpr c9
   have H':=Am H
   clear H
   have hnb25:=NB366_367.out
   have hnc25:=NB367_366.out
   obtain ⟨X26_0,X26_1,X26_2,X26_3,X26_4,X26_5,X26_6,X26_7,X26_8,X26_9,X26_10,X26_11,Y26_0,Y26_1,Y26_2,Y26_3,Y26_4,Y26_5,Y26_6,Y26_7,Y26_8,Y26_9,Y26_10,Y26_11⟩:=kc12 (w:=w5) (g:=gb366) BK366.out
   obtain ⟨X27_0,X27_1,X27_2,X27_3,X27_4,X27_5,X27_6,X27_7,X27_8,X27_9,X27_10,X27_11,Y27_0,Y27_1,Y27_2,Y27_3,Y27_4,Y27_5,Y27_6,Y27_7,Y27_8,Y27_9,Y27_10,Y27_11⟩:=kc12 (w:=w5) (g:=gb367) BK367.out
   go_wp2
   repeat (go_quiet (fail);try go_wp2)
   go_meet
   case rel=>exact ⟨_,(true),(by first|rfl|(simp;done)|(simp [*];done)),H',⟨by first|omega|exact Nat.le_refl _⟩,⟨by (with_reducible repeat (first|refine bN ?_ _|refine bD ?_|refine bA ?_ _));exact BK366.out⟩,⟨by (with_reducible repeat (first|refine bN ?_ _|refine bD ?_|refine bA ?_ _));exact BK367.out⟩,⟨by repeat (first|(with_reducible first|exact HB.out|apply bL|apply pN|apply bE|refine bS ?_ GE366.out|refine bS ?_ GE367.out)|exact HB.out)⟩⟩
  rw [if_pos c9] at H
  have c9b0 : (a0_3 == a1_3) = true:=beq_iff_eq.mpr c9
  have c9b1 : (a0_3 != a1_3) = false:=bne_eq_false_iff_eq.mpr c9
  clear c9
  by_cases c10 : (!(a0_4 == a1_4) || (!(a0_5 == a1_5) || (!(a0_6 == a1_6) || (!(a0_7 == a1_7) || (!(a0_8 == a1_8)))))) = true
  ·rw [if_pos c10] at H
   have c10b0 : (!(a0_4 == a1_4) || (!(a0_5 == a1_5) || (!(a0_6 == a1_6) || (!(a0_7 == a1_7) || (!(a0_8 == a1_8)))))) = true:=c10
   clear c10
   have H':=Am H
   clear H
   have hnb11:=NB366_367.out
   have hnc11:=NB367_366.out
   obtain ⟨X12_0,X12_1,X12_2,X12_3,X12_4,X12_5,X12_6,X12_7,X12_8,X12_9,X12_10,X12_11,Y12_0,Y12_1,Y12_2,Y12_3,Y12_4,Y12_5,Y12_6,Y12_7,Y12_8,Y12_9,Y12_10,Y12_11⟩:=kc12 (w:=w5) (g:=gb366) BK366.out
   obtain ⟨X13_0,X13_1,X13_2,X13_3,X13_4,X13_5,X13_6,X13_7,X13_8,X13_9,X13_10,X13_11,Y13_0,Y13_1,Y13_2,Y13_3,Y13_4,Y13_5,Y13_6,Y13_7,Y13_8,Y13_9,Y13_10,Y13_11⟩:=kc12 (w:=w5) (g:=gb367) BK367.out
   go_wp2
   repeat (go_quiet (fail);try go_wp2)
   go_meet
   case rel=>exact ⟨_,(true),(by first|rfl|(simp;done)|(simp [*];done)),H',⟨by first|omega|exact Nat.le_refl _⟩,⟨by (with_reducible repeat (first|refine bN ?_ _|refine bD ?_|refine bA ?_ _));exact BK366.out⟩,⟨by (with_reducible repeat (first|refine bN ?_ _|refine bD ?_|refine bA ?_ _));exact BK367.out⟩,⟨by repeat (first|(with_reducible first|exact HB.out|apply bL|apply pN|apply bE|refine bS ?_ GE366.out|refine bS ?_ GE367.out)|exact HB.out)⟩⟩
  rw [if_neg c10] at H
  have c10b0 : (!(a0_4 == a1_4) || (!(a0_5 == a1_5) || (!(a0_6 == a1_6) || (!(a0_7 == a1_7) || (!(a0_8 == a1_8)))))) = false:=by simpa using c10
  clear c10
  by_cases c14 : (l0_9.length : Int) = (l1_9.length : Int)
  rotate_left
  ·rw [if_neg c14] at H
   have c14b0 : ((l0_9.length : Int) == (l1_9.length : Int)) = false:=beq_eq_false_iff_ne.mpr c14
   have c14b1 : ((l0_9.length : Int) != (l1_9.length : Int)) = true:=bne_iff_ne.mpr c14
   have c14b2 : (l0_9.length == l1_9.length) = false:=by first|simpa using c14|(simp at c14 ⊢;omega)
   have H':=Am H
   clear H
   have hnb22:=NB366_367.out
   have hnc22:=NB367_366.out
   obtain ⟨X23_0,X23_1,X23_2,X23_3,X23_4,X23_5,X23_6,X23_7,X23_8,X23_9,X23_10,X23_11,Y23_0,Y23_1,Y23_2,Y23_3,Y23_4,Y23_5,Y23_6,Y23_7,Y23_8,Y23_9,Y23_10,Y23_11⟩:=kc12 (w:=w5) (g:=gb366) BK366.out
   obtain ⟨X24_0,X24_1,X24_2,X24_3,X24_4,X24_5,X24_6,X24_7,X24_8,X24_9,X24_10,X24_11,Y24_0,Y24_1,Y24_2,Y24_3,Y24_4,Y24_5,Y24_6,Y24_7,Y24_8,Y24_9,Y24_10,Y24_11⟩:=kc12 (w:=w5) (g:=gb367) BK367.out
   go_wp2
   repeat (go_quiet (fail);try go_wp2)
   go_meet
   case rel=>exact ⟨_,(true),(by first|rfl|(simp;done)|(simp [*];done)),H',⟨by first|omega|exact Nat.le_refl _⟩,⟨by (with_reducible repeat (first|refine bN ?_ _|refine bD ?_|refine bA ?_ _));exact BK366.out⟩,⟨by (with_reducible repeat (first|refine bN ?_ _|refine bD ?_|refine bA ?_ _));exact BK367.out⟩,⟨by repeat (first|(with_reducible first|exact HB.out|apply bL|apply pN|apply bE|refine bS ?_ GE366.out|refine bS ?_ GE367.out)|exact HB.out)⟩⟩
  rw [if_pos c14] at H
  have c14b0 : ((l0_9.length : Int) == (l1_9.length : Int)) = true:=beq_iff_eq.mpr c14
  have c14b1 : ((l0_9.length : Int) != (l1_9.length : Int)) = false:=bne_eq_false_iff_eq.mpr c14
  have c14b2 : (l0_9.length == l1_9.length) = true:=by first|simpa using c14|(simp at c14 ⊢;omega)
  clear c14
  by_cases c15 : (l0_10.length : Int) = (l1_10.length : Int)
  rotate_left
  ·rw [if_neg c15] at H
   have c15b0 : ((l0_10.length : Int) == (l1_10.length : Int)) = false:=beq_eq_false_iff_ne.mpr c15
   have c15b1 : ((l0_10.length : Int) != (l1_10.length : Int)) = true:=bne_iff_ne.mpr c15
   have c15b2 : (l0_10.length == l1_10.length) = false:=by first|simpa using c15|(simp at c15 ⊢;omega)
   have H':=Am H
   clear H
   have hnb19:=NB366_367.out
   have hnc19:=NB367_366.out
   obtain ⟨X20_0,X20_1,X20_2,X20_3,X20_4,X20_5,X20_6,X20_7,X20_8,X20_9,X20_10,X20_11,Y20_0,Y20_1,Y20_2,Y20_3,Y20_4,Y20_5,Y20_6,Y20_7,Y20_8,Y20_9,Y20_10,Y20_11⟩:=kc12 (w:=w5) (g:=gb366) BK366.out
   obtain ⟨X21_0,X21_1,X21_2,X21_3,X21_4,X21_5,X21_6,X21_7,X21_8,X21_9,X21_10,X21_11,Y21_0,Y21_1,Y21_2,Y21_3,Y21_4,Y21_5,Y21_6,Y21_7,Y21_8,Y21_9,Y21_10,Y21_11⟩:=kc12 (w:=w5) (g:=gb367) BK367.out
   go_wp2
   repeat (go_quiet (fail);try go_wp2)
   go_meet
   case rel=>exact ⟨_,(true),(by first|rfl|(simp;done)|(simp [*];done)),H',⟨by first|omega|exact Nat.le_refl _⟩,⟨by (with_reducible repeat (first|refine bN ?_ _|refine bD ?_|refine bA ?_ _));exact BK366.out⟩,⟨by (with_reducible repeat (first|refine bN ?_ _|refine bD ?_|refine bA ?_ _));exact BK367.out⟩,⟨by repeat (first|(with_reducible first|exact HB.out|apply bL|apply pN|apply bE|refine bS ?_ GE366.out|refine bS ?_ GE367.out)|exact HB.out)⟩⟩
  rw [if_pos c15] at H
  have c15b0 : ((l0_10.length : Int) == (l1_10.length : Int)) = true:=beq_iff_eq.mpr c15
  have c15b1 : ((l0_10.length : Int) != (l1_10.length : Int)) = false:=bne_eq_false_iff_eq.mpr c15
  have c15b2 : (l0_10.length == l1_10.length) = true:=by first|simpa using c15|(simp at c15 ⊢;omega)
  clear c15
  have H':=Am H
  clear H
  have hnb16:=NB366_367.out
  have hnc16:=NB367_366.out
  obtain ⟨X17_0,X17_1,X17_2,X17_3,X17_4,X17_5,X17_6,X17_7,X17_8,X17_9,X17_10,X17_11,Y17_0,Y17_1,Y17_2,Y17_3,Y17_4,Y17_5,Y17_6,Y17_7,Y17_8,Y17_9,Y17_10,Y17_11⟩:=kc12 (w:=w5) (g:=gb366) BK366.out
  obtain ⟨X18_0,X18_1,X18_2,X18_3,X18_4,X18_5,X18_6,X18_7,X18_8,X18_9,X18_10,X18_11,Y18_0,Y18_1,Y18_2,Y18_3,Y18_4,Y18_5,Y18_6,Y18_7,Y18_8,Y18_9,Y18_10,Y18_11⟩:=kc12 (w:=w5) (g:=gb367) BK367.out
  go_wp2
  repeat (go_quiet (fail);try go_wp2)
  go_meet
  case rel=>exact ⟨_,(((l0_11.length : Int) != (l1_11.length : Int))),(by first|rfl|(simp;done)|(simp [*];done)),H',⟨by first|omega|exact Nat.le_refl _⟩,⟨by (with_reducible repeat (first|refine bN ?_ _|refine bD ?_|refine bA ?_ _));exact BK366.out⟩,⟨by (with_reducible repeat (first|refine bN ?_ _|refine bD ?_|refine bA ?_ _));exact BK367.out⟩,⟨by repeat (first|(with_reducible first|exact HB.out|apply bL|apply pN|apply bE|refine bS ?_ GE366.out|refine bS ?_ GE367.out)|exact HB.out)⟩⟩
 case rest =>
  clear HC3
  obtain ⟨kq,x67_2,rfl,HA,HJ2,BK366,BK367,HB⟩:=hcut
  cases kq with
  | zero=>exact absurd HA.out (by simp [gangerref10_Same.j0])
  | succ kj2 =>
   have H:=HA.out
   clear HA
   simp only [gangerref10_Same.j0] at H
   by_cases c37 : x67_2 = true
   ·subst c37
    have H1 : (some false) = some r:=by rw [if_pos rfl] at H;exact H
    clear H
    have H:=H1
    clear H1
    obtain rfl:=Option.some.inj H
    go_wp2
    repeat (go_quiet (fail);try go_wp2)
    go_ret
    exact ⟨by first|rfl|(simp [errW_none,errW_some] <;> rfl)|(simp [*,errW_none,errW_some] <;> rfl),by repeat (first|(with_reducible first|exact HB.out|apply bL|apply pN|apply bE|refine bS ?_ GE366.out|refine bS ?_ GE367.out)|exact HB.out)⟩
   replace c37:=Bool.eq_false_iff.mpr c37
   subst c37
   have H1 : (gangerref10_Same.l0 kj2 0 a0_0 a0_1 a0_2 a0_3 a0_4 a0_5 a0_6 a0_7 a0_8 l0_9 l0_10 l0_11 a1_0 a1_1 a1_2 a1_3 a1_4 a1_5 a1_6 a1_7 a1_8 l1_9 l1_10 l1_11) = some r:=by rw [if_neg (show ¬ (false = true) by decide)] at H;exact H
   clear H
   have H:=H1
   clear H1
   have H':=Am H
   clear H
   go_wp2
   repeat (go_quiet (fail);try go_wp2)
   go_loopg [5] kj2 (fun kq v5 w'=>∃ (x5_2 : Int),v5 = .int .i64 x5_2∧Aside0 (gangerref10_Same.l0 kq x5_2 a0_0 a0_1 a0_2 a0_3 a0_4 a0_5 a0_6 a0_7 a0_8 l0_9 l0_10 l0_11 a1_0 a1_1 a1_2 a1_3 a1_4 a1_5 a1_6 a1_7 a1_8 l1_9 l1_10 l1_11 = some r)∧Aside0 (kq≤kj2)∧Aside0 (w'.heap[gb366]? = some (.cells #[.int .i64 a0_0,.int .i64 a0_1,.int .i64 a0_2,.int .i64 a0_3,.int .i64 a0_4,.int .i64 a0_5,.int .i64 a0_6,.int .i64 a0_7,.int .i64 a0_8,(.slice A0_9 l0_9.length c0_9),(.slice A0_10 l0_10.length c0_10),(.slice A0_11 l0_11.length c0_11)] 28 (0,0)))∧Aside0 (w'.heap[gb367]? = some (.cells #[.int .i64 a1_0,.int .i64 a1_1,.int .i64 a1_2,.int .i64 a1_3,.int .i64 a1_4,.int .i64 a1_5,.int .i64 a1_6,.int .i64 a1_7,.int .i64 a1_8,(.slice A1_9 l1_9.length c1_9),(.slice A1_10 l1_10.length c1_10),(.slice A1_11 l1_11.length c1_11)] 28 (0,0)))∧Aside0 (Below w.heap.size w w'))
   case atStart=>exact ⟨(0),(by first|rfl|(simp;done)|(simp [*];done)),H',⟨Nat.le_refl _⟩,⟨by (with_reducible repeat (first|refine bN ?_ _|refine bD ?_|refine bA ?_ _));exact BK366.out⟩,⟨by (with_reducible repeat (first|refine bN ?_ _|refine bD ?_|refine bA ?_ _));exact BK367.out⟩,⟨by repeat (first|(with_reducible first|exact HB.out|apply bL|apply pN|apply bE|refine bS ?_ GE366.out|refine bS ?_ GE367.out)|exact HB.out)⟩⟩
   case round =>
    clear H'
    obtain ⟨x5_2,rfl,HA,HK2,BK366,BK367,HB⟩:=hrel
    cases gk with
    | zero=>exact absurd HA.out (by simp [gangerref10_Same.l0])
    | succ k2 =>
     have H:=HA.out
     clear HA
     simp only [gangerref10_Same.l0] at H
     by_cases c38 : x5_2 < (l0_9.length : Int)
     ·rw [if_pos c38] at H
      have c38b0 : decide (x5_2 < (l0_9.length : Int)) = true:=decide_eq_true c38
      clear c38
      by_cases c39 : 0≤x5_2
      rotate_left
      ·rw [if_neg c39] at H
       exact absurd H (by simp)
      rw [if_pos c39] at H
      have c39b0 : decide (0≤x5_2) = true:=decide_eq_true c39
      clear c39
      by_cases c40 : x5_2 < (l1_9.length : Int)
      rotate_left
      ·rw [if_neg c40] at H
       exact absurd H (by simp)
      rw [if_pos c40] at H
      have c40b0 : decide (x5_2 < (l1_9.length : Int)) = true:=decide_eq_true c40
      clear c40
      by_cases c41 : (!((((rd_T50 l0_9 x5_2).f0).toList) == (((rd_T50 l1_9 x5_2).f0).toList)) || (!(((rd_T50 l0_9 x5_2).f1) == ((rd_T50 l1_9 x5_2).f1)) || (!(((rd_T50 l0_9 x5_2).f2) == ((rd_T50 l1_9 x5_2).f2)) || (!(((rd_T50 l0_9 x5_2).f3) == ((rd_T50 l1_9 x5_2).f3)))))) = true
      ·rw [if_pos c41] at H
       have c41b0 : (!((((rd_T50 l0_9 x5_2).f0).toList) == (((rd_T50 l1_9 x5_2).f0).toList)) || (!(((rd_T50 l0_9 x5_2).f1) == ((rd_T50 l1_9 x5_2).f1)) || (!(((rd_T50 l0_9 x5_2).f2) == ((rd_T50 l1_9 x5_2).f2)) || (!(((rd_T50 l0_9 x5_2).f3) == ((rd_T50 l1_9 x5_2).f3)))))) = true:=c41
       clear c41
       obtain rfl:=Option.some.inj H
       have hnb42:=NB366_367.out
       have hnc42:=NB367_366.out
       obtain ⟨X43_0,X43_1,X43_2,X43_3,X43_4,X43_5,X43_6,X43_7,X43_8,X43_9,X43_10,X43_11,Y43_0,Y43_1,Y43_2,Y43_3,Y43_4,Y43_5,Y43_6,Y43_7,Y43_8,Y43_9,Y43_10,Y43_11⟩:=kc12 (w:=wr) (g:=gb366) BK366.out
       have p368 : 0≤(x5_2 : Int):=of_decide_eq_true (by first|(with_reducible assumption)|assumption)
       have q368 : x5_2 < (l0_9.length : Int):=of_decide_eq_true (by first|(with_reducible assumption)|assumption)
       obtain ⟨ad368,e368,hx368_0,hx368_1,hx368_2,hx368_3⟩:=at_T50 HR0_9.out x5_2 p368 q368
       cases e368
       replace hx368_0:=(HB.out.cell (wB w _ hx368_0)).trans hx368_0
       replace hx368_1:=(HB.out.cell (wB w _ hx368_1)).trans hx368_1
       replace hx368_2:=(HB.out.cell (wB w _ hx368_2)).trans hx368_2
       replace hx368_3:=(HB.out.cell (wB w _ hx368_3)).trans hx368_3
       replace p368:=eq_true p368
       replace q368:=eq_true q368
       obtain ⟨X44_0,X44_1,X44_2,X44_3,X44_4,X44_5,X44_6,X44_7,X44_8,X44_9,X44_10,X44_11,Y44_0,Y44_1,Y44_2,Y44_3,Y44_4,Y44_5,Y44_6,Y44_7,Y44_8,Y44_9,Y44_10,Y44_11⟩:=kc12 (w:=wr) (g:=gb367) BK367.out
       have p369 : 0≤(x5_2 : Int):=of_decide_eq_true (by first|(with_reducible assumption)|assumption)
       have q369 : x5_2 < (l1_9.length : Int):=of_decide_eq_true (by first|(with_reducible assumption)|assumption)
       obtain ⟨ad369,e369,hx369_0,hx369_1,hx369_2,hx369_3⟩:=at_T50 HR1_9.out x5_2 p369 q369
       cases e369
       replace hx369_0:=(HB.out.cell (wB w _ hx369_0)).trans hx369_0
       replace hx369_1:=(HB.out.cell (wB w _ hx369_1)).trans hx369_1
       replace hx369_2:=(HB.out.cell (wB w _ hx369_2)).trans hx369_2
       replace hx369_3:=(HB.out.cell (wB w _ hx369_3)).trans hx369_3
       replace p369:=eq_true p369
       replace q369:=eq_true q369
       go_wp2
       repeat (go_quiet (fail);try go_wp2)
       go_ret
       exact ⟨by first|rfl|(simp [errW_none,errW_some] <;> rfl)|(simp [*,errW_none,errW_some] <;> rfl),by repeat (first|(with_reducible first|exact HB.out|apply bL|apply pN|apply bE|refine bS ?_ GE366.out|refine bS ?_ GE367.out)|exact HB.out)⟩
      rw [if_neg c41] at H
      have c41b0 : (!((((rd_T50 l0_9 x5_2).f0).toList) == (((rd_T50 l1_9 x5_2).f0).toList)) || (!(((rd_T50 l0_9 x5_2).f1) == ((rd_T50 l1_9 x5_2).f1)) || (!(((rd_T50 l0_9 x5_2).f2) == ((rd_T50 l1_9 x5_2).f2)) || (!(((rd_T50 l0_9 x5_2).f3) == ((rd_T50 l1_9 x5_2).f3)))))) = false:=by simpa using c41
      clear c41
      have H':=Am H
      clear H
      have hnb45:=NB366_367.out
      have hnc45:=NB367_366.out
      obtain ⟨X46_0,X46_1,X46_2,X46_3,X46_4,X46_5,X46_6,X46_7,X46_8,X46_9,X46_10,X46_11,Y46_0,Y46_1,Y46_2,Y46_3,Y46_4,Y46_5,Y46_6,Y46_7,Y46_8,Y46_9,Y46_10,Y46_11⟩:=kc12 (w:=wr) (g:=gb366) BK366.out
      have p368 : 0≤(x5_2 : Int):=of_decide_eq_true (by first|(with_reducible assumption)|assumption)
      have q368 : x5_2 < (l0_9.length : Int):=of_decide_eq_true (by first|(with_reducible assumption)|assumption)
      obtain ⟨ad368,e368,hx368_0,hx368_1,hx368_2,hx368_3⟩:=at_T50 HR0_9.out x5_2 p368 q368
      cases e368
      replace hx368_0:=(HB.out.cell (wB w _ hx368_0)).trans hx368_0
      replace hx368_1:=(HB.out.cell (wB w _ hx368_1)).trans hx368_1
      replace hx368_2:=(HB.out.cell (wB w _ hx368_2)).trans hx368_2
      replace hx368_3:=(HB.out.cell (wB w _ hx368_3)).trans hx368_3
      replace p368:=eq_true p368
      replace q368:=eq_true q368
      obtain ⟨X47_0,X47_1,X47_2,X47_3,X47_4,X47_5,X47_6,X47_7,X47_8,X47_9,X47_10,X47_11,Y47_0,Y47_1,Y47_2,Y47_3,Y47_4,Y47_5,Y47_6,Y47_7,Y47_8,Y47_9,Y47_10,Y47_11⟩:=kc12 (w:=wr) (g:=gb367) BK367.out
      have p369 : 0≤(x5_2 : Int):=of_decide_eq_true (by first|(with_reducible assumption)|assumption)
      have q369 : x5_2 < (l1_9.length : Int):=of_decide_eq_true (by first|(with_reducible assumption)|assumption)
      obtain ⟨ad369,e369,hx369_0,hx369_1,hx369_2,hx369_3⟩:=at_T50 HR1_9.out x5_2 p369 q369
      cases e369
      replace hx369_0:=(HB.out.cell (wB w _ hx369_0)).trans hx369_0
      replace hx369_1:=(HB.out.cell (wB w _ hx369_1)).trans hx369_1
      replace hx369_2:=(HB.out.cell (wB w _ hx369_2)).trans hx369_2
      replace hx369_3:=(HB.out.cell (wB w _ hx369_3)).trans hx369_3
      replace p369:=eq_true p369
      replace q369:=eq_true q369
      go_wp2
      repeat (go_quiet (fail);try go_wp2)
      go_roundg k2
      case measure=>have:=HJ2.out;have:=HK2.out;omega
      case rel=>exact ⟨(wrap64 (x5_2 + 1)),(by first|rfl|(simp;done)|(simp [*];done)),H',⟨by have:=HJ2.out;have:=HK2.out;omega⟩,⟨by (with_reducible repeat (first|refine bN ?_ _|refine bD ?_|refine bA ?_ _));exact BK366.out⟩,⟨by (with_reducible repeat (first|refine bN ?_ _|refine bD ?_|refine bA ?_ _));exact BK367.out⟩,⟨by repeat (first|(with_reducible first|exact HB.out|apply bL|apply pN|apply bE|refine bS ?_ GE366.out|refine bS ?_ GE367.out)|exact HB.out)⟩⟩
     rw [if_neg c38] at H
     have c38b0 : decide (x5_2 < (l0_9.length : Int)) = false:=decide_eq_false c38
     clear c38
     have H':=Am H
     clear H
     have hnb48:=NB366_367.out
     have hnc48:=NB367_366.out
     obtain ⟨X49_0,X49_1,X49_2,X49_3,X49_4,X49_5,X49_6,X49_7,X49_8,X49_9,X49_10,X49_11,Y49_0,Y49_1,Y49_2,Y49_3,Y49_4,Y49_5,Y49_6,Y49_7,Y49_8,Y49_9,Y49_10,Y49_11⟩:=kc12 (w:=wr) (g:=gb366) BK366.out
     go_wp2
     repeat (go_quiet (fail);try go_wp2)
     go_loopg [6] k2 (fun kq v6 w'=>∃ (x6_3 : Int),v6 = .int .i64 x6_3∧Aside0 (gangerref10_Same.l1 kq x6_3 a0_0 a0_1 a0_2 a0_3 a0_4 a0_5 a0_6 a0_7 a0_8 l0_9 l0_10 l0_11 a1_0 a1_1 a1_2 a1_3 a1_4 a1_5 a1_6 a1_7 a1_8 l1_9 l1_10 l1_11 = some r)∧Aside0 (kq≤k2)∧Aside0 (w'.heap[gb366]? = some (.cells #[.int .i64 a0_0,.int .i64 a0_1,.int .i64 a0_2,.int .i64 a0_3,.int .i64 a0_4,.int .i64 a0_5,.int .i64 a0_6,.int .i64 a0_7,.int .i64 a0_8,(.slice A0_9 l0_9.length c0_9),(.slice A0_10 l0_10.length c0_10),(.slice A0_11 l0_11.length c0_11)] 28 (0,0)))∧Aside0 (w'.heap[gb367]? = some (.cells #[.int .i64 a1_0,.int .i64 a1_1,.int .i64 a1_2,.int .i64 a1_3,.int .i64 a1_4,.int .i64 a1_5,.int .i64 a1_6,.int .i64 a1_7,.int .i64 a1_8,(.slice A1_9 l1_9.length c1_9),(.slice A1_10 l1_10.length c1_10),(.slice A1_11 l1_11.length c1_11)] 28 (0,0)))∧Aside0 (Below w.heap.size w w'))
     case atStart=>exact ⟨(0),(by first|rfl|(simp;done)|(simp [*];done)),H',⟨Nat.le_refl _⟩,⟨by (with_reducible repeat (first|refine bN ?_ _|refine bD ?_|refine bA ?_ _));exact BK366.out⟩,⟨by (with_reducible repeat (first|refine bN ?_ _|refine bD ?_|refine bA ?_ _));exact BK367.out⟩,⟨by repeat (first|(with_reducible first|exact HB.out|apply bL|apply pN|apply bE|refine bS ?_ GE366.out|refine bS ?_ GE367.out)|exact HB.out)⟩⟩
     case round =>
      clear H'
      obtain ⟨x6_3,rfl,HA,HK3,BK366,BK367,HB⟩:=hrel
      cases gk with
      | zero=>exact absurd HA.out (by simp [gangerref10_Same.l1])
      | succ k3 =>
       have H:=HA.out
       clear HA
       simp only [gangerref10_Same.l1] at H
       by_cases c50 : x6_3 < (l0_10.length : Int)
       ·rw [if_pos c50] at H
        have c50b0 : decide (x6_3 < (l0_10.length : Int)) = true:=decide_eq_true c50
        clear c50
        by_cases c51 : 0≤x6_3
        rotate_left
        ·rw [if_neg c51] at H
         exact absurd H (by simp)
        rw [if_pos c51] at H
        have c51b0 : decide (0≤x6_3) = true:=decide_eq_true c51
        clear c51
        by_cases c52 : x6_3 < (l1_10.length : Int)
        rotate_left
        ·rw [if_neg c52] at H
         exact absurd H (by simp)
        rw [if_pos c52] at H
        have c52b0 : decide (x6_3 < (l1_10.length : Int)) = true:=decide_eq_true c52
        clear c52
        by_cases c53 : (!((((rd_T52 l0_10 x6_3).f0).toList) == (((rd_T52 l1_10 x6_3).f0).toList)) || (!(((rd_T52 l0_10 x6_3).f1) == ((rd_T52 l1_10 x6_3).f1)) || (!(((rd_T52 l0_10 x6_3).f2) == ((rd_T52 l1_10 x6_3).f2))))) = true
        ·rw [if_pos c53] at H
         have c53b0 : (!((((rd_T52 l0_10 x6_3).f0).toList) == (((rd_T52 l1_10 x6_3).f0).toList)) || (!(((rd_T52 l0_10 x6_3).f1) == ((rd_T52 l1_10 x6_3).f1)) || (!(((rd_T52 l0_10 x6_3).f2) == ((rd_T52 l1_10 x6_3).f2))))) = true:=c53
         clear c53
         obtain rfl:=Option.some.inj H
         have hnb54:=NB366_367.out
         have hnc54:=NB367_366.out
         obtain ⟨X55_0,X55_1,X55_2,X55_3,X55_4,X55_5,X55_6,X55_7,X55_8,X55_9,X55_10,X55_11,Y55_0,Y55_1,Y55_2,Y55_3,Y55_4,Y55_5,Y55_6,Y55_7,Y55_8,Y55_9,Y55_10,Y55_11⟩:=kc12 (w:=wr) (g:=gb366) BK366.out
         have p370 : 0≤(x6_3 : Int):=of_decide_eq_true (by first|(with_reducible assumption)|assumption)
         have q370 : x6_3 < (l0_10.length : Int):=of_decide_eq_true (by first|(with_reducible assumption)|assumption)
         obtain ⟨ad370,e370,hx370_0,hx370_1,hx370_2⟩:=at_T52 HR0_10.out x6_3 p370 q370
         cases e370
         replace hx370_0:=(HB.out.cell (wB w _ hx370_0)).trans hx370_0
         replace hx370_1:=(HB.out.cell (wB w _ hx370_1)).trans hx370_1
         replace hx370_2:=(HB.out.cell (wB w _ hx370_2)).trans hx370_2
         replace p370:=eq_true p370
         replace q370:=eq_true q370
         obtain ⟨X56_0,X56_1,X56_2,X56_3,X56_4,X56_5,X56_6,X56_7,X56_8,X56_9,X56_10,X56_11,Y56_0,Y56_1,Y56_2,Y56_3,Y56_4,Y56_5,Y56_6,Y56_7,Y56_8,Y56_9,Y56_10,Y56_11⟩:=kc12 (w:=wr) (g:=gb367) BK367.out
         have p371 : 0≤(x6_3 : Int):=of_decide_eq_true (by first|(with_reducible assumption)|assumption)
         have q371 : x6_3 < (l1_10.length : Int):=of_decide_eq_true (by first|(with_reducible assumption)|assumption)
         obtain ⟨ad371,e371,hx371_0,hx371_1,hx371_2⟩:=at_T52 HR1_10.out x6_3 p371 q371
         cases e371
         replace hx371_0:=(HB.out.cell (wB w _ hx371_0)).trans hx371_0
         replace hx371_1:=(HB.out.cell (wB w _ hx371_1)).trans hx371_1
         replace hx371_2:=(HB.out.cell (wB w _ hx371_2)).trans hx371_2
         replace p371:=eq_true p371
         replace q371:=eq_true q371
         go_wp2
         repeat (go_quiet (fail);try go_wp2)
         go_ret
         exact ⟨by first|rfl|(simp [errW_none,errW_some] <;> rfl)|(simp [*,errW_none,errW_some] <;> rfl),by repeat (first|(with_reducible first|exact HB.out|apply bL|apply pN|apply bE|refine bS ?_ GE366.out|refine bS ?_ GE367.out)|exact HB.out)⟩
        rw [if_neg c53] at H
        have c53b0 : (!((((rd_T52 l0_10 x6_3).f0).toList) == (((rd_T52 l1_10 x6_3).f0).toList)) || (!(((rd_T52 l0_10 x6_3).f1) == ((rd_T52 l1_10 x6_3).f1)) || (!(((rd_T52 l0_10 x6_3).f2) == ((rd_T52 l1_10 x6_3).f2))))) = false:=by simpa using c53
        clear c53
        have H':=Am H
        clear H
        have hnb57:=NB366_367.out
        have hnc57:=NB367_366.out
        obtain ⟨X58_0,X58_1,X58_2,X58_3,X58_4,X58_5,X58_6,X58_7,X58_8,X58_9,X58_10,X58_11,Y58_0,Y58_1,Y58_2,Y58_3,Y58_4,Y58_5,Y58_6,Y58_7,Y58_8,Y58_9,Y58_10,Y58_11⟩:=kc12 (w:=wr) (g:=gb366) BK366.out
        have p370 : 0≤(x6_3 : Int):=of_decide_eq_true (by first|(with_reducible assumption)|assumption)
        have q370 : x6_3 < (l0_10.length : Int):=of_decide_eq_true (by first|(with_reducible assumption)|assumption)
        obtain ⟨ad370,e370,hx370_0,hx370_1,hx370_2⟩:=at_T52 HR0_10.out x6_3 p370 q370
        cases e370
        replace hx370_0:=(HB.out.cell (wB w _ hx370_0)).trans hx370_0
        replace hx370_1:=(HB.out.cell (wB w _ hx370_1)).trans hx370_1
        replace hx370_2:=(HB.out.cell (wB w _ hx370_2)).trans hx370_2
        replace p370:=eq_true p370
        replace q370:=eq_true q370
        obtain ⟨X59_0,X59_1,X59_2,X59_3,X59_4,X59_5,X59_6,X59_7,X59_8,X59_9,X59_10,X59_11,Y59_0,Y59_1,Y59_2,Y59_3,Y59_4,Y59_5,Y59_6,Y59_7,Y59_8,Y59_9,Y59_10,Y59_11⟩:=kc12 (w:=wr) (g:=gb367) BK367.out
        have p371 : 0≤(x6_3 : Int):=of_decide_eq_true (by first|(with_reducible assumption)|assumption)
        have q371 : x6_3 < (l1_10.length : Int):=of_decide_eq_true (by first|(with_reducible assumption)|assumption)
        obtain ⟨ad371,e371,hx371_0,hx371_1,hx371_2⟩:=at_T52 HR1_10.out x6_3 p371 q371
        cases e371
        replace hx371_0:=(HB.out.cell (wB w _ hx371_0)).trans hx371_0
        replace hx371_1:=(HB.out.cell (wB w _ hx371_1)).trans hx371_1
        replace hx371_2:=(HB.out.cell (wB w _ hx371_2)).trans hx371_2
        replace p371:=eq_true p371
        replace q371:=eq_true q371
        go_wp2
        repeat (go_quiet (fail);try go_wp2)
        go_roundg k3
        case measure=>have:=HJ2.out;have:=HK2.out;have:=HK3.out;omega
        case rel=>exact ⟨(wrap64 (x6_3 + 1)),(by first|rfl|(simp;done)|(simp [*];done)),H',⟨by have:=HJ2.out;have:=HK2.out;have:=HK3.out;omega⟩,⟨by (with_reducible repeat (first|refine bN ?_ _|refine bD ?_|refine bA ?_ _));exact BK366.out⟩,⟨by (with_reducible repeat (first|refine bN ?_ _|refine bD ?_|refine bA ?_ _));exact BK367.out⟩,⟨by repeat (first|(with_reducible first|exact HB.out|apply bL|apply pN|apply bE|refine bS ?_ GE366.out|refine bS ?_ GE367.out)|exact HB.out)⟩⟩
       rw [if_neg c50] at H
       have c50b0 : decide (x6_3 < (l0_10.length : Int)) = false:=decide_eq_false c50
       clear c50
       have H':=Am H
       clear H
       have hnb60:=NB366_367.out
       have hnc60:=NB367_366.out
       obtain ⟨X61_0,X61_1,X61_2,X61_3,X61_4,X61_5,X61_6,X61_7,X61_8,X61_9,X61_10,X61_11,Y61_0,Y61_1,Y61_2,Y61_3,Y61_4,Y61_5,Y61_6,Y61_7,Y61_8,Y61_9,Y61_10,Y61_11⟩:=kc12 (w:=wr) (g:=gb366) BK366.out
       go_wp2
       repeat (go_quiet (fail);try go_wp2)
       go_loopg [7] k3 (fun kq v7 w'=>∃ (x7_4 : Int),v7 = .int .i64 x7_4∧Aside0 (gangerref10_Same.l2 kq x7_4 a0_0 a0_1 a0_2 a0_3 a0_4 a0_5 a0_6 a0_7 a0_8 l0_9 l0_10 l0_11 a1_0 a1_1 a1_2 a1_3 a1_4 a1_5 a1_6 a1_7 a1_8 l1_9 l1_10 l1_11 = some r)∧Aside0 (kq≤k3)∧Aside0 (w'.heap[gb366]? = some (.cells #[.int .i64 a0_0,.int .i64 a0_1,.int .i64 a0_2,.int .i64 a0_3,.int .i64 a0_4,.int .i64 a0_5,.int .i64 a0_6,.int .i64 a0_7,.int .i64 a0_8,(.slice A0_9 l0_9.length c0_9),(.slice A0_10 l0_10.length c0_10),(.slice A0_11 l0_11.length c0_11)] 28 (0,0)))∧Aside0 (w'.heap[gb367]? = some (.cells #[.int .i64 a1_0,.int .i64 a1_1,.int .i64 a1_2,.int .i64 a1_3,.int .i64 a1_4,.int .i64 a1_5,.int .i64 a1_6,.int .i64 a1_7,.int .i64 a1_8,(.slice A1_9 l1_9.length c1_9),(.slice A1_10 l1_10.length c1_10),(.slice A1_11 l1_11.length c1_11)] 28 (0,0)))∧Aside0 (Below w.heap.size w w'))
       case atStart=>exact ⟨(0),(by first|rfl|(simp;done)|(simp [*];done)),H',⟨Nat.le_refl _⟩,⟨by (with_reducible repeat (first|refine bN ?_ _|refine bD ?_|refine bA ?_ _));exact BK366.out⟩,⟨by (with_reducible repeat (first|refine bN ?_ _|refine bD ?_|refine bA ?_ _));exact BK367.out⟩,⟨by repeat (first|(with_reducible first|exact HB.out|apply bL|apply pN|apply bE|refine bS ?_ GE366.out|refine bS ?_ GE367.out)|exact HB.out)⟩⟩
       case round =>
        clear H'
        obtain ⟨x7_4,rfl,HA,HK4,BK366,BK367,HB⟩:=hrel
        cases gk with
        | zero=>exact absurd HA.out (by simp [gangerref10_Same.l2])
        | succ k4 =>
         have H:=HA.out
         clear HA
         simp only [gangerref10_Same.l2] at H
         by_cases c62 : x7_4 < (l0_11.length : Int)
         rotate_left
         ·rw [if_neg c62] at H
          have c62b0 : decide (x7_4 < (l0_11.length : Int)) = false:=decide_eq_false c62
          clear c62
          obtain rfl:=Option.some.inj H
          have hnb72:=NB366_367.out
          have hnc72:=NB367_366.out
          obtain ⟨X73_0,X73_1,X73_2,X73_3,X73_4,X73_5,X73_6,X73_7,X73_8,X73_9,X73_10,X73_11,Y73_0,Y73_1,Y73_2,Y73_3,Y73_4,Y73_5,Y73_6,Y73_7,Y73_8,Y73_9,Y73_10,Y73_11⟩:=kc12 (w:=wr) (g:=gb366) BK366.out
          go_wp2
          repeat (go_quiet (fail);try go_wp2)
          go_ret
          exact ⟨by first|rfl|(simp [errW_none,errW_some] <;> rfl)|(simp [*,errW_none,errW_some] <;> rfl),by repeat (first|(with_reducible first|exact HB.out|apply bL|apply pN|apply bE|refine bS ?_ GE366.out|refine bS ?_ GE367.out)|exact HB.out)⟩
         rw [if_pos c62] at H
         have c62b0 : decide (x7_4 < (l0_11.length : Int)) = true:=decide_eq_true c62
         clear c62
         by_cases c63 : 0≤x7_4
         rotate_left
         ·rw [if_neg c63] at H
          exact absurd H (by simp)
         rw [if_pos c63] at H
         have c63b0 : decide (0≤x7_4) = true:=decide_eq_true c63
         clear c63
         by_cases c64 : x7_4 < (l1_11.length : Int)
         rotate_left
         ·rw [if_neg c64] at H
          exact absurd H (by simp)
         rw [if_pos c64] at H
         have c64b0 : decide (x7_4 < (l1_11.length : Int)) = true:=decide_eq_true c64
         clear c64
         by_cases c65 : (!((((rd_T48 l0_11 x7_4).f0).toList) == (((rd_T48 l1_11 x7_4).f0).toList)) || (!((((rd_T48 l0_11 x7_4).f1).toList) == (((rd_T48 l1_11 x7_4).f1).toList)) || (!(((rd_T48 l0_11 x7_4).f2) == ((rd_T48 l1_11 x7_4).f2))))) = true
         ·rw [if_pos c65] at H
          have c65b0 : (!((((rd_T48 l0_11 x7_4).f0).toList) == (((rd_T48 l1_11 x7_4).f0).toList)) || (!((((rd_T48 l0_11 x7_4).f1).toList) == (((rd_T48 l1_11 x7_4).f1).toList)) || (!(((rd_T48 l0_11 x7_4).f2) == ((rd_T48 l1_11 x7_4).f2))))) = true:=c65
          clear c65
          obtain rfl:=Option.some.inj H
          have hnb66:=NB366_367.out
          have hnc66:=NB367_366.out
          obtain ⟨X67_0,X67_1,X67_2,X67_3,X67_4,X67_5,X67_6,X67_7,X67_8,X67_9,X67_10,X67_11,Y67_0,Y67_1,Y67_2,Y67_3,Y67_4,Y67_5,Y67_6,Y67_7,Y67_8,Y67_9,Y67_10,Y67_11⟩:=kc12 (w:=wr) (g:=gb366) BK366.out
          have p372 : 0≤(x7_4 : Int):=of_decide_eq_true (by first|(with_reducible assumption)|assumption)
          have q372 : x7_4 < (l0_11.length : Int):=of_decide_eq_true (by first|(with_reducible assumption)|assumption)
          obtain ⟨ad372,e372,hx372_0,hx372_1,hx372_2⟩:=at_T48 HR0_11.out x7_4 p372 q372
          cases e372
          replace hx372_0:=(HB.out.cell (wB w _ hx372_0)).trans hx372_0
          replace hx372_1:=(HB.out.cell (wB w _ hx372_1)).trans hx372_1
          replace hx372_2:=(HB.out.cell (wB w _ hx372_2)).trans hx372_2
          replace p372:=eq_true p372
          replace q372:=eq_true q372
          obtain ⟨X68_0,X68_1,X68_2,X68_3,X68_4,X68_5,X68_6,X68_7,X68_8,X68_9,X68_10,X68_11,Y68_0,Y68_1,Y68_2,Y68_3,Y68_4,Y68_5,Y68_6,Y68_7,Y68_8,Y68_9,Y68_10,Y68_11⟩:=kc12 (w:=wr) (g:=gb367) BK367.out
          have p373 : 0≤(x7_4 : Int):=of_decide_eq_true (by first|(with_reducible assumption)|assumption)
          have q373 : x7_4 < (l1_11.length : Int):=of_decide_eq_true (by first|(with_reducible assumption)|assumption)
          obtain ⟨ad373,e373,hx373_0,hx373_1,hx373_2⟩:=at_T48 HR1_11.out x7_4 p373 q373
          cases e373
          replace hx373_0:=(HB.out.cell (wB w _ hx373_0)).trans hx373_0
          replace hx373_1:=(HB.out.cell (wB w _ hx373_1)).trans hx373_1
          replace hx373_2:=(HB.out.cell (wB w _ hx373_2)).trans hx373_2
          replace p373:=eq_true p373
          replace q373:=eq_true q373
          go_wp2
          repeat (go_quiet (fail);try go_wp2)
          go_ret
          exact ⟨by first|rfl|(simp [errW_none,errW_some] <;> rfl)|(simp [*,errW_none,errW_some] <;> rfl),by repeat (first|(with_reducible first|exact HB.out|apply bL|apply pN|apply bE|refine bS ?_ GE366.out|refine bS ?_ GE367.out)|exact HB.out)⟩
         rw [if_neg c65] at H
         have c65b0 : (!((((rd_T48 l0_11 x7_4).f0).toList) == (((rd_T48 l1_11 x7_4).f0).toList)) || (!((((rd_T48 l0_11 x7_4).f1).toList) == (((rd_T48 l1_11 x7_4).f1).toList)) || (!(((rd_T48 l0_11 x7_4).f2) == ((rd_T48 l1_11 x7_4).f2))))) = false:=by simpa using c65
         clear c65
         have H':=Am H
         clear H
         have hnb69:=NB366_367.out
         have hnc69:=NB367_366.out
         obtain ⟨X70_0,X70_1,X70_2,X70_3,X70_4,X70_5,X70_6,X70_7,X70_8,X70_9,X70_10,X70_11,Y70_0,Y70_1,Y70_2,Y70_3,Y70_4,Y70_5,Y70_6,Y70_7,Y70_8,Y70_9,Y70_10,Y70_11⟩:=kc12 (w:=wr) (g:=gb366) BK366.out
         have p372 : 0≤(x7_4 : Int):=of_decide_eq_true (by first|(with_reducible assumption)|assumption)
         have q372 : x7_4 < (l0_11.length : Int):=of_decide_eq_true (by first|(with_reducible assumption)|assumption)
         obtain ⟨ad372,e372,hx372_0,hx372_1,hx372_2⟩:=at_T48 HR0_11.out x7_4 p372 q372
         cases e372
         replace hx372_0:=(HB.out.cell (wB w _ hx372_0)).trans hx372_0
         replace hx372_1:=(HB.out.cell (wB w _ hx372_1)).trans hx372_1
         replace hx372_2:=(HB.out.cell (wB w _ hx372_2)).trans hx372_2
         replace p372:=eq_true p372
         replace q372:=eq_true q372
         obtain ⟨X71_0,X71_1,X71_2,X71_3,X71_4,X71_5,X71_6,X71_7,X71_8,X71_9,X71_10,X71_11,Y71_0,Y71_1,Y71_2,Y71_3,Y71_4,Y71_5,Y71_6,Y71_7,Y71_8,Y71_9,Y71_10,Y71_11⟩:=kc12 (w:=wr) (g:=gb367) BK367.out
         have p373 : 0≤(x7_4 : Int):=of_decide_eq_true (by first|(with_reducible assumption)|assumption)
         have q373 : x7_4 < (l1_11.length : Int):=of_decide_eq_true (by first|(with_reducible assumption)|assumption)
         obtain ⟨ad373,e373,hx373_0,hx373_1,hx373_2⟩:=at_T48 HR1_11.out x7_4 p373 q373
         cases e373
         replace hx373_0:=(HB.out.cell (wB w _ hx373_0)).trans hx373_0
         replace hx373_1:=(HB.out.cell (wB w _ hx373_1)).trans hx373_1
         replace hx373_2:=(HB.out.cell (wB w _ hx373_2)).trans hx373_2
         replace p373:=eq_true p373
         replace q373:=eq_true q373
         go_wp2
         repeat (go_quiet (fail);try go_wp2)
         go_roundg k4
         case measure=>have:=HJ2.out;have:=HK2.out;have:=HK3.out;have:=HK4.out;omega
         case rel=>exact ⟨(wrap64 (x7_4 + 1)),(by first|rfl|(simp;done)|(simp [*];done)),H',⟨by have:=HJ2.out;have:=HK2.out;have:=HK3.out;have:=HK4.out;omega⟩,⟨by (with_reducible repeat (first|refine bN ?_ _|refine bD ?_|refine bA ?_ _));exact BK366.out⟩,⟨by (with_reducible repeat (first|refine bN ?_ _|refine bD ?_|refine bA ?_ _));exact BK367.out⟩,⟨by repeat (first|(with_reducible first|exact HB.out|apply bL|apply pN|apply bE|refine bS ?_ GE366.out|refine bS ?_ GE367.out)|exact HB.out)⟩⟩
end Go.Proofs.YtgidipomfbikiaaDoor.P
