/- cut to what one law reaches -/
import Derived.Test.YtgidipomfbikiaaDoorQcShort
import Derived.Test.YtgidipomfbikiaaDoorQcP0
import Derived.Test.YtgidipomfbikiaaDoorQcP1
import Derived.Test.YtgidipomfbikiaaDoorQcP2
import Derived.Test.YtgidipomfbikiaaDoorQcP3
import Derived.Test.YtgidipomfbikiaaDoorQcP4
namespace Go.Proofs.YtgidipomfbikiaaDoor.P
open Go.RowKit Go.Proofs.YtgidipomfbikiaaDoorW.PrintWords Go.Proofs.YtgidipomfbikiaaDoorW.PrintLast Go.Proofs.YtgidipomfbikiaaDoorW.PrintMore
attribute [local go_sem] max2_int min2_int max_two min_two max_three min_three max_four min_four   -- for this text's walks alone
set_option linter.unusedVariables false
set_option linter.unusedSimpArgs false
attribute [local go_sem high] eqA23 eqA48 eqA50 eqA52
attribute [local go_sem] isSome_setCell
mutual
def gangerref10_Same.j0 : Nat→Bool→Int→Int→Int→Int→Int→Int→Int→Int→Int→List (S50)→List (S52)→List (S48)→Int→Int→Int→Int→Int→Int→Int→Int→Int→List (S50)→List (S52)→List (S48)→Option (Bool)
 | 0,_,_,_,_,_,_,_,_,_,_,_,_,_,_,_,_,_,_,_,_,_,_,_,_,_=>none
 | k + 1,x67,u_0,u_1,u_2,u_3,u_4,u_5,u_6,u_7,u_8,u_9,u_10,u_11,v_0,v_1,v_2,v_3,v_4,v_5,v_6,v_7,v_8,v_9,v_10,v_11=>if x67 = true then (some false) else (gangerref10_Same.l0 k 0 u_0 u_1 u_2 u_3 u_4 u_5 u_6 u_7 u_8 u_9 u_10 u_11 v_0 v_1 v_2 v_3 v_4 v_5 v_6 v_7 v_8 v_9 v_10 v_11)
def gangerref10_Same.l0 : Nat→Int→Int→Int→Int→Int→Int→Int→Int→Int→Int→List (S50)→List (S52)→List (S48)→Int→Int→Int→Int→Int→Int→Int→Int→Int→List (S50)→List (S52)→List (S48)→Option (Bool)
 | 0,_,_,_,_,_,_,_,_,_,_,_,_,_,_,_,_,_,_,_,_,_,_,_,_,_=>none
 | k + 1,x5,u_0,u_1,u_2,u_3,u_4,u_5,u_6,u_7,u_8,u_9,u_10,u_11,v_0,v_1,v_2,v_3,v_4,v_5,v_6,v_7,v_8,v_9,v_10,v_11=>if x5 < (u_9.length : Int) then (if 0≤x5 then (if x5 < (v_9.length : Int) then (if (!((((rd_T50 u_9 x5).f0).toList) == (((rd_T50 v_9 x5).f0).toList)) || (!(((rd_T50 u_9 x5).f1) == ((rd_T50 v_9 x5).f1)) || (!(((rd_T50 u_9 x5).f2) == ((rd_T50 v_9 x5).f2)) || (!(((rd_T50 u_9 x5).f3) == ((rd_T50 v_9 x5).f3)))))) = true then (some false) else (gangerref10_Same.l0 k (wrap64 (x5 + 1)) u_0 u_1 u_2 u_3 u_4 u_5 u_6 u_7 u_8 u_9 u_10 u_11 v_0 v_1 v_2 v_3 v_4 v_5 v_6 v_7 v_8 v_9 v_10 v_11)) else (none)) else (none)) else (gangerref10_Same.l1 k 0 u_0 u_1 u_2 u_3 u_4 u_5 u_6 u_7 u_8 u_9 u_10 u_11 v_0 v_1 v_2 v_3 v_4 v_5 v_6 v_7 v_8 v_9 v_10 v_11)
def gangerref10_Same.l1 : Nat→Int→Int→Int→Int→Int→Int→Int→Int→Int→Int→List (S50)→List (S52)→List (S48)→Int→Int→Int→Int→Int→Int→Int→Int→Int→List (S50)→List (S52)→List (S48)→Option (Bool)
 | 0,_,_,_,_,_,_,_,_,_,_,_,_,_,_,_,_,_,_,_,_,_,_,_,_,_=>none
 | k + 1,x6,u_0,u_1,u_2,u_3,u_4,u_5,u_6,u_7,u_8,u_9,u_10,u_11,v_0,v_1,v_2,v_3,v_4,v_5,v_6,v_7,v_8,v_9,v_10,v_11=>if x6 < (u_10.length : Int) then (if 0≤x6 then (if x6 < (v_10.length : Int) then (if (!((((rd_T52 u_10 x6).f0).toList) == (((rd_T52 v_10 x6).f0).toList)) || (!(((rd_T52 u_10 x6).f1) == ((rd_T52 v_10 x6).f1)) || (!(((rd_T52 u_10 x6).f2) == ((rd_T52 v_10 x6).f2))))) = true then (some false) else (gangerref10_Same.l1 k (wrap64 (x6 + 1)) u_0 u_1 u_2 u_3 u_4 u_5 u_6 u_7 u_8 u_9 u_10 u_11 v_0 v_1 v_2 v_3 v_4 v_5 v_6 v_7 v_8 v_9 v_10 v_11)) else (none)) else (none)) else (gangerref10_Same.l2 k 0 u_0 u_1 u_2 u_3 u_4 u_5 u_6 u_7 u_8 u_9 u_10 u_11 v_0 v_1 v_2 v_3 v_4 v_5 v_6 v_7 v_8 v_9 v_10 v_11)
def gangerref10_Same.l2 : Nat→Int→Int→Int→Int→Int→Int→Int→Int→Int→Int→List (S50)→List (S52)→List (S48)→Int→Int→Int→Int→Int→Int→Int→Int→Int→List (S50)→List (S52)→List (S48)→Option (Bool)
 | 0,_,_,_,_,_,_,_,_,_,_,_,_,_,_,_,_,_,_,_,_,_,_,_,_,_=>none
 | k + 1,x7,u_0,u_1,u_2,u_3,u_4,u_5,u_6,u_7,u_8,u_9,u_10,u_11,v_0,v_1,v_2,v_3,v_4,v_5,v_6,v_7,v_8,v_9,v_10,v_11=>if x7 < (u_11.length : Int) then (if 0≤x7 then (if x7 < (v_11.length : Int) then (if (!((((rd_T48 u_11 x7).f0).toList) == (((rd_T48 v_11 x7).f0).toList)) || (!((((rd_T48 u_11 x7).f1).toList) == (((rd_T48 v_11 x7).f1).toList)) || (!(((rd_T48 u_11 x7).f2) == ((rd_T48 v_11 x7).f2))))) = true then (some false) else (gangerref10_Same.l2 k (wrap64 (x7 + 1)) u_0 u_1 u_2 u_3 u_4 u_5 u_6 u_7 u_8 u_9 u_10 u_11 v_0 v_1 v_2 v_3 v_4 v_5 v_6 v_7 v_8 v_9 v_10 v_11)) else (none)) else (none)) else (some true)
end
def gangerref10_Same.f (k : Nat) (a0_0 : Int) (a0_1 : Int) (a0_2 : Int) (a0_3 : Int) (a0_4 : Int) (a0_5 : Int) (a0_6 : Int) (a0_7 : Int) (a0_8 : Int) (l0_9 : List (S50)) (l0_10 : List (S52)) (l0_11 : List (S48)) (a1_0 : Int) (a1_1 : Int) (a1_2 : Int) (a1_3 : Int) (a1_4 : Int) (a1_5 : Int) (a1_6 : Int) (a1_7 : Int) (a1_8 : Int) (l1_9 : List (S50)) (l1_10 : List (S52)) (l1_11 : List (S48)) : Option (Bool):=if a0_0 = a1_0 then (if a0_1 = a1_1 then (if a0_2 = a1_2 then (if a0_3 = a1_3 then (if (!(a0_4 == a1_4) || (!(a0_5 == a1_5) || (!(a0_6 == a1_6) || (!(a0_7 == a1_7) || (!(a0_8 == a1_8)))))) = true then (gangerref10_Same.j0 k true a0_0 a0_1 a0_2 a0_3 a0_4 a0_5 a0_6 a0_7 a0_8 l0_9 l0_10 l0_11 a1_0 a1_1 a1_2 a1_3 a1_4 a1_5 a1_6 a1_7 a1_8 l1_9 l1_10 l1_11) else (if (l0_9.length : Int) = (l1_9.length : Int) then (if (l0_10.length : Int) = (l1_10.length : Int) then (gangerref10_Same.j0 k ((l0_11.length : Int) != (l1_11.length : Int)) a0_0 a0_1 a0_2 a0_3 a0_4 a0_5 a0_6 a0_7 a0_8 l0_9 l0_10 l0_11 a1_0 a1_1 a1_2 a1_3 a1_4 a1_5 a1_6 a1_7 a1_8 l1_9 l1_10 l1_11) else (gangerref10_Same.j0 k true a0_0 a0_1 a0_2 a0_3 a0_4 a0_5 a0_6 a0_7 a0_8 l0_9 l0_10 l0_11 a1_0 a1_1 a1_2 a1_3 a1_4 a1_5 a1_6 a1_7 a1_8 l1_9 l1_10 l1_11)) else (gangerref10_Same.j0 k true a0_0 a0_1 a0_2 a0_3 a0_4 a0_5 a0_6 a0_7 a0_8 l0_9 l0_10 l0_11 a1_0 a1_1 a1_2 a1_3 a1_4 a1_5 a1_6 a1_7 a1_8 l1_9 l1_10 l1_11))) else (gangerref10_Same.j0 k true a0_0 a0_1 a0_2 a0_3 a0_4 a0_5 a0_6 a0_7 a0_8 l0_9 l0_10 l0_11 a1_0 a1_1 a1_2 a1_3 a1_4 a1_5 a1_6 a1_7 a1_8 l1_9 l1_10 l1_11)) else (gangerref10_Same.j0 k true a0_0 a0_1 a0_2 a0_3 a0_4 a0_5 a0_6 a0_7 a0_8 l0_9 l0_10 l0_11 a1_0 a1_1 a1_2 a1_3 a1_4 a1_5 a1_6 a1_7 a1_8 l1_9 l1_10 l1_11)) else (gangerref10_Same.j0 k true a0_0 a0_1 a0_2 a0_3 a0_4 a0_5 a0_6 a0_7 a0_8 l0_9 l0_10 l0_11 a1_0 a1_1 a1_2 a1_3 a1_4 a1_5 a1_6 a1_7 a1_8 l1_9 l1_10 l1_11)) else (gangerref10_Same.j0 k true a0_0 a0_1 a0_2 a0_3 a0_4 a0_5 a0_6 a0_7 a0_8 l0_9 l0_10 l0_11 a1_0 a1_1 a1_2 a1_3 a1_4 a1_5 a1_6 a1_7 a1_8 l1_9 l1_10 l1_11)
set_option maxHeartbeats 8000000 in
set_option maxRecDepth 100000 in
theorem gangerref10_Same.calls (k : Nat) (a0_0 : Int) (a0_1 : Int) (a0_2 : Int) (a0_3 : Int) (a0_4 : Int) (a0_5 : Int) (a0_6 : Int) (a0_7 : Int) (a0_8 : Int) (A0_9 : Option Addr) (c0_9 : Nat) (l0_9 : List (S50)) (A0_10 : Option Addr) (c0_10 : Nat) (l0_10 : List (S52)) (A0_11 : Option Addr) (c0_11 : Nat) (l0_11 : List (S48)) (a1_0 : Int) (a1_1 : Int) (a1_2 : Int) (a1_3 : Int) (a1_4 : Int) (a1_5 : Int) (a1_6 : Int) (a1_7 : Int) (a1_8 : Int) (A1_9 : Option Addr) (c1_9 : Nat) (l1_9 : List (S50)) (A1_10 : Option Addr) (c1_10 : Nat) (l1_10 : List (S52)) (A1_11 : Option Addr) (c1_11 : Nat) (l1_11 : List (S48)) (r : Bool) (w : World) (hr0_9 : Kd.C k50 w A0_9 l0_9.length l0_9) (hc0_9 : l0_9.length≤c0_9) (hr0_10 : Kd.C k52 w A0_10 l0_10.length l0_10) (hc0_10 : l0_10.length≤c0_10) (hr0_11 : Kd.C k48 w A0_11 l0_11.length l0_11) (hc0_11 : l0_11.length≤c0_11) (hr1_9 : Kd.C k50 w A1_9 l1_9.length l1_9) (hc1_9 : l1_9.length≤c1_9) (hr1_10 : Kd.C k52 w A1_10 l1_10.length l1_10) (hc1_10 : l1_10.length≤c1_10) (hr1_11 : Kd.C k48 w A1_11 l1_11.length l1_11) (hc1_11 : l1_11.length≤c1_11) (h : gangerref10_Same.f k a0_0 a0_1 a0_2 a0_3 a0_4 a0_5 a0_6 a0_7 a0_8 l0_9 l0_10 l0_11 a1_0 a1_1 a1_2 a1_3 a1_4 a1_5 a1_6 a1_7 a1_8 l1_9 l1_10 l1_11 = some r) :
  Calls Tryd.prog 16 #[.agg #[.int .i64 a0_0,.int .i64 a0_1,.int .i64 a0_2,.int .i64 a0_3,.int .i64 a0_4,.int .i64 a0_5,.int .i64 a0_6,.int .i64 a0_7,.int .i64 a0_8,.slice A0_9 l0_9.length c0_9,.slice A0_10 l0_10.length c0_10,.slice A0_11 l0_11.length c0_11],.agg #[.int .i64 a1_0,.int .i64 a1_1,.int .i64 a1_2,.int .i64 a1_3,.int .i64 a1_4,.int .i64 a1_5,.int .i64 a1_6,.int .i64 a1_7,.int .i64 a1_8,.slice A1_9 l1_9.length c1_9,.slice A1_10 l1_10.length c1_10,.slice A1_11 l1_11.length c1_11]] w fun e w'=>e = .returned (.bool r)∧Below w.heap.size w w':=by
 have hu28:=Tryd.underlying28
 have hu23:=Tryd.underlying23
 have hu50:=Tryd.underlying50
 have hu52:=Tryd.underlying52
 have hu48:=Tryd.underlying48
 have HR0_9:=Am hr0_9
 have HC0_9:=Am hc0_9
 clear hr0_9 hc0_9
 have HR0_10:=Am hr0_10
 have HC0_10:=Am hc0_10
 clear hr0_10 hc0_10
 have HR0_11:=Am hr0_11
 have HC0_11:=Am hc0_11
 clear hr0_11 hc0_11
 have HR1_9:=Am hr1_9
 have HC1_9:=Am hc1_9
 clear hr1_9 hc1_9
 have HR1_10:=Am hr1_10
 have HC1_10:=Am hc1_10
 clear hr1_10 hc1_10
 have HR1_11:=Am hr1_11
 have HC1_11:=Am hc1_11
 clear hr1_11 hc1_11
 have HB:=Am (Below.refl w.heap.size w)
 have H : (if a0_0 = a1_0 then (if a0_1 = a1_1 then (if a0_2 = a1_2 then (if a0_3 = a1_3 then (if (!(a0_4 == a1_4) || (!(a0_5 == a1_5) || (!(a0_6 == a1_6) || (!(a0_7 == a1_7) || (!(a0_8 == a1_8)))))) = true then (gangerref10_Same.j0 k true a0_0 a0_1 a0_2 a0_3 a0_4 a0_5 a0_6 a0_7 a0_8 l0_9 l0_10 l0_11 a1_0 a1_1 a1_2 a1_3 a1_4 a1_5 a1_6 a1_7 a1_8 l1_9 l1_10 l1_11) else (if (l0_9.length : Int) = (l1_9.length : Int) then (if (l0_10.length : Int) = (l1_10.length : Int) then (gangerref10_Same.j0 k ((l0_11.length : Int) != (l1_11.length : Int)) a0_0 a0_1 a0_2 a0_3 a0_4 a0_5 a0_6 a0_7 a0_8 l0_9 l0_10 l0_11 a1_0 a1_1 a1_2 a1_3 a1_4 a1_5 a1_6 a1_7 a1_8 l1_9 l1_10 l1_11) else (gangerref10_Same.j0 k true a0_0 a0_1 a0_2 a0_3 a0_4 a0_5 a0_6 a0_7 a0_8 l0_9 l0_10 l0_11 a1_0 a1_1 a1_2 a1_3 a1_4 a1_5 a1_6 a1_7 a1_8 l1_9 l1_10 l1_11)) else (gangerref10_Same.j0 k true a0_0 a0_1 a0_2 a0_3 a0_4 a0_5 a0_6 a0_7 a0_8 l0_9 l0_10 l0_11 a1_0 a1_1 a1_2 a1_3 a1_4 a1_5 a1_6 a1_7 a1_8 l1_9 l1_10 l1_11))) else (gangerref10_Same.j0 k true a0_0 a0_1 a0_2 a0_3 a0_4 a0_5 a0_6 a0_7 a0_8 l0_9 l0_10 l0_11 a1_0 a1_1 a1_2 a1_3 a1_4 a1_5 a1_6 a1_7 a1_8 l1_9 l1_10 l1_11)) else (gangerref10_Same.j0 k true a0_0 a0_1 a0_2 a0_3 a0_4 a0_5 a0_6 a0_7 a0_8 l0_9 l0_10 l0_11 a1_0 a1_1 a1_2 a1_3 a1_4 a1_5 a1_6 a1_7 a1_8 l1_9 l1_10 l1_11)) else (gangerref10_Same.j0 k true a0_0 a0_1 a0_2 a0_3 a0_4 a0_5 a0_6 a0_7 a0_8 l0_9 l0_10 l0_11 a1_0 a1_1 a1_2 a1_3 a1_4 a1_5 a1_6 a1_7 a1_8 l1_9 l1_10 l1_11)) else (gangerref10_Same.j0 k true a0_0 a0_1 a0_2 a0_3 a0_4 a0_5 a0_6 a0_7 a0_8 l0_9 l0_10 l0_11 a1_0 a1_1 a1_2 a1_3 a1_4 a1_5 a1_6 a1_7 a1_8 l1_9 l1_10 l1_11)) = some r:=h
 clear h
 have HC3:=Am H
 clear H
 go_enter Tryd.func16,Tryd.ntmps16
 go_upto_region 1 with (first|((with_reducible refine gD (N:=2) rfl ?_);(try (refine gate_guard (by rfl) ?_;dsimp only));refine box_event ?hg (N:=2) ?hd (cs:=#[.int .i64 a0_0,.int .i64 a0_1,.int .i64 a0_2,.int .i64 a0_3,.int .i64 a0_4,.int .i64 a0_5,.int .i64 a0_6,.int .i64 a0_7,.int .i64 a0_8,.slice A0_9 l0_9.length c0_9,.slice A0_10 l0_10.length c0_10,.slice A0_11 l0_11.length c0_11]) (t:=28) ?hr ?_;(case hd=>rfl);(case hg=>rfl);(case hr=>first|(go_simp;done)|(go_simp;rfl));intro gb366 hg w4 hbox hb;have n0_:=Am (below_step (by repeat (first|(with_reducible first|exact HB.out|apply bL|apply pN|apply bE)|exact HB.out)) hb);have n1_:=Am (hbox);have n2_:=Am ((by rw [hg];exact (bZ (by repeat (first|(with_reducible first|exact HB.out|apply bL|apply pN|apply bE)|exact HB.out))) : w.heap.size≤gb366));have n3_:=Am ((by rw [hg];exact (bZ (by repeat (first|(with_reducible first|exact HB.out|apply bL|apply pN|apply bE)|exact HB.out))) : w.heap.size≤gb366));clear HB;have HB:=n0_;have BK366:=n1_;have GW366:=n2_;have GE366:=n3_;clear n0_ n1_ n2_ n3_;clear hb hbox hg)|((with_reducible refine gD (N:=3) rfl ?_);(try (refine gate_guard (by rfl) ?_;dsimp only));refine box_event ?hg (N:=3) ?hd (cs:=#[.int .i64 a1_0,.int .i64 a1_1,.int .i64 a1_2,.int .i64 a1_3,.int .i64 a1_4,.int .i64 a1_5,.int .i64 a1_6,.int .i64 a1_7,.int .i64 a1_8,.slice A1_9 l1_9.length c1_9,.slice A1_10 l1_10.length c1_10,.slice A1_11 l1_11.length c1_11]) (t:=28) ?hr ?_;(case hd=>rfl);(case hg=>rfl);(case hr=>first|(go_simp;done)|(go_simp;rfl));intro gb367 hg w5 hbox hb;have n0_:=Am (blk_below (g:=gb366) (by (with_reducible repeat (first|refine bN ?_ _|refine bD ?_|refine bA ?_ _));exact BK366.out) hb);have n1_:=Am (below_step (by repeat (first|(with_reducible first|exact HB.out|apply bL|apply pN|apply bE|refine bS ?_ GE366.out)|exact HB.out)) hb);have n2_:=Am (hbox);have n3_:=Am ((by rw [hg];exact (bZ (by repeat (first|(with_reducible first|exact HB.out|apply bL|apply pN|apply bE|refine bS ?_ GE366.out)|exact HB.out))) : w.heap.size≤gb367));have n4_:=Am ((by rw [hg];exact (bZ (by repeat (first|(with_reducible first|exact HB.out|apply bL|apply pN|apply bE|refine bS ?_ GE366.out)|exact HB.out))) : w.heap.size≤gb367));have n5_:=Am ((by rw [hg];exact Nat.ne_of_lt (blk_lt (g:=gb366) (by (with_reducible repeat (first|refine bN ?_ _|refine bD ?_|refine bA ?_ _));exact BK366.out)) : gb366 ≠ gb367));have n6_:=Am ((by rw [hg];exact Nat.ne_of_gt (blk_lt (g:=gb366) (by (with_reducible repeat (first|refine bN ?_ _|refine bD ?_|refine bA ?_ _));exact BK366.out)) : gb367 ≠ gb366));clear BK366;clear HB;have BK366:=n0_;have HB:=n1_;have BK367:=n2_;have GW367:=n3_;have GE367:=n4_;have NB366_367:=n5_;have NB367_366:=n6_;clear n0_ n1_ n2_ n3_ n4_ n5_ n6_;clear hb hbox hg))
 repeat (go_quiet (first|((with_reducible refine gD (N:=2) rfl ?_);(try (refine gate_guard (by rfl) ?_;dsimp only));refine box_event ?hg (N:=2) ?hd (cs:=#[.int .i64 a0_0,.int .i64 a0_1,.int .i64 a0_2,.int .i64 a0_3,.int .i64 a0_4,.int .i64 a0_5,.int .i64 a0_6,.int .i64 a0_7,.int .i64 a0_8,.slice A0_9 l0_9.length c0_9,.slice A0_10 l0_10.length c0_10,.slice A0_11 l0_11.length c0_11]) (t:=28) ?hr ?_;(case hd=>rfl);(case hg=>rfl);(case hr=>first|(go_simp;done)|(go_simp;rfl));intro gb366 hg w4 hbox hb;have n0_:=Am (below_step (by repeat (first|(with_reducible first|exact HB.out|apply bL|apply pN|apply bE)|exact HB.out)) hb);have n1_:=Am (hbox);have n2_:=Am ((by rw [hg];exact (bZ (by repeat (first|(with_reducible first|exact HB.out|apply bL|apply pN|apply bE)|exact HB.out))) : w.heap.size≤gb366));have n3_:=Am ((by rw [hg];exact (bZ (by repeat (first|(with_reducible first|exact HB.out|apply bL|apply pN|apply bE)|exact HB.out))) : w.heap.size≤gb366));clear HB;have HB:=n0_;have BK366:=n1_;have GW366:=n2_;have GE366:=n3_;clear n0_ n1_ n2_ n3_;clear hb hbox hg)|((with_reducible refine gD (N:=3) rfl ?_);(try (refine gate_guard (by rfl) ?_;dsimp only));refine box_event ?hg (N:=3) ?hd (cs:=#[.int .i64 a1_0,.int .i64 a1_1,.int .i64 a1_2,.int .i64 a1_3,.int .i64 a1_4,.int .i64 a1_5,.int .i64 a1_6,.int .i64 a1_7,.int .i64 a1_8,.slice A1_9 l1_9.length c1_9,.slice A1_10 l1_10.length c1_10,.slice A1_11 l1_11.length c1_11]) (t:=28) ?hr ?_;(case hd=>rfl);(case hg=>rfl);(case hr=>first|(go_simp;done)|(go_simp;rfl));intro gb367 hg w5 hbox hb;have n0_:=Am (blk_below (g:=gb366) (by (with_reducible repeat (first|refine bN ?_ _|refine bD ?_|refine bA ?_ _));exact BK366.out) hb);have n1_:=Am (below_step (by repeat (first|(with_reducible first|exact HB.out|apply bL|apply pN|apply bE|refine bS ?_ GE366.out)|exact HB.out)) hb);have n2_:=Am (hbox);have n3_:=Am ((by rw [hg];exact (bZ (by repeat (first|(with_reducible first|exact HB.out|apply bL|apply pN|apply bE|refine bS ?_ GE366.out)|exact HB.out))) : w.heap.size≤gb367));have n4_:=Am ((by rw [hg];exact (bZ (by repeat (first|(with_reducible first|exact HB.out|apply bL|apply pN|apply bE|refine bS ?_ GE366.out)|exact HB.out))) : w.heap.size≤gb367));have n5_:=Am ((by rw [hg];exact Nat.ne_of_lt (blk_lt (g:=gb366) (by (with_reducible repeat (first|refine bN ?_ _|refine bD ?_|refine bA ?_ _));exact BK366.out)) : gb366 ≠ gb367));have n6_:=Am ((by rw [hg];exact Nat.ne_of_gt (blk_lt (g:=gb366) (by (with_reducible repeat (first|refine bN ?_ _|refine bD ?_|refine bA ?_ _));exact BK366.out)) : gb367 ≠ gb366));clear BK366;clear HB;have BK366:=n0_;have HB:=n1_;have BK367:=n2_;have GW367:=n3_;have GE367:=n4_;have NB366_367:=n5_;have NB367_366:=n6_;clear n0_ n1_ n2_ n3_ n4_ n5_ n6_;clear hb hbox hg));go_upto_region 1 with (first|((with_reducible refine gD (N:=2) rfl ?_);(try (refine gate_guard (by rfl) ?_;dsimp only));refine box_event ?hg (N:=2) ?hd (cs:=#[.int .i64 a0_0,.int .i64 a0_1,.int .i64 a0_2,.int .i64 a0_3,.int .i64 a0_4,.int .i64 a0_5,.int .i64 a0_6,.int .i64 a0_7,.int .i64 a0_8,.slice A0_9 l0_9.length c0_9,.slice A0_10 l0_10.length c0_10,.slice A0_11 l0_11.length c0_11]) (t:=28) ?hr ?_;(case hd=>rfl);(case hg=>rfl);(case hr=>first|(go_simp;done)|(go_simp;rfl));intro gb366 hg w4 hbox hb;have n0_:=Am (below_step (by repeat (first|(with_reducible first|exact HB.out|apply bL|apply pN|apply bE)|exact HB.out)) hb);have n1_:=Am (hbox);have n2_:=Am ((by rw [hg];exact (bZ (by repeat (first|(with_reducible first|exact HB.out|apply bL|apply pN|apply bE)|exact HB.out))) : w.heap.size≤gb366));have n3_:=Am ((by rw [hg];exact (bZ (by repeat (first|(with_reducible first|exact HB.out|apply bL|apply pN|apply bE)|exact HB.out))) : w.heap.size≤gb366));clear HB;have HB:=n0_;have BK366:=n1_;have GW366:=n2_;have GE366:=n3_;clear n0_ n1_ n2_ n3_;clear hb hbox hg)|((with_reducible refine gD (N:=3) rfl ?_);(try (refine gate_guard (by rfl) ?_;dsimp only));refine box_event ?hg (N:=3) ?hd (cs:=#[.int .i64 a1_0,.int .i64 a1_1,.int .i64 a1_2,.int .i64 a1_3,.int .i64 a1_4,.int .i64 a1_5,.int .i64 a1_6,.int .i64 a1_7,.int .i64 a1_8,.slice A1_9 l1_9.length c1_9,.slice A1_10 l1_10.length c1_10,.slice A1_11 l1_11.length c1_11]) (t:=28) ?hr ?_;(case hd=>rfl);(case hg=>rfl);(case hr=>first|(go_simp;done)|(go_simp;rfl));intro gb367 hg w5 hbox hb;have n0_:=Am (blk_below (g:=gb366) (by (with_reducible repeat (first|refine bN ?_ _|refine bD ?_|refine bA ?_ _));exact BK366.out) hb);have n1_:=Am (below_step (by repeat (first|(with_reducible first|exact HB.out|apply bL|apply pN|apply bE|refine bS ?_ GE366.out)|exact HB.out)) hb);have n2_:=Am (hbox);have n3_:=Am ((by rw [hg];exact (bZ (by repeat (first|(with_reducible first|exact HB.out|apply bL|apply pN|apply bE|refine bS ?_ GE366.out)|exact HB.out))) : w.heap.size≤gb367));have n4_:=Am ((by rw [hg];exact (bZ (by repeat (first|(with_reducible first|exact HB.out|apply bL|apply pN|apply bE|refine bS ?_ GE366.out)|exact HB.out))) : w.heap.size≤gb367));have n5_:=Am ((by rw [hg];exact Nat.ne_of_lt (blk_lt (g:=gb366) (by (with_reducible repeat (first|refine bN ?_ _|refine bD ?_|refine bA ?_ _));exact BK366.out)) : gb366 ≠ gb367));have n6_:=Am ((by rw [hg];exact Nat.ne_of_gt (blk_lt (g:=gb366) (by (with_reducible repeat (first|refine bN ?_ _|refine bD ?_|refine bA ?_ _));exact BK366.out)) : gb367 ≠ gb366));clear BK366;clear HB;have BK366:=n0_;have HB:=n1_;have BK367:=n2_;have GW367:=n3_;have GE367:=n4_;have NB366_367:=n5_;have NB367_366:=n6_;clear n0_ n1_ n2_ n3_ n4_ n5_ n6_;clear hb hbox hg)))
 (try simp only [Act.put,sT,sZ,sS])
 go_cut [67] (fun v67 wc=>∃ (kq : Nat) (x67_2 : Bool),v67 = .bool x67_2∧Aside0 (gangerref10_Same.j0 kq x67_2 a0_0 a0_1 a0_2 a0_3 a0_4 a0_5 a0_6 a0_7 a0_8 l0_9 l0_10 l0_11 a1_0 a1_1 a1_2 a1_3 a1_4 a1_5 a1_6 a1_7 a1_8 l1_9 l1_10 l1_11 = some r)∧Aside0 (kq≤k)∧Aside0 (wc.heap[gb366]? = some (.cells #[.int .i64 a0_0,.int .i64 a0_1,.int .i64 a0_2,.int .i64 a0_3,.int .i64 a0_4,.int .i64 a0_5,.int .i64 a0_6,.int .i64 a0_7,.int .i64 a0_8,(.slice A0_9 l0_9.length c0_9),(.slice A0_10 l0_10.length c0_10),(.slice A0_11 l0_11.length c0_11)] 28 (0,0)))∧Aside0 (wc.heap[gb367]? = some (.cells #[.int .i64 a1_0,.int .i64 a1_1,.int .i64 a1_2,.int .i64 a1_3,.int .i64 a1_4,.int .i64 a1_5,.int .i64 a1_6,.int .i64 a1_7,.int .i64 a1_8,(.slice A1_9 l1_9.length c1_9),(.slice A1_10 l1_10.length c1_10),(.slice A1_11 l1_11.length c1_11)] 28 (0,0)))∧Aside0 (Below w.heap.size w wc))
 case first =>
  have H:=HC3.out
  clear HC3
  by_cases c6 : a0_0 = a1_0
  rotate_left
  ·rw [if_neg c6] at H
   have c6b0 : (a0_0 == a1_0) = false:=beq_eq_false_iff_ne.mpr c6
   have c6b1 : (a0_0 != a1_0) = true:=bne_iff_ne.mpr c6
   (first|rw [c6b0]|(simp only [iW,iV];rw [c6b0])|skip)
   have H':=Am H
   clear H
   have hnb34:=NB366_367.out
   have hnc34:=NB367_366.out
   have hcz35_0 : w5.cell? ⟨gb366,0,none⟩ = some (.int .i64 a0_0):=(bC BK366.out 0).trans rfl
   have hcz35_1 : w5.cell? ⟨gb366,1,none⟩ = some (.int .i64 a0_1):=(bC BK366.out 1).trans rfl
   have hcz35_2 : w5.cell? ⟨gb366,2,none⟩ = some (.int .i64 a0_2):=(bC BK366.out 2).trans rfl
   have hcz35_3 : w5.cell? ⟨gb366,3,none⟩ = some (.int .i64 a0_3):=(bC BK366.out 3).trans rfl
   have hcz35_4 : w5.cell? ⟨gb366,4,none⟩ = some (.int .i64 a0_4):=(bC BK366.out 4).trans rfl
   have hcz35_5 : w5.cell? ⟨gb366,5,none⟩ = some (.int .i64 a0_5):=(bC BK366.out 5).trans rfl
   have hcz35_6 : w5.cell? ⟨gb366,6,none⟩ = some (.int .i64 a0_6):=(bC BK366.out 6).trans rfl
   have hcz35_7 : w5.cell? ⟨gb366,7,none⟩ = some (.int .i64 a0_7):=(bC BK366.out 7).trans rfl
   have hcz35_8 : w5.cell? ⟨gb366,8,none⟩ = some (.int .i64 a0_8):=(bC BK366.out 8).trans rfl
   have hcz35_9 : w5.cell? ⟨gb366,9,none⟩ = some (.slice A0_9 l0_9.length c0_9):=(bC BK366.out 9).trans rfl
   have hcz35_10 : w5.cell? ⟨gb366,10,none⟩ = some (.slice A0_10 l0_10.length c0_10):=(bC BK366.out 10).trans rfl
   have hcz35_11 : w5.cell? ⟨gb366,11,none⟩ = some (.slice A0_11 l0_11.length c0_11):=(bC BK366.out 11).trans rfl
   have hfz35_0:=bF BK366.out 0
   have hfz35_1:=bF BK366.out 1
   have hfz35_2:=bF BK366.out 2
   have hfz35_3:=bF BK366.out 3
   have hfz35_4:=bF BK366.out 4
   have hfz35_5:=bF BK366.out 5
   have hfz35_6:=bF BK366.out 6
   have hfz35_7:=bF BK366.out 7
   have hfz35_8:=bF BK366.out 8
   have hfz35_9:=bF BK366.out 9
   have hfz35_10:=bF BK366.out 10
   have hfz35_11:=bF BK366.out 11
   have hcz36_0 : w5.cell? ⟨gb367,0,none⟩ = some (.int .i64 a1_0):=(bC BK367.out 0).trans rfl
   have hcz36_1 : w5.cell? ⟨gb367,1,none⟩ = some (.int .i64 a1_1):=(bC BK367.out 1).trans rfl
   have hcz36_2 : w5.cell? ⟨gb367,2,none⟩ = some (.int .i64 a1_2):=(bC BK367.out 2).trans rfl
   have hcz36_3 : w5.cell? ⟨gb367,3,none⟩ = some (.int .i64 a1_3):=(bC BK367.out 3).trans rfl
   have hcz36_4 : w5.cell? ⟨gb367,4,none⟩ = some (.int .i64 a1_4):=(bC BK367.out 4).trans rfl
   have hcz36_5 : w5.cell? ⟨gb367,5,none⟩ = some (.int .i64 a1_5):=(bC BK367.out 5).trans rfl
   have hcz36_6 : w5.cell? ⟨gb367,6,none⟩ = some (.int .i64 a1_6):=(bC BK367.out 6).trans rfl
   have hcz36_7 : w5.cell? ⟨gb367,7,none⟩ = some (.int .i64 a1_7):=(bC BK367.out 7).trans rfl
   have hcz36_8 : w5.cell? ⟨gb367,8,none⟩ = some (.int .i64 a1_8):=(bC BK367.out 8).trans rfl
   have hcz36_9 : w5.cell? ⟨gb367,9,none⟩ = some (.slice A1_9 l1_9.length c1_9):=(bC BK367.out 9).trans rfl
   have hcz36_10 : w5.cell? ⟨gb367,10,none⟩ = some (.slice A1_10 l1_10.length c1_10):=(bC BK367.out 10).trans rfl
   have hcz36_11 : w5.cell? ⟨gb367,11,none⟩ = some (.slice A1_11 l1_11.length c1_11):=(bC BK367.out 11).trans rfl
   have hfz36_0:=bF BK367.out 0
   have hfz36_1:=bF BK367.out 1
   have hfz36_2:=bF BK367.out 2
   have hfz36_3:=bF BK367.out 3
   have hfz36_4:=bF BK367.out 4
   have hfz36_5:=bF BK367.out 5
   have hfz36_6:=bF BK367.out 6
   have hfz36_7:=bF BK367.out 7
   have hfz36_8:=bF BK367.out 8
   have hfz36_9:=bF BK367.out 9
   have hfz36_10:=bF BK367.out 10
   have hfz36_11:=bF BK367.out 11
   go_wp2
   repeat (go_quiet (fail);try go_wp2)
   go_meet
   case rel=>exact ⟨_,(true),(by first|rfl|(simp;done)|(simp [*];done)),H',⟨by first|omega|exact Nat.le_refl _⟩,⟨by (with_reducible repeat (first|refine bN ?_ _|refine bD ?_|refine bA ?_ _));exact BK366.out⟩,⟨by (with_reducible repeat (first|refine bN ?_ _|refine bD ?_|refine bA ?_ _));exact BK367.out⟩,⟨by repeat (first|(with_reducible first|exact HB.out|apply bL|apply pN|apply bE|refine bS ?_ GE366.out|refine bS ?_ GE367.out)|exact HB.out)⟩⟩
  rw [if_pos c6] at H
  have c6b0 : (a0_0 == a1_0) = true:=beq_iff_eq.mpr c6
  have c6b1 : (a0_0 != a1_0) = false:=bne_eq_false_iff_eq.mpr c6
  clear c6
  (first|rw [c6b0]|(simp only [iW,iV];rw [c6b0])|skip)
  by_cases c7 : a0_1 = a1_1
  rotate_left
  ·rw [if_neg c7] at H
   have c7b0 : (a0_1 == a1_1) = false:=beq_eq_false_iff_ne.mpr c7
   have c7b1 : (a0_1 != a1_1) = true:=bne_iff_ne.mpr c7
   have H':=Am H
   clear H
   have hnb31:=NB366_367.out
   have hnc31:=NB367_366.out
   have hcz32_0 : w5.cell? ⟨gb366,0,none⟩ = some (.int .i64 a0_0):=(bC BK366.out 0).trans rfl
   have hcz32_1 : w5.cell? ⟨gb366,1,none⟩ = some (.int .i64 a0_1):=(bC BK366.out 1).trans rfl
   have hcz32_2 : w5.cell? ⟨gb366,2,none⟩ = some (.int .i64 a0_2):=(bC BK366.out 2).trans rfl
   have hcz32_3 : w5.cell? ⟨gb366,3,none⟩ = some (.int .i64 a0_3):=(bC BK366.out 3).trans rfl
   have hcz32_4 : w5.cell? ⟨gb366,4,none⟩ = some (.int .i64 a0_4):=(bC BK366.out 4).trans rfl
   have hcz32_5 : w5.cell? ⟨gb366,5,none⟩ = some (.int .i64 a0_5):=(bC BK366.out 5).trans rfl
   have hcz32_6 : w5.cell? ⟨gb366,6,none⟩ = some (.int .i64 a0_6):=(bC BK366.out 6).trans rfl
   have hcz32_7 : w5.cell? ⟨gb366,7,none⟩ = some (.int .i64 a0_7):=(bC BK366.out 7).trans rfl
   have hcz32_8 : w5.cell? ⟨gb366,8,none⟩ = some (.int .i64 a0_8):=(bC BK366.out 8).trans rfl
   have hcz32_9 : w5.cell? ⟨gb366,9,none⟩ = some (.slice A0_9 l0_9.length c0_9):=(bC BK366.out 9).trans rfl
   have hcz32_10 : w5.cell? ⟨gb366,10,none⟩ = some (.slice A0_10 l0_10.length c0_10):=(bC BK366.out 10).trans rfl
   have hcz32_11 : w5.cell? ⟨gb366,11,none⟩ = some (.slice A0_11 l0_11.length c0_11):=(bC BK366.out 11).trans rfl
   have hfz32_0:=bF BK366.out 0
   have hfz32_1:=bF BK366.out 1
   have hfz32_2:=bF BK366.out 2
   have hfz32_3:=bF BK366.out 3
   have hfz32_4:=bF BK366.out 4
   have hfz32_5:=bF BK366.out 5
   have hfz32_6:=bF BK366.out 6
   have hfz32_7:=bF BK366.out 7
   have hfz32_8:=bF BK366.out 8
   have hfz32_9:=bF BK366.out 9
   have hfz32_10:=bF BK366.out 10
   have hfz32_11:=bF BK366.out 11
   have hcz33_0 : w5.cell? ⟨gb367,0,none⟩ = some (.int .i64 a1_0):=(bC BK367.out 0).trans rfl
   have hcz33_1 : w5.cell? ⟨gb367,1,none⟩ = some (.int .i64 a1_1):=(bC BK367.out 1).trans rfl
   have hcz33_2 : w5.cell? ⟨gb367,2,none⟩ = some (.int .i64 a1_2):=(bC BK367.out 2).trans rfl
   have hcz33_3 : w5.cell? ⟨gb367,3,none⟩ = some (.int .i64 a1_3):=(bC BK367.out 3).trans rfl
   have hcz33_4 : w5.cell? ⟨gb367,4,none⟩ = some (.int .i64 a1_4):=(bC BK367.out 4).trans rfl
   have hcz33_5 : w5.cell? ⟨gb367,5,none⟩ = some (.int .i64 a1_5):=(bC BK367.out 5).trans rfl
   have hcz33_6 : w5.cell? ⟨gb367,6,none⟩ = some (.int .i64 a1_6):=(bC BK367.out 6).trans rfl
   have hcz33_7 : w5.cell? ⟨gb367,7,none⟩ = some (.int .i64 a1_7):=(bC BK367.out 7).trans rfl
   have hcz33_8 : w5.cell? ⟨gb367,8,none⟩ = some (.int .i64 a1_8):=(bC BK367.out 8).trans rfl
   have hcz33_9 : w5.cell? ⟨gb367,9,none⟩ = some (.slice A1_9 l1_9.length c1_9):=(bC BK367.out 9).trans rfl
   have hcz33_10 : w5.cell? ⟨gb367,10,none⟩ = some (.slice A1_10 l1_10.length c1_10):=(bC BK367.out 10).trans rfl
   have hcz33_11 : w5.cell? ⟨gb367,11,none⟩ = some (.slice A1_11 l1_11.length c1_11):=(bC BK367.out 11).trans rfl
   have hfz33_0:=bF BK367.out 0
   have hfz33_1:=bF BK367.out 1
   have hfz33_2:=bF BK367.out 2
   have hfz33_3:=bF BK367.out 3
   have hfz33_4:=bF BK367.out 4
   have hfz33_5:=bF BK367.out 5
   have hfz33_6:=bF BK367.out 6
   have hfz33_7:=bF BK367.out 7
   have hfz33_8:=bF BK367.out 8
   have hfz33_9:=bF BK367.out 9
   have hfz33_10:=bF BK367.out 10
   have hfz33_11:=bF BK367.out 11
   go_wp2
   repeat (go_quiet (fail);try go_wp2)
   go_meet
   case rel=>exact ⟨_,(true),(by first|rfl|(simp;done)|(simp [*];done)),H',⟨by first|omega|exact Nat.le_refl _⟩,⟨by (with_reducible repeat (first|refine bN ?_ _|refine bD ?_|refine bA ?_ _));exact BK366.out⟩,⟨by (with_reducible repeat (first|refine bN ?_ _|refine bD ?_|refine bA ?_ _));exact BK367.out⟩,⟨by repeat (first|(with_reducible first|exact HB.out|apply bL|apply pN|apply bE|refine bS ?_ GE366.out|refine bS ?_ GE367.out)|exact HB.out)⟩⟩
  rw [if_pos c7] at H
  have c7b0 : (a0_1 == a1_1) = true:=beq_iff_eq.mpr c7
  have c7b1 : (a0_1 != a1_1) = false:=bne_eq_false_iff_eq.mpr c7
  clear c7
  by_cases c8 : a0_2 = a1_2
  rotate_left
  ·rw [if_neg c8] at H
   have c8b0 : (a0_2 == a1_2) = false:=beq_eq_false_iff_ne.mpr c8
   have c8b1 : (a0_2 != a1_2) = true:=bne_iff_ne.mpr c8
   have H':=Am H
   clear H
   have hnb28:=NB366_367.out
   have hnc28:=NB367_366.out
   have hcz29_0 : w5.cell? ⟨gb366,0,none⟩ = some (.int .i64 a0_0):=(bC BK366.out 0).trans rfl
   have hcz29_1 : w5.cell? ⟨gb366,1,none⟩ = some (.int .i64 a0_1):=(bC BK366.out 1).trans rfl
   have hcz29_2 : w5.cell? ⟨gb366,2,none⟩ = some (.int .i64 a0_2):=(bC BK366.out 2).trans rfl
   have hcz29_3 : w5.cell? ⟨gb366,3,none⟩ = some (.int .i64 a0_3):=(bC BK366.out 3).trans rfl
   have hcz29_4 : w5.cell? ⟨gb366,4,none⟩ = some (.int .i64 a0_4):=(bC BK366.out 4).trans rfl
   have hcz29_5 : w5.cell? ⟨gb366,5,none⟩ = some (.int .i64 a0_5):=(bC BK366.out 5).trans rfl
   have hcz29_6 : w5.cell? ⟨gb366,6,none⟩ = some (.int .i64 a0_6):=(bC BK366.out 6).trans rfl
   have hcz29_7 : w5.cell? ⟨gb366,7,none⟩ = some (.int .i64 a0_7):=(bC BK366.out 7).trans rfl
   have hcz29_8 : w5.cell? ⟨gb366,8,none⟩ = some (.int .i64 a0_8):=(bC BK366.out 8).trans rfl
   have hcz29_9 : w5.cell? ⟨gb366,9,none⟩ = some (.slice A0_9 l0_9.length c0_9):=(bC BK366.out 9).trans rfl
   have hcz29_10 : w5.cell? ⟨gb366,10,none⟩ = some (.slice A0_10 l0_10.length c0_10):=(bC BK366.out 10).trans rfl
   have hcz29_11 : w5.cell? ⟨gb366,11,none⟩ = some (.slice A0_11 l0_11.length c0_11):=(bC BK366.out 11).trans rfl
   have hfz29_0:=bF BK366.out 0
   have hfz29_1:=bF BK366.out 1
   have hfz29_2:=bF BK366.out 2
   have hfz29_3:=bF BK366.out 3
   have hfz29_4:=bF BK366.out 4
   have hfz29_5:=bF BK366.out 5
   have hfz29_6:=bF BK366.out 6
   have hfz29_7:=bF BK366.out 7
   have hfz29_8:=bF BK366.out 8
   have hfz29_9:=bF BK366.out 9
   have hfz29_10:=bF BK366.out 10
   have hfz29_11:=bF BK366.out 11
   have hcz30_0 : w5.cell? ⟨gb367,0,none⟩ = some (.int .i64 a1_0):=(bC BK367.out 0).trans rfl
   have hcz30_1 : w5.cell? ⟨gb367,1,none⟩ = some (.int .i64 a1_1):=(bC BK367.out 1).trans rfl
   have hcz30_2 : w5.cell? ⟨gb367,2,none⟩ = some (.int .i64 a1_2):=(bC BK367.out 2).trans rfl
   have hcz30_3 : w5.cell? ⟨gb367,3,none⟩ = some (.int .i64 a1_3):=(bC BK367.out 3).trans rfl
   have hcz30_4 : w5.cell? ⟨gb367,4,none⟩ = some (.int .i64 a1_4):=(bC BK367.out 4).trans rfl
   have hcz30_5 : w5.cell? ⟨gb367,5,none⟩ = some (.int .i64 a1_5):=(bC BK367.out 5).trans rfl
   have hcz30_6 : w5.cell? ⟨gb367,6,none⟩ = some (.int .i64 a1_6):=(bC BK367.out 6).trans rfl
   have hcz30_7 : w5.cell? ⟨gb367,7,none⟩ = some (.int .i64 a1_7):=(bC BK367.out 7).trans rfl
   have hcz30_8 : w5.cell? ⟨gb367,8,none⟩ = some (.int .i64 a1_8):=(bC BK367.out 8).trans rfl
   have hcz30_9 : w5.cell? ⟨gb367,9,none⟩ = some (.slice A1_9 l1_9.length c1_9):=(bC BK367.out 9).trans rfl
   have hcz30_10 : w5.cell? ⟨gb367,10,none⟩ = some (.slice A1_10 l1_10.length c1_10):=(bC BK367.out 10).trans rfl
   have hcz30_11 : w5.cell? ⟨gb367,11,none⟩ = some (.slice A1_11 l1_11.length c1_11):=(bC BK367.out 11).trans rfl
   have hfz30_0:=bF BK367.out 0
   have hfz30_1:=bF BK367.out 1
   have hfz30_2:=bF BK367.out 2
   have hfz30_3:=bF BK367.out 3
   have hfz30_4:=bF BK367.out 4
   have hfz30_5:=bF BK367.out 5
   have hfz30_6:=bF BK367.out 6
   have hfz30_7:=bF BK367.out 7
   have hfz30_8:=bF BK367.out 8
   have hfz30_9:=bF BK367.out 9
   have hfz30_10:=bF BK367.out 10
   have hfz30_11:=bF BK367.out 11
   go_wp2
   repeat (go_quiet (fail);try go_wp2)
   go_meet
   case rel=>exact ⟨_,(true),(by first|rfl|(simp;done)|(simp [*];done)),H',⟨by first|omega|exact Nat.le_refl _⟩,⟨by (with_reducible repeat (first|refine bN ?_ _|refine bD ?_|refine bA ?_ _));exact BK366.out⟩,⟨by (with_reducible repeat (first|refine bN ?_ _|refine bD ?_|refine bA ?_ _));exact BK367.out⟩,⟨by repeat (first|(with_reducible first|exact HB.out|apply bL|apply pN|apply bE|refine bS ?_ GE366.out|refine bS ?_ GE367.out)|exact HB.out)⟩⟩
  rw [if_pos c8] at H
  have c8b0 : (a0_2 == a1_2) = true:=beq_iff_eq.mpr c8
  have c8b1 : (a0_2 != a1_2) = false:=bne_eq_false_iff_eq.mpr c8
  clear c8
  by_cases c9 : a0_3 = a1_3
  rotate_left
  ·rw [if_neg c9] at H
   have c9b0 : (a0_3 == a1_3) = false:=beq_eq_false_iff_ne.mpr c9
   have c9b1 : (a0_3 != a1_3) = true:=bne_iff_ne.mpr c9
   have H':=Am H
   clear H
   have hnb25:=NB366_367.out
   have hnc25:=NB367_366.out
   have hcz26_0 : w5.cell? ⟨gb366,0,none⟩ = some (.int .i64 a0_0):=(bC BK366.out 0).trans rfl
   have hcz26_1 : w5.cell? ⟨gb366,1,none⟩ = some (.int .i64 a0_1):=(bC BK366.out 1).trans rfl
   have hcz26_2 : w5.cell? ⟨gb366,2,none⟩ = some (.int .i64 a0_2):=(bC BK366.out 2).trans rfl
   have hcz26_3 : w5.cell? ⟨gb366,3,none⟩ = some (.int .i64 a0_3):=(bC BK366.out 3).trans rfl
   have hcz26_4 : w5.cell? ⟨gb366,4,none⟩ = some (.int .i64 a0_4):=(bC BK366.out 4).trans rfl
   have hcz26_5 : w5.cell? ⟨gb366,5,none⟩ = some (.int .i64 a0_5):=(bC BK366.out 5).trans rfl
   have hcz26_6 : w5.cell? ⟨gb366,6,none⟩ = some (.int .i64 a0_6):=(bC BK366.out 6).trans rfl
   have hcz26_7 : w5.cell? ⟨gb366,7,none⟩ = some (.int .i64 a0_7):=(bC BK366.out 7).trans rfl
   have hcz26_8 : w5.cell? ⟨gb366,8,none⟩ = some (.int .i64 a0_8):=(bC BK366.out 8).trans rfl
   have hcz26_9 : w5.cell? ⟨gb366,9,none⟩ = some (.slice A0_9 l0_9.length c0_9):=(bC BK366.out 9).trans rfl
   have hcz26_10 : w5.cell? ⟨gb366,10,none⟩ = some (.slice A0_10 l0_10.length c0_10):=(bC BK366.out 10).trans rfl
   have hcz26_11 : w5.cell? ⟨gb366,11,none⟩ = some (.slice A0_11 l0_11.length c0_11):=(bC BK366.out 11).trans rfl
   have hfz26_0:=bF BK366.out 0
   have hfz26_1:=bF BK366.out 1
   have hfz26_2:=bF BK366.out 2
   have hfz26_3:=bF BK366.out 3
   have hfz26_4:=bF BK366.out 4
   have hfz26_5:=bF BK366.out 5
   have hfz26_6:=bF BK366.out 6
   have hfz26_7:=bF BK366.out 7
   have hfz26_8:=bF BK366.out 8
   have hfz26_9:=bF BK366.out 9
   have hfz26_10:=bF BK366.out 10
   have hfz26_11:=bF BK366.out 11
   have hcz27_0 : w5.cell? ⟨gb367,0,none⟩ = some (.int .i64 a1_0):=(bC BK367.out 0).trans rfl
   have hcz27_1 : w5.cell? ⟨gb367,1,none⟩ = some (.int .i64 a1_1):=(bC BK367.out 1).trans rfl
   have hcz27_2 : w5.cell? ⟨gb367,2,none⟩ = some (.int .i64 a1_2):=(bC BK367.out 2).trans rfl
   have hcz27_3 : w5.cell? ⟨gb367,3,none⟩ = some (.int .i64 a1_3):=(bC BK367.out 3).trans rfl
   have hcz27_4 : w5.cell? ⟨gb367,4,none⟩ = some (.int .i64 a1_4):=(bC BK367.out 4).trans rfl
   have hcz27_5 : w5.cell? ⟨gb367,5,none⟩ = some (.int .i64 a1_5):=(bC BK367.out 5).trans rfl
   have hcz27_6 : w5.cell? ⟨gb367,6,none⟩ = some (.int .i64 a1_6):=(bC BK367.out 6).trans rfl
   have hcz27_7 : w5.cell? ⟨gb367,7,none⟩ = some (.int .i64 a1_7):=(bC BK367.out 7).trans rfl
   have hcz27_8 : w5.cell? ⟨gb367,8,none⟩ = some (.int .i64 a1_8):=(bC BK367.out 8).trans rfl
   have hcz27_9 : w5.cell? ⟨gb367,9,none⟩ = some (.slice A1_9 l1_9.length c1_9):=(bC BK367.out 9).trans rfl
   have hcz27_10 : w5.cell? ⟨gb367,10,none⟩ = some (.slice A1_10 l1_10.length c1_10):=(bC BK367.out 10).trans rfl
   have hcz27_11 : w5.cell? ⟨gb367,11,none⟩ = some (.slice A1_11 l1_11.length c1_11):=(bC BK367.out 11).trans rfl
   have hfz27_0:=bF BK367.out 0
   have hfz27_1:=bF BK367.out 1
   have hfz27_2:=bF BK367.out 2
   have hfz27_3:=bF BK367.out 3
   have hfz27_4:=bF BK367.out 4
   have hfz27_5:=bF BK367.out 5
   have hfz27_6:=bF BK367.out 6
   have hfz27_7:=bF BK367.out 7
   have hfz27_8:=bF BK367.out 8
   have hfz27_9:=bF BK367.out 9
   have hfz27_10:=bF BK367.out 10
   have hfz27_11:=bF BK367.out 11
   go_wp2
   repeat (go_quiet (fail);try go_wp2)
   go_meet
   case rel=>exact ⟨_,(true),(by first|rfl|(simp;done)|(simp [*];done)),H',⟨by first|omega|exact Nat.le_refl _⟩,⟨by (with_reducible repeat (first|refine bN ?_ _|refine bD ?_|refine bA ?_ _));exact BK366.out⟩,⟨by (with_reducible repeat (first|refine bN ?_ _|refine bD ?_|refine bA ?_ _));exact BK367.out⟩,⟨by repeat (first|(with_reducible first|exact HB.out|apply bL|apply pN|apply bE|refine bS ?_ GE366.out|refine bS ?_ GE367.out)|exact HB.out)⟩⟩
  rw [if_pos c9] at H
  have c9b0 : (a0_3 == a1_3) = true:=beq_iff_eq.mpr c9
  have c9b1 : (a0_3 != a1_3) = false:=bne_eq_false_iff_eq.mpr c9
  clear c9
  by_cases c10 : (!(a0_4 == a1_4) || (!(a0_5 == a1_5) || (!(a0_6 == a1_6) || (!(a0_7 == a1_7) || (!(a0_8 == a1_8)))))) = true
  ·rw [if_pos c10] at H
   have c10b0 : (!(a0_4 == a1_4) || (!(a0_5 == a1_5) || (!(a0_6 == a1_6) || (!(a0_7 == a1_7) || (!(a0_8 == a1_8)))))) = true:=c10
   clear c10
   have H':=Am H
   clear H
   have hnb11:=NB366_367.out
   have hnc11:=NB367_366.out
   have hcz12_0 : w5.cell? ⟨gb366,0,none⟩ = some (.int .i64 a0_0):=(bC BK366.out 0).trans rfl
   have hcz12_1 : w5.cell? ⟨gb366,1,none⟩ = some (.int .i64 a0_1):=(bC BK366.out 1).trans rfl
   have hcz12_2 : w5.cell? ⟨gb366,2,none⟩ = some (.int .i64 a0_2):=(bC BK366.out 2).trans rfl
   have hcz12_3 : w5.cell? ⟨gb366,3,none⟩ = some (.int .i64 a0_3):=(bC BK366.out 3).trans rfl
   have hcz12_4 : w5.cell? ⟨gb366,4,none⟩ = some (.int .i64 a0_4):=(bC BK366.out 4).trans rfl
   have hcz12_5 : w5.cell? ⟨gb366,5,none⟩ = some (.int .i64 a0_5):=(bC BK366.out 5).trans rfl
   have hcz12_6 : w5.cell? ⟨gb366,6,none⟩ = some (.int .i64 a0_6):=(bC BK366.out 6).trans rfl
   have hcz12_7 : w5.cell? ⟨gb366,7,none⟩ = some (.int .i64 a0_7):=(bC BK366.out 7).trans rfl
   have hcz12_8 : w5.cell? ⟨gb366,8,none⟩ = some (.int .i64 a0_8):=(bC BK366.out 8).trans rfl
   have hcz12_9 : w5.cell? ⟨gb366,9,none⟩ = some (.slice A0_9 l0_9.length c0_9):=(bC BK366.out 9).trans rfl
   have hcz12_10 : w5.cell? ⟨gb366,10,none⟩ = some (.slice A0_10 l0_10.length c0_10):=(bC BK366.out 10).trans rfl
   have hcz12_11 : w5.cell? ⟨gb366,11,none⟩ = some (.slice A0_11 l0_11.length c0_11):=(bC BK366.out 11).trans rfl
   have hfz12_0:=bF BK366.out 0
   have hfz12_1:=bF BK366.out 1
   have hfz12_2:=bF BK366.out 2
   have hfz12_3:=bF BK366.out 3
   have hfz12_4:=bF BK366.out 4
   have hfz12_5:=bF BK366.out 5
   have hfz12_6:=bF BK366.out 6
   have hfz12_7:=bF BK366.out 7
   have hfz12_8:=bF BK366.out 8
   have hfz12_9:=bF BK366.out 9
   have hfz12_10:=bF BK366.out 10
   have hfz12_11:=bF BK366.out 11
   have hcz13_0 : w5.cell? ⟨gb367,0,none⟩ = some (.int .i64 a1_0):=(bC BK367.out 0).trans rfl
   have hcz13_1 : w5.cell? ⟨gb367,1,none⟩ = some (.int .i64 a1_1):=(bC BK367.out 1).trans rfl
   have hcz13_2 : w5.cell? ⟨gb367,2,none⟩ = some (.int .i64 a1_2):=(bC BK367.out 2).trans rfl
   have hcz13_3 : w5.cell? ⟨gb367,3,none⟩ = some (.int .i64 a1_3):=(bC BK367.out 3).trans rfl
   have hcz13_4 : w5.cell? ⟨gb367,4,none⟩ = some (.int .i64 a1_4):=(bC BK367.out 4).trans rfl
   have hcz13_5 : w5.cell? ⟨gb367,5,none⟩ = some (.int .i64 a1_5):=(bC BK367.out 5).trans rfl
   have hcz13_6 : w5.cell? ⟨gb367,6,none⟩ = some (.int .i64 a1_6):=(bC BK367.out 6).trans rfl
   have hcz13_7 : w5.cell? ⟨gb367,7,none⟩ = some (.int .i64 a1_7):=(bC BK367.out 7).trans rfl
   have hcz13_8 : w5.cell? ⟨gb367,8,none⟩ = some (.int .i64 a1_8):=(bC BK367.out 8).trans rfl
   have hcz13_9 : w5.cell? ⟨gb367,9,none⟩ = some (.slice A1_9 l1_9.length c1_9):=(bC BK367.out 9).trans rfl
   have hcz13_10 : w5.cell? ⟨gb367,10,none⟩ = some (.slice A1_10 l1_10.length c1_10):=(bC BK367.out 10).trans rfl
   have hcz13_11 : w5.cell? ⟨gb367,11,none⟩ = some (.slice A1_11 l1_11.length c1_11):=(bC BK367.out 11).trans rfl
   have hfz13_0:=bF BK367.out 0
   have hfz13_1:=bF BK367.out 1
   have hfz13_2:=bF BK367.out 2
   have hfz13_3:=bF BK367.out 3
   have hfz13_4:=bF BK367.out 4
   have hfz13_5:=bF BK367.out 5
   have hfz13_6:=bF BK367.out 6
   have hfz13_7:=bF BK367.out 7
   have hfz13_8:=bF BK367.out 8
   have hfz13_9:=bF BK367.out 9
   have hfz13_10:=bF BK367.out 10
   have hfz13_11:=bF BK367.out 11
   go_wp2
   repeat (go_quiet (fail);try go_wp2)
   go_meet
   case rel=>exact ⟨_,(true),(by first|rfl|(simp;done)|(simp [*];done)),H',⟨by first|omega|exact Nat.le_refl _⟩,⟨by (with_reducible repeat (first|refine bN ?_ _|refine bD ?_|refine bA ?_ _));exact BK366.out⟩,⟨by (with_reducible repeat (first|refine bN ?_ _|refine bD ?_|refine bA ?_ _));exact BK367.out⟩,⟨by repeat (first|(with_reducible first|exact HB.out|apply bL|apply pN|apply bE|refine bS ?_ GE366.out|refine bS ?_ GE367.out)|exact HB.out)⟩⟩
  rw [if_neg c10] at H
  have c10b0 : (!(a0_4 == a1_4) || (!(a0_5 == a1_5) || (!(a0_6 == a1_6) || (!(a0_7 == a1_7) || (!(a0_8 == a1_8)))))) = false:=by simpa using c10
  clear c10
  by_cases c14 : (l0_9.length : Int) = (l1_9.length : Int)
  rotate_left
  ·rw [if_neg c14] at H
   have c14b0 : ((l0_9.length : Int) == (l1_9.length : Int)) = false:=beq_eq_false_iff_ne.mpr c14
   have c14b1 : ((l0_9.length : Int) != (l1_9.length : Int)) = true:=bne_iff_ne.mpr c14
   have c14b2 : (l0_9.length == l1_9.length) = false:=by first|simpa using c14|(simp at c14 ⊢;omega)
   have H':=Am H
   clear H
   have hnb22:=NB366_367.out
   have hnc22:=NB367_366.out
   have hcz23_0 : w5.cell? ⟨gb366,0,none⟩ = some (.int .i64 a0_0):=(bC BK366.out 0).trans rfl
   have hcz23_1 : w5.cell? ⟨gb366,1,none⟩ = some (.int .i64 a0_1):=(bC BK366.out 1).trans rfl
   have hcz23_2 : w5.cell? ⟨gb366,2,none⟩ = some (.int .i64 a0_2):=(bC BK366.out 2).trans rfl
   have hcz23_3 : w5.cell? ⟨gb366,3,none⟩ = some (.int .i64 a0_3):=(bC BK366.out 3).trans rfl
   have hcz23_4 : w5.cell? ⟨gb366,4,none⟩ = some (.int .i64 a0_4):=(bC BK366.out 4).trans rfl
   have hcz23_5 : w5.cell? ⟨gb366,5,none⟩ = some (.int .i64 a0_5):=(bC BK366.out 5).trans rfl
   have hcz23_6 : w5.cell? ⟨gb366,6,none⟩ = some (.int .i64 a0_6):=(bC BK366.out 6).trans rfl
   have hcz23_7 : w5.cell? ⟨gb366,7,none⟩ = some (.int .i64 a0_7):=(bC BK366.out 7).trans rfl
   have hcz23_8 : w5.cell? ⟨gb366,8,none⟩ = some (.int .i64 a0_8):=(bC BK366.out 8).trans rfl
   have hcz23_9 : w5.cell? ⟨gb366,9,none⟩ = some (.slice A0_9 l0_9.length c0_9):=(bC BK366.out 9).trans rfl
   have hcz23_10 : w5.cell? ⟨gb366,10,none⟩ = some (.slice A0_10 l0_10.length c0_10):=(bC BK366.out 10).trans rfl
   have hcz23_11 : w5.cell? ⟨gb366,11,none⟩ = some (.slice A0_11 l0_11.length c0_11):=(bC BK366.out 11).trans rfl
   have hfz23_0:=bF BK366.out 0
   have hfz23_1:=bF BK366.out 1
   have hfz23_2:=bF BK366.out 2
   have hfz23_3:=bF BK366.out 3
   have hfz23_4:=bF BK366.out 4
   have hfz23_5:=bF BK366.out 5
   have hfz23_6:=bF BK366.out 6
   have hfz23_7:=bF BK366.out 7
   have hfz23_8:=bF BK366.out 8
   have hfz23_9:=bF BK366.out 9
   have hfz23_10:=bF BK366.out 10
   have hfz23_11:=bF BK366.out 11
   have hcz24_0 : w5.cell? ⟨gb367,0,none⟩ = some (.int .i64 a1_0):=(bC BK367.out 0).trans rfl
   have hcz24_1 : w5.cell? ⟨gb367,1,none⟩ = some (.int .i64 a1_1):=(bC BK367.out 1).trans rfl
   have hcz24_2 : w5.cell? ⟨gb367,2,none⟩ = some (.int .i64 a1_2):=(bC BK367.out 2).trans rfl
   have hcz24_3 : w5.cell? ⟨gb367,3,none⟩ = some (.int .i64 a1_3):=(bC BK367.out 3).trans rfl
   have hcz24_4 : w5.cell? ⟨gb367,4,none⟩ = some (.int .i64 a1_4):=(bC BK367.out 4).trans rfl
   have hcz24_5 : w5.cell? ⟨gb367,5,none⟩ = some (.int .i64 a1_5):=(bC BK367.out 5).trans rfl
   have hcz24_6 : w5.cell? ⟨gb367,6,none⟩ = some (.int .i64 a1_6):=(bC BK367.out 6).trans rfl
   have hcz24_7 : w5.cell? ⟨gb367,7,none⟩ = some (.int .i64 a1_7):=(bC BK367.out 7).trans rfl
   have hcz24_8 : w5.cell? ⟨gb367,8,none⟩ = some (.int .i64 a1_8):=(bC BK367.out 8).trans rfl
   have hcz24_9 : w5.cell? ⟨gb367,9,none⟩ = some (.slice A1_9 l1_9.length c1_9):=(bC BK367.out 9).trans rfl
   have hcz24_10 : w5.cell? ⟨gb367,10,none⟩ = some (.slice A1_10 l1_10.length c1_10):=(bC BK367.out 10).trans rfl
   have hcz24_11 : w5.cell? ⟨gb367,11,none⟩ = some (.slice A1_11 l1_11.length c1_11):=(bC BK367.out 11).trans rfl
   have hfz24_0:=bF BK367.out 0
   have hfz24_1:=bF BK367.out 1
   have hfz24_2:=bF BK367.out 2
   have hfz24_3:=bF BK367.out 3
   have hfz24_4:=bF BK367.out 4
   have hfz24_5:=bF BK367.out 5
   have hfz24_6:=bF BK367.out 6
   have hfz24_7:=bF BK367.out 7
   have hfz24_8:=bF BK367.out 8
   have hfz24_9:=bF BK367.out 9
   have hfz24_10:=bF BK367.out 10
   have hfz24_11:=bF BK367.out 11
   go_wp2
   repeat (go_quiet (fail);try go_wp2)
   go_meet
   case rel=>exact ⟨_,(true),(by first|rfl|(simp;done)|(simp [*];done)),H',⟨by first|omega|exact Nat.le_refl _⟩,⟨by (with_reducible repeat (first|refine bN ?_ _|refine bD ?_|refine bA ?_ _));exact BK366.out⟩,⟨by (with_reducible repeat (first|refine bN ?_ _|refine bD ?_|refine bA ?_ _));exact BK367.out⟩,⟨by repeat (first|(with_reducible first|exact HB.out|apply bL|apply pN|apply bE|refine bS ?_ GE366.out|refine bS ?_ GE367.out)|exact HB.out)⟩⟩
  rw [if_pos c14] at H
  have c14b0 : ((l0_9.length : Int) == (l1_9.length : Int)) = true:=beq_iff_eq.mpr c14
  have c14b1 : ((l0_9.length : Int) != (l1_9.length : Int)) = false:=bne_eq_false_iff_eq.mpr c14
  have c14b2 : (l0_9.length == l1_9.length) = true:=by first|simpa using c14|(simp at c14 ⊢;omega)
  clear c14
  by_cases c15 : (l0_10.length : Int) = (l1_10.length : Int)
  rotate_left
  ·rw [if_neg c15] at H
   have c15b0 : ((l0_10.length : Int) == (l1_10.length : Int)) = false:=beq_eq_false_iff_ne.mpr c15
   have c15b1 : ((l0_10.length : Int) != (l1_10.length : Int)) = true:=bne_iff_ne.mpr c15
   have c15b2 : (l0_10.length == l1_10.length) = false:=by first|simpa using c15|(simp at c15 ⊢;omega)
   have H':=Am H
   clear H
   have hnb19:=NB366_367.out
   have hnc19:=NB367_366.out
   have hcz20_0 : w5.cell? ⟨gb366,0,none⟩ = some (.int .i64 a0_0):=(bC BK366.out 0).trans rfl
   have hcz20_1 : w5.cell? ⟨gb366,1,none⟩ = some (.int .i64 a0_1):=(bC BK366.out 1).trans rfl
   have hcz20_2 : w5.cell? ⟨gb366,2,none⟩ = some (.int .i64 a0_2):=(bC BK366.out 2).trans rfl
   have hcz20_3 : w5.cell? ⟨gb366,3,none⟩ = some (.int .i64 a0_3):=(bC BK366.out 3).trans rfl
   have hcz20_4 : w5.cell? ⟨gb366,4,none⟩ = some (.int .i64 a0_4):=(bC BK366.out 4).trans rfl
   have hcz20_5 : w5.cell? ⟨gb366,5,none⟩ = some (.int .i64 a0_5):=(bC BK366.out 5).trans rfl
   have hcz20_6 : w5.cell? ⟨gb366,6,none⟩ = some (.int .i64 a0_6):=(bC BK366.out 6).trans rfl
   have hcz20_7 : w5.cell? ⟨gb366,7,none⟩ = some (.int .i64 a0_7):=(bC BK366.out 7).trans rfl
   have hcz20_8 : w5.cell? ⟨gb366,8,none⟩ = some (.int .i64 a0_8):=(bC BK366.out 8).trans rfl
   have hcz20_9 : w5.cell? ⟨gb366,9,none⟩ = some (.slice A0_9 l0_9.length c0_9):=(bC BK366.out 9).trans rfl
   have hcz20_10 : w5.cell? ⟨gb366,10,none⟩ = some (.slice A0_10 l0_10.length c0_10):=(bC BK366.out 10).trans rfl
   have hcz20_11 : w5.cell? ⟨gb366,11,none⟩ = some (.slice A0_11 l0_11.length c0_11):=(bC BK366.out 11).trans rfl
   have hfz20_0:=bF BK366.out 0
   have hfz20_1:=bF BK366.out 1
   have hfz20_2:=bF BK366.out 2
   have hfz20_3:=bF BK366.out 3
   have hfz20_4:=bF BK366.out 4
   have hfz20_5:=bF BK366.out 5
   have hfz20_6:=bF BK366.out 6
   have hfz20_7:=bF BK366.out 7
   have hfz20_8:=bF BK366.out 8
   have hfz20_9:=bF BK366.out 9
   have hfz20_10:=bF BK366.out 10
   have hfz20_11:=bF BK366.out 11
   have hcz21_0 : w5.cell? ⟨gb367,0,none⟩ = some (.int .i64 a1_0):=(bC BK367.out 0).trans rfl
   have hcz21_1 : w5.cell? ⟨gb367,1,none⟩ = some (.int .i64 a1_1):=(bC BK367.out 1).trans rfl
   have hcz21_2 : w5.cell? ⟨gb367,2,none⟩ = some (.int .i64 a1_2):=(bC BK367.out 2).trans rfl
   have hcz21_3 : w5.cell? ⟨gb367,3,none⟩ = some (.int .i64 a1_3):=(bC BK367.out 3).trans rfl
   have hcz21_4 : w5.cell? ⟨gb367,4,none⟩ = some (.int .i64 a1_4):=(bC BK367.out 4).trans rfl
   have hcz21_5 : w5.cell? ⟨gb367,5,none⟩ = some (.int .i64 a1_5):=(bC BK367.out 5).trans rfl
   have hcz21_6 : w5.cell? ⟨gb367,6,none⟩ = some (.int .i64 a1_6):=(bC BK367.out 6).trans rfl
   have hcz21_7 : w5.cell? ⟨gb367,7,none⟩ = some (.int .i64 a1_7):=(bC BK367.out 7).trans rfl
   have hcz21_8 : w5.cell? ⟨gb367,8,none⟩ = some (.int .i64 a1_8):=(bC BK367.out 8).trans rfl
   have hcz21_9 : w5.cell? ⟨gb367,9,none⟩ = some (.slice A1_9 l1_9.length c1_9):=(bC BK367.out 9).trans rfl
   have hcz21_10 : w5.cell? ⟨gb367,10,none⟩ = some (.slice A1_10 l1_10.length c1_10):=(bC BK367.out 10).trans rfl
   have hcz21_11 : w5.cell? ⟨gb367,11,none⟩ = some (.slice A1_11 l1_11.length c1_11):=(bC BK367.out 11).trans rfl
   have hfz21_0:=bF BK367.out 0
   have hfz21_1:=bF BK367.out 1
   have hfz21_2:=bF BK367.out 2
   have hfz21_3:=bF BK367.out 3
   have hfz21_4:=bF BK367.out 4
   have hfz21_5:=bF BK367.out 5
   have hfz21_6:=bF BK367.out 6
   have hfz21_7:=bF BK367.out 7
   have hfz21_8:=bF BK367.out 8
   have hfz21_9:=bF BK367.out 9
   have hfz21_10:=bF BK367.out 10
   have hfz21_11:=bF BK367.out 11
   go_wp2
   repeat (go_quiet (fail);try go_wp2)
   go_meet
   case rel=>exact ⟨_,(true),(by first|rfl|(simp;done)|(simp [*];done)),H',⟨by first|omega|exact Nat.le_refl _⟩,⟨by (with_reducible repeat (first|refine bN ?_ _|refine bD ?_|refine bA ?_ _));exact BK366.out⟩,⟨by (with_reducible repeat (first|refine bN ?_ _|refine bD ?_|refine bA ?_ _));exact BK367.out⟩,⟨by repeat (first|(with_reducible first|exact HB.out|apply bL|apply pN|apply bE|refine bS ?_ GE366.out|refine bS ?_ GE367.out)|exact HB.out)⟩⟩
  rw [if_pos c15] at H
  have c15b0 : ((l0_10.length : Int) == (l1_10.length : Int)) = true:=beq_iff_eq.mpr c15
  have c15b1 : ((l0_10.length : Int) != (l1_10.length : Int)) = false:=bne_eq_false_iff_eq.mpr c15
  have c15b2 : (l0_10.length == l1_10.length) = true:=by first|simpa using c15|(simp at c15 ⊢;omega)
  clear c15
  have H':=Am H
  clear H
  have hnb16:=NB366_367.out
  have hnc16:=NB367_366.out
  have hcz17_0 : w5.cell? ⟨gb366,0,none⟩ = some (.int .i64 a0_0):=(bC BK366.out 0).trans rfl
  have hcz17_1 : w5.cell? ⟨gb366,1,none⟩ = some (.int .i64 a0_1):=(bC BK366.out 1).trans rfl
  have hcz17_2 : w5.cell? ⟨gb366,2,none⟩ = some (.int .i64 a0_2):=(bC BK366.out 2).trans rfl
  have hcz17_3 : w5.cell? ⟨gb366,3,none⟩ = some (.int .i64 a0_3):=(bC BK366.out 3).trans rfl
  have hcz17_4 : w5.cell? ⟨gb366,4,none⟩ = some (.int .i64 a0_4):=(bC BK366.out 4).trans rfl
  have hcz17_5 : w5.cell? ⟨gb366,5,none⟩ = some (.int .i64 a0_5):=(bC BK366.out 5).trans rfl
  have hcz17_6 : w5.cell? ⟨gb366,6,none⟩ = some (.int .i64 a0_6):=(bC BK366.out 6).trans rfl
  have hcz17_7 : w5.cell? ⟨gb366,7,none⟩ = some (.int .i64 a0_7):=(bC BK366.out 7).trans rfl
  have hcz17_8 : w5.cell? ⟨gb366,8,none⟩ = some (.int .i64 a0_8):=(bC BK366.out 8).trans rfl
  have hcz17_9 : w5.cell? ⟨gb366,9,none⟩ = some (.slice A0_9 l0_9.length c0_9):=(bC BK366.out 9).trans rfl
  have hcz17_10 : w5.cell? ⟨gb366,10,none⟩ = some (.slice A0_10 l0_10.length c0_10):=(bC BK366.out 10).trans rfl
  have hcz17_11 : w5.cell? ⟨gb366,11,none⟩ = some (.slice A0_11 l0_11.length c0_11):=(bC BK366.out 11).trans rfl
  have hfz17_0:=bF BK366.out 0
  have hfz17_1:=bF BK366.out 1
  have hfz17_2:=bF BK366.out 2
  have hfz17_3:=bF BK366.out 3
  have hfz17_4:=bF BK366.out 4
  have hfz17_5:=bF BK366.out 5
  have hfz17_6:=bF BK366.out 6
  have hfz17_7:=bF BK366.out 7
  have hfz17_8:=bF BK366.out 8
  have hfz17_9:=bF BK366.out 9
  have hfz17_10:=bF BK366.out 10
  have hfz17_11:=bF BK366.out 11
  have hcz18_0 : w5.cell? ⟨gb367,0,none⟩ = some (.int .i64 a1_0):=(bC BK367.out 0).trans rfl
  have hcz18_1 : w5.cell? ⟨gb367,1,none⟩ = some (.int .i64 a1_1):=(bC BK367.out 1).trans rfl
  have hcz18_2 : w5.cell? ⟨gb367,2,none⟩ = some (.int .i64 a1_2):=(bC BK367.out 2).trans rfl
  have hcz18_3 : w5.cell? ⟨gb367,3,none⟩ = some (.int .i64 a1_3):=(bC BK367.out 3).trans rfl
  have hcz18_4 : w5.cell? ⟨gb367,4,none⟩ = some (.int .i64 a1_4):=(bC BK367.out 4).trans rfl
  have hcz18_5 : w5.cell? ⟨gb367,5,none⟩ = some (.int .i64 a1_5):=(bC BK367.out 5).trans rfl
  have hcz18_6 : w5.cell? ⟨gb367,6,none⟩ = some (.int .i64 a1_6):=(bC BK367.out 6).trans rfl
  have hcz18_7 : w5.cell? ⟨gb367,7,none⟩ = some (.int .i64 a1_7):=(bC BK367.out 7).trans rfl
  have hcz18_8 : w5.cell? ⟨gb367,8,none⟩ = some (.int .i64 a1_8):=(bC BK367.out 8).trans rfl
  have hcz18_9 : w5.cell? ⟨gb367,9,none⟩ = some (.slice A1_9 l1_9.length c1_9):=(bC BK367.out 9).trans rfl
  have hcz18_10 : w5.cell? ⟨gb367,10,none⟩ = some (.slice A1_10 l1_10.length c1_10):=(bC BK367.out 10).trans rfl
  have hcz18_11 : w5.cell? ⟨gb367,11,none⟩ = some (.slice A1_11 l1_11.length c1_11):=(bC BK367.out 11).trans rfl
  have hfz18_0:=bF BK367.out 0
  have hfz18_1:=bF BK367.out 1
  have hfz18_2:=bF BK367.out 2
  have hfz18_3:=bF BK367.out 3
  have hfz18_4:=bF BK367.out 4
  have hfz18_5:=bF BK367.out 5
  have hfz18_6:=bF BK367.out 6
  have hfz18_7:=bF BK367.out 7
  have hfz18_8:=bF BK367.out 8
  have hfz18_9:=bF BK367.out 9
  have hfz18_10:=bF BK367.out 10
  have hfz18_11:=bF BK367.out 11
  go_wp2
  repeat (go_quiet (fail);try go_wp2)
  go_meet
  case rel=>exact ⟨_,(((l0_11.length : Int) != (l1_11.length : Int))),(by first|rfl|(simp;done)|(simp [*];done)),H',⟨by first|omega|exact Nat.le_refl _⟩,⟨by (with_reducible repeat (first|refine bN ?_ _|refine bD ?_|refine bA ?_ _));exact BK366.out⟩,⟨by (with_reducible repeat (first|refine bN ?_ _|refine bD ?_|refine bA ?_ _));exact BK367.out⟩,⟨by repeat (first|(with_reducible first|exact HB.out|apply bL|apply pN|apply bE|refine bS ?_ GE366.out|refine bS ?_ GE367.out)|exact HB.out)⟩⟩
 case rest =>
  clear HC3
  obtain ⟨kq,x67_2,rfl,HA,HJ2,BK366,BK367,HB⟩:=hcut
  cases kq with
  | zero=>exact absurd HA.out (by simp [gangerref10_Same.j0])
  | succ kj2 =>
   have H:=HA.out
   clear HA
   simp only [gangerref10_Same.j0] at H
   by_cases c37 : x67_2 = true
   ·subst c37
    have H1 : (some false) = some r:=by rw [if_pos rfl] at H;exact H
    clear H
    have H:=H1
    clear H1
    obtain rfl:=Option.some.inj H
    go_wp2
    repeat (go_quiet (fail);try go_wp2)
    go_ret
    exact ⟨by first|rfl|(simp [errW_none,errW_some] <;> rfl)|(simp [*,errW_none,errW_some] <;> rfl),by repeat (first|(with_reducible first|exact HB.out|apply bL|apply pN|apply bE|refine bS ?_ GE366.out|refine bS ?_ GE367.out)|exact HB.out)⟩
   replace c37:=Bool.eq_false_iff.mpr c37
   subst c37
   have H1 : (gangerref10_Same.l0 kj2 0 a0_0 a0_1 a0_2 a0_3 a0_4 a0_5 a0_6 a0_7 a0_8 l0_9 l0_10 l0_11 a1_0 a1_1 a1_2 a1_3 a1_4 a1_5 a1_6 a1_7 a1_8 l1_9 l1_10 l1_11) = some r:=by rw [if_neg (show ¬ (false = true) by decide)] at H;exact H
   clear H
   have H:=H1
   clear H1
   have H':=Am H
   clear H
   go_wp2
   repeat (go_quiet (fail);try go_wp2)
   go_loopg [5] kj2 (fun kq v5 w'=>∃ (x5_2 : Int),v5 = .int .i64 x5_2∧Aside0 (gangerref10_Same.l0 kq x5_2 a0_0 a0_1 a0_2 a0_3 a0_4 a0_5 a0_6 a0_7 a0_8 l0_9 l0_10 l0_11 a1_0 a1_1 a1_2 a1_3 a1_4 a1_5 a1_6 a1_7 a1_8 l1_9 l1_10 l1_11 = some r)∧Aside0 (kq≤kj2)∧Aside0 (w'.heap[gb366]? = some (.cells #[.int .i64 a0_0,.int .i64 a0_1,.int .i64 a0_2,.int .i64 a0_3,.int .i64 a0_4,.int .i64 a0_5,.int .i64 a0_6,.int .i64 a0_7,.int .i64 a0_8,(.slice A0_9 l0_9.length c0_9),(.slice A0_10 l0_10.length c0_10),(.slice A0_11 l0_11.length c0_11)] 28 (0,0)))∧Aside0 (w'.heap[gb367]? = some (.cells #[.int .i64 a1_0,.int .i64 a1_1,.int .i64 a1_2,.int .i64 a1_3,.int .i64 a1_4,.int .i64 a1_5,.int .i64 a1_6,.int .i64 a1_7,.int .i64 a1_8,(.slice A1_9 l1_9.length c1_9),(.slice A1_10 l1_10.length c1_10),(.slice A1_11 l1_11.length c1_11)] 28 (0,0)))∧Aside0 (Below w.heap.size w w'))
   case atStart=>exact ⟨(0),(by first|rfl|(simp;done)|(simp [*];done)),H',⟨Nat.le_refl _⟩,⟨by (with_reducible repeat (first|refine bN ?_ _|refine bD ?_|refine bA ?_ _));exact BK366.out⟩,⟨by (with_reducible repeat (first|refine bN ?_ _|refine bD ?_|refine bA ?_ _));exact BK367.out⟩,⟨by repeat (first|(with_reducible first|exact HB.out|apply bL|apply pN|apply bE|refine bS ?_ GE366.out|refine bS ?_ GE367.out)|exact HB.out)⟩⟩
   case round =>
    clear H'
    obtain ⟨x5_2,rfl,HA,HK2,BK366,BK367,HB⟩:=hrel
    cases gk with
    | zero=>exact absurd HA.out (by simp [gangerref10_Same.l0])
    | succ k2 =>
     have H:=HA.out
     clear HA
     simp only [gangerref10_Same.l0] at H
     by_cases c38 : x5_2 < (l0_9.length : Int)
     ·rw [if_pos c38] at H
      have c38b0 : decide (x5_2 < (l0_9.length : Int)) = true:=decide_eq_true c38
      clear c38
      by_cases c39 : 0≤x5_2
      rotate_left
      ·rw [if_neg c39] at H
       exact absurd H (by simp)
      rw [if_pos c39] at H
      have c39b0 : decide (0≤x5_2) = true:=decide_eq_true c39
      clear c39
      by_cases c40 : x5_2 < (l1_9.length : Int)
      rotate_left
      ·rw [if_neg c40] at H
       exact absurd H (by simp)
      rw [if_pos c40] at H
      have c40b0 : decide (x5_2 < (l1_9.length : Int)) = true:=decide_eq_true c40
      clear c40
      by_cases c41 : (!((((rd_T50 l0_9 x5_2).f0).toList) == (((rd_T50 l1_9 x5_2).f0).toList)) || (!(((rd_T50 l0_9 x5_2).f1) == ((rd_T50 l1_9 x5_2).f1)) || (!(((rd_T50 l0_9 x5_2).f2) == ((rd_T50 l1_9 x5_2).f2)) || (!(((rd_T50 l0_9 x5_2).f3) == ((rd_T50 l1_9 x5_2).f3)))))) = true
      ·rw [if_pos c41] at H
       have c41b0 : (!((((rd_T50 l0_9 x5_2).f0).toList) == (((rd_T50 l1_9 x5_2).f0).toList)) || (!(((rd_T50 l0_9 x5_2).f1) == ((rd_T50 l1_9 x5_2).f1)) || (!(((rd_T50 l0_9 x5_2).f2) == ((rd_T50 l1_9 x5_2).f2)) || (!(((rd_T50 l0_9 x5_2).f3) == ((rd_T50 l1_9 x5_2).f3)))))) = true:=c41
       clear c41
       obtain rfl:=Option.some.inj H
       have hnb42:=NB366_367.out
       have hnc42:=NB367_366.out
       have hcz43_0 : wr.cell? ⟨gb366,0,none⟩ = some (.int .i64 a0_0):=(bC BK366.out 0).trans rfl
       have hcz43_1 : wr.cell? ⟨gb366,1,none⟩ = some (.int .i64 a0_1):=(bC BK366.out 1).trans rfl
       have hcz43_2 : wr.cell? ⟨gb366,2,none⟩ = some (.int .i64 a0_2):=(bC BK366.out 2).trans rfl
       have hcz43_3 : wr.cell? ⟨gb366,3,none⟩ = some (.int .i64 a0_3):=(bC BK366.out 3).trans rfl
       have hcz43_4 : wr.cell? ⟨gb366,4,none⟩ = some (.int .i64 a0_4):=(bC BK366.out 4).trans rfl
       have hcz43_5 : wr.cell? ⟨gb366,5,none⟩ = some (.int .i64 a0_5):=(bC BK366.out 5).trans rfl
       have hcz43_6 : wr.cell? ⟨gb366,6,none⟩ = some (.int .i64 a0_6):=(bC BK366.out 6).trans rfl
       have hcz43_7 : wr.cell? ⟨gb366,7,none⟩ = some (.int .i64 a0_7):=(bC BK366.out 7).trans rfl
       have hcz43_8 : wr.cell? ⟨gb366,8,none⟩ = some (.int .i64 a0_8):=(bC BK366.out 8).trans rfl
       have hcz43_9 : wr.cell? ⟨gb366,9,none⟩ = some (.slice A0_9 l0_9.length c0_9):=(bC BK366.out 9).trans rfl
       have hcz43_10 : wr.cell? ⟨gb366,10,none⟩ = some (.slice A0_10 l0_10.length c0_10):=(bC BK366.out 10).trans rfl
       have hcz43_11 : wr.cell? ⟨gb366,11,none⟩ = some (.slice A0_11 l0_11.length c0_11):=(bC BK366.out 11).trans rfl
       have hfz43_0:=bF BK366.out 0
       have hfz43_1:=bF BK366.out 1
       have hfz43_2:=bF BK366.out 2
       have hfz43_3:=bF BK366.out 3
       have hfz43_4:=bF BK366.out 4
       have hfz43_5:=bF BK366.out 5
       have hfz43_6:=bF BK366.out 6
       have hfz43_7:=bF BK366.out 7
       have hfz43_8:=bF BK366.out 8
       have hfz43_9:=bF BK366.out 9
       have hfz43_10:=bF BK366.out 10
       have hfz43_11:=bF BK366.out 11
       have p368 : 0≤(x5_2 : Int):=of_decide_eq_true (by first|(with_reducible assumption)|assumption)
       have q368 : x5_2 < (l0_9.length : Int):=of_decide_eq_true (by first|(with_reducible assumption)|assumption)
       obtain ⟨ad368,e368,hx368_0,hx368_1,hx368_2,hx368_3⟩:=at_T50 HR0_9.out x5_2 p368 q368
       cases e368
       replace hx368_0:=(HB.out.cell (wB w _ hx368_0)).trans hx368_0
       replace hx368_1:=(HB.out.cell (wB w _ hx368_1)).trans hx368_1
       replace hx368_2:=(HB.out.cell (wB w _ hx368_2)).trans hx368_2
       replace hx368_3:=(HB.out.cell (wB w _ hx368_3)).trans hx368_3
       replace p368:=eq_true p368
       replace q368:=eq_true q368
       have hcz44_0 : wr.cell? ⟨gb367,0,none⟩ = some (.int .i64 a1_0):=(bC BK367.out 0).trans rfl
       have hcz44_1 : wr.cell? ⟨gb367,1,none⟩ = some (.int .i64 a1_1):=(bC BK367.out 1).trans rfl
       have hcz44_2 : wr.cell? ⟨gb367,2,none⟩ = some (.int .i64 a1_2):=(bC BK367.out 2).trans rfl
       have hcz44_3 : wr.cell? ⟨gb367,3,none⟩ = some (.int .i64 a1_3):=(bC BK367.out 3).trans rfl
       have hcz44_4 : wr.cell? ⟨gb367,4,none⟩ = some (.int .i64 a1_4):=(bC BK367.out 4).trans rfl
       have hcz44_5 : wr.cell? ⟨gb367,5,none⟩ = some (.int .i64 a1_5):=(bC BK367.out 5).trans rfl
       have hcz44_6 : wr.cell? ⟨gb367,6,none⟩ = some (.int .i64 a1_6):=(bC BK367.out 6).trans rfl
       have hcz44_7 : wr.cell? ⟨gb367,7,none⟩ = some (.int .i64 a1_7):=(bC BK367.out 7).trans rfl
       have hcz44_8 : wr.cell? ⟨gb367,8,none⟩ = some (.int .i64 a1_8):=(bC BK367.out 8).trans rfl
       have hcz44_9 : wr.cell? ⟨gb367,9,none⟩ = some (.slice A1_9 l1_9.length c1_9):=(bC BK367.out 9).trans rfl
       have hcz44_10 : wr.cell? ⟨gb367,10,none⟩ = some (.slice A1_10 l1_10.length c1_10):=(bC BK367.out 10).trans rfl
       have hcz44_11 : wr.cell? ⟨gb367,11,none⟩ = some (.slice A1_11 l1_11.length c1_11):=(bC BK367.out 11).trans rfl
       have hfz44_0:=bF BK367.out 0
       have hfz44_1:=bF BK367.out 1
       have hfz44_2:=bF BK367.out 2
       have hfz44_3:=bF BK367.out 3
       have hfz44_4:=bF BK367.out 4
       have hfz44_5:=bF BK367.out 5
       have hfz44_6:=bF BK367.out 6
       have hfz44_7:=bF BK367.out 7
       have hfz44_8:=bF BK367.out 8
       have hfz44_9:=bF BK367.out 9
       have hfz44_10:=bF BK367.out 10
       have hfz44_11:=bF BK367.out 11
       have p369 : 0≤(x5_2 : Int):=of_decide_eq_true (by first|(with_reducible assumption)|assumption)
       have q369 : x5_2 < (l1_9.length : Int):=of_decide_eq_true (by first|(with_reducible assumption)|assumption)
       obtain ⟨ad369,e369,hx369_0,hx369_1,hx369_2,hx369_3⟩:=at_T50 HR1_9.out x5_2 p369 q369
       cases e369
       replace hx369_0:=(HB.out.cell (wB w _ hx369_0)).trans hx369_0
       replace hx369_1:=(HB.out.cell (wB w _ hx369_1)).trans hx369_1
       replace hx369_2:=(HB.out.cell (wB w _ hx369_2)).trans hx369_2
       replace hx369_3:=(HB.out.cell (wB w _ hx369_3)).trans hx369_3
       replace p369:=eq_true p369
       replace q369:=eq_true q369
       go_wp2
       repeat (go_quiet (fail);try go_wp2)
       go_ret
       exact ⟨by first|rfl|(simp [errW_none,errW_some] <;> rfl)|(simp [*,errW_none,errW_some] <;> rfl),by repeat (first|(with_reducible first|exact HB.out|apply bL|apply pN|apply bE|refine bS ?_ GE366.out|refine bS ?_ GE367.out)|exact HB.out)⟩
      rw [if_neg c41] at H
      have c41b0 : (!((((rd_T50 l0_9 x5_2).f0).toList) == (((rd_T50 l1_9 x5_2).f0).toList)) || (!(((rd_T50 l0_9 x5_2).f1) == ((rd_T50 l1_9 x5_2).f1)) || (!(((rd_T50 l0_9 x5_2).f2) == ((rd_T50 l1_9 x5_2).f2)) || (!(((rd_T50 l0_9 x5_2).f3) == ((rd_T50 l1_9 x5_2).f3)))))) = false:=by simpa using c41
      clear c41
      have H':=Am H
      clear H
      have hnb45:=NB366_367.out
      have hnc45:=NB367_366.out
      have hcz46_0 : wr.cell? ⟨gb366,0,none⟩ = some (.int .i64 a0_0):=(bC BK366.out 0).trans rfl
      have hcz46_1 : wr.cell? ⟨gb366,1,none⟩ = some (.int .i64 a0_1):=(bC BK366.out 1).trans rfl
      have hcz46_2 : wr.cell? ⟨gb366,2,none⟩ = some (.int .i64 a0_2):=(bC BK366.out 2).trans rfl
      have hcz46_3 : wr.cell? ⟨gb366,3,none⟩ = some (.int .i64 a0_3):=(bC BK366.out 3).trans rfl
      have hcz46_4 : wr.cell? ⟨gb366,4,none⟩ = some (.int .i64 a0_4):=(bC BK366.out 4).trans rfl
      have hcz46_5 : wr.cell? ⟨gb366,5,none⟩ = some (.int .i64 a0_5):=(bC BK366.out 5).trans rfl
      have hcz46_6 : wr.cell? ⟨gb366,6,none⟩ = some (.int .i64 a0_6):=(bC BK366.out 6).trans rfl
      have hcz46_7 : wr.cell? ⟨gb366,7,none⟩ = some (.int .i64 a0_7):=(bC BK366.out 7).trans rfl
      have hcz46_8 : wr.cell? ⟨gb366,8,none⟩ = some (.int .i64 a0_8):=(bC BK366.out 8).trans rfl
      have hcz46_9 : wr.cell? ⟨gb366,9,none⟩ = some (.slice A0_9 l0_9.length c0_9):=(bC BK366.out 9).trans rfl
      have hcz46_10 : wr.cell? ⟨gb366,10,none⟩ = some (.slice A0_10 l0_10.length c0_10):=(bC BK366.out 10).trans rfl
      have hcz46_11 : wr.cell? ⟨gb366,11,none⟩ = some (.slice A0_11 l0_11.length c0_11):=(bC BK366.out 11).trans rfl
      have hfz46_0:=bF BK366.out 0
      have hfz46_1:=bF BK366.out 1
      have hfz46_2:=bF BK366.out 2
      have hfz46_3:=bF BK366.out 3
      have hfz46_4:=bF BK366.out 4
      have hfz46_5:=bF BK366.out 5
      have hfz46_6:=bF BK366.out 6
      have hfz46_7:=bF BK366.out 7
      have hfz46_8:=bF BK366.out 8
      have hfz46_9:=bF BK366.out 9
      have hfz46_10:=bF BK366.out 10
      have hfz46_11:=bF BK366.out 11
      have p368 : 0≤(x5_2 : Int):=of_decide_eq_true (by first|(with_reducible assumption)|assumption)
      have q368 : x5_2 < (l0_9.length : Int):=of_decide_eq_true (by first|(with_reducible assumption)|assumption)
      obtain ⟨ad368,e368,hx368_0,hx368_1,hx368_2,hx368_3⟩:=at_T50 HR0_9.out x5_2 p368 q368
      cases e368
      replace hx368_0:=(HB.out.cell (wB w _ hx368_0)).trans hx368_0
      replace hx368_1:=(HB.out.cell (wB w _ hx368_1)).trans hx368_1
      replace hx368_2:=(HB.out.cell (wB w _ hx368_2)).trans hx368_2
      replace hx368_3:=(HB.out.cell (wB w _ hx368_3)).trans hx368_3
      replace p368:=eq_true p368
      replace q368:=eq_true q368
      have hcz47_0 : wr.cell? ⟨gb367,0,none⟩ = some (.int .i64 a1_0):=(bC BK367.out 0).trans rfl
      have hcz47_1 : wr.cell? ⟨gb367,1,none⟩ = some (.int .i64 a1_1):=(bC BK367.out 1).trans rfl
      have hcz47_2 : wr.cell? ⟨gb367,2,none⟩ = some (.int .i64 a1_2):=(bC BK367.out 2).trans rfl
      have hcz47_3 : wr.cell? ⟨gb367,3,none⟩ = some (.int .i64 a1_3):=(bC BK367.out 3).trans rfl
      have hcz47_4 : wr.cell? ⟨gb367,4,none⟩ = some (.int .i64 a1_4):=(bC BK367.out 4).trans rfl
      have hcz47_5 : wr.cell? ⟨gb367,5,none⟩ = some (.int .i64 a1_5):=(bC BK367.out 5).trans rfl
      have hcz47_6 : wr.cell? ⟨gb367,6,none⟩ = some (.int .i64 a1_6):=(bC BK367.out 6).trans rfl
      have hcz47_7 : wr.cell? ⟨gb367,7,none⟩ = some (.int .i64 a1_7):=(bC BK367.out 7).trans rfl
      have hcz47_8 : wr.cell? ⟨gb367,8,none⟩ = some (.int .i64 a1_8):=(bC BK367.out 8).trans rfl
      have hcz47_9 : wr.cell? ⟨gb367,9,none⟩ = some (.slice A1_9 l1_9.length c1_9):=(bC BK367.out 9).trans rfl
      have hcz47_10 : wr.cell? ⟨gb367,10,none⟩ = some (.slice A1_10 l1_10.length c1_10):=(bC BK367.out 10).trans rfl
      have hcz47_11 : wr.cell? ⟨gb367,11,none⟩ = some (.slice A1_11 l1_11.length c1_11):=(bC BK367.out 11).trans rfl
      have hfz47_0:=bF BK367.out 0
      have hfz47_1:=bF BK367.out 1
      have hfz47_2:=bF BK367.out 2
      have hfz47_3:=bF BK367.out 3
      have hfz47_4:=bF BK367.out 4
      have hfz47_5:=bF BK367.out 5
      have hfz47_6:=bF BK367.out 6
      have hfz47_7:=bF BK367.out 7
      have hfz47_8:=bF BK367.out 8
      have hfz47_9:=bF BK367.out 9
      have hfz47_10:=bF BK367.out 10
      have hfz47_11:=bF BK367.out 11
      have p369 : 0≤(x5_2 : Int):=of_decide_eq_true (by first|(with_reducible assumption)|assumption)
      have q369 : x5_2 < (l1_9.length : Int):=of_decide_eq_true (by first|(with_reducible assumption)|assumption)
      obtain ⟨ad369,e369,hx369_0,hx369_1,hx369_2,hx369_3⟩:=at_T50 HR1_9.out x5_2 p369 q369
      cases e369
      replace hx369_0:=(HB.out.cell (wB w _ hx369_0)).trans hx369_0
      replace hx369_1:=(HB.out.cell (wB w _ hx369_1)).trans hx369_1
      replace hx369_2:=(HB.out.cell (wB w _ hx369_2)).trans hx369_2
      replace hx369_3:=(HB.out.cell (wB w _ hx369_3)).trans hx369_3
      replace p369:=eq_true p369
      replace q369:=eq_true q369
      go_wp2
      repeat (go_quiet (fail);try go_wp2)
      go_roundg k2
      case measure=>have:=HJ2.out;have:=HK2.out;omega
      case rel=>exact ⟨(wrap64 (x5_2 + 1)),(by first|rfl|(simp;done)|(simp [*];done)),H',⟨by have:=HJ2.out;have:=HK2.out;omega⟩,⟨by (with_reducible repeat (first|refine bN ?_ _|refine bD ?_|refine bA ?_ _));exact BK366.out⟩,⟨by (with_reducible repeat (first|refine bN ?_ _|refine bD ?_|refine bA ?_ _));exact BK367.out⟩,⟨by repeat (first|(with_reducible first|exact HB.out|apply bL|apply pN|apply bE|refine bS ?_ GE366.out|refine bS ?_ GE367.out)|exact HB.out)⟩⟩
     rw [if_neg c38] at H
     have c38b0 : decide (x5_2 < (l0_9.length : Int)) = false:=decide_eq_false c38
     clear c38
     have H':=Am H
     clear H
     have hnb48:=NB366_367.out
     have hnc48:=NB367_366.out
     have hcz49_0 : wr.cell? ⟨gb366,0,none⟩ = some (.int .i64 a0_0):=(bC BK366.out 0).trans rfl
     have hcz49_1 : wr.cell? ⟨gb366,1,none⟩ = some (.int .i64 a0_1):=(bC BK366.out 1).trans rfl
     have hcz49_2 : wr.cell? ⟨gb366,2,none⟩ = some (.int .i64 a0_2):=(bC BK366.out 2).trans rfl
     have hcz49_3 : wr.cell? ⟨gb366,3,none⟩ = some (.int .i64 a0_3):=(bC BK366.out 3).trans rfl
     have hcz49_4 : wr.cell? ⟨gb366,4,none⟩ = some (.int .i64 a0_4):=(bC BK366.out 4).trans rfl
     have hcz49_5 : wr.cell? ⟨gb366,5,none⟩ = some (.int .i64 a0_5):=(bC BK366.out 5).trans rfl
     have hcz49_6 : wr.cell? ⟨gb366,6,none⟩ = some (.int .i64 a0_6):=(bC BK366.out 6).trans rfl
     have hcz49_7 : wr.cell? ⟨gb366,7,none⟩ = some (.int .i64 a0_7):=(bC BK366.out 7).trans rfl
     have hcz49_8 : wr.cell? ⟨gb366,8,none⟩ = some (.int .i64 a0_8):=(bC BK366.out 8).trans rfl
     have hcz49_9 : wr.cell? ⟨gb366,9,none⟩ = some (.slice A0_9 l0_9.length c0_9):=(bC BK366.out 9).trans rfl
     have hcz49_10 : wr.cell? ⟨gb366,10,none⟩ = some (.slice A0_10 l0_10.length c0_10):=(bC BK366.out 10).trans rfl
     have hcz49_11 : wr.cell? ⟨gb366,11,none⟩ = some (.slice A0_11 l0_11.length c0_11):=(bC BK366.out 11).trans rfl
     have hfz49_0:=bF BK366.out 0
     have hfz49_1:=bF BK366.out 1
     have hfz49_2:=bF BK366.out 2
     have hfz49_3:=bF BK366.out 3
     have hfz49_4:=bF BK366.out 4
     have hfz49_5:=bF BK366.out 5
     have hfz49_6:=bF BK366.out 6
     have hfz49_7:=bF BK366.out 7
     have hfz49_8:=bF BK366.out 8
     have hfz49_9:=bF BK366.out 9
     have hfz49_10:=bF BK366.out 10
     have hfz49_11:=bF BK366.out 11
     go_wp2
     repeat (go_quiet (fail);try go_wp2)
     go_loopg [6] k2 (fun kq v6 w'=>∃ (x6_3 : Int),v6 = .int .i64 x6_3∧Aside0 (gangerref10_Same.l1 kq x6_3 a0_0 a0_1 a0_2 a0_3 a0_4 a0_5 a0_6 a0_7 a0_8 l0_9 l0_10 l0_11 a1_0 a1_1 a1_2 a1_3 a1_4 a1_5 a1_6 a1_7 a1_8 l1_9 l1_10 l1_11 = some r)∧Aside0 (kq≤k2)∧Aside0 (w'.heap[gb366]? = some (.cells #[.int .i64 a0_0,.int .i64 a0_1,.int .i64 a0_2,.int .i64 a0_3,.int .i64 a0_4,.int .i64 a0_5,.int .i64 a0_6,.int .i64 a0_7,.int .i64 a0_8,(.slice A0_9 l0_9.length c0_9),(.slice A0_10 l0_10.length c0_10),(.slice A0_11 l0_11.length c0_11)] 28 (0,0)))∧Aside0 (w'.heap[gb367]? = some (.cells #[.int .i64 a1_0,.int .i64 a1_1,.int .i64 a1_2,.int .i64 a1_3,.int .i64 a1_4,.int .i64 a1_5,.int .i64 a1_6,.int .i64 a1_7,.int .i64 a1_8,(.slice A1_9 l1_9.length c1_9),(.slice A1_10 l1_10.length c1_10),(.slice A1_11 l1_11.length c1_11)] 28 (0,0)))∧Aside0 (Below w.heap.size w w'))
     case atStart=>exact ⟨(0),(by first|rfl|(simp;done)|(simp [*];done)),H',⟨Nat.le_refl _⟩,⟨by (with_reducible repeat (first|refine bN ?_ _|refine bD ?_|refine bA ?_ _));exact BK366.out⟩,⟨by (with_reducible repeat (first|refine bN ?_ _|refine bD ?_|refine bA ?_ _));exact BK367.out⟩,⟨by repeat (first|(with_reducible first|exact HB.out|apply bL|apply pN|apply bE|refine bS ?_ GE366.out|refine bS ?_ GE367.out)|exact HB.out)⟩⟩
     case round =>
      clear H'
      obtain ⟨x6_3,rfl,HA,HK3,BK366,BK367,HB⟩:=hrel
      cases gk with
      | zero=>exact absurd HA.out (by simp [gangerref10_Same.l1])
      | succ k3 =>
       have H:=HA.out
       clear HA
       simp only [gangerref10_Same.l1] at H
       by_cases c50 : x6_3 < (l0_10.length : Int)
       ·rw [if_pos c50] at H
        have c50b0 : decide (x6_3 < (l0_10.length : Int)) = true:=decide_eq_true c50
        clear c50
        by_cases c51 : 0≤x6_3
        rotate_left
        ·rw [if_neg c51] at H
         exact absurd H (by simp)
        rw [if_pos c51] at H
        have c51b0 : decide (0≤x6_3) = true:=decide_eq_true c51
        clear c51
        by_cases c52 : x6_3 < (l1_10.length : Int)
        rotate_left
        ·rw [if_neg c52] at H
         exact absurd H (by simp)
        rw [if_pos c52] at H
        have c52b0 : decide (x6_3 < (l1_10.length : Int)) = true:=decide_eq_true c52
        clear c52
        by_cases c53 : (!((((rd_T52 l0_10 x6_3).f0).toList) == (((rd_T52 l1_10 x6_3).f0).toList)) || (!(((rd_T52 l0_10 x6_3).f1) == ((rd_T52 l1_10 x6_3).f1)) || (!(((rd_T52 l0_10 x6_3).f2) == ((rd_T52 l1_10 x6_3).f2))))) = true
        ·rw [if_pos c53] at H
         have c53b0 : (!((((rd_T52 l0_10 x6_3).f0).toList) == (((rd_T52 l1_10 x6_3).f0).toList)) || (!(((rd_T52 l0_10 x6_3).f1) == ((rd_T52 l1_10 x6_3).f1)) || (!(((rd_T52 l0_10 x6_3).f2) == ((rd_T52 l1_10 x6_3).f2))))) = true:=c53
         clear c53
         obtain rfl:=Option.some.inj H
         have hnb54:=NB366_367.out
         have hnc54:=NB367_366.out
         have hcz55_0 : wr.cell? ⟨gb366,0,none⟩ = some (.int .i64 a0_0):=(bC BK366.out 0).trans rfl
         have hcz55_1 : wr.cell? ⟨gb366,1,none⟩ = some (.int .i64 a0_1):=(bC BK366.out 1).trans rfl
         have hcz55_2 : wr.cell? ⟨gb366,2,none⟩ = some (.int .i64 a0_2):=(bC BK366.out 2).trans rfl
         have hcz55_3 : wr.cell? ⟨gb366,3,none⟩ = some (.int .i64 a0_3):=(bC BK366.out 3).trans rfl
         have hcz55_4 : wr.cell? ⟨gb366,4,none⟩ = some (.int .i64 a0_4):=(bC BK366.out 4).trans rfl
         have hcz55_5 : wr.cell? ⟨gb366,5,none⟩ = some (.int .i64 a0_5):=(bC BK366.out 5).trans rfl
         have hcz55_6 : wr.cell? ⟨gb366,6,none⟩ = some (.int .i64 a0_6):=(bC BK366.out 6).trans rfl
         have hcz55_7 : wr.cell? ⟨gb366,7,none⟩ = some (.int .i64 a0_7):=(bC BK366.out 7).trans rfl
         have hcz55_8 : wr.cell? ⟨gb366,8,none⟩ = some (.int .i64 a0_8):=(bC BK366.out 8).trans rfl
         have hcz55_9 : wr.cell? ⟨gb366,9,none⟩ = some (.slice A0_9 l0_9.length c0_9):=(bC BK366.out 9).trans rfl
         have hcz55_10 : wr.cell? ⟨gb366,10,none⟩ = some (.slice A0_10 l0_10.length c0_10):=(bC BK366.out 10).trans rfl
         have hcz55_11 : wr.cell? ⟨gb366,11,none⟩ = some (.slice A0_11 l0_11.length c0_11):=(bC BK366.out 11).trans rfl
         have hfz55_0:=bF BK366.out 0
         have hfz55_1:=bF BK366.out 1
         have hfz55_2:=bF BK366.out 2
         have hfz55_3:=bF BK366.out 3
         have hfz55_4:=bF BK366.out 4
         have hfz55_5:=bF BK366.out 5
         have hfz55_6:=bF BK366.out 6
         have hfz55_7:=bF BK366.out 7
         have hfz55_8:=bF BK366.out 8
         have hfz55_9:=bF BK366.out 9
         have hfz55_10:=bF BK366.out 10
         have hfz55_11:=bF BK366.out 11
         have p370 : 0≤(x6_3 : Int):=of_decide_eq_true (by first|(with_reducible assumption)|assumption)
         have q370 : x6_3 < (l0_10.length : Int):=of_decide_eq_true (by first|(with_reducible assumption)|assumption)
         obtain ⟨ad370,e370,hx370_0,hx370_1,hx370_2⟩:=at_T52 HR0_10.out x6_3 p370 q370
         cases e370
         replace hx370_0:=(HB.out.cell (wB w _ hx370_0)).trans hx370_0
         replace hx370_1:=(HB.out.cell (wB w _ hx370_1)).trans hx370_1
         replace hx370_2:=(HB.out.cell (wB w _ hx370_2)).trans hx370_2
         replace p370:=eq_true p370
         replace q370:=eq_true q370
         have hcz56_0 : wr.cell? ⟨gb367,0,none⟩ = some (.int .i64 a1_0):=(bC BK367.out 0).trans rfl
         have hcz56_1 : wr.cell? ⟨gb367,1,none⟩ = some (.int .i64 a1_1):=(bC BK367.out 1).trans rfl
         have hcz56_2 : wr.cell? ⟨gb367,2,none⟩ = some (.int .i64 a1_2):=(bC BK367.out 2).trans rfl
         have hcz56_3 : wr.cell? ⟨gb367,3,none⟩ = some (.int .i64 a1_3):=(bC BK367.out 3).trans rfl
         have hcz56_4 : wr.cell? ⟨gb367,4,none⟩ = some (.int .i64 a1_4):=(bC BK367.out 4).trans rfl
         have hcz56_5 : wr.cell? ⟨gb367,5,none⟩ = some (.int .i64 a1_5):=(bC BK367.out 5).trans rfl
         have hcz56_6 : wr.cell? ⟨gb367,6,none⟩ = some (.int .i64 a1_6):=(bC BK367.out 6).trans rfl
         have hcz56_7 : wr.cell? ⟨gb367,7,none⟩ = some (.int .i64 a1_7):=(bC BK367.out 7).trans rfl
         have hcz56_8 : wr.cell? ⟨gb367,8,none⟩ = some (.int .i64 a1_8):=(bC BK367.out 8).trans rfl
         have hcz56_9 : wr.cell? ⟨gb367,9,none⟩ = some (.slice A1_9 l1_9.length c1_9):=(bC BK367.out 9).trans rfl
         have hcz56_10 : wr.cell? ⟨gb367,10,none⟩ = some (.slice A1_10 l1_10.length c1_10):=(bC BK367.out 10).trans rfl
         have hcz56_11 : wr.cell? ⟨gb367,11,none⟩ = some (.slice A1_11 l1_11.length c1_11):=(bC BK367.out 11).trans rfl
         have hfz56_0:=bF BK367.out 0
         have hfz56_1:=bF BK367.out 1
         have hfz56_2:=bF BK367.out 2
         have hfz56_3:=bF BK367.out 3
         have hfz56_4:=bF BK367.out 4
         have hfz56_5:=bF BK367.out 5
         have hfz56_6:=bF BK367.out 6
         have hfz56_7:=bF BK367.out 7
         have hfz56_8:=bF BK367.out 8
         have hfz56_9:=bF BK367.out 9
         have hfz56_10:=bF BK367.out 10
         have hfz56_11:=bF BK367.out 11
         have p371 : 0≤(x6_3 : Int):=of_decide_eq_true (by first|(with_reducible assumption)|assumption)
         have q371 : x6_3 < (l1_10.length : Int):=of_decide_eq_true (by first|(with_reducible assumption)|assumption)
         obtain ⟨ad371,e371,hx371_0,hx371_1,hx371_2⟩:=at_T52 HR1_10.out x6_3 p371 q371
         cases e371
         replace hx371_0:=(HB.out.cell (wB w _ hx371_0)).trans hx371_0
         replace hx371_1:=(HB.out.cell (wB w _ hx371_1)).trans hx371_1
         replace hx371_2:=(HB.out.cell (wB w _ hx371_2)).trans hx371_2
         replace p371:=eq_true p371
         replace q371:=eq_true q371
         go_wp2
         repeat (go_quiet (fail);try go_wp2)
         go_ret
         exact ⟨by first|rfl|(simp [errW_none,errW_some] <;> rfl)|(simp [*,errW_none,errW_some] <;> rfl),by repeat (first|(with_reducible first|exact HB.out|apply bL|apply pN|apply bE|refine bS ?_ GE366.out|refine bS ?_ GE367.out)|exact HB.out)⟩
        rw [if_neg c53] at H
        have c53b0 : (!((((rd_T52 l0_10 x6_3).f0).toList) == (((rd_T52 l1_10 x6_3).f0).toList)) || (!(((rd_T52 l0_10 x6_3).f1) == ((rd_T52 l1_10 x6_3).f1)) || (!(((rd_T52 l0_10 x6_3).f2) == ((rd_T52 l1_10 x6_3).f2))))) = false:=by simpa using c53
        clear c53
        have H':=Am H
        clear H
        have hnb57:=NB366_367.out
        have hnc57:=NB367_366.out
        have hcz58_0 : wr.cell? ⟨gb366,0,none⟩ = some (.int .i64 a0_0):=(bC BK366.out 0).trans rfl
        have hcz58_1 : wr.cell? ⟨gb366,1,none⟩ = some (.int .i64 a0_1):=(bC BK366.out 1).trans rfl
        have hcz58_2 : wr.cell? ⟨gb366,2,none⟩ = some (.int .i64 a0_2):=(bC BK366.out 2).trans rfl
        have hcz58_3 : wr.cell? ⟨gb366,3,none⟩ = some (.int .i64 a0_3):=(bC BK366.out 3).trans rfl
        have hcz58_4 : wr.cell? ⟨gb366,4,none⟩ = some (.int .i64 a0_4):=(bC BK366.out 4).trans rfl
        have hcz58_5 : wr.cell? ⟨gb366,5,none⟩ = some (.int .i64 a0_5):=(bC BK366.out 5).trans rfl
        have hcz58_6 : wr.cell? ⟨gb366,6,none⟩ = some (.int .i64 a0_6):=(bC BK366.out 6).trans rfl
        have hcz58_7 : wr.cell? ⟨gb366,7,none⟩ = some (.int .i64 a0_7):=(bC BK366.out 7).trans rfl
        have hcz58_8 : wr.cell? ⟨gb366,8,none⟩ = some (.int .i64 a0_8):=(bC BK366.out 8).trans rfl
        have hcz58_9 : wr.cell? ⟨gb366,9,none⟩ = some (.slice A0_9 l0_9.length c0_9):=(bC BK366.out 9).trans rfl
        have hcz58_10 : wr.cell? ⟨gb366,10,none⟩ = some (.slice A0_10 l0_10.length c0_10):=(bC BK366.out 10).trans rfl
        have hcz58_11 : wr.cell? ⟨gb366,11,none⟩ = some (.slice A0_11 l0_11.length c0_11):=(bC BK366.out 11).trans rfl
        have hfz58_0:=bF BK366.out 0
        have hfz58_1:=bF BK366.out 1
        have hfz58_2:=bF BK366.out 2
        have hfz58_3:=bF BK366.out 3
        have hfz58_4:=bF BK366.out 4
        have hfz58_5:=bF BK366.out 5
        have hfz58_6:=bF BK366.out 6
        have hfz58_7:=bF BK366.out 7
        have hfz58_8:=bF BK366.out 8
        have hfz58_9:=bF BK366.out 9
        have hfz58_10:=bF BK366.out 10
        have hfz58_11:=bF BK366.out 11
        have p370 : 0≤(x6_3 : Int):=of_decide_eq_true (by first|(with_reducible assumption)|assumption)
        have q370 : x6_3 < (l0_10.length : Int):=of_decide_eq_true (by first|(with_reducible assumption)|assumption)
        obtain ⟨ad370,e370,hx370_0,hx370_1,hx370_2⟩:=at_T52 HR0_10.out x6_3 p370 q370
        cases e370
        replace hx370_0:=(HB.out.cell (wB w _ hx370_0)).trans hx370_0
        replace hx370_1:=(HB.out.cell (wB w _ hx370_1)).trans hx370_1
        replace hx370_2:=(HB.out.cell (wB w _ hx370_2)).trans hx370_2
        replace p370:=eq_true p370
        replace q370:=eq_true q370
        have hcz59_0 : wr.cell? ⟨gb367,0,none⟩ = some (.int .i64 a1_0):=(bC BK367.out 0).trans rfl
        have hcz59_1 : wr.cell? ⟨gb367,1,none⟩ = some (.int .i64 a1_1):=(bC BK367.out 1).trans rfl
        have hcz59_2 : wr.cell? ⟨gb367,2,none⟩ = some (.int .i64 a1_2):=(bC BK367.out 2).trans rfl
        have hcz59_3 : wr.cell? ⟨gb367,3,none⟩ = some (.int .i64 a1_3):=(bC BK367.out 3).trans rfl
        have hcz59_4 : wr.cell? ⟨gb367,4,none⟩ = some (.int .i64 a1_4):=(bC BK367.out 4).trans rfl
        have hcz59_5 : wr.cell? ⟨gb367,5,none⟩ = some (.int .i64 a1_5):=(bC BK367.out 5).trans rfl
        have hcz59_6 : wr.cell? ⟨gb367,6,none⟩ = some (.int .i64 a1_6):=(bC BK367.out 6).trans rfl
        have hcz59_7 : wr.cell? ⟨gb367,7,none⟩ = some (.int .i64 a1_7):=(bC BK367.out 7).trans rfl
        have hcz59_8 : wr.cell? ⟨gb367,8,none⟩ = some (.int .i64 a1_8):=(bC BK367.out 8).trans rfl
        have hcz59_9 : wr.cell? ⟨gb367,9,none⟩ = some (.slice A1_9 l1_9.length c1_9):=(bC BK367.out 9).trans rfl
        have hcz59_10 : wr.cell? ⟨gb367,10,none⟩ = some (.slice A1_10 l1_10.length c1_10):=(bC BK367.out 10).trans rfl
        have hcz59_11 : wr.cell? ⟨gb367,11,none⟩ = some (.slice A1_11 l1_11.length c1_11):=(bC BK367.out 11).trans rfl
        have hfz59_0:=bF BK367.out 0
        have hfz59_1:=bF BK367.out 1
        have hfz59_2:=bF BK367.out 2
        have hfz59_3:=bF BK367.out 3
        have hfz59_4:=bF BK367.out 4
        have hfz59_5:=bF BK367.out 5
        have hfz59_6:=bF BK367.out 6
        have hfz59_7:=bF BK367.out 7
        have hfz59_8:=bF BK367.out 8
        have hfz59_9:=bF BK367.out 9
        have hfz59_10:=bF BK367.out 10
        have hfz59_11:=bF BK367.out 11
        have p371 : 0≤(x6_3 : Int):=of_decide_eq_true (by first|(with_reducible assumption)|assumption)
        have q371 : x6_3 < (l1_10.length : Int):=of_decide_eq_true (by first|(with_reducible assumption)|assumption)
        obtain ⟨ad371,e371,hx371_0,hx371_1,hx371_2⟩:=at_T52 HR1_10.out x6_3 p371 q371
        cases e371
        replace hx371_0:=(HB.out.cell (wB w _ hx371_0)).trans hx371_0
        replace hx371_1:=(HB.out.cell (wB w _ hx371_1)).trans hx371_1
        replace hx371_2:=(HB.out.cell (wB w _ hx371_2)).trans hx371_2
        replace p371:=eq_true p371
        replace q371:=eq_true q371
        go_wp2
        repeat (go_quiet (fail);try go_wp2)
        go_roundg k3
        case measure=>have:=HJ2.out;have:=HK2.out;have:=HK3.out;omega
        case rel=>exact ⟨(wrap64 (x6_3 + 1)),(by first|rfl|(simp;done)|(simp [*];done)),H',⟨by have:=HJ2.out;have:=HK2.out;have:=HK3.out;omega⟩,⟨by (with_reducible repeat (first|refine bN ?_ _|refine bD ?_|refine bA ?_ _));exact BK366.out⟩,⟨by (with_reducible repeat (first|refine bN ?_ _|refine bD ?_|refine bA ?_ _));exact BK367.out⟩,⟨by repeat (first|(with_reducible first|exact HB.out|apply bL|apply pN|apply bE|refine bS ?_ GE366.out|refine bS ?_ GE367.out)|exact HB.out)⟩⟩
       rw [if_neg c50] at H
       have c50b0 : decide (x6_3 < (l0_10.length : Int)) = false:=decide_eq_false c50
       clear c50
       have H':=Am H
       clear H
       have hnb60:=NB366_367.out
       have hnc60:=NB367_366.out
       have hcz61_0 : wr.cell? ⟨gb366,0,none⟩ = some (.int .i64 a0_0):=(bC BK366.out 0).trans rfl
       have hcz61_1 : wr.cell? ⟨gb366,1,none⟩ = some (.int .i64 a0_1):=(bC BK366.out 1).trans rfl
       have hcz61_2 : wr.cell? ⟨gb366,2,none⟩ = some (.int .i64 a0_2):=(bC BK366.out 2).trans rfl
       have hcz61_3 : wr.cell? ⟨gb366,3,none⟩ = some (.int .i64 a0_3):=(bC BK366.out 3).trans rfl
       have hcz61_4 : wr.cell? ⟨gb366,4,none⟩ = some (.int .i64 a0_4):=(bC BK366.out 4).trans rfl
       have hcz61_5 : wr.cell? ⟨gb366,5,none⟩ = some (.int .i64 a0_5):=(bC BK366.out 5).trans rfl
       have hcz61_6 : wr.cell? ⟨gb366,6,none⟩ = some (.int .i64 a0_6):=(bC BK366.out 6).trans rfl
       have hcz61_7 : wr.cell? ⟨gb366,7,none⟩ = some (.int .i64 a0_7):=(bC BK366.out 7).trans rfl
       have hcz61_8 : wr.cell? ⟨gb366,8,none⟩ = some (.int .i64 a0_8):=(bC BK366.out 8).trans rfl
       have hcz61_9 : wr.cell? ⟨gb366,9,none⟩ = some (.slice A0_9 l0_9.length c0_9):=(bC BK366.out 9).trans rfl
       have hcz61_10 : wr.cell? ⟨gb366,10,none⟩ = some (.slice A0_10 l0_10.length c0_10):=(bC BK366.out 10).trans rfl
       have hcz61_11 : wr.cell? ⟨gb366,11,none⟩ = some (.slice A0_11 l0_11.length c0_11):=(bC BK366.out 11).trans rfl
       have hfz61_0:=bF BK366.out 0
       have hfz61_1:=bF BK366.out 1
       have hfz61_2:=bF BK366.out 2
       have hfz61_3:=bF BK366.out 3
       have hfz61_4:=bF BK366.out 4
       have hfz61_5:=bF BK366.out 5
       have hfz61_6:=bF BK366.out 6
       have hfz61_7:=bF BK366.out 7
       have hfz61_8:=bF BK366.out 8
       have hfz61_9:=bF BK366.out 9
       have hfz61_10:=bF BK366.out 10
       have hfz61_11:=bF BK366.out 11
       go_wp2
       repeat (go_quiet (fail);try go_wp2)
       go_loopg [7] k3 (fun kq v7 w'=>∃ (x7_4 : Int),v7 = .int .i64 x7_4∧Aside0 (gangerref10_Same.l2 kq x7_4 a0_0 a0_1 a0_2 a0_3 a0_4 a0_5 a0_6 a0_7 a0_8 l0_9 l0_10 l0_11 a1_0 a1_1 a1_2 a1_3 a1_4 a1_5 a1_6 a1_7 a1_8 l1_9 l1_10 l1_11 = some r)∧Aside0 (kq≤k3)∧Aside0 (w'.heap[gb366]? = some (.cells #[.int .i64 a0_0,.int .i64 a0_1,.int .i64 a0_2,.int .i64 a0_3,.int .i64 a0_4,.int .i64 a0_5,.int .i64 a0_6,.int .i64 a0_7,.int .i64 a0_8,(.slice A0_9 l0_9.length c0_9),(.slice A0_10 l0_10.length c0_10),(.slice A0_11 l0_11.length c0_11)] 28 (0,0)))∧Aside0 (w'.heap[gb367]? = some (.cells #[.int .i64 a1_0,.int .i64 a1_1,.int .i64 a1_2,.int .i64 a1_3,.int .i64 a1_4,.int .i64 a1_5,.int .i64 a1_6,.int .i64 a1_7,.int .i64 a1_8,(.slice A1_9 l1_9.length c1_9),(.slice A1_10 l1_10.length c1_10),(.slice A1_11 l1_11.length c1_11)] 28 (0,0)))∧Aside0 (Below w.heap.size w w'))
       case atStart=>exact ⟨(0),(by first|rfl|(simp;done)|(simp [*];done)),H',⟨Nat.le_refl _⟩,⟨by (with_reducible repeat (first|refine bN ?_ _|refine bD ?_|refine bA ?_ _));exact BK366.out⟩,⟨by (with_reducible repeat (first|refine bN ?_ _|refine bD ?_|refine bA ?_ _));exact BK367.out⟩,⟨by repeat (first|(with_reducible first|exact HB.out|apply bL|apply pN|apply bE|refine bS ?_ GE366.out|refine bS ?_ GE367.out)|exact HB.out)⟩⟩
       case round =>
        clear H'
        obtain ⟨x7_4,rfl,HA,HK4,BK366,BK367,HB⟩:=hrel
        cases gk with
        | zero=>exact absurd HA.out (by simp [gangerref10_Same.l2])
        | succ k4 =>
         have H:=HA.out
         clear HA
         simp only [gangerref10_Same.l2] at H
         by_cases c62 : x7_4 < (l0_11.length : Int)
         rotate_left
         ·rw [if_neg c62] at H
          have c62b0 : decide (x7_4 < (l0_11.length : Int)) = false:=decide_eq_false c62
          clear c62
          obtain rfl:=Option.some.inj H
          have hnb72:=NB366_367.out
          have hnc72:=NB367_366.out
          have hcz73_0 : wr.cell? ⟨gb366,0,none⟩ = some (.int .i64 a0_0):=(bC BK366.out 0).trans rfl
          have hcz73_1 : wr.cell? ⟨gb366,1,none⟩ = some (.int .i64 a0_1):=(bC BK366.out 1).trans rfl
          have hcz73_2 : wr.cell? ⟨gb366,2,none⟩ = some (.int .i64 a0_2):=(bC BK366.out 2).trans rfl
          have hcz73_3 : wr.cell? ⟨gb366,3,none⟩ = some (.int .i64 a0_3):=(bC BK366.out 3).trans rfl
          have hcz73_4 : wr.cell? ⟨gb366,4,none⟩ = some (.int .i64 a0_4):=(bC BK366.out 4).trans rfl
          have hcz73_5 : wr.cell? ⟨gb366,5,none⟩ = some (.int .i64 a0_5):=(bC BK366.out 5).trans rfl
          have hcz73_6 : wr.cell? ⟨gb366,6,none⟩ = some (.int .i64 a0_6):=(bC BK366.out 6).trans rfl
          have hcz73_7 : wr.cell? ⟨gb366,7,none⟩ = some (.int .i64 a0_7):=(bC BK366.out 7).trans rfl
          have hcz73_8 : wr.cell? ⟨gb366,8,none⟩ = some (.int .i64 a0_8):=(bC BK366.out 8).trans rfl
          have hcz73_9 : wr.cell? ⟨gb366,9,none⟩ = some (.slice A0_9 l0_9.length c0_9):=(bC BK366.out 9).trans rfl
          have hcz73_10 : wr.cell? ⟨gb366,10,none⟩ = some (.slice A0_10 l0_10.length c0_10):=(bC BK366.out 10).trans rfl
          have hcz73_11 : wr.cell? ⟨gb366,11,none⟩ = some (.slice A0_11 l0_11.length c0_11):=(bC BK366.out 11).trans rfl
          have hfz73_0:=bF BK366.out 0
          have hfz73_1:=bF BK366.out 1
          have hfz73_2:=bF BK366.out 2
          have hfz73_3:=bF BK366.out 3
          have hfz73_4:=bF BK366.out 4
          have hfz73_5:=bF BK366.out 5
          have hfz73_6:=bF BK366.out 6
          have hfz73_7:=bF BK366.out 7
          have hfz73_8:=bF BK366.out 8
          have hfz73_9:=bF BK366.out 9
          have hfz73_10:=bF BK366.out 10
          have hfz73_11:=bF BK366.out 11
          go_wp2
          repeat (go_quiet (fail);try go_wp2)
          go_ret
          exact ⟨by first|rfl|(simp [errW_none,errW_some] <;> rfl)|(simp [*,errW_none,errW_some] <;> rfl),by repeat (first|(with_reducible first|exact HB.out|apply bL|apply pN|apply bE|refine bS ?_ GE366.out|refine bS ?_ GE367.out)|exact HB.out)⟩
         rw [if_pos c62] at H
         have c62b0 : decide (x7_4 < (l0_11.length : Int)) = true:=decide_eq_true c62
         clear c62
         by_cases c63 : 0≤x7_4
         rotate_left
         ·rw [if_neg c63] at H
          exact absurd H (by simp)
         rw [if_pos c63] at H
         have c63b0 : decide (0≤x7_4) = true:=decide_eq_true c63
         clear c63
         by_cases c64 : x7_4 < (l1_11.length : Int)
         rotate_left
         ·rw [if_neg c64] at H
          exact absurd H (by simp)
         rw [if_pos c64] at H
         have c64b0 : decide (x7_4 < (l1_11.length : Int)) = true:=decide_eq_true c64
         clear c64
         by_cases c65 : (!((((rd_T48 l0_11 x7_4).f0).toList) == (((rd_T48 l1_11 x7_4).f0).toList)) || (!((((rd_T48 l0_11 x7_4).f1).toList) == (((rd_T48 l1_11 x7_4).f1).toList)) || (!(((rd_T48 l0_11 x7_4).f2) == ((rd_T48 l1_11 x7_4).f2))))) = true
         ·rw [if_pos c65] at H
          have c65b0 : (!((((rd_T48 l0_11 x7_4).f0).toList) == (((rd_T48 l1_11 x7_4).f0).toList)) || (!((((rd_T48 l0_11 x7_4).f1).toList) == (((rd_T48 l1_11 x7_4).f1).toList)) || (!(((rd_T48 l0_11 x7_4).f2) == ((rd_T48 l1_11 x7_4).f2))))) = true:=c65
          clear c65
          obtain rfl:=Option.some.inj H
          have hnb66:=NB366_367.out
          have hnc66:=NB367_366.out
          have hcz67_0 : wr.cell? ⟨gb366,0,none⟩ = some (.int .i64 a0_0):=(bC BK366.out 0).trans rfl
          have hcz67_1 : wr.cell? ⟨gb366,1,none⟩ = some (.int .i64 a0_1):=(bC BK366.out 1).trans rfl
          have hcz67_2 : wr.cell? ⟨gb366,2,none⟩ = some (.int .i64 a0_2):=(bC BK366.out 2).trans rfl
          have hcz67_3 : wr.cell? ⟨gb366,3,none⟩ = some (.int .i64 a0_3):=(bC BK366.out 3).trans rfl
          have hcz67_4 : wr.cell? ⟨gb366,4,none⟩ = some (.int .i64 a0_4):=(bC BK366.out 4).trans rfl
          have hcz67_5 : wr.cell? ⟨gb366,5,none⟩ = some (.int .i64 a0_5):=(bC BK366.out 5).trans rfl
          have hcz67_6 : wr.cell? ⟨gb366,6,none⟩ = some (.int .i64 a0_6):=(bC BK366.out 6).trans rfl
          have hcz67_7 : wr.cell? ⟨gb366,7,none⟩ = some (.int .i64 a0_7):=(bC BK366.out 7).trans rfl
          have hcz67_8 : wr.cell? ⟨gb366,8,none⟩ = some (.int .i64 a0_8):=(bC BK366.out 8).trans rfl
          have hcz67_9 : wr.cell? ⟨gb366,9,none⟩ = some (.slice A0_9 l0_9.length c0_9):=(bC BK366.out 9).trans rfl
          have hcz67_10 : wr.cell? ⟨gb366,10,none⟩ = some (.slice A0_10 l0_10.length c0_10):=(bC BK366.out 10).trans rfl
          have hcz67_11 : wr.cell? ⟨gb366,11,none⟩ = some (.slice A0_11 l0_11.length c0_11):=(bC BK366.out 11).trans rfl
          have hfz67_0:=bF BK366.out 0
          have hfz67_1:=bF BK366.out 1
          have hfz67_2:=bF BK366.out 2
          have hfz67_3:=bF BK366.out 3
          have hfz67_4:=bF BK366.out 4
          have hfz67_5:=bF BK366.out 5
          have hfz67_6:=bF BK366.out 6
          have hfz67_7:=bF BK366.out 7
          have hfz67_8:=bF BK366.out 8
          have hfz67_9:=bF BK366.out 9
          have hfz67_10:=bF BK366.out 10
          have hfz67_11:=bF BK366.out 11
          have p372 : 0≤(x7_4 : Int):=of_decide_eq_true (by first|(with_reducible assumption)|assumption)
          have q372 : x7_4 < (l0_11.length : Int):=of_decide_eq_true (by first|(with_reducible assumption)|assumption)
          obtain ⟨ad372,e372,hx372_0,hx372_1,hx372_2⟩:=at_T48 HR0_11.out x7_4 p372 q372
          cases e372
          replace hx372_0:=(HB.out.cell (wB w _ hx372_0)).trans hx372_0
          replace hx372_1:=(HB.out.cell (wB w _ hx372_1)).trans hx372_1
          replace hx372_2:=(HB.out.cell (wB w _ hx372_2)).trans hx372_2
          replace p372:=eq_true p372
          replace q372:=eq_true q372
          have hcz68_0 : wr.cell? ⟨gb367,0,none⟩ = some (.int .i64 a1_0):=(bC BK367.out 0).trans rfl
          have hcz68_1 : wr.cell? ⟨gb367,1,none⟩ = some (.int .i64 a1_1):=(bC BK367.out 1).trans rfl
          have hcz68_2 : wr.cell? ⟨gb367,2,none⟩ = some (.int .i64 a1_2):=(bC BK367.out 2).trans rfl
          have hcz68_3 : wr.cell? ⟨gb367,3,none⟩ = some (.int .i64 a1_3):=(bC BK367.out 3).trans rfl
          have hcz68_4 : wr.cell? ⟨gb367,4,none⟩ = some (.int .i64 a1_4):=(bC BK367.out 4).trans rfl
          have hcz68_5 : wr.cell? ⟨gb367,5,none⟩ = some (.int .i64 a1_5):=(bC BK367.out 5).trans rfl
          have hcz68_6 : wr.cell? ⟨gb367,6,none⟩ = some (.int .i64 a1_6):=(bC BK367.out 6).trans rfl
          have hcz68_7 : wr.cell? ⟨gb367,7,none⟩ = some (.int .i64 a1_7):=(bC BK367.out 7).trans rfl
          have hcz68_8 : wr.cell? ⟨gb367,8,none⟩ = some (.int .i64 a1_8):=(bC BK367.out 8).trans rfl
          have hcz68_9 : wr.cell? ⟨gb367,9,none⟩ = some (.slice A1_9 l1_9.length c1_9):=(bC BK367.out 9).trans rfl
          have hcz68_10 : wr.cell? ⟨gb367,10,none⟩ = some (.slice A1_10 l1_10.length c1_10):=(bC BK367.out 10).trans rfl
          have hcz68_11 : wr.cell? ⟨gb367,11,none⟩ = some (.slice A1_11 l1_11.length c1_11):=(bC BK367.out 11).trans rfl
          have hfz68_0:=bF BK367.out 0
          have hfz68_1:=bF BK367.out 1
          have hfz68_2:=bF BK367.out 2
          have hfz68_3:=bF BK367.out 3
          have hfz68_4:=bF BK367.out 4
          have hfz68_5:=bF BK367.out 5
          have hfz68_6:=bF BK367.out 6
          have hfz68_7:=bF BK367.out 7
          have hfz68_8:=bF BK367.out 8
          have hfz68_9:=bF BK367.out 9
          have hfz68_10:=bF BK367.out 10
          have hfz68_11:=bF BK367.out 11
          have p373 : 0≤(x7_4 : Int):=of_decide_eq_true (by first|(with_reducible assumption)|assumption)
          have q373 : x7_4 < (l1_11.length : Int):=of_decide_eq_true (by first|(with_reducible assumption)|assumption)
          obtain ⟨ad373,e373,hx373_0,hx373_1,hx373_2⟩:=at_T48 HR1_11.out x7_4 p373 q373
          cases e373
          replace hx373_0:=(HB.out.cell (wB w _ hx373_0)).trans hx373_0
          replace hx373_1:=(HB.out.cell (wB w _ hx373_1)).trans hx373_1
          replace hx373_2:=(HB.out.cell (wB w _ hx373_2)).trans hx373_2
          replace p373:=eq_true p373
          replace q373:=eq_true q373
          go_wp2
          repeat (go_quiet (fail);try go_wp2)
          go_ret
          exact ⟨by first|rfl|(simp [errW_none,errW_some] <;> rfl)|(simp [*,errW_none,errW_some] <;> rfl),by repeat (first|(with_reducible first|exact HB.out|apply bL|apply pN|apply bE|refine bS ?_ GE366.out|refine bS ?_ GE367.out)|exact HB.out)⟩
         rw [if_neg c65] at H
         have c65b0 : (!((((rd_T48 l0_11 x7_4).f0).toList) == (((rd_T48 l1_11 x7_4).f0).toList)) || (!((((rd_T48 l0_11 x7_4).f1).toList) == (((rd_T48 l1_11 x7_4).f1).toList)) || (!(((rd_T48 l0_11 x7_4).f2) == ((rd_T48 l1_11 x7_4).f2))))) = false:=by simpa using c65
         clear c65
         have H':=Am H
         clear H
         have hnb69:=NB366_367.out
         have hnc69:=NB367_366.out
         have hcz70_0 : wr.cell? ⟨gb366,0,none⟩ = some (.int .i64 a0_0):=(bC BK366.out 0).trans rfl
         have hcz70_1 : wr.cell? ⟨gb366,1,none⟩ = some (.int .i64 a0_1):=(bC BK366.out 1).trans rfl
         have hcz70_2 : wr.cell? ⟨gb366,2,none⟩ = some (.int .i64 a0_2):=(bC BK366.out 2).trans rfl
         have hcz70_3 : wr.cell? ⟨gb366,3,none⟩ = some (.int .i64 a0_3):=(bC BK366.out 3).trans rfl
         have hcz70_4 : wr.cell? ⟨gb366,4,none⟩ = some (.int .i64 a0_4):=(bC BK366.out 4).trans rfl
         have hcz70_5 : wr.cell? ⟨gb366,5,none⟩ = some (.int .i64 a0_5):=(bC BK366.out 5).trans rfl
         have hcz70_6 : wr.cell? ⟨gb366,6,none⟩ = some (.int .i64 a0_6):=(bC BK366.out 6).trans rfl
         have hcz70_7 : wr.cell? ⟨gb366,7,none⟩ = some (.int .i64 a0_7):=(bC BK366.out 7).trans rfl
         have hcz70_8 : wr.cell? ⟨gb366,8,none⟩ = some (.int .i64 a0_8):=(bC BK366.out 8).trans rfl
         have hcz70_9 : wr.cell? ⟨gb366,9,none⟩ = some (.slice A0_9 l0_9.length c0_9):=(bC BK366.out 9).trans rfl
         have hcz70_10 : wr.cell? ⟨gb366,10,none⟩ = some (.slice A0_10 l0_10.length c0_10):=(bC BK366.out 10).trans rfl
         have hcz70_11 : wr.cell? ⟨gb366,11,none⟩ = some (.slice A0_11 l0_11.length c0_11):=(bC BK366.out 11).trans rfl
         have hfz70_0:=bF BK366.out 0
         have hfz70_1:=bF BK366.out 1
         have hfz70_2:=bF BK366.out 2
         have hfz70_3:=bF BK366.out 3
         have hfz70_4:=bF BK366.out 4
         have hfz70_5:=bF BK366.out 5
         have hfz70_6:=bF BK366.out 6
         have hfz70_7:=bF BK366.out 7
         have hfz70_8:=bF BK366.out 8
         have hfz70_9:=bF BK366.out 9
         have hfz70_10:=bF BK366.out 10
         have hfz70_11:=bF BK366.out 11
         have p372 : 0≤(x7_4 : Int):=of_decide_eq_true (by first|(with_reducible assumption)|assumption)
         have q372 : x7_4 < (l0_11.length : Int):=of_decide_eq_true (by first|(with_reducible assumption)|assumption)
         obtain ⟨ad372,e372,hx372_0,hx372_1,hx372_2⟩:=at_T48 HR0_11.out x7_4 p372 q372
         cases e372
         replace hx372_0:=(HB.out.cell (wB w _ hx372_0)).trans hx372_0
         replace hx372_1:=(HB.out.cell (wB w _ hx372_1)).trans hx372_1
         replace hx372_2:=(HB.out.cell (wB w _ hx372_2)).trans hx372_2
         replace p372:=eq_true p372
         replace q372:=eq_true q372
         have hcz71_0 : wr.cell? ⟨gb367,0,none⟩ = some (.int .i64 a1_0):=(bC BK367.out 0).trans rfl
         have hcz71_1 : wr.cell? ⟨gb367,1,none⟩ = some (.int .i64 a1_1):=(bC BK367.out 1).trans rfl
         have hcz71_2 : wr.cell? ⟨gb367,2,none⟩ = some (.int .i64 a1_2):=(bC BK367.out 2).trans rfl
         have hcz71_3 : wr.cell? ⟨gb367,3,none⟩ = some (.int .i64 a1_3):=(bC BK367.out 3).trans rfl
         have hcz71_4 : wr.cell? ⟨gb367,4,none⟩ = some (.int .i64 a1_4):=(bC BK367.out 4).trans rfl
         have hcz71_5 : wr.cell? ⟨gb367,5,none⟩ = some (.int .i64 a1_5):=(bC BK367.out 5).trans rfl
         have hcz71_6 : wr.cell? ⟨gb367,6,none⟩ = some (.int .i64 a1_6):=(bC BK367.out 6).trans rfl
         have hcz71_7 : wr.cell? ⟨gb367,7,none⟩ = some (.int .i64 a1_7):=(bC BK367.out 7).trans rfl
         have hcz71_8 : wr.cell? ⟨gb367,8,none⟩ = some (.int .i64 a1_8):=(bC BK367.out 8).trans rfl
         have hcz71_9 : wr.cell? ⟨gb367,9,none⟩ = some (.slice A1_9 l1_9.length c1_9):=(bC BK367.out 9).trans rfl
         have hcz71_10 : wr.cell? ⟨gb367,10,none⟩ = some (.slice A1_10 l1_10.length c1_10):=(bC BK367.out 10).trans rfl
         have hcz71_11 : wr.cell? ⟨gb367,11,none⟩ = some (.slice A1_11 l1_11.length c1_11):=(bC BK367.out 11).trans rfl
         have hfz71_0:=bF BK367.out 0
         have hfz71_1:=bF BK367.out 1
         have hfz71_2:=bF BK367.out 2
         have hfz71_3:=bF BK367.out 3
         have hfz71_4:=bF BK367.out 4
         have hfz71_5:=bF BK367.out 5
         have hfz71_6:=bF BK367.out 6
         have hfz71_7:=bF BK367.out 7
         have hfz71_8:=bF BK367.out 8
         have hfz71_9:=bF BK367.out 9
         have hfz71_10:=bF BK367.out 10
         have hfz71_11:=bF BK367.out 11
         have p373 : 0≤(x7_4 : Int):=of_decide_eq_true (by first|(with_reducible assumption)|assumption)
         have q373 : x7_4 < (l1_11.length : Int):=of_decide_eq_true (by first|(with_reducible assumption)|assumption)
         obtain ⟨ad373,e373,hx373_0,hx373_1,hx373_2⟩:=at_T48 HR1_11.out x7_4 p373 q373
         cases e373
         replace hx373_0:=(HB.out.cell (wB w _ hx373_0)).trans hx373_0
         replace hx373_1:=(HB.out.cell (wB w _ hx373_1)).trans hx373_1
         replace hx373_2:=(HB.out.cell (wB w _ hx373_2)).trans hx373_2
         replace p373:=eq_true p373
         replace q373:=eq_true q373
         go_wp2
         repeat (go_quiet (fail);try go_wp2)
         go_roundg k4
         case measure=>have:=HJ2.out;have:=HK2.out;have:=HK3.out;have:=HK4.out;omega
         case rel=>exact ⟨(wrap64 (x7_4 + 1)),(by first|rfl|(simp;done)|(simp [*];done)),H',⟨by have:=HJ2.out;have:=HK2.out;have:=HK3.out;have:=HK4.out;omega⟩,⟨by (with_reducible repeat (first|refine bN ?_ _|refine bD ?_|refine bA ?_ _));exact BK366.out⟩,⟨by (with_reducible repeat (first|refine bN ?_ _|refine bD ?_|refine bA ?_ _));exact BK367.out⟩,⟨by repeat (first|(with_reducible first|exact HB.out|apply bL|apply pN|apply bE|refine bS ?_ GE366.out|refine bS ?_ GE367.out)|exact HB.out)⟩⟩
end Go.Proofs.YtgidipomfbikiaaDoor.P
