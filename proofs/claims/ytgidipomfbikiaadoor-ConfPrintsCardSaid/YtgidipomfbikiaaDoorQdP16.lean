/- cut to what one law reaches -/
import Derived.Test.YtgidipomfbikiaaDoorQdShort
import Derived.Test.YtgidipomfbikiaaDoorQdP0
import Derived.Test.YtgidipomfbikiaaDoorQdP14
import Derived.Test.YtgidipomfbikiaaDoorQdP15
namespace Go.Proofs.YtgidipomfbikiaaDoor.P
open Go.RowKit Go.Proofs.YtgidipomfbikiaaDoorW.PrintWords Go.Proofs.YtgidipomfbikiaaDoorW.PrintLast Go.Proofs.YtgidipomfbikiaaDoorW.PrintMore
attribute [local go_sem] max2_int min2_int max_two min_two max_three min_three max_four min_four   -- for this text's walks alone
set_option linter.unusedVariables false
set_option linter.unusedSimpArgs false
attribute [local go_sem] isSome_setCell
mutual
def gangerref10_Check.j0 : Nat→Bool→Int→Int→Int→Int→Int→Int→Int→Int→Int→List (S50)→List (S52)→List (S48)→Option (Int)
 | 0,_,_,_,_,_,_,_,_,_,_,_,_,_=>none
 | k + 1,x34,u_0,u_1,u_2,u_3,u_4,u_5,u_6,u_7,u_8,u_9,u_10,u_11=>if x34 = true then (some 100) else ((gangerref10_out.f u_0 1 4).bind fun t308=>(if t308 = true then (gangerref10_Check.j1 k true u_0 u_1 u_2 u_3 u_4 u_5 u_6 u_7 u_8 u_9 u_10 u_11) else ((gangerref10_out.f u_1 1 4294967296).bind fun t309=>(if t309 = true then (gangerref10_Check.j1 k true u_0 u_1 u_2 u_3 u_4 u_5 u_6 u_7 u_8 u_9 u_10 u_11) else ((gangerref10_out.f u_2 1 1073741824).bind fun t310=>(if t310 = true then (gangerref10_Check.j1 k true u_0 u_1 u_2 u_3 u_4 u_5 u_6 u_7 u_8 u_9 u_10 u_11) else ((gangerref10_out.f u_3 0 100).bind fun t311=>(gangerref10_Check.j1 k t311 u_0 u_1 u_2 u_3 u_4 u_5 u_6 u_7 u_8 u_9 u_10 u_11))))))))
def gangerref10_Check.j1 : Nat→Bool→Int→Int→Int→Int→Int→Int→Int→Int→Int→List (S50)→List (S52)→List (S48)→Option (Int)
 | 0,_,_,_,_,_,_,_,_,_,_,_,_,_=>none
 | k + 1,x52,u_0,u_1,u_2,u_3,u_4,u_5,u_6,u_7,u_8,u_9,u_10,u_11=>if x52 = true then (some 100) else ((gangerref10_out.f (u_9.length : Int) 1 8).bind fun t312=>(if t312 = true then (gangerref10_Check.j2 k true u_0 u_1 u_2 u_3 u_4 u_5 u_6 u_7 u_8 u_9 u_10 u_11) else ((gangerref10_out.f (u_10.length : Int) 1 8).bind fun t313=>(if t313 = true then (gangerref10_Check.j2 k true u_0 u_1 u_2 u_3 u_4 u_5 u_6 u_7 u_8 u_9 u_10 u_11) else ((gangerref10_out.f (u_11.length : Int) 1 50).bind fun t314=>(gangerref10_Check.j2 k t314 u_0 u_1 u_2 u_3 u_4 u_5 u_6 u_7 u_8 u_9 u_10 u_11))))))
def gangerref10_Check.j2 : Nat→Bool→Int→Int→Int→Int→Int→Int→Int→Int→Int→List (S50)→List (S52)→List (S48)→Option (Int)
 | 0,_,_,_,_,_,_,_,_,_,_,_,_,_=>none
 | k + 1,x68,u_0,u_1,u_2,u_3,u_4,u_5,u_6,u_7,u_8,u_9,u_10,u_11=>if x68 = true then (some 100) else (gangerref10_Check.l0 k 0 u_0 u_1 u_2 u_3 u_4 u_5 u_6 u_7 u_8 u_9 u_10 u_11)
def gangerref10_Check.l0 : Nat→Int→Int→Int→Int→Int→Int→Int→Int→Int→Int→List (S50)→List (S52)→List (S48)→Option (Int)
 | 0,_,_,_,_,_,_,_,_,_,_,_,_,_=>none
 | k + 1,x4,u_0,u_1,u_2,u_3,u_4,u_5,u_6,u_7,u_8,u_9,u_10,u_11=>if x4 < (u_9.length : Int) then (if 0≤x4 then ((gangerref09_Name.f k ((rd_T50 u_9 x4).f0)).bind fun t317=>(if t317 = true then ((gangerref10_out.f ((rd_T50 u_9 x4).f1) 0 10).bind fun t318=>(if t318 = true then (gangerref10_Check.j4 k x4 true u_0 u_1 u_2 u_3 u_4 u_5 u_6 u_7 u_8 u_9 u_10 u_11 ((rd_T50 u_9 x4).f0) ((rd_T50 u_9 x4).f1) ((rd_T50 u_9 x4).f2) ((rd_T50 u_9 x4).f3)) else ((gangerref10_out.f ((rd_T50 u_9 x4).f2) 0 1048576).bind fun t319=>(if t319 = true then (gangerref10_Check.j4 k x4 true u_0 u_1 u_2 u_3 u_4 u_5 u_6 u_7 u_8 u_9 u_10 u_11 ((rd_T50 u_9 x4).f0) ((rd_T50 u_9 x4).f1) ((rd_T50 u_9 x4).f2) ((rd_T50 u_9 x4).f3)) else ((gangerref10_out.f ((rd_T50 u_9 x4).f3) 1 1073741824).bind fun t320=>(gangerref10_Check.j4 k x4 t320 u_0 u_1 u_2 u_3 u_4 u_5 u_6 u_7 u_8 u_9 u_10 u_11 ((rd_T50 u_9 x4).f0) ((rd_T50 u_9 x4).f1) ((rd_T50 u_9 x4).f2) ((rd_T50 u_9 x4).f3))))))) else (gangerref10_Check.j4 k x4 true u_0 u_1 u_2 u_3 u_4 u_5 u_6 u_7 u_8 u_9 u_10 u_11 ((rd_T50 u_9 x4).f0) ((rd_T50 u_9 x4).f1) ((rd_T50 u_9 x4).f2) ((rd_T50 u_9 x4).f3)))) else (none)) else (gangerref10_Check.l2 k 0 u_0 u_1 u_2 u_3 u_4 u_5 u_6 u_7 u_8 u_9 u_10 u_11)
def gangerref10_Check.j4 : Nat→Int→Bool→Int→Int→Int→Int→Int→Int→Int→Int→Int→List (S50)→List (S52)→List (S48)→ByteArray→Int→Int→Int→Option (Int)
 | 0,_,_,_,_,_,_,_,_,_,_,_,_,_,_,_,_,_,_=>none
 | k + 1,x4,x99,u_0,u_1,u_2,u_3,u_4,u_5,u_6,u_7,u_8,u_9,u_10,u_11,v_0,v_1,v_2,v_3=>if x99 = true then (some 100) else (gangerref10_Check.l1 k x4 0 u_0 u_1 u_2 u_3 u_4 u_5 u_6 u_7 u_8 u_9 u_10 u_11 v_0 v_1 v_2 v_3)
def gangerref10_Check.l1 : Nat→Int→Int→Int→Int→Int→Int→Int→Int→Int→Int→Int→List (S50)→List (S52)→List (S48)→ByteArray→Int→Int→Int→Option (Int)
 | 0,_,_,_,_,_,_,_,_,_,_,_,_,_,_,_,_,_,_=>none
 | k + 1,x4,x6,u_0,u_1,u_2,u_3,u_4,u_5,u_6,u_7,u_8,u_9,u_10,u_11,v_0,v_1,v_2,v_3=>if x6 < x4 then (if 0≤x6 then (if x6 < (u_9.length : Int) then (if ((rd_T50 u_9 x6).f0).toList = v_0.toList then (some 100) else (gangerref10_Check.l1 k x4 (wrap64 (x6 + 1)) u_0 u_1 u_2 u_3 u_4 u_5 u_6 u_7 u_8 u_9 u_10 u_11 v_0 v_1 v_2 v_3)) else (none)) else (none)) else (gangerref10_Check.l0 k (wrap64 (x4 + 1)) u_0 u_1 u_2 u_3 u_4 u_5 u_6 u_7 u_8 u_9 u_10 u_11)
def gangerref10_Check.l2 : Nat→Int→Int→Int→Int→Int→Int→Int→Int→Int→Int→List (S50)→List (S52)→List (S48)→Option (Int)
 | 0,_,_,_,_,_,_,_,_,_,_,_,_,_=>none
 | k + 1,x7,u_0,u_1,u_2,u_3,u_4,u_5,u_6,u_7,u_8,u_9,u_10,u_11=>if x7 < (u_10.length : Int) then (if 0≤x7 then ((gangerref09_Name.f k ((rd_T52 u_10 x7).f0)).bind fun t325=>(if t325 = true then ((gangerref10_out.f ((rd_T52 u_10 x7).f1) 0 1048576).bind fun t326=>(if t326 = true then (gangerref10_Check.j7 k x7 true u_0 u_1 u_2 u_3 u_4 u_5 u_6 u_7 u_8 u_9 u_10 u_11 ((rd_T52 u_10 x7).f0) ((rd_T52 u_10 x7).f1) ((rd_T52 u_10 x7).f2)) else ((gangerref10_out.f ((rd_T52 u_10 x7).f2) 1 1048576).bind fun t327=>(gangerref10_Check.j7 k x7 t327 u_0 u_1 u_2 u_3 u_4 u_5 u_6 u_7 u_8 u_9 u_10 u_11 ((rd_T52 u_10 x7).f0) ((rd_T52 u_10 x7).f1) ((rd_T52 u_10 x7).f2))))) else (gangerref10_Check.j7 k x7 true u_0 u_1 u_2 u_3 u_4 u_5 u_6 u_7 u_8 u_9 u_10 u_11 ((rd_T52 u_10 x7).f0) ((rd_T52 u_10 x7).f1) ((rd_T52 u_10 x7).f2)))) else (none)) else ((gangerref10_tree.f k u_11).bind fun t322=>(some t322))
def gangerref10_Check.j7 : Nat→Int→Bool→Int→Int→Int→Int→Int→Int→Int→Int→Int→List (S50)→List (S52)→List (S48)→ByteArray→Int→Int→Option (Int)
 | 0,_,_,_,_,_,_,_,_,_,_,_,_,_,_,_,_,_=>none
 | k + 1,x7,x139,u_0,u_1,u_2,u_3,u_4,u_5,u_6,u_7,u_8,u_9,u_10,u_11,y_0,y_1,y_2=>if x139 = true then (some 100) else (gangerref10_Check.l3 k x7 0 u_0 u_1 u_2 u_3 u_4 u_5 u_6 u_7 u_8 u_9 u_10 u_11 y_0 y_1 y_2)
def gangerref10_Check.l3 : Nat→Int→Int→Int→Int→Int→Int→Int→Int→Int→Int→Int→List (S50)→List (S52)→List (S48)→ByteArray→Int→Int→Option (Int)
 | 0,_,_,_,_,_,_,_,_,_,_,_,_,_,_,_,_,_=>none
 | k + 1,x7,x9,u_0,u_1,u_2,u_3,u_4,u_5,u_6,u_7,u_8,u_9,u_10,u_11,y_0,y_1,y_2=>if x9 < x7 then (if 0≤x9 then (if x9 < (u_10.length : Int) then (if ((rd_T52 u_10 x9).f0).toList = y_0.toList then (some 100) else (gangerref10_Check.l3 k x7 (wrap64 (x9 + 1)) u_0 u_1 u_2 u_3 u_4 u_5 u_6 u_7 u_8 u_9 u_10 u_11 y_0 y_1 y_2)) else (none)) else (none)) else (gangerref10_Check.l2 k (wrap64 (x7 + 1)) u_0 u_1 u_2 u_3 u_4 u_5 u_6 u_7 u_8 u_9 u_10 u_11)
end
def gangerref10_Check.f (k : Nat) (a0_0 : Int) (a0_1 : Int) (a0_2 : Int) (a0_3 : Int) (a0_4 : Int) (a0_5 : Int) (a0_6 : Int) (a0_7 : Int) (a0_8 : Int) (l0_9 : List (S50)) (l0_10 : List (S52)) (l0_11 : List (S48)) : Option (Int):=(gangerref10_out.f a0_4 0 1048576).bind fun t303=>(if t303 = true then (gangerref10_Check.j0 k true a0_0 a0_1 a0_2 a0_3 a0_4 a0_5 a0_6 a0_7 a0_8 l0_9 l0_10 l0_11) else ((gangerref10_out.f a0_5 0 1048576).bind fun t304=>(if t304 = true then (gangerref10_Check.j0 k true a0_0 a0_1 a0_2 a0_3 a0_4 a0_5 a0_6 a0_7 a0_8 l0_9 l0_10 l0_11) else ((gangerref10_out.f a0_6 0 1048576).bind fun t305=>(if t305 = true then (gangerref10_Check.j0 k true a0_0 a0_1 a0_2 a0_3 a0_4 a0_5 a0_6 a0_7 a0_8 l0_9 l0_10 l0_11) else ((gangerref10_out.f a0_7 0 1048576).bind fun t306=>(if t306 = true then (gangerref10_Check.j0 k true a0_0 a0_1 a0_2 a0_3 a0_4 a0_5 a0_6 a0_7 a0_8 l0_9 l0_10 l0_11) else ((gangerref10_out.f a0_8 0 1048576).bind fun t307=>(gangerref10_Check.j0 k t307 a0_0 a0_1 a0_2 a0_3 a0_4 a0_5 a0_6 a0_7 a0_8 l0_9 l0_10 l0_11)))))))))
set_option maxHeartbeats 8000000 in
set_option maxRecDepth 100000 in
theorem gangerref10_Check.calls (k : Nat) (a0_0 : Int) (a0_1 : Int) (a0_2 : Int) (a0_3 : Int) (a0_4 : Int) (a0_5 : Int) (a0_6 : Int) (a0_7 : Int) (a0_8 : Int) (A0_9 : Option Addr) (c0_9 : Nat) (l0_9 : List (S50)) (A0_10 : Option Addr) (c0_10 : Nat) (l0_10 : List (S52)) (A0_11 : Option Addr) (c0_11 : Nat) (l0_11 : List (S48)) (r : Int) (w : World) (hr0_9 : Kd.C k50 w A0_9 l0_9.length l0_9) (hc0_9 : l0_9.length≤c0_9) (hr0_10 : Kd.C k52 w A0_10 l0_10.length l0_10) (hc0_10 : l0_10.length≤c0_10) (hr0_11 : Kd.C k48 w A0_11 l0_11.length l0_11) (hc0_11 : l0_11.length≤c0_11) (h : gangerref10_Check.f k a0_0 a0_1 a0_2 a0_3 a0_4 a0_5 a0_6 a0_7 a0_8 l0_9 l0_10 l0_11 = some r) :
  Calls Tryd.prog 15 #[.agg #[.int .i64 a0_0,.int .i64 a0_1,.int .i64 a0_2,.int .i64 a0_3,.int .i64 a0_4,.int .i64 a0_5,.int .i64 a0_6,.int .i64 a0_7,.int .i64 a0_8,.slice A0_9 l0_9.length c0_9,.slice A0_10 l0_10.length c0_10,.slice A0_11 l0_11.length c0_11]] w fun e w'=>e = .returned (.int .i64 r)∧Below w.heap.size w w':=by
 have hu28:=Tryd.underlying28
 have hu23:=Tryd.underlying23
 have hu50:=Tryd.underlying50
 have hu52:=Tryd.underlying52
 have HR0_9:=Am hr0_9
 have HC0_9:=Am hc0_9
 clear hr0_9 hc0_9
 have HR0_10:=Am hr0_10
 have HC0_10:=Am hc0_10
 clear hr0_10 hc0_10
 have HR0_11:=Am hr0_11
 have HC0_11:=Am hc0_11
 clear hr0_11 hc0_11
 have HB:=Am (Below.refl w.heap.size w)
 have H : ((gangerref10_out.f a0_4 0 1048576).bind fun t303=>(if t303 = true then (gangerref10_Check.j0 k true a0_0 a0_1 a0_2 a0_3 a0_4 a0_5 a0_6 a0_7 a0_8 l0_9 l0_10 l0_11) else ((gangerref10_out.f a0_5 0 1048576).bind fun t304=>(if t304 = true then (gangerref10_Check.j0 k true a0_0 a0_1 a0_2 a0_3 a0_4 a0_5 a0_6 a0_7 a0_8 l0_9 l0_10 l0_11) else ((gangerref10_out.f a0_6 0 1048576).bind fun t305=>(if t305 = true then (gangerref10_Check.j0 k true a0_0 a0_1 a0_2 a0_3 a0_4 a0_5 a0_6 a0_7 a0_8 l0_9 l0_10 l0_11) else ((gangerref10_out.f a0_7 0 1048576).bind fun t306=>(if t306 = true then (gangerref10_Check.j0 k true a0_0 a0_1 a0_2 a0_3 a0_4 a0_5 a0_6 a0_7 a0_8 l0_9 l0_10 l0_11) else ((gangerref10_out.f a0_8 0 1048576).bind fun t307=>(gangerref10_Check.j0 k t307 a0_0 a0_1 a0_2 a0_3 a0_4 a0_5 a0_6 a0_7 a0_8 l0_9 l0_10 l0_11)))))))))) = some r:=h
 clear h
 have HC2:=Am H
 clear H
 go_enter Tryd.func15,Tryd.ntmps15
 go_upto_region 2 with (first|((with_reducible refine gD (N:=1) rfl ?_);(try (refine gate_guard (by rfl) ?_;dsimp only));refine box_event ?hg (N:=1) ?hd (cs:=#[.int .i64 a0_0,.int .i64 a0_1,.int .i64 a0_2,.int .i64 a0_3,.int .i64 a0_4,.int .i64 a0_5,.int .i64 a0_6,.int .i64 a0_7,.int .i64 a0_8,.slice A0_9 l0_9.length c0_9,.slice A0_10 l0_10.length c0_10,.slice A0_11 l0_11.length c0_11]) (t:=28) ?hr ?_;(case hd=>rfl);(case hg=>rfl);(case hr=>first|(go_simp;done)|(go_simp;rfl));intro gb301 hg w3 hbox hb;have n0_:=Am (below_step (by repeat (first|(with_reducible first|exact HB.out|apply bL|apply pN|apply bE)|exact HB.out)) hb);have n1_:=Am (hbox);have n2_:=Am ((by rw [hg];exact (bZ (by repeat (first|(with_reducible first|exact HB.out|apply bL|apply pN|apply bE)|exact HB.out))) : w.heap.size≤gb301));have n3_:=n2_;clear HB;have HB:=n0_;have BK301:=n1_;have GW301:=n2_;have GE301:=n3_;clear n0_ n1_ n2_ n3_;clear hb hbox hg;obtain ⟨X4_0,X4_1,X4_2,X4_3,X4_4,X4_5,X4_6,X4_7,X4_8,X4_9,X4_10,X4_11,Y4_0,Y4_1,Y4_2,Y4_3,Y4_4,Y4_5,Y4_6,Y4_7,Y4_8,Y4_9,Y4_10,Y4_11⟩:=kc12 (w:=w3) (g:=gb301) BK301.out)|((with_reducible refine gD (N:=3) rfl ?_);(try (refine gate_guard (by rfl) ?_;dsimp only));refine box_event ?hg (N:=3) ?hd (cs:=#[.int .i64 0,.int .i64 0,.int .i64 0,.int .i64 0,.int .i64 0]) (t:=23) ?hr ?_;(case hd=>rfl);(case hg=>rfl);(case hr=>first|(go_simp;done)|(go_simp;rfl));intro gb302 hg w5 hbox hb;have n0_:=Am (blk_below (g:=gb301) (by (with_reducible repeat (first|refine bN ?_ _|refine bD ?_|refine bA ?_ _));exact BK301.out) hb);have n1_:=Am (below_step (by repeat (first|(with_reducible first|exact HB.out|apply bL|apply pN|apply bE|refine bS ?_ GE301.out)|exact HB.out)) hb);have n2_:=Am (hbox);have n3_:=Am ((by rw [hg];exact (bZ (by repeat (first|(with_reducible first|exact HB.out|apply bL|apply pN|apply bE|refine bS ?_ GE301.out)|exact HB.out))) : w.heap.size≤gb302));have n4_:=n3_;have n5_:=Am ((by rw [hg];exact Nat.ne_of_lt (blk_lt (g:=gb301) (by (with_reducible repeat (first|refine bN ?_ _|refine bD ?_|refine bA ?_ _));exact BK301.out)) : gb301 ≠ gb302));have n6_:=Am ((by rw [hg];exact Nat.ne_of_gt (blk_lt (g:=gb301) (by (with_reducible repeat (first|refine bN ?_ _|refine bD ?_|refine bA ?_ _));exact BK301.out)) : gb302 ≠ gb301));clear BK301;clear HB;have BK301:=n0_;have HB:=n1_;have BK302:=n2_;have GW302:=n3_;have GE302:=n4_;have NB301_302:=n5_;have NB302_301:=n6_;clear n0_ n1_ n2_ n3_ n4_ n5_ n6_;clear hb hbox hg;have hnb6:=NB302_301.out;have hnc6:=NB301_302.out;obtain ⟨X7_0,X7_1,X7_2,X7_3,X7_4,Y7_0,Y7_1,Y7_2,Y7_3,Y7_4⟩:=kc5 (w:=w5) (g:=gb302) BK302.out))
 repeat (go_quiet (first|((with_reducible refine gD (N:=1) rfl ?_);(try (refine gate_guard (by rfl) ?_;dsimp only));refine box_event ?hg (N:=1) ?hd (cs:=#[.int .i64 a0_0,.int .i64 a0_1,.int .i64 a0_2,.int .i64 a0_3,.int .i64 a0_4,.int .i64 a0_5,.int .i64 a0_6,.int .i64 a0_7,.int .i64 a0_8,.slice A0_9 l0_9.length c0_9,.slice A0_10 l0_10.length c0_10,.slice A0_11 l0_11.length c0_11]) (t:=28) ?hr ?_;(case hd=>rfl);(case hg=>rfl);(case hr=>first|(go_simp;done)|(go_simp;rfl));intro gb301 hg w3 hbox hb;have n0_:=Am (below_step (by repeat (first|(with_reducible first|exact HB.out|apply bL|apply pN|apply bE)|exact HB.out)) hb);have n1_:=Am (hbox);have n2_:=Am ((by rw [hg];exact (bZ (by repeat (first|(with_reducible first|exact HB.out|apply bL|apply pN|apply bE)|exact HB.out))) : w.heap.size≤gb301));have n3_:=n2_;clear HB;have HB:=n0_;have BK301:=n1_;have GW301:=n2_;have GE301:=n3_;clear n0_ n1_ n2_ n3_;clear hb hbox hg;obtain ⟨X4_0,X4_1,X4_2,X4_3,X4_4,X4_5,X4_6,X4_7,X4_8,X4_9,X4_10,X4_11,Y4_0,Y4_1,Y4_2,Y4_3,Y4_4,Y4_5,Y4_6,Y4_7,Y4_8,Y4_9,Y4_10,Y4_11⟩:=kc12 (w:=w3) (g:=gb301) BK301.out)|((with_reducible refine gD (N:=3) rfl ?_);(try (refine gate_guard (by rfl) ?_;dsimp only));refine box_event ?hg (N:=3) ?hd (cs:=#[.int .i64 0,.int .i64 0,.int .i64 0,.int .i64 0,.int .i64 0]) (t:=23) ?hr ?_;(case hd=>rfl);(case hg=>rfl);(case hr=>first|(go_simp;done)|(go_simp;rfl));intro gb302 hg w5 hbox hb;have n0_:=Am (blk_below (g:=gb301) (by (with_reducible repeat (first|refine bN ?_ _|refine bD ?_|refine bA ?_ _));exact BK301.out) hb);have n1_:=Am (below_step (by repeat (first|(with_reducible first|exact HB.out|apply bL|apply pN|apply bE|refine bS ?_ GE301.out)|exact HB.out)) hb);have n2_:=Am (hbox);have n3_:=Am ((by rw [hg];exact (bZ (by repeat (first|(with_reducible first|exact HB.out|apply bL|apply pN|apply bE|refine bS ?_ GE301.out)|exact HB.out))) : w.heap.size≤gb302));have n4_:=n3_;have n5_:=Am ((by rw [hg];exact Nat.ne_of_lt (blk_lt (g:=gb301) (by (with_reducible repeat (first|refine bN ?_ _|refine bD ?_|refine bA ?_ _));exact BK301.out)) : gb301 ≠ gb302));have n6_:=Am ((by rw [hg];exact Nat.ne_of_gt (blk_lt (g:=gb301) (by (with_reducible repeat (first|refine bN ?_ _|refine bD ?_|refine bA ?_ _));exact BK301.out)) : gb302 ≠ gb301));clear BK301;clear HB;have BK301:=n0_;have HB:=n1_;have BK302:=n2_;have GW302:=n3_;have GE302:=n4_;have NB301_302:=n5_;have NB302_301:=n6_;clear n0_ n1_ n2_ n3_ n4_ n5_ n6_;clear hb hbox hg;have hnb6:=NB302_301.out;have hnc6:=NB301_302.out;obtain ⟨X7_0,X7_1,X7_2,X7_3,X7_4,Y7_0,Y7_1,Y7_2,Y7_3,Y7_4⟩:=kc5 (w:=w5) (g:=gb302) BK302.out));go_upto_region 2 with (first|((with_reducible refine gD (N:=1) rfl ?_);(try (refine gate_guard (by rfl) ?_;dsimp only));refine box_event ?hg (N:=1) ?hd (cs:=#[.int .i64 a0_0,.int .i64 a0_1,.int .i64 a0_2,.int .i64 a0_3,.int .i64 a0_4,.int .i64 a0_5,.int .i64 a0_6,.int .i64 a0_7,.int .i64 a0_8,.slice A0_9 l0_9.length c0_9,.slice A0_10 l0_10.length c0_10,.slice A0_11 l0_11.length c0_11]) (t:=28) ?hr ?_;(case hd=>rfl);(case hg=>rfl);(case hr=>first|(go_simp;done)|(go_simp;rfl));intro gb301 hg w3 hbox hb;have n0_:=Am (below_step (by repeat (first|(with_reducible first|exact HB.out|apply bL|apply pN|apply bE)|exact HB.out)) hb);have n1_:=Am (hbox);have n2_:=Am ((by rw [hg];exact (bZ (by repeat (first|(with_reducible first|exact HB.out|apply bL|apply pN|apply bE)|exact HB.out))) : w.heap.size≤gb301));have n3_:=n2_;clear HB;have HB:=n0_;have BK301:=n1_;have GW301:=n2_;have GE301:=n3_;clear n0_ n1_ n2_ n3_;clear hb hbox hg;obtain ⟨X4_0,X4_1,X4_2,X4_3,X4_4,X4_5,X4_6,X4_7,X4_8,X4_9,X4_10,X4_11,Y4_0,Y4_1,Y4_2,Y4_3,Y4_4,Y4_5,Y4_6,Y4_7,Y4_8,Y4_9,Y4_10,Y4_11⟩:=kc12 (w:=w3) (g:=gb301) BK301.out)|((with_reducible refine gD (N:=3) rfl ?_);(try (refine gate_guard (by rfl) ?_;dsimp only));refine box_event ?hg (N:=3) ?hd (cs:=#[.int .i64 0,.int .i64 0,.int .i64 0,.int .i64 0,.int .i64 0]) (t:=23) ?hr ?_;(case hd=>rfl);(case hg=>rfl);(case hr=>first|(go_simp;done)|(go_simp;rfl));intro gb302 hg w5 hbox hb;have n0_:=Am (blk_below (g:=gb301) (by (with_reducible repeat (first|refine bN ?_ _|refine bD ?_|refine bA ?_ _));exact BK301.out) hb);have n1_:=Am (below_step (by repeat (first|(with_reducible first|exact HB.out|apply bL|apply pN|apply bE|refine bS ?_ GE301.out)|exact HB.out)) hb);have n2_:=Am (hbox);have n3_:=Am ((by rw [hg];exact (bZ (by repeat (first|(with_reducible first|exact HB.out|apply bL|apply pN|apply bE|refine bS ?_ GE301.out)|exact HB.out))) : w.heap.size≤gb302));have n4_:=n3_;have n5_:=Am ((by rw [hg];exact Nat.ne_of_lt (blk_lt (g:=gb301) (by (with_reducible repeat (first|refine bN ?_ _|refine bD ?_|refine bA ?_ _));exact BK301.out)) : gb301 ≠ gb302));have n6_:=Am ((by rw [hg];exact Nat.ne_of_gt (blk_lt (g:=gb301) (by (with_reducible repeat (first|refine bN ?_ _|refine bD ?_|refine bA ?_ _));exact BK301.out)) : gb302 ≠ gb301));clear BK301;clear HB;have BK301:=n0_;have HB:=n1_;have BK302:=n2_;have GW302:=n3_;have GE302:=n4_;have NB301_302:=n5_;have NB302_301:=n6_;clear n0_ n1_ n2_ n3_ n4_ n5_ n6_;clear hb hbox hg;have hnb6:=NB302_301.out;have hnc6:=NB301_302.out;obtain ⟨X7_0,X7_1,X7_2,X7_3,X7_4,Y7_0,Y7_1,Y7_2,Y7_3,Y7_4⟩:=kc5 (w:=w5) (g:=gb302) BK302.out)))
 (try simp only [Act.put,sT,sZ,sS])
 go_cut [34] (fun v34 wc=>∃ (kq : Nat) (x34_1 : Bool),v34 = .bool x34_1∧Aside0 (gangerref10_Check.j0 kq x34_1 a0_0 a0_1 a0_2 a0_3 a0_4 a0_5 a0_6 a0_7 a0_8 l0_9 l0_10 l0_11 = some r)∧Aside0 (kq≤k)∧Aside0 (wc.heap[gb301]? = some (.cells #[.int .i64 a0_0,.int .i64 a0_1,.int .i64 a0_2,.int .i64 a0_3,.int .i64 a0_4,.int .i64 a0_5,.int .i64 a0_6,.int .i64 a0_7,.int .i64 a0_8,(.slice A0_9 l0_9.length c0_9),(.slice A0_10 l0_10.length c0_10),(.slice A0_11 l0_11.length c0_11)] 28 (0,0)))∧Aside0 (wc.heap[gb302]? = some (.cells #[.int .i64 a0_4,.int .i64 a0_5,.int .i64 a0_6,.int .i64 a0_7,.int .i64 a0_8] 23 (0,0)))∧Aside0 (Below w.heap.size w wc))
 case first =>
  have H:=HC2.out
  clear HC2
  replace H:=oB H
  obtain ⟨t303,A80,H⟩:=H
  try dsimp only at H
  have A8:=Am A80
  clear A80
  by_cases c9 : t303 = true
  ·subst c9
   have H1 : (gangerref10_Check.j0 k true a0_0 a0_1 a0_2 a0_3 a0_4 a0_5 a0_6 a0_7 a0_8 l0_9 l0_10 l0_11) = some r:=by rw [if_pos rfl] at H;exact H
   clear H
   have H:=H1
   clear H1
   have H':=Am H
   clear H
   have hnb10:=NB302_301.out
   have hnc10:=NB301_302.out
   obtain ⟨X11_0,X11_1,X11_2,X11_3,X11_4,Y11_0,Y11_1,Y11_2,Y11_3,Y11_4⟩:=kc5 (w:=w5) (g:=gb302) BK302.out
   go_wp2_with (first|(go_at_call 33;(with_reducible refine (gangerref10_out.calls a0_4 0 1048576 true _ A8.out).mono ?_);rintro e w' ⟨rfl,⟨nd,rfl⟩⟩;(try first|exact ⟨rfl,_,wD _ _ _⟩|exact ⟨rfl,_,wE _ _ _ _⟩)))
   repeat (go_quiet (first|(go_at_call 33;(with_reducible refine (gangerref10_out.calls a0_4 0 1048576 true _ A8.out).mono ?_);rintro e w' ⟨rfl,⟨nd,rfl⟩⟩;(try first|exact ⟨rfl,_,wD _ _ _⟩|exact ⟨rfl,_,wE _ _ _ _⟩)));try go_wp2_with (first|(go_at_call 33;(with_reducible refine (gangerref10_out.calls a0_4 0 1048576 true _ A8.out).mono ?_);rintro e w' ⟨rfl,⟨nd,rfl⟩⟩;(try first|exact ⟨rfl,_,wD _ _ _⟩|exact ⟨rfl,_,wE _ _ _ _⟩))))
   go_meet
   case rel=>exact ⟨_,(true),(by first|rfl|(simp;done)|(simp [*];done)),H',⟨by first|omega|exact Nat.le_refl _⟩,⟨by (with_reducible repeat (first|refine bN ?_ _|refine bD ?_|refine bA ?_ _));refine blk_far ?_ NB301_302.out _;(with_reducible repeat (first|refine bN ?_ _|refine bD ?_|refine bA ?_ _));refine blk_far ?_ NB301_302.out _;(with_reducible repeat (first|refine bN ?_ _|refine bD ?_|refine bA ?_ _));refine blk_far ?_ NB301_302.out _;(with_reducible repeat (first|refine bN ?_ _|refine bD ?_|refine bA ?_ _));refine blk_far ?_ NB301_302.out _;(with_reducible repeat (first|refine bN ?_ _|refine bD ?_|refine bA ?_ _));refine blk_far ?_ NB301_302.out _;(with_reducible repeat (first|refine bN ?_ _|refine bD ?_|refine bA ?_ _));exact BK301.out⟩,⟨by (with_reducible repeat (first|refine bN ?_ _|refine bD ?_|refine bA ?_ _));refine blk_put (cs:=#[.int .i64 a0_4,.int .i64 a0_5,.int .i64 a0_6,.int .i64 a0_7,.int .i64 0]) ?_ 4 _ rfl;(with_reducible repeat (first|refine bN ?_ _|refine bD ?_|refine bA ?_ _));refine blk_put (cs:=#[.int .i64 a0_4,.int .i64 a0_5,.int .i64 a0_6,.int .i64 0,.int .i64 0]) ?_ 3 _ rfl;(with_reducible repeat (first|refine bN ?_ _|refine bD ?_|refine bA ?_ _));refine blk_put (cs:=#[.int .i64 a0_4,.int .i64 a0_5,.int .i64 0,.int .i64 0,.int .i64 0]) ?_ 2 _ rfl;(with_reducible repeat (first|refine bN ?_ _|refine bD ?_|refine bA ?_ _));refine blk_put (cs:=#[.int .i64 a0_4,.int .i64 0,.int .i64 0,.int .i64 0,.int .i64 0]) ?_ 1 _ rfl;(with_reducible repeat (first|refine bN ?_ _|refine bD ?_|refine bA ?_ _));refine blk_put (cs:=#[.int .i64 0,.int .i64 0,.int .i64 0,.int .i64 0,.int .i64 0]) ?_ 0 _ rfl;(with_reducible repeat (first|refine bN ?_ _|refine bD ?_|refine bA ?_ _));exact BK302.out⟩,⟨by repeat (first|(with_reducible first|exact HB.out|apply bL|apply pN|apply bE|refine bS ?_ GE301.out|refine bS ?_ GE302.out)|exact HB.out)⟩⟩
  replace c9:=Bool.eq_false_iff.mpr c9
  subst c9
  have H1 : ((gangerref10_out.f a0_5 0 1048576).bind fun t304=>(if t304 = true then (gangerref10_Check.j0 k true a0_0 a0_1 a0_2 a0_3 a0_4 a0_5 a0_6 a0_7 a0_8 l0_9 l0_10 l0_11) else ((gangerref10_out.f a0_6 0 1048576).bind fun t305=>(if t305 = true then (gangerref10_Check.j0 k true a0_0 a0_1 a0_2 a0_3 a0_4 a0_5 a0_6 a0_7 a0_8 l0_9 l0_10 l0_11) else ((gangerref10_out.f a0_7 0 1048576).bind fun t306=>(if t306 = true then (gangerref10_Check.j0 k true a0_0 a0_1 a0_2 a0_3 a0_4 a0_5 a0_6 a0_7 a0_8 l0_9 l0_10 l0_11) else ((gangerref10_out.f a0_8 0 1048576).bind fun t307=>(gangerref10_Check.j0 k t307 a0_0 a0_1 a0_2 a0_3 a0_4 a0_5 a0_6 a0_7 a0_8 l0_9 l0_10 l0_11)))))))) = some r:=by rw [if_neg (show ¬ (false = true) by decide)] at H;exact H
  clear H
  have H:=H1
  clear H1
  replace H:=oB H
  obtain ⟨t304,A120,H⟩:=H
  try dsimp only at H
  have A12:=Am A120
  clear A120
  by_cases c13 : t304 = true
  ·subst c13
   have H1 : (gangerref10_Check.j0 k true a0_0 a0_1 a0_2 a0_3 a0_4 a0_5 a0_6 a0_7 a0_8 l0_9 l0_10 l0_11) = some r:=by rw [if_pos rfl] at H;exact H
   clear H
   have H:=H1
   clear H1
   have H':=Am H
   clear H
   have hnb14:=NB302_301.out
   have hnc14:=NB301_302.out
   obtain ⟨X15_0,X15_1,X15_2,X15_3,X15_4,Y15_0,Y15_1,Y15_2,Y15_3,Y15_4⟩:=kc5 (w:=w5) (g:=gb302) BK302.out
   go_wp2_with (first|(go_at_call 33;(with_reducible refine (gangerref10_out.calls a0_4 0 1048576 false _ A8.out).mono ?_);rintro e w' ⟨rfl,⟨nd,rfl⟩⟩;(try first|exact ⟨rfl,_,wD _ _ _⟩|exact ⟨rfl,_,wE _ _ _ _⟩))|(go_at_call 33;(with_reducible refine (gangerref10_out.calls a0_5 0 1048576 true _ A12.out).mono ?_);rintro e w' ⟨rfl,⟨nd,rfl⟩⟩;(try first|exact ⟨rfl,_,wD _ _ _⟩|exact ⟨rfl,_,wE _ _ _ _⟩)))
   repeat (go_quiet (first|(go_at_call 33;(with_reducible refine (gangerref10_out.calls a0_4 0 1048576 false _ A8.out).mono ?_);rintro e w' ⟨rfl,⟨nd,rfl⟩⟩;(try first|exact ⟨rfl,_,wD _ _ _⟩|exact ⟨rfl,_,wE _ _ _ _⟩))|(go_at_call 33;(with_reducible refine (gangerref10_out.calls a0_5 0 1048576 true _ A12.out).mono ?_);rintro e w' ⟨rfl,⟨nd,rfl⟩⟩;(try first|exact ⟨rfl,_,wD _ _ _⟩|exact ⟨rfl,_,wE _ _ _ _⟩)));try go_wp2_with (first|(go_at_call 33;(with_reducible refine (gangerref10_out.calls a0_4 0 1048576 false _ A8.out).mono ?_);rintro e w' ⟨rfl,⟨nd,rfl⟩⟩;(try first|exact ⟨rfl,_,wD _ _ _⟩|exact ⟨rfl,_,wE _ _ _ _⟩))|(go_at_call 33;(with_reducible refine (gangerref10_out.calls a0_5 0 1048576 true _ A12.out).mono ?_);rintro e w' ⟨rfl,⟨nd,rfl⟩⟩;(try first|exact ⟨rfl,_,wD _ _ _⟩|exact ⟨rfl,_,wE _ _ _ _⟩))))
   go_meet
   case rel=>exact ⟨_,(true),(by first|rfl|(simp;done)|(simp [*];done)),H',⟨by first|omega|exact Nat.le_refl _⟩,⟨by (with_reducible repeat (first|refine bN ?_ _|refine bD ?_|refine bA ?_ _));refine blk_far ?_ NB301_302.out _;(with_reducible repeat (first|refine bN ?_ _|refine bD ?_|refine bA ?_ _));refine blk_far ?_ NB301_302.out _;(with_reducible repeat (first|refine bN ?_ _|refine bD ?_|refine bA ?_ _));refine blk_far ?_ NB301_302.out _;(with_reducible repeat (first|refine bN ?_ _|refine bD ?_|refine bA ?_ _));refine blk_far ?_ NB301_302.out _;(with_reducible repeat (first|refine bN ?_ _|refine bD ?_|refine bA ?_ _));refine blk_far ?_ NB301_302.out _;(with_reducible repeat (first|refine bN ?_ _|refine bD ?_|refine bA ?_ _));exact BK301.out⟩,⟨by (with_reducible repeat (first|refine bN ?_ _|refine bD ?_|refine bA ?_ _));refine blk_put (cs:=#[.int .i64 a0_4,.int .i64 a0_5,.int .i64 a0_6,.int .i64 a0_7,.int .i64 0]) ?_ 4 _ rfl;(with_reducible repeat (first|refine bN ?_ _|refine bD ?_|refine bA ?_ _));refine blk_put (cs:=#[.int .i64 a0_4,.int .i64 a0_5,.int .i64 a0_6,.int .i64 0,.int .i64 0]) ?_ 3 _ rfl;(with_reducible repeat (first|refine bN ?_ _|refine bD ?_|refine bA ?_ _));refine blk_put (cs:=#[.int .i64 a0_4,.int .i64 a0_5,.int .i64 0,.int .i64 0,.int .i64 0]) ?_ 2 _ rfl;(with_reducible repeat (first|refine bN ?_ _|refine bD ?_|refine bA ?_ _));refine blk_put (cs:=#[.int .i64 a0_4,.int .i64 0,.int .i64 0,.int .i64 0,.int .i64 0]) ?_ 1 _ rfl;(with_reducible repeat (first|refine bN ?_ _|refine bD ?_|refine bA ?_ _));refine blk_put (cs:=#[.int .i64 0,.int .i64 0,.int .i64 0,.int .i64 0,.int .i64 0]) ?_ 0 _ rfl;(with_reducible repeat (first|refine bN ?_ _|refine bD ?_|refine bA ?_ _));exact BK302.out⟩,⟨by repeat (first|(with_reducible first|exact HB.out|apply bL|apply pN|apply bE|refine bS ?_ GE301.out|refine bS ?_ GE302.out)|exact HB.out)⟩⟩
  replace c13:=Bool.eq_false_iff.mpr c13
  subst c13
  have H1 : ((gangerref10_out.f a0_6 0 1048576).bind fun t305=>(if t305 = true then (gangerref10_Check.j0 k true a0_0 a0_1 a0_2 a0_3 a0_4 a0_5 a0_6 a0_7 a0_8 l0_9 l0_10 l0_11) else ((gangerref10_out.f a0_7 0 1048576).bind fun t306=>(if t306 = true then (gangerref10_Check.j0 k true a0_0 a0_1 a0_2 a0_3 a0_4 a0_5 a0_6 a0_7 a0_8 l0_9 l0_10 l0_11) else ((gangerref10_out.f a0_8 0 1048576).bind fun t307=>(gangerref10_Check.j0 k t307 a0_0 a0_1 a0_2 a0_3 a0_4 a0_5 a0_6 a0_7 a0_8 l0_9 l0_10 l0_11)))))) = some r:=by rw [if_neg (show ¬ (false = true) by decide)] at H;exact H
  clear H
  have H:=H1
  clear H1
  replace H:=oB H
  obtain ⟨t305,A160,H⟩:=H
  try dsimp only at H
  have A16:=Am A160
  clear A160
  by_cases c17 : t305 = true
  ·subst c17
   have H1 : (gangerref10_Check.j0 k true a0_0 a0_1 a0_2 a0_3 a0_4 a0_5 a0_6 a0_7 a0_8 l0_9 l0_10 l0_11) = some r:=by rw [if_pos rfl] at H;exact H
   clear H
   have H:=H1
   clear H1
   have H':=Am H
   clear H
   have hnb18:=NB302_301.out
   have hnc18:=NB301_302.out
   obtain ⟨X19_0,X19_1,X19_2,X19_3,X19_4,Y19_0,Y19_1,Y19_2,Y19_3,Y19_4⟩:=kc5 (w:=w5) (g:=gb302) BK302.out
   go_wp2_with (first|(go_at_call 33;(with_reducible refine (gangerref10_out.calls a0_4 0 1048576 false _ A8.out).mono ?_);rintro e w' ⟨rfl,⟨nd,rfl⟩⟩;(try first|exact ⟨rfl,_,wD _ _ _⟩|exact ⟨rfl,_,wE _ _ _ _⟩))|(go_at_call 33;(with_reducible refine (gangerref10_out.calls a0_5 0 1048576 false _ A12.out).mono ?_);rintro e w' ⟨rfl,⟨nd,rfl⟩⟩;(try first|exact ⟨rfl,_,wD _ _ _⟩|exact ⟨rfl,_,wE _ _ _ _⟩))|(go_at_call 33;(with_reducible refine (gangerref10_out.calls a0_6 0 1048576 true _ A16.out).mono ?_);rintro e w' ⟨rfl,⟨nd,rfl⟩⟩;(try first|exact ⟨rfl,_,wD _ _ _⟩|exact ⟨rfl,_,wE _ _ _ _⟩)))
   repeat (go_quiet (first|(go_at_call 33;(with_reducible refine (gangerref10_out.calls a0_4 0 1048576 false _ A8.out).mono ?_);rintro e w' ⟨rfl,⟨nd,rfl⟩⟩;(try first|exact ⟨rfl,_,wD _ _ _⟩|exact ⟨rfl,_,wE _ _ _ _⟩))|(go_at_call 33;(with_reducible refine (gangerref10_out.calls a0_5 0 1048576 false _ A12.out).mono ?_);rintro e w' ⟨rfl,⟨nd,rfl⟩⟩;(try first|exact ⟨rfl,_,wD _ _ _⟩|exact ⟨rfl,_,wE _ _ _ _⟩))|(go_at_call 33;(with_reducible refine (gangerref10_out.calls a0_6 0 1048576 true _ A16.out).mono ?_);rintro e w' ⟨rfl,⟨nd,rfl⟩⟩;(try first|exact ⟨rfl,_,wD _ _ _⟩|exact ⟨rfl,_,wE _ _ _ _⟩)));try go_wp2_with (first|(go_at_call 33;(with_reducible refine (gangerref10_out.calls a0_4 0 1048576 false _ A8.out).mono ?_);rintro e w' ⟨rfl,⟨nd,rfl⟩⟩;(try first|exact ⟨rfl,_,wD _ _ _⟩|exact ⟨rfl,_,wE _ _ _ _⟩))|(go_at_call 33;(with_reducible refine (gangerref10_out.calls a0_5 0 1048576 false _ A12.out).mono ?_);rintro e w' ⟨rfl,⟨nd,rfl⟩⟩;(try first|exact ⟨rfl,_,wD _ _ _⟩|exact ⟨rfl,_,wE _ _ _ _⟩))|(go_at_call 33;(with_reducible refine (gangerref10_out.calls a0_6 0 1048576 true _ A16.out).mono ?_);rintro e w' ⟨rfl,⟨nd,rfl⟩⟩;(try first|exact ⟨rfl,_,wD _ _ _⟩|exact ⟨rfl,_,wE _ _ _ _⟩))))
   go_meet
   case rel=>exact ⟨_,(true),(by first|rfl|(simp;done)|(simp [*];done)),H',⟨by first|omega|exact Nat.le_refl _⟩,⟨by (with_reducible repeat (first|refine bN ?_ _|refine bD ?_|refine bA ?_ _));refine blk_far ?_ NB301_302.out _;(with_reducible repeat (first|refine bN ?_ _|refine bD ?_|refine bA ?_ _));refine blk_far ?_ NB301_302.out _;(with_reducible repeat (first|refine bN ?_ _|refine bD ?_|refine bA ?_ _));refine blk_far ?_ NB301_302.out _;(with_reducible repeat (first|refine bN ?_ _|refine bD ?_|refine bA ?_ _));refine blk_far ?_ NB301_302.out _;(with_reducible repeat (first|refine bN ?_ _|refine bD ?_|refine bA ?_ _));refine blk_far ?_ NB301_302.out _;(with_reducible repeat (first|refine bN ?_ _|refine bD ?_|refine bA ?_ _));exact BK301.out⟩,⟨by (with_reducible repeat (first|refine bN ?_ _|refine bD ?_|refine bA ?_ _));refine blk_put (cs:=#[.int .i64 a0_4,.int .i64 a0_5,.int .i64 a0_6,.int .i64 a0_7,.int .i64 0]) ?_ 4 _ rfl;(with_reducible repeat (first|refine bN ?_ _|refine bD ?_|refine bA ?_ _));refine blk_put (cs:=#[.int .i64 a0_4,.int .i64 a0_5,.int .i64 a0_6,.int .i64 0,.int .i64 0]) ?_ 3 _ rfl;(with_reducible repeat (first|refine bN ?_ _|refine bD ?_|refine bA ?_ _));refine blk_put (cs:=#[.int .i64 a0_4,.int .i64 a0_5,.int .i64 0,.int .i64 0,.int .i64 0]) ?_ 2 _ rfl;(with_reducible repeat (first|refine bN ?_ _|refine bD ?_|refine bA ?_ _));refine blk_put (cs:=#[.int .i64 a0_4,.int .i64 0,.int .i64 0,.int .i64 0,.int .i64 0]) ?_ 1 _ rfl;(with_reducible repeat (first|refine bN ?_ _|refine bD ?_|refine bA ?_ _));refine blk_put (cs:=#[.int .i64 0,.int .i64 0,.int .i64 0,.int .i64 0,.int .i64 0]) ?_ 0 _ rfl;(with_reducible repeat (first|refine bN ?_ _|refine bD ?_|refine bA ?_ _));exact BK302.out⟩,⟨by repeat (first|(with_reducible first|exact HB.out|apply bL|apply pN|apply bE|refine bS ?_ GE301.out|refine bS ?_ GE302.out)|exact HB.out)⟩⟩
  replace c17:=Bool.eq_false_iff.mpr c17
  subst c17
  have H1 : ((gangerref10_out.f a0_7 0 1048576).bind fun t306=>(if t306 = true then (gangerref10_Check.j0 k true a0_0 a0_1 a0_2 a0_3 a0_4 a0_5 a0_6 a0_7 a0_8 l0_9 l0_10 l0_11) else ((gangerref10_out.f a0_8 0 1048576).bind fun t307=>(gangerref10_Check.j0 k t307 a0_0 a0_1 a0_2 a0_3 a0_4 a0_5 a0_6 a0_7 a0_8 l0_9 l0_10 l0_11)))) = some r:=by rw [if_neg (show ¬ (false = true) by decide)] at H;exact H
  clear H
  have H:=H1
  clear H1
  replace H:=oB H
  obtain ⟨t306,A200,H⟩:=H
  try dsimp only at H
  have A20:=Am A200
  clear A200
  by_cases c21 : t306 = true
  ·subst c21
   have H1 : (gangerref10_Check.j0 k true a0_0 a0_1 a0_2 a0_3 a0_4 a0_5 a0_6 a0_7 a0_8 l0_9 l0_10 l0_11) = some r:=by rw [if_pos rfl] at H;exact H
   clear H
   have H:=H1
   clear H1
   have H':=Am H
   clear H
   have hnb22:=NB302_301.out
   have hnc22:=NB301_302.out
   obtain ⟨X23_0,X23_1,X23_2,X23_3,X23_4,Y23_0,Y23_1,Y23_2,Y23_3,Y23_4⟩:=kc5 (w:=w5) (g:=gb302) BK302.out
   go_wp2_with (first|(go_at_call 33;(with_reducible refine (gangerref10_out.calls a0_4 0 1048576 false _ A8.out).mono ?_);rintro e w' ⟨rfl,⟨nd,rfl⟩⟩;(try first|exact ⟨rfl,_,wD _ _ _⟩|exact ⟨rfl,_,wE _ _ _ _⟩))|(go_at_call 33;(with_reducible refine (gangerref10_out.calls a0_5 0 1048576 false _ A12.out).mono ?_);rintro e w' ⟨rfl,⟨nd,rfl⟩⟩;(try first|exact ⟨rfl,_,wD _ _ _⟩|exact ⟨rfl,_,wE _ _ _ _⟩))|(go_at_call 33;(with_reducible refine (gangerref10_out.calls a0_6 0 1048576 false _ A16.out).mono ?_);rintro e w' ⟨rfl,⟨nd,rfl⟩⟩;(try first|exact ⟨rfl,_,wD _ _ _⟩|exact ⟨rfl,_,wE _ _ _ _⟩))|(go_at_call 33;(with_reducible refine (gangerref10_out.calls a0_7 0 1048576 true _ A20.out).mono ?_);rintro e w' ⟨rfl,⟨nd,rfl⟩⟩;(try first|exact ⟨rfl,_,wD _ _ _⟩|exact ⟨rfl,_,wE _ _ _ _⟩)))
   repeat (go_quiet (first|(go_at_call 33;(with_reducible refine (gangerref10_out.calls a0_4 0 1048576 false _ A8.out).mono ?_);rintro e w' ⟨rfl,⟨nd,rfl⟩⟩;(try first|exact ⟨rfl,_,wD _ _ _⟩|exact ⟨rfl,_,wE _ _ _ _⟩))|(go_at_call 33;(with_reducible refine (gangerref10_out.calls a0_5 0 1048576 false _ A12.out).mono ?_);rintro e w' ⟨rfl,⟨nd,rfl⟩⟩;(try first|exact ⟨rfl,_,wD _ _ _⟩|exact ⟨rfl,_,wE _ _ _ _⟩))|(go_at_call 33;(with_reducible refine (gangerref10_out.calls a0_6 0 1048576 false _ A16.out).mono ?_);rintro e w' ⟨rfl,⟨nd,rfl⟩⟩;(try first|exact ⟨rfl,_,wD _ _ _⟩|exact ⟨rfl,_,wE _ _ _ _⟩))|(go_at_call 33;(with_reducible refine (gangerref10_out.calls a0_7 0 1048576 true _ A20.out).mono ?_);rintro e w' ⟨rfl,⟨nd,rfl⟩⟩;(try first|exact ⟨rfl,_,wD _ _ _⟩|exact ⟨rfl,_,wE _ _ _ _⟩)));try go_wp2_with (first|(go_at_call 33;(with_reducible refine (gangerref10_out.calls a0_4 0 1048576 false _ A8.out).mono ?_);rintro e w' ⟨rfl,⟨nd,rfl⟩⟩;(try first|exact ⟨rfl,_,wD _ _ _⟩|exact ⟨rfl,_,wE _ _ _ _⟩))|(go_at_call 33;(with_reducible refine (gangerref10_out.calls a0_5 0 1048576 false _ A12.out).mono ?_);rintro e w' ⟨rfl,⟨nd,rfl⟩⟩;(try first|exact ⟨rfl,_,wD _ _ _⟩|exact ⟨rfl,_,wE _ _ _ _⟩))|(go_at_call 33;(with_reducible refine (gangerref10_out.calls a0_6 0 1048576 false _ A16.out).mono ?_);rintro e w' ⟨rfl,⟨nd,rfl⟩⟩;(try first|exact ⟨rfl,_,wD _ _ _⟩|exact ⟨rfl,_,wE _ _ _ _⟩))|(go_at_call 33;(with_reducible refine (gangerref10_out.calls a0_7 0 1048576 true _ A20.out).mono ?_);rintro e w' ⟨rfl,⟨nd,rfl⟩⟩;(try first|exact ⟨rfl,_,wD _ _ _⟩|exact ⟨rfl,_,wE _ _ _ _⟩))))
   go_meet
   case rel=>exact ⟨_,(true),(by first|rfl|(simp;done)|(simp [*];done)),H',⟨by first|omega|exact Nat.le_refl _⟩,⟨by (with_reducible repeat (first|refine bN ?_ _|refine bD ?_|refine bA ?_ _));refine blk_far ?_ NB301_302.out _;(with_reducible repeat (first|refine bN ?_ _|refine bD ?_|refine bA ?_ _));refine blk_far ?_ NB301_302.out _;(with_reducible repeat (first|refine bN ?_ _|refine bD ?_|refine bA ?_ _));refine blk_far ?_ NB301_302.out _;(with_reducible repeat (first|refine bN ?_ _|refine bD ?_|refine bA ?_ _));refine blk_far ?_ NB301_302.out _;(with_reducible repeat (first|refine bN ?_ _|refine bD ?_|refine bA ?_ _));refine blk_far ?_ NB301_302.out _;(with_reducible repeat (first|refine bN ?_ _|refine bD ?_|refine bA ?_ _));exact BK301.out⟩,⟨by (with_reducible repeat (first|refine bN ?_ _|refine bD ?_|refine bA ?_ _));refine blk_put (cs:=#[.int .i64 a0_4,.int .i64 a0_5,.int .i64 a0_6,.int .i64 a0_7,.int .i64 0]) ?_ 4 _ rfl;(with_reducible repeat (first|refine bN ?_ _|refine bD ?_|refine bA ?_ _));refine blk_put (cs:=#[.int .i64 a0_4,.int .i64 a0_5,.int .i64 a0_6,.int .i64 0,.int .i64 0]) ?_ 3 _ rfl;(with_reducible repeat (first|refine bN ?_ _|refine bD ?_|refine bA ?_ _));refine blk_put (cs:=#[.int .i64 a0_4,.int .i64 a0_5,.int .i64 0,.int .i64 0,.int .i64 0]) ?_ 2 _ rfl;(with_reducible repeat (first|refine bN ?_ _|refine bD ?_|refine bA ?_ _));refine blk_put (cs:=#[.int .i64 a0_4,.int .i64 0,.int .i64 0,.int .i64 0,.int .i64 0]) ?_ 1 _ rfl;(with_reducible repeat (first|refine bN ?_ _|refine bD ?_|refine bA ?_ _));refine blk_put (cs:=#[.int .i64 0,.int .i64 0,.int .i64 0,.int .i64 0,.int .i64 0]) ?_ 0 _ rfl;(with_reducible repeat (first|refine bN ?_ _|refine bD ?_|refine bA ?_ _));exact BK302.out⟩,⟨by repeat (first|(with_reducible first|exact HB.out|apply bL|apply pN|apply bE|refine bS ?_ GE301.out|refine bS ?_ GE302.out)|exact HB.out)⟩⟩
  replace c21:=Bool.eq_false_iff.mpr c21
  subst c21
  have H1 : ((gangerref10_out.f a0_8 0 1048576).bind fun t307=>(gangerref10_Check.j0 k t307 a0_0 a0_1 a0_2 a0_3 a0_4 a0_5 a0_6 a0_7 a0_8 l0_9 l0_10 l0_11)) = some r:=by rw [if_neg (show ¬ (false = true) by decide)] at H;exact H
  clear H
  have H:=H1
  clear H1
  replace H:=oB H
  obtain ⟨t307,A240,H⟩:=H
  try dsimp only at H
  have A24:=Am A240
  clear A240
  have H':=Am H
  clear H
  have hnb25:=NB302_301.out
  have hnc25:=NB301_302.out
  obtain ⟨X26_0,X26_1,X26_2,X26_3,X26_4,Y26_0,Y26_1,Y26_2,Y26_3,Y26_4⟩:=kc5 (w:=w5) (g:=gb302) BK302.out
  go_wp2_with (first|(go_at_call 33;(with_reducible refine (gangerref10_out.calls a0_4 0 1048576 false _ A8.out).mono ?_);rintro e w' ⟨rfl,⟨nd,rfl⟩⟩;(try first|exact ⟨rfl,_,wD _ _ _⟩|exact ⟨rfl,_,wE _ _ _ _⟩))|(go_at_call 33;(with_reducible refine (gangerref10_out.calls a0_5 0 1048576 false _ A12.out).mono ?_);rintro e w' ⟨rfl,⟨nd,rfl⟩⟩;(try first|exact ⟨rfl,_,wD _ _ _⟩|exact ⟨rfl,_,wE _ _ _ _⟩))|(go_at_call 33;(with_reducible refine (gangerref10_out.calls a0_6 0 1048576 false _ A16.out).mono ?_);rintro e w' ⟨rfl,⟨nd,rfl⟩⟩;(try first|exact ⟨rfl,_,wD _ _ _⟩|exact ⟨rfl,_,wE _ _ _ _⟩))|(go_at_call 33;(with_reducible refine (gangerref10_out.calls a0_7 0 1048576 false _ A20.out).mono ?_);rintro e w' ⟨rfl,⟨nd,rfl⟩⟩;(try first|exact ⟨rfl,_,wD _ _ _⟩|exact ⟨rfl,_,wE _ _ _ _⟩))|(go_at_call 33;(with_reducible refine (gangerref10_out.calls a0_8 0 1048576 t307 _ A24.out).mono ?_);rintro e w' ⟨rfl,⟨nd,rfl⟩⟩;(try first|exact ⟨rfl,_,wD _ _ _⟩|exact ⟨rfl,_,wE _ _ _ _⟩)))
  repeat (go_quiet (first|(go_at_call 33;(with_reducible refine (gangerref10_out.calls a0_4 0 1048576 false _ A8.out).mono ?_);rintro e w' ⟨rfl,⟨nd,rfl⟩⟩;(try first|exact ⟨rfl,_,wD _ _ _⟩|exact ⟨rfl,_,wE _ _ _ _⟩))|(go_at_call 33;(with_reducible refine (gangerref10_out.calls a0_5 0 1048576 false _ A12.out).mono ?_);rintro e w' ⟨rfl,⟨nd,rfl⟩⟩;(try first|exact ⟨rfl,_,wD _ _ _⟩|exact ⟨rfl,_,wE _ _ _ _⟩))|(go_at_call 33;(with_reducible refine (gangerref10_out.calls a0_6 0 1048576 false _ A16.out).mono ?_);rintro e w' ⟨rfl,⟨nd,rfl⟩⟩;(try first|exact ⟨rfl,_,wD _ _ _⟩|exact ⟨rfl,_,wE _ _ _ _⟩))|(go_at_call 33;(with_reducible refine (gangerref10_out.calls a0_7 0 1048576 false _ A20.out).mono ?_);rintro e w' ⟨rfl,⟨nd,rfl⟩⟩;(try first|exact ⟨rfl,_,wD _ _ _⟩|exact ⟨rfl,_,wE _ _ _ _⟩))|(go_at_call 33;(with_reducible refine (gangerref10_out.calls a0_8 0 1048576 t307 _ A24.out).mono ?_);rintro e w' ⟨rfl,⟨nd,rfl⟩⟩;(try first|exact ⟨rfl,_,wD _ _ _⟩|exact ⟨rfl,_,wE _ _ _ _⟩)));try go_wp2_with (first|(go_at_call 33;(with_reducible refine (gangerref10_out.calls a0_4 0 1048576 false _ A8.out).mono ?_);rintro e w' ⟨rfl,⟨nd,rfl⟩⟩;(try first|exact ⟨rfl,_,wD _ _ _⟩|exact ⟨rfl,_,wE _ _ _ _⟩))|(go_at_call 33;(with_reducible refine (gangerref10_out.calls a0_5 0 1048576 false _ A12.out).mono ?_);rintro e w' ⟨rfl,⟨nd,rfl⟩⟩;(try first|exact ⟨rfl,_,wD _ _ _⟩|exact ⟨rfl,_,wE _ _ _ _⟩))|(go_at_call 33;(with_reducible refine (gangerref10_out.calls a0_6 0 1048576 false _ A16.out).mono ?_);rintro e w' ⟨rfl,⟨nd,rfl⟩⟩;(try first|exact ⟨rfl,_,wD _ _ _⟩|exact ⟨rfl,_,wE _ _ _ _⟩))|(go_at_call 33;(with_reducible refine (gangerref10_out.calls a0_7 0 1048576 false _ A20.out).mono ?_);rintro e w' ⟨rfl,⟨nd,rfl⟩⟩;(try first|exact ⟨rfl,_,wD _ _ _⟩|exact ⟨rfl,_,wE _ _ _ _⟩))|(go_at_call 33;(with_reducible refine (gangerref10_out.calls a0_8 0 1048576 t307 _ A24.out).mono ?_);rintro e w' ⟨rfl,⟨nd,rfl⟩⟩;(try first|exact ⟨rfl,_,wD _ _ _⟩|exact ⟨rfl,_,wE _ _ _ _⟩))))
  go_meet
  case rel=>exact ⟨_,(t307),(by first|rfl|(simp;done)|(simp [*];done)),H',⟨by first|omega|exact Nat.le_refl _⟩,⟨by (with_reducible repeat (first|refine bN ?_ _|refine bD ?_|refine bA ?_ _));refine blk_far ?_ NB301_302.out _;(with_reducible repeat (first|refine bN ?_ _|refine bD ?_|refine bA ?_ _));refine blk_far ?_ NB301_302.out _;(with_reducible repeat (first|refine bN ?_ _|refine bD ?_|refine bA ?_ _));refine blk_far ?_ NB301_302.out _;(with_reducible repeat (first|refine bN ?_ _|refine bD ?_|refine bA ?_ _));refine blk_far ?_ NB301_302.out _;(with_reducible repeat (first|refine bN ?_ _|refine bD ?_|refine bA ?_ _));refine blk_far ?_ NB301_302.out _;(with_reducible repeat (first|refine bN ?_ _|refine bD ?_|refine bA ?_ _));exact BK301.out⟩,⟨by (with_reducible repeat (first|refine bN ?_ _|refine bD ?_|refine bA ?_ _));refine blk_put (cs:=#[.int .i64 a0_4,.int .i64 a0_5,.int .i64 a0_6,.int .i64 a0_7,.int .i64 0]) ?_ 4 _ rfl;(with_reducible repeat (first|refine bN ?_ _|refine bD ?_|refine bA ?_ _));refine blk_put (cs:=#[.int .i64 a0_4,.int .i64 a0_5,.int .i64 a0_6,.int .i64 0,.int .i64 0]) ?_ 3 _ rfl;(with_reducible repeat (first|refine bN ?_ _|refine bD ?_|refine bA ?_ _));refine blk_put (cs:=#[.int .i64 a0_4,.int .i64 a0_5,.int .i64 0,.int .i64 0,.int .i64 0]) ?_ 2 _ rfl;(with_reducible repeat (first|refine bN ?_ _|refine bD ?_|refine bA ?_ _));refine blk_put (cs:=#[.int .i64 a0_4,.int .i64 0,.int .i64 0,.int .i64 0,.int .i64 0]) ?_ 1 _ rfl;(with_reducible repeat (first|refine bN ?_ _|refine bD ?_|refine bA ?_ _));refine blk_put (cs:=#[.int .i64 0,.int .i64 0,.int .i64 0,.int .i64 0,.int .i64 0]) ?_ 0 _ rfl;(with_reducible repeat (first|refine bN ?_ _|refine bD ?_|refine bA ?_ _));exact BK302.out⟩,⟨by repeat (first|(with_reducible first|exact HB.out|apply bL|apply pN|apply bE|refine bS ?_ GE301.out|refine bS ?_ GE302.out)|exact HB.out)⟩⟩
 case rest =>
  clear HC2
  obtain ⟨kq,x34_1,rfl,HA,HJ1,BK301,BK302,HB⟩:=hcut
  cases kq with
  | zero=>exact absurd HA.out (by simp [gangerref10_Check.j0])
  | succ kj1 =>
   have H:=HA.out
   clear HA
   simp only [gangerref10_Check.j0] at H
   by_cases c27 : x34_1 = true
   ·subst c27
    have H1 : (some 100) = some r:=by rw [if_pos rfl] at H;exact H
    clear H
    have H:=H1
    clear H1
    obtain rfl:=Option.some.inj H
    go_wp2
    repeat (go_quiet (fail);try go_wp2)
    go_ret
    exact ⟨by first|rfl|(simp [errW_none,errW_some] <;> rfl)|(simp [*,errW_none,errW_some] <;> rfl),by repeat (first|(with_reducible first|exact HB.out|apply bL|apply pN|apply bE|refine bS ?_ GE301.out|refine bS ?_ GE302.out)|exact HB.out)⟩
   replace c27:=Bool.eq_false_iff.mpr c27
   subst c27
   have H1 : ((gangerref10_out.f a0_0 1 4).bind fun t308=>(if t308 = true then (gangerref10_Check.j1 kj1 true a0_0 a0_1 a0_2 a0_3 a0_4 a0_5 a0_6 a0_7 a0_8 l0_9 l0_10 l0_11) else ((gangerref10_out.f a0_1 1 4294967296).bind fun t309=>(if t309 = true then (gangerref10_Check.j1 kj1 true a0_0 a0_1 a0_2 a0_3 a0_4 a0_5 a0_6 a0_7 a0_8 l0_9 l0_10 l0_11) else ((gangerref10_out.f a0_2 1 1073741824).bind fun t310=>(if t310 = true then (gangerref10_Check.j1 kj1 true a0_0 a0_1 a0_2 a0_3 a0_4 a0_5 a0_6 a0_7 a0_8 l0_9 l0_10 l0_11) else ((gangerref10_out.f a0_3 0 100).bind fun t311=>(gangerref10_Check.j1 kj1 t311 a0_0 a0_1 a0_2 a0_3 a0_4 a0_5 a0_6 a0_7 a0_8 l0_9 l0_10 l0_11)))))))) = some r:=by rw [if_neg (show ¬ (false = true) by decide)] at H;exact H
   clear H
   have H:=H1
   clear H1
   have HC28:=Am H
   clear H
   go_upto_region 4 with (fail)
   repeat (go_quiet (fail);go_upto_region 4 with (fail))
   go_cut [52] (fun v52 wc=>∃ (kq : Nat) (x52_27 : Bool),v52 = .bool x52_27∧Aside0 (gangerref10_Check.j1 kq x52_27 a0_0 a0_1 a0_2 a0_3 a0_4 a0_5 a0_6 a0_7 a0_8 l0_9 l0_10 l0_11 = some r)∧Aside0 (kq≤kj1)∧Aside0 (wc.heap[gb301]? = some (.cells #[.int .i64 a0_0,.int .i64 a0_1,.int .i64 a0_2,.int .i64 a0_3,.int .i64 a0_4,.int .i64 a0_5,.int .i64 a0_6,.int .i64 a0_7,.int .i64 a0_8,(.slice A0_9 l0_9.length c0_9),(.slice A0_10 l0_10.length c0_10),(.slice A0_11 l0_11.length c0_11)] 28 (0,0)))∧Aside0 (wc.heap[gb302]? = some (.cells #[.int .i64 a0_4,.int .i64 a0_5,.int .i64 a0_6,.int .i64 a0_7,.int .i64 a0_8] 23 (0,0)))∧Aside0 (Below w.heap.size w wc))
   case first =>
    have H:=HC28.out
    clear HC28
    replace H:=oB H
    obtain ⟨t308,A290,H⟩:=H
    try dsimp only at H
    have A29:=Am A290
    clear A290
    by_cases c30 : t308 = true
    ·subst c30
     have H1 : (gangerref10_Check.j1 kj1 true a0_0 a0_1 a0_2 a0_3 a0_4 a0_5 a0_6 a0_7 a0_8 l0_9 l0_10 l0_11) = some r:=by rw [if_pos rfl] at H;exact H
     clear H
     have H:=H1
     clear H1
     have H':=Am H
     clear H
     have hnb31:=NB301_302.out
     have hnc31:=NB302_301.out
     obtain ⟨X32_0,X32_1,X32_2,X32_3,X32_4,X32_5,X32_6,X32_7,X32_8,X32_9,X32_10,X32_11,Y32_0,Y32_1,Y32_2,Y32_3,Y32_4,Y32_5,Y32_6,Y32_7,Y32_8,Y32_9,Y32_10,Y32_11⟩:=kc12 (w:=wc) (g:=gb301) BK301.out
     go_wp2_with (first|(go_at_call 33;(with_reducible refine (gangerref10_out.calls a0_0 1 4 true _ A29.out).mono ?_);rintro e w' ⟨rfl,⟨nd,rfl⟩⟩;(try first|exact ⟨rfl,_,wD _ _ _⟩|exact ⟨rfl,_,wE _ _ _ _⟩)))
     repeat (go_quiet (first|(go_at_call 33;(with_reducible refine (gangerref10_out.calls a0_0 1 4 true _ A29.out).mono ?_);rintro e w' ⟨rfl,⟨nd,rfl⟩⟩;(try first|exact ⟨rfl,_,wD _ _ _⟩|exact ⟨rfl,_,wE _ _ _ _⟩)));try go_wp2_with (first|(go_at_call 33;(with_reducible refine (gangerref10_out.calls a0_0 1 4 true _ A29.out).mono ?_);rintro e w' ⟨rfl,⟨nd,rfl⟩⟩;(try first|exact ⟨rfl,_,wD _ _ _⟩|exact ⟨rfl,_,wE _ _ _ _⟩))))
     go_meet
     case rel=>exact ⟨_,(true),(by first|rfl|(simp;done)|(simp [*];done)),H',⟨by have:=HJ1.out;first|omega|exact Nat.le_refl _⟩,⟨by (with_reducible repeat (first|refine bN ?_ _|refine bD ?_|refine bA ?_ _));exact BK301.out⟩,⟨by (with_reducible repeat (first|refine bN ?_ _|refine bD ?_|refine bA ?_ _));exact BK302.out⟩,⟨by repeat (first|(with_reducible first|exact HB.out|apply bL|apply pN|apply bE|refine bS ?_ GE301.out|refine bS ?_ GE302.out)|exact HB.out)⟩⟩
    replace c30:=Bool.eq_false_iff.mpr c30
    subst c30
    have H1 : ((gangerref10_out.f a0_1 1 4294967296).bind fun t309=>(if t309 = true then (gangerref10_Check.j1 kj1 true a0_0 a0_1 a0_2 a0_3 a0_4 a0_5 a0_6 a0_7 a0_8 l0_9 l0_10 l0_11) else ((gangerref10_out.f a0_2 1 1073741824).bind fun t310=>(if t310 = true then (gangerref10_Check.j1 kj1 true a0_0 a0_1 a0_2 a0_3 a0_4 a0_5 a0_6 a0_7 a0_8 l0_9 l0_10 l0_11) else ((gangerref10_out.f a0_3 0 100).bind fun t311=>(gangerref10_Check.j1 kj1 t311 a0_0 a0_1 a0_2 a0_3 a0_4 a0_5 a0_6 a0_7 a0_8 l0_9 l0_10 l0_11)))))) = some r:=by rw [if_neg (show ¬ (false = true) by decide)] at H;exact H
    clear H
    have H:=H1
    clear H1
    replace H:=oB H
    obtain ⟨t309,A330,H⟩:=H
    try dsimp only at H
    have A33:=Am A330
    clear A330
    by_cases c34 : t309 = true
    ·subst c34
     have H1 : (gangerref10_Check.j1 kj1 true a0_0 a0_1 a0_2 a0_3 a0_4 a0_5 a0_6 a0_7 a0_8 l0_9 l0_10 l0_11) = some r:=by rw [if_pos rfl] at H;exact H
     clear H
     have H:=H1
     clear H1
     have H':=Am H
     clear H
     have hnb35:=NB301_302.out
     have hnc35:=NB302_301.out
     obtain ⟨X36_0,X36_1,X36_2,X36_3,X36_4,X36_5,X36_6,X36_7,X36_8,X36_9,X36_10,X36_11,Y36_0,Y36_1,Y36_2,Y36_3,Y36_4,Y36_5,Y36_6,Y36_7,Y36_8,Y36_9,Y36_10,Y36_11⟩:=kc12 (w:=wc) (g:=gb301) BK301.out
     go_wp2_with (first|(go_at_call 33;(with_reducible refine (gangerref10_out.calls a0_0 1 4 false _ A29.out).mono ?_);rintro e w' ⟨rfl,⟨nd,rfl⟩⟩;(try first|exact ⟨rfl,_,wD _ _ _⟩|exact ⟨rfl,_,wE _ _ _ _⟩))|(go_at_call 33;(with_reducible refine (gangerref10_out.calls a0_1 1 4294967296 true _ A33.out).mono ?_);rintro e w' ⟨rfl,⟨nd,rfl⟩⟩;(try first|exact ⟨rfl,_,wD _ _ _⟩|exact ⟨rfl,_,wE _ _ _ _⟩)))
     repeat (go_quiet (first|(go_at_call 33;(with_reducible refine (gangerref10_out.calls a0_0 1 4 false _ A29.out).mono ?_);rintro e w' ⟨rfl,⟨nd,rfl⟩⟩;(try first|exact ⟨rfl,_,wD _ _ _⟩|exact ⟨rfl,_,wE _ _ _ _⟩))|(go_at_call 33;(with_reducible refine (gangerref10_out.calls a0_1 1 4294967296 true _ A33.out).mono ?_);rintro e w' ⟨rfl,⟨nd,rfl⟩⟩;(try first|exact ⟨rfl,_,wD _ _ _⟩|exact ⟨rfl,_,wE _ _ _ _⟩)));try go_wp2_with (first|(go_at_call 33;(with_reducible refine (gangerref10_out.calls a0_0 1 4 false _ A29.out).mono ?_);rintro e w' ⟨rfl,⟨nd,rfl⟩⟩;(try first|exact ⟨rfl,_,wD _ _ _⟩|exact ⟨rfl,_,wE _ _ _ _⟩))|(go_at_call 33;(with_reducible refine (gangerref10_out.calls a0_1 1 4294967296 true _ A33.out).mono ?_);rintro e w' ⟨rfl,⟨nd,rfl⟩⟩;(try first|exact ⟨rfl,_,wD _ _ _⟩|exact ⟨rfl,_,wE _ _ _ _⟩))))
     go_meet
     case rel=>exact ⟨_,(true),(by first|rfl|(simp;done)|(simp [*];done)),H',⟨by have:=HJ1.out;first|omega|exact Nat.le_refl _⟩,⟨by (with_reducible repeat (first|refine bN ?_ _|refine bD ?_|refine bA ?_ _));exact BK301.out⟩,⟨by (with_reducible repeat (first|refine bN ?_ _|refine bD ?_|refine bA ?_ _));exact BK302.out⟩,⟨by repeat (first|(with_reducible first|exact HB.out|apply bL|apply pN|apply bE|refine bS ?_ GE301.out|refine bS ?_ GE302.out)|exact HB.out)⟩⟩
    replace c34:=Bool.eq_false_iff.mpr c34
    subst c34
    have H1 : ((gangerref10_out.f a0_2 1 1073741824).bind fun t310=>(if t310 = true then (gangerref10_Check.j1 kj1 true a0_0 a0_1 a0_2 a0_3 a0_4 a0_5 a0_6 a0_7 a0_8 l0_9 l0_10 l0_11) else ((gangerref10_out.f a0_3 0 100).bind fun t311=>(gangerref10_Check.j1 kj1 t311 a0_0 a0_1 a0_2 a0_3 a0_4 a0_5 a0_6 a0_7 a0_8 l0_9 l0_10 l0_11)))) = some r:=by rw [if_neg (show ¬ (false = true) by decide)] at H;exact H
    clear H
    have H:=H1
    clear H1
    replace H:=oB H
    obtain ⟨t310,A370,H⟩:=H
    try dsimp only at H
    have A37:=Am A370
    clear A370
    by_cases c38 : t310 = true
    ·subst c38
     have H1 : (gangerref10_Check.j1 kj1 true a0_0 a0_1 a0_2 a0_3 a0_4 a0_5 a0_6 a0_7 a0_8 l0_9 l0_10 l0_11) = some r:=by rw [if_pos rfl] at H;exact H
     clear H
     have H:=H1
     clear H1
     have H':=Am H
     clear H
     have hnb39:=NB301_302.out
     have hnc39:=NB302_301.out
     obtain ⟨X40_0,X40_1,X40_2,X40_3,X40_4,X40_5,X40_6,X40_7,X40_8,X40_9,X40_10,X40_11,Y40_0,Y40_1,Y40_2,Y40_3,Y40_4,Y40_5,Y40_6,Y40_7,Y40_8,Y40_9,Y40_10,Y40_11⟩:=kc12 (w:=wc) (g:=gb301) BK301.out
     go_wp2_with (first|(go_at_call 33;(with_reducible refine (gangerref10_out.calls a0_0 1 4 false _ A29.out).mono ?_);rintro e w' ⟨rfl,⟨nd,rfl⟩⟩;(try first|exact ⟨rfl,_,wD _ _ _⟩|exact ⟨rfl,_,wE _ _ _ _⟩))|(go_at_call 33;(with_reducible refine (gangerref10_out.calls a0_1 1 4294967296 false _ A33.out).mono ?_);rintro e w' ⟨rfl,⟨nd,rfl⟩⟩;(try first|exact ⟨rfl,_,wD _ _ _⟩|exact ⟨rfl,_,wE _ _ _ _⟩))|(go_at_call 33;(with_reducible refine (gangerref10_out.calls a0_2 1 1073741824 true _ A37.out).mono ?_);rintro e w' ⟨rfl,⟨nd,rfl⟩⟩;(try first|exact ⟨rfl,_,wD _ _ _⟩|exact ⟨rfl,_,wE _ _ _ _⟩)))
     repeat (go_quiet (first|(go_at_call 33;(with_reducible refine (gangerref10_out.calls a0_0 1 4 false _ A29.out).mono ?_);rintro e w' ⟨rfl,⟨nd,rfl⟩⟩;(try first|exact ⟨rfl,_,wD _ _ _⟩|exact ⟨rfl,_,wE _ _ _ _⟩))|(go_at_call 33;(with_reducible refine (gangerref10_out.calls a0_1 1 4294967296 false _ A33.out).mono ?_);rintro e w' ⟨rfl,⟨nd,rfl⟩⟩;(try first|exact ⟨rfl,_,wD _ _ _⟩|exact ⟨rfl,_,wE _ _ _ _⟩))|(go_at_call 33;(with_reducible refine (gangerref10_out.calls a0_2 1 1073741824 true _ A37.out).mono ?_);rintro e w' ⟨rfl,⟨nd,rfl⟩⟩;(try first|exact ⟨rfl,_,wD _ _ _⟩|exact ⟨rfl,_,wE _ _ _ _⟩)));try go_wp2_with (first|(go_at_call 33;(with_reducible refine (gangerref10_out.calls a0_0 1 4 false _ A29.out).mono ?_);rintro e w' ⟨rfl,⟨nd,rfl⟩⟩;(try first|exact ⟨rfl,_,wD _ _ _⟩|exact ⟨rfl,_,wE _ _ _ _⟩))|(go_at_call 33;(with_reducible refine (gangerref10_out.calls a0_1 1 4294967296 false _ A33.out).mono ?_);rintro e w' ⟨rfl,⟨nd,rfl⟩⟩;(try first|exact ⟨rfl,_,wD _ _ _⟩|exact ⟨rfl,_,wE _ _ _ _⟩))|(go_at_call 33;(with_reducible refine (gangerref10_out.calls a0_2 1 1073741824 true _ A37.out).mono ?_);rintro e w' ⟨rfl,⟨nd,rfl⟩⟩;(try first|exact ⟨rfl,_,wD _ _ _⟩|exact ⟨rfl,_,wE _ _ _ _⟩))))
     go_meet
     case rel=>exact ⟨_,(true),(by first|rfl|(simp;done)|(simp [*];done)),H',⟨by have:=HJ1.out;first|omega|exact Nat.le_refl _⟩,⟨by (with_reducible repeat (first|refine bN ?_ _|refine bD ?_|refine bA ?_ _));exact BK301.out⟩,⟨by (with_reducible repeat (first|refine bN ?_ _|refine bD ?_|refine bA ?_ _));exact BK302.out⟩,⟨by repeat (first|(with_reducible first|exact HB.out|apply bL|apply pN|apply bE|refine bS ?_ GE301.out|refine bS ?_ GE302.out)|exact HB.out)⟩⟩
    replace c38:=Bool.eq_false_iff.mpr c38
    subst c38
    have H1 : ((gangerref10_out.f a0_3 0 100).bind fun t311=>(gangerref10_Check.j1 kj1 t311 a0_0 a0_1 a0_2 a0_3 a0_4 a0_5 a0_6 a0_7 a0_8 l0_9 l0_10 l0_11)) = some r:=by rw [if_neg (show ¬ (false = true) by decide)] at H;exact H
    clear H
    have H:=H1
    clear H1
    replace H:=oB H
    obtain ⟨t311,A410,H⟩:=H
    try dsimp only at H
    have A41:=Am A410
    clear A410
    have H':=Am H
    clear H
    have hnb42:=NB301_302.out
    have hnc42:=NB302_301.out
    obtain ⟨X43_0,X43_1,X43_2,X43_3,X43_4,X43_5,X43_6,X43_7,X43_8,X43_9,X43_10,X43_11,Y43_0,Y43_1,Y43_2,Y43_3,Y43_4,Y43_5,Y43_6,Y43_7,Y43_8,Y43_9,Y43_10,Y43_11⟩:=kc12 (w:=wc) (g:=gb301) BK301.out
    go_wp2_with (first|(go_at_call 33;(with_reducible refine (gangerref10_out.calls a0_0 1 4 false _ A29.out).mono ?_);rintro e w' ⟨rfl,⟨nd,rfl⟩⟩;(try first|exact ⟨rfl,_,wD _ _ _⟩|exact ⟨rfl,_,wE _ _ _ _⟩))|(go_at_call 33;(with_reducible refine (gangerref10_out.calls a0_1 1 4294967296 false _ A33.out).mono ?_);rintro e w' ⟨rfl,⟨nd,rfl⟩⟩;(try first|exact ⟨rfl,_,wD _ _ _⟩|exact ⟨rfl,_,wE _ _ _ _⟩))|(go_at_call 33;(with_reducible refine (gangerref10_out.calls a0_2 1 1073741824 false _ A37.out).mono ?_);rintro e w' ⟨rfl,⟨nd,rfl⟩⟩;(try first|exact ⟨rfl,_,wD _ _ _⟩|exact ⟨rfl,_,wE _ _ _ _⟩))|(go_at_call 33;(with_reducible refine (gangerref10_out.calls a0_3 0 100 t311 _ A41.out).mono ?_);rintro e w' ⟨rfl,⟨nd,rfl⟩⟩;(try first|exact ⟨rfl,_,wD _ _ _⟩|exact ⟨rfl,_,wE _ _ _ _⟩)))
    repeat (go_quiet (first|(go_at_call 33;(with_reducible refine (gangerref10_out.calls a0_0 1 4 false _ A29.out).mono ?_);rintro e w' ⟨rfl,⟨nd,rfl⟩⟩;(try first|exact ⟨rfl,_,wD _ _ _⟩|exact ⟨rfl,_,wE _ _ _ _⟩))|(go_at_call 33;(with_reducible refine (gangerref10_out.calls a0_1 1 4294967296 false _ A33.out).mono ?_);rintro e w' ⟨rfl,⟨nd,rfl⟩⟩;(try first|exact ⟨rfl,_,wD _ _ _⟩|exact ⟨rfl,_,wE _ _ _ _⟩))|(go_at_call 33;(with_reducible refine (gangerref10_out.calls a0_2 1 1073741824 false _ A37.out).mono ?_);rintro e w' ⟨rfl,⟨nd,rfl⟩⟩;(try first|exact ⟨rfl,_,wD _ _ _⟩|exact ⟨rfl,_,wE _ _ _ _⟩))|(go_at_call 33;(with_reducible refine (gangerref10_out.calls a0_3 0 100 t311 _ A41.out).mono ?_);rintro e w' ⟨rfl,⟨nd,rfl⟩⟩;(try first|exact ⟨rfl,_,wD _ _ _⟩|exact ⟨rfl,_,wE _ _ _ _⟩)));try go_wp2_with (first|(go_at_call 33;(with_reducible refine (gangerref10_out.calls a0_0 1 4 false _ A29.out).mono ?_);rintro e w' ⟨rfl,⟨nd,rfl⟩⟩;(try first|exact ⟨rfl,_,wD _ _ _⟩|exact ⟨rfl,_,wE _ _ _ _⟩))|(go_at_call 33;(with_reducible refine (gangerref10_out.calls a0_1 1 4294967296 false _ A33.out).mono ?_);rintro e w' ⟨rfl,⟨nd,rfl⟩⟩;(try first|exact ⟨rfl,_,wD _ _ _⟩|exact ⟨rfl,_,wE _ _ _ _⟩))|(go_at_call 33;(with_reducible refine (gangerref10_out.calls a0_2 1 1073741824 false _ A37.out).mono ?_);rintro e w' ⟨rfl,⟨nd,rfl⟩⟩;(try first|exact ⟨rfl,_,wD _ _ _⟩|exact ⟨rfl,_,wE _ _ _ _⟩))|(go_at_call 33;(with_reducible refine (gangerref10_out.calls a0_3 0 100 t311 _ A41.out).mono ?_);rintro e w' ⟨rfl,⟨nd,rfl⟩⟩;(try first|exact ⟨rfl,_,wD _ _ _⟩|exact ⟨rfl,_,wE _ _ _ _⟩))))
    go_meet
    case rel=>exact ⟨_,(t311),(by first|rfl|(simp;done)|(simp [*];done)),H',⟨by have:=HJ1.out;first|omega|exact Nat.le_refl _⟩,⟨by (with_reducible repeat (first|refine bN ?_ _|refine bD ?_|refine bA ?_ _));exact BK301.out⟩,⟨by (with_reducible repeat (first|refine bN ?_ _|refine bD ?_|refine bA ?_ _));exact BK302.out⟩,⟨by repeat (first|(with_reducible first|exact HB.out|apply bL|apply pN|apply bE|refine bS ?_ GE301.out|refine bS ?_ GE302.out)|exact HB.out)⟩⟩
   case rest =>
    clear HC28
    obtain ⟨kq,x52_27,rfl,HA,HJ27,BK301,BK302,HB⟩:=hcut
    cases kq with
    | zero=>exact absurd HA.out (by simp [gangerref10_Check.j1])
    | succ kj27 =>
     have H:=HA.out
     clear HA
     simp only [gangerref10_Check.j1] at H
     by_cases c44 : x52_27 = true
     ·subst c44
      have H1 : (some 100) = some r:=by rw [if_pos rfl] at H;exact H
      clear H
      have H:=H1
      clear H1
      obtain rfl:=Option.some.inj H
      go_wp2
      repeat (go_quiet (fail);try go_wp2)
      go_ret
      exact ⟨by first|rfl|(simp [errW_none,errW_some] <;> rfl)|(simp [*,errW_none,errW_some] <;> rfl),by repeat (first|(with_reducible first|exact HB.out|apply bL|apply pN|apply bE|refine bS ?_ GE301.out|refine bS ?_ GE302.out)|exact HB.out)⟩
     replace c44:=Bool.eq_false_iff.mpr c44
     subst c44
     have H1 : ((gangerref10_out.f (l0_9.length : Int) 1 8).bind fun t312=>(if t312 = true then (gangerref10_Check.j2 kj27 true a0_0 a0_1 a0_2 a0_3 a0_4 a0_5 a0_6 a0_7 a0_8 l0_9 l0_10 l0_11) else ((gangerref10_out.f (l0_10.length : Int) 1 8).bind fun t313=>(if t313 = true then (gangerref10_Check.j2 kj27 true a0_0 a0_1 a0_2 a0_3 a0_4 a0_5 a0_6 a0_7 a0_8 l0_9 l0_10 l0_11) else ((gangerref10_out.f (l0_11.length : Int) 1 50).bind fun t314=>(gangerref10_Check.j2 kj27 t314 a0_0 a0_1 a0_2 a0_3 a0_4 a0_5 a0_6 a0_7 a0_8 l0_9 l0_10 l0_11)))))) = some r:=by rw [if_neg (show ¬ (false = true) by decide)] at H;exact H
     clear H
     have H:=H1
     clear H1
     have HC45:=Am H
     clear H
     go_upto_region 6 with (fail)
     repeat (go_quiet (fail);go_upto_region 6 with (fail))
     go_cut [68] (fun v68 wc=>∃ (kq : Nat) (x68_44 : Bool),v68 = .bool x68_44∧Aside0 (gangerref10_Check.j2 kq x68_44 a0_0 a0_1 a0_2 a0_3 a0_4 a0_5 a0_6 a0_7 a0_8 l0_9 l0_10 l0_11 = some r)∧Aside0 (kq≤kj27)∧Aside0 (wc.heap[gb301]? = some (.cells #[.int .i64 a0_0,.int .i64 a0_1,.int .i64 a0_2,.int .i64 a0_3,.int .i64 a0_4,.int .i64 a0_5,.int .i64 a0_6,.int .i64 a0_7,.int .i64 a0_8,(.slice A0_9 l0_9.length c0_9),(.slice A0_10 l0_10.length c0_10),(.slice A0_11 l0_11.length c0_11)] 28 (0,0)))∧Aside0 (wc.heap[gb302]? = some (.cells #[.int .i64 a0_4,.int .i64 a0_5,.int .i64 a0_6,.int .i64 a0_7,.int .i64 a0_8] 23 (0,0)))∧Aside0 (Below w.heap.size w wc))
     case first =>
      have H:=HC45.out
      clear HC45
      replace H:=oB H
      obtain ⟨t312,A460,H⟩:=H
      try dsimp only at H
      have A46:=Am A460
      clear A460
      by_cases c47 : t312 = true
      ·subst c47
       have H1 : (gangerref10_Check.j2 kj27 true a0_0 a0_1 a0_2 a0_3 a0_4 a0_5 a0_6 a0_7 a0_8 l0_9 l0_10 l0_11) = some r:=by rw [if_pos rfl] at H;exact H
       clear H
       have H:=H1
       clear H1
       have H':=Am H
       clear H
       have hnb48:=NB301_302.out
       have hnc48:=NB302_301.out
       obtain ⟨X49_0,X49_1,X49_2,X49_3,X49_4,X49_5,X49_6,X49_7,X49_8,X49_9,X49_10,X49_11,Y49_0,Y49_1,Y49_2,Y49_3,Y49_4,Y49_5,Y49_6,Y49_7,Y49_8,Y49_9,Y49_10,Y49_11⟩:=kc12 (w:=wc) (g:=gb301) BK301.out
       go_wp2_with (first|(go_at_call 33;(with_reducible refine (gangerref10_out.calls (l0_9.length : Int) 1 8 true _ A46.out).mono ?_);rintro e w' ⟨rfl,⟨nd,rfl⟩⟩;(try first|exact ⟨rfl,_,wD _ _ _⟩|exact ⟨rfl,_,wE _ _ _ _⟩)))
       repeat (go_quiet (first|(go_at_call 33;(with_reducible refine (gangerref10_out.calls (l0_9.length : Int) 1 8 true _ A46.out).mono ?_);rintro e w' ⟨rfl,⟨nd,rfl⟩⟩;(try first|exact ⟨rfl,_,wD _ _ _⟩|exact ⟨rfl,_,wE _ _ _ _⟩)));try go_wp2_with (first|(go_at_call 33;(with_reducible refine (gangerref10_out.calls (l0_9.length : Int) 1 8 true _ A46.out).mono ?_);rintro e w' ⟨rfl,⟨nd,rfl⟩⟩;(try first|exact ⟨rfl,_,wD _ _ _⟩|exact ⟨rfl,_,wE _ _ _ _⟩))))
       go_meet
       case rel=>exact ⟨_,(true),(by first|rfl|(simp;done)|(simp [*];done)),H',⟨by have:=HJ1.out;have:=HJ27.out;first|omega|exact Nat.le_refl _⟩,⟨by (with_reducible repeat (first|refine bN ?_ _|refine bD ?_|refine bA ?_ _));exact BK301.out⟩,⟨by (with_reducible repeat (first|refine bN ?_ _|refine bD ?_|refine bA ?_ _));exact BK302.out⟩,⟨by repeat (first|(with_reducible first|exact HB.out|apply bL|apply pN|apply bE|refine bS ?_ GE301.out|refine bS ?_ GE302.out)|exact HB.out)⟩⟩
      replace c47:=Bool.eq_false_iff.mpr c47
      subst c47
      have H1 : ((gangerref10_out.f (l0_10.length : Int) 1 8).bind fun t313=>(if t313 = true then (gangerref10_Check.j2 kj27 true a0_0 a0_1 a0_2 a0_3 a0_4 a0_5 a0_6 a0_7 a0_8 l0_9 l0_10 l0_11) else ((gangerref10_out.f (l0_11.length : Int) 1 50).bind fun t314=>(gangerref10_Check.j2 kj27 t314 a0_0 a0_1 a0_2 a0_3 a0_4 a0_5 a0_6 a0_7 a0_8 l0_9 l0_10 l0_11)))) = some r:=by rw [if_neg (show ¬ (false = true) by decide)] at H;exact H
      clear H
      have H:=H1
      clear H1
      replace H:=oB H
      obtain ⟨t313,A500,H⟩:=H
      try dsimp only at H
      have A50:=Am A500
      clear A500
      by_cases c51 : t313 = true
      ·subst c51
       have H1 : (gangerref10_Check.j2 kj27 true a0_0 a0_1 a0_2 a0_3 a0_4 a0_5 a0_6 a0_7 a0_8 l0_9 l0_10 l0_11) = some r:=by rw [if_pos rfl] at H;exact H
       clear H
       have H:=H1
       clear H1
       have H':=Am H
       clear H
       have hnb52:=NB301_302.out
       have hnc52:=NB302_301.out
       obtain ⟨X53_0,X53_1,X53_2,X53_3,X53_4,X53_5,X53_6,X53_7,X53_8,X53_9,X53_10,X53_11,Y53_0,Y53_1,Y53_2,Y53_3,Y53_4,Y53_5,Y53_6,Y53_7,Y53_8,Y53_9,Y53_10,Y53_11⟩:=kc12 (w:=wc) (g:=gb301) BK301.out
       go_wp2_with (first|(go_at_call 33;(with_reducible refine (gangerref10_out.calls (l0_9.length : Int) 1 8 false _ A46.out).mono ?_);rintro e w' ⟨rfl,⟨nd,rfl⟩⟩;(try first|exact ⟨rfl,_,wD _ _ _⟩|exact ⟨rfl,_,wE _ _ _ _⟩))|(go_at_call 33;(with_reducible refine (gangerref10_out.calls (l0_10.length : Int) 1 8 true _ A50.out).mono ?_);rintro e w' ⟨rfl,⟨nd,rfl⟩⟩;(try first|exact ⟨rfl,_,wD _ _ _⟩|exact ⟨rfl,_,wE _ _ _ _⟩)))
       repeat (go_quiet (first|(go_at_call 33;(with_reducible refine (gangerref10_out.calls (l0_9.length : Int) 1 8 false _ A46.out).mono ?_);rintro e w' ⟨rfl,⟨nd,rfl⟩⟩;(try first|exact ⟨rfl,_,wD _ _ _⟩|exact ⟨rfl,_,wE _ _ _ _⟩))|(go_at_call 33;(with_reducible refine (gangerref10_out.calls (l0_10.length : Int) 1 8 true _ A50.out).mono ?_);rintro e w' ⟨rfl,⟨nd,rfl⟩⟩;(try first|exact ⟨rfl,_,wD _ _ _⟩|exact ⟨rfl,_,wE _ _ _ _⟩)));try go_wp2_with (first|(go_at_call 33;(with_reducible refine (gangerref10_out.calls (l0_9.length : Int) 1 8 false _ A46.out).mono ?_);rintro e w' ⟨rfl,⟨nd,rfl⟩⟩;(try first|exact ⟨rfl,_,wD _ _ _⟩|exact ⟨rfl,_,wE _ _ _ _⟩))|(go_at_call 33;(with_reducible refine (gangerref10_out.calls (l0_10.length : Int) 1 8 true _ A50.out).mono ?_);rintro e w' ⟨rfl,⟨nd,rfl⟩⟩;(try first|exact ⟨rfl,_,wD _ _ _⟩|exact ⟨rfl,_,wE _ _ _ _⟩))))
       go_meet
       case rel=>exact ⟨_,(true),(by first|rfl|(simp;done)|(simp [*];done)),H',⟨by have:=HJ1.out;have:=HJ27.out;first|omega|exact Nat.le_refl _⟩,⟨by (with_reducible repeat (first|refine bN ?_ _|refine bD ?_|refine bA ?_ _));exact BK301.out⟩,⟨by (with_reducible repeat (first|refine bN ?_ _|refine bD ?_|refine bA ?_ _));exact BK302.out⟩,⟨by repeat (first|(with_reducible first|exact HB.out|apply bL|apply pN|apply bE|refine bS ?_ GE301.out|refine bS ?_ GE302.out)|exact HB.out)⟩⟩
      replace c51:=Bool.eq_false_iff.mpr c51
      subst c51
      have H1 : ((gangerref10_out.f (l0_11.length : Int) 1 50).bind fun t314=>(gangerref10_Check.j2 kj27 t314 a0_0 a0_1 a0_2 a0_3 a0_4 a0_5 a0_6 a0_7 a0_8 l0_9 l0_10 l0_11)) = some r:=by rw [if_neg (show ¬ (false = true) by decide)] at H;exact H
      clear H
      have H:=H1
      clear H1
      replace H:=oB H
      obtain ⟨t314,A540,H⟩:=H
      try dsimp only at H
      have A54:=Am A540
      clear A540
      have H':=Am H
      clear H
      have hnb55:=NB301_302.out
      have hnc55:=NB302_301.out
      obtain ⟨X56_0,X56_1,X56_2,X56_3,X56_4,X56_5,X56_6,X56_7,X56_8,X56_9,X56_10,X56_11,Y56_0,Y56_1,Y56_2,Y56_3,Y56_4,Y56_5,Y56_6,Y56_7,Y56_8,Y56_9,Y56_10,Y56_11⟩:=kc12 (w:=wc) (g:=gb301) BK301.out
      go_wp2_with (first|(go_at_call 33;(with_reducible refine (gangerref10_out.calls (l0_9.length : Int) 1 8 false _ A46.out).mono ?_);rintro e w' ⟨rfl,⟨nd,rfl⟩⟩;(try first|exact ⟨rfl,_,wD _ _ _⟩|exact ⟨rfl,_,wE _ _ _ _⟩))|(go_at_call 33;(with_reducible refine (gangerref10_out.calls (l0_10.length : Int) 1 8 false _ A50.out).mono ?_);rintro e w' ⟨rfl,⟨nd,rfl⟩⟩;(try first|exact ⟨rfl,_,wD _ _ _⟩|exact ⟨rfl,_,wE _ _ _ _⟩))|(go_at_call 33;(with_reducible refine (gangerref10_out.calls (l0_11.length : Int) 1 50 t314 _ A54.out).mono ?_);rintro e w' ⟨rfl,⟨nd,rfl⟩⟩;(try first|exact ⟨rfl,_,wD _ _ _⟩|exact ⟨rfl,_,wE _ _ _ _⟩)))
      repeat (go_quiet (first|(go_at_call 33;(with_reducible refine (gangerref10_out.calls (l0_9.length : Int) 1 8 false _ A46.out).mono ?_);rintro e w' ⟨rfl,⟨nd,rfl⟩⟩;(try first|exact ⟨rfl,_,wD _ _ _⟩|exact ⟨rfl,_,wE _ _ _ _⟩))|(go_at_call 33;(with_reducible refine (gangerref10_out.calls (l0_10.length : Int) 1 8 false _ A50.out).mono ?_);rintro e w' ⟨rfl,⟨nd,rfl⟩⟩;(try first|exact ⟨rfl,_,wD _ _ _⟩|exact ⟨rfl,_,wE _ _ _ _⟩))|(go_at_call 33;(with_reducible refine (gangerref10_out.calls (l0_11.length : Int) 1 50 t314 _ A54.out).mono ?_);rintro e w' ⟨rfl,⟨nd,rfl⟩⟩;(try first|exact ⟨rfl,_,wD _ _ _⟩|exact ⟨rfl,_,wE _ _ _ _⟩)));try go_wp2_with (first|(go_at_call 33;(with_reducible refine (gangerref10_out.calls (l0_9.length : Int) 1 8 false _ A46.out).mono ?_);rintro e w' ⟨rfl,⟨nd,rfl⟩⟩;(try first|exact ⟨rfl,_,wD _ _ _⟩|exact ⟨rfl,_,wE _ _ _ _⟩))|(go_at_call 33;(with_reducible refine (gangerref10_out.calls (l0_10.length : Int) 1 8 false _ A50.out).mono ?_);rintro e w' ⟨rfl,⟨nd,rfl⟩⟩;(try first|exact ⟨rfl,_,wD _ _ _⟩|exact ⟨rfl,_,wE _ _ _ _⟩))|(go_at_call 33;(with_reducible refine (gangerref10_out.calls (l0_11.length : Int) 1 50 t314 _ A54.out).mono ?_);rintro e w' ⟨rfl,⟨nd,rfl⟩⟩;(try first|exact ⟨rfl,_,wD _ _ _⟩|exact ⟨rfl,_,wE _ _ _ _⟩))))
      go_meet
      case rel=>exact ⟨_,(t314),(by first|rfl|(simp;done)|(simp [*];done)),H',⟨by have:=HJ1.out;have:=HJ27.out;first|omega|exact Nat.le_refl _⟩,⟨by (with_reducible repeat (first|refine bN ?_ _|refine bD ?_|refine bA ?_ _));exact BK301.out⟩,⟨by (with_reducible repeat (first|refine bN ?_ _|refine bD ?_|refine bA ?_ _));exact BK302.out⟩,⟨by repeat (first|(with_reducible first|exact HB.out|apply bL|apply pN|apply bE|refine bS ?_ GE301.out|refine bS ?_ GE302.out)|exact HB.out)⟩⟩
     case rest =>
      clear HC45
      obtain ⟨kq,x68_44,rfl,HA,HJ44,BK301,BK302,HB⟩:=hcut
      cases kq with
      | zero=>exact absurd HA.out (by simp [gangerref10_Check.j2])
      | succ kj44 =>
       have H:=HA.out
       clear HA
       simp only [gangerref10_Check.j2] at H
       by_cases c57 : x68_44 = true
       ·subst c57
        have H1 : (some 100) = some r:=by rw [if_pos rfl] at H;exact H
        clear H
        have H:=H1
        clear H1
        obtain rfl:=Option.some.inj H
        go_wp2
        repeat (go_quiet (fail);try go_wp2)
        go_ret
        exact ⟨by first|rfl|(simp [errW_none,errW_some] <;> rfl)|(simp [*,errW_none,errW_some] <;> rfl),by repeat (first|(with_reducible first|exact HB.out|apply bL|apply pN|apply bE|refine bS ?_ GE301.out|refine bS ?_ GE302.out)|exact HB.out)⟩
       replace c57:=Bool.eq_false_iff.mpr c57
       subst c57
       have H1 : (gangerref10_Check.l0 kj44 0 a0_0 a0_1 a0_2 a0_3 a0_4 a0_5 a0_6 a0_7 a0_8 l0_9 l0_10 l0_11) = some r:=by rw [if_neg (show ¬ (false = true) by decide)] at H;exact H
       clear H
       have H:=H1
       clear H1
       have H':=Am H
       clear H
       go_wp2
       repeat (go_quiet (fail);try go_wp2)
       go_loopg [4] kj44 (fun kq v4 w'=>∃ (x4_4 : Int),v4 = .int .i64 x4_4∧Aside0 (gangerref10_Check.l0 kq x4_4 a0_0 a0_1 a0_2 a0_3 a0_4 a0_5 a0_6 a0_7 a0_8 l0_9 l0_10 l0_11 = some r)∧Aside0 (kq≤kj44)∧Aside0 (w'.heap[gb301]? = some (.cells #[.int .i64 a0_0,.int .i64 a0_1,.int .i64 a0_2,.int .i64 a0_3,.int .i64 a0_4,.int .i64 a0_5,.int .i64 a0_6,.int .i64 a0_7,.int .i64 a0_8,(.slice A0_9 l0_9.length c0_9),(.slice A0_10 l0_10.length c0_10),(.slice A0_11 l0_11.length c0_11)] 28 (0,0)))∧Aside0 (w'.heap[gb302]? = some (.cells #[.int .i64 a0_4,.int .i64 a0_5,.int .i64 a0_6,.int .i64 a0_7,.int .i64 a0_8] 23 (0,0)))∧Aside0 (Below w.heap.size w w'))
       case atStart=>exact ⟨(0),(by first|rfl|(simp;done)|(simp [*];done)),H',⟨Nat.le_refl _⟩,⟨by (with_reducible repeat (first|refine bN ?_ _|refine bD ?_|refine bA ?_ _));exact BK301.out⟩,⟨by (with_reducible repeat (first|refine bN ?_ _|refine bD ?_|refine bA ?_ _));exact BK302.out⟩,⟨by repeat (first|(with_reducible first|exact HB.out|apply bL|apply pN|apply bE|refine bS ?_ GE301.out|refine bS ?_ GE302.out)|exact HB.out)⟩⟩
       case round =>
        clear H'
        obtain ⟨x4_4,rfl,HA,HK4,BK301,BK302,HB⟩:=hrel
        cases gk with
        | zero=>exact absurd HA.out (by simp [gangerref10_Check.l0])
        | succ k4 =>
         have H:=HA.out
         clear HA
         simp only [gangerref10_Check.l0] at H
         by_cases c58 : x4_4 < (l0_9.length : Int)
         rotate_left
         ·rw [if_neg c58] at H
          have c58b0 : decide (x4_4 < (l0_9.length : Int)) = false:=decide_eq_false c58
          clear c58
          have H':=Am H
          clear H
          have hnb101:=NB301_302.out
          have hnc101:=NB302_301.out
          obtain ⟨X102_0,X102_1,X102_2,X102_3,X102_4,X102_5,X102_6,X102_7,X102_8,X102_9,X102_10,X102_11,Y102_0,Y102_1,Y102_2,Y102_3,Y102_4,Y102_5,Y102_6,Y102_7,Y102_8,Y102_9,Y102_10,Y102_11⟩:=kc12 (w:=wr) (g:=gb301) BK301.out
          go_wp2
          repeat (go_quiet (fail);try go_wp2)
          go_loopg [7] k4 (fun kq v7 w'=>∃ (x7_5 : Int),v7 = .int .i64 x7_5∧Aside0 (gangerref10_Check.l2 kq x7_5 a0_0 a0_1 a0_2 a0_3 a0_4 a0_5 a0_6 a0_7 a0_8 l0_9 l0_10 l0_11 = some r)∧Aside0 (kq≤k4)∧Aside0 (w'.heap[gb301]? = some (.cells #[.int .i64 a0_0,.int .i64 a0_1,.int .i64 a0_2,.int .i64 a0_3,.int .i64 a0_4,.int .i64 a0_5,.int .i64 a0_6,.int .i64 a0_7,.int .i64 a0_8,(.slice A0_9 l0_9.length c0_9),(.slice A0_10 l0_10.length c0_10),(.slice A0_11 l0_11.length c0_11)] 28 (0,0)))∧Aside0 (w'.heap[gb302]? = some (.cells #[.int .i64 a0_4,.int .i64 a0_5,.int .i64 a0_6,.int .i64 a0_7,.int .i64 a0_8] 23 (0,0)))∧Aside0 (Below w.heap.size w w'))
          case atStart=>exact ⟨(0),(by first|rfl|(simp;done)|(simp [*];done)),H',⟨Nat.le_refl _⟩,⟨by (with_reducible repeat (first|refine bN ?_ _|refine bD ?_|refine bA ?_ _));exact BK301.out⟩,⟨by (with_reducible repeat (first|refine bN ?_ _|refine bD ?_|refine bA ?_ _));exact BK302.out⟩,⟨by repeat (first|(with_reducible first|exact HB.out|apply bL|apply pN|apply bE|refine bS ?_ GE301.out|refine bS ?_ GE302.out)|exact HB.out)⟩⟩
          case round =>
           clear H'
           obtain ⟨x7_5,rfl,HA,HK5,BK301,BK302,HB⟩:=hrel
           cases gk with
           | zero=>exact absurd HA.out (by simp [gangerref10_Check.l2])
           | succ k5 =>
            have H:=HA.out
            clear HA
            simp only [gangerref10_Check.l2] at H
            by_cases c103 : x7_5 < (l0_10.length : Int)
            rotate_left
            ·rw [if_neg c103] at H
             have c103b0 : decide (x7_5 < (l0_10.length : Int)) = false:=decide_eq_false c103
             clear c103
             replace H:=oB H
             obtain ⟨t322,A1410,H⟩:=H
             try dsimp only at H
             have A141:=Am A1410
             clear A1410
             obtain rfl:=Option.some.inj H
             have hnb142:=NB301_302.out
             have hnc142:=NB302_301.out
             obtain ⟨X143_0,X143_1,X143_2,X143_3,X143_4,X143_5,X143_6,X143_7,X143_8,X143_9,X143_10,X143_11,Y143_0,Y143_1,Y143_2,Y143_3,Y143_4,Y143_5,Y143_6,Y143_7,Y143_8,Y143_9,Y143_10,Y143_11⟩:=kc12 (w:=wr) (g:=gb301) BK301.out
             go_wp2_with (first|(go_at_call 34;(with_reducible refine (gangerref10_tree.calls k5 _ _ l0_11 t322 _ ?side1 ?side2 A141.out).mono ?_);(case side1=>repeat (first|exact (Kd.C_below HR0_11.out HB.out)|(with_reducible refine Kd.C_alloc ?_ _)|(with_reducible refine Kd.C_drewN ?_ _)|(with_reducible refine Kd.C_drew ?_)));(case side2=>exact HC0_11.out);rintro e w' ⟨rfl,⟨nd,rfl⟩⟩;(try first|exact ⟨rfl,_,wD _ _ _⟩|exact ⟨rfl,_,wE _ _ _ _⟩)))
             repeat (go_quiet (first|(go_at_call 34;(with_reducible refine (gangerref10_tree.calls k5 _ _ l0_11 t322 _ ?side1 ?side2 A141.out).mono ?_);(case side1=>repeat (first|exact (Kd.C_below HR0_11.out HB.out)|(with_reducible refine Kd.C_alloc ?_ _)|(with_reducible refine Kd.C_drewN ?_ _)|(with_reducible refine Kd.C_drew ?_)));(case side2=>exact HC0_11.out);rintro e w' ⟨rfl,⟨nd,rfl⟩⟩;(try first|exact ⟨rfl,_,wD _ _ _⟩|exact ⟨rfl,_,wE _ _ _ _⟩)));try go_wp2_with (first|(go_at_call 34;(with_reducible refine (gangerref10_tree.calls k5 _ _ l0_11 t322 _ ?side1 ?side2 A141.out).mono ?_);(case side1=>repeat (first|exact (Kd.C_below HR0_11.out HB.out)|(with_reducible refine Kd.C_alloc ?_ _)|(with_reducible refine Kd.C_drewN ?_ _)|(with_reducible refine Kd.C_drew ?_)));(case side2=>exact HC0_11.out);rintro e w' ⟨rfl,⟨nd,rfl⟩⟩;(try first|exact ⟨rfl,_,wD _ _ _⟩|exact ⟨rfl,_,wE _ _ _ _⟩))))
             go_ret
             exact ⟨by first|rfl|(simp [errW_none,errW_some] <;> rfl)|(simp [*,errW_none,errW_some] <;> rfl),by repeat (first|(with_reducible first|exact HB.out|apply bL|apply pN|apply bE|refine bS ?_ GE301.out|refine bS ?_ GE302.out)|exact HB.out)⟩
            rw [if_pos c103] at H
            have c103b0 : decide (x7_5 < (l0_10.length : Int)) = true:=decide_eq_true c103
            clear c103
            by_cases c104 : 0≤x7_5
            rotate_left
            ·rw [if_neg c104] at H
             exact absurd H (by simp)
            rw [if_pos c104] at H
            have c104b0 : decide (0≤x7_5) = true:=decide_eq_true c104
            clear c104
            have HC105:=Am H
            clear H
            have hnb106:=NB301_302.out
            have hnc106:=NB302_301.out
            obtain ⟨X107_0,X107_1,X107_2,X107_3,X107_4,X107_5,X107_6,X107_7,X107_8,X107_9,X107_10,X107_11,Y107_0,Y107_1,Y107_2,Y107_3,Y107_4,Y107_5,Y107_6,Y107_7,Y107_8,Y107_9,Y107_10,Y107_11⟩:=kc12 (w:=wr) (g:=gb301) BK301.out
            have p323 : 0≤(x7_5 : Int):=of_decide_eq_true (by first|(with_reducible assumption)|assumption)
            have q323 : x7_5 < (l0_10.length : Int):=of_decide_eq_true (by first|(with_reducible assumption)|assumption)
            obtain ⟨ad323,e323,hx323_0,hx323_1,hx323_2⟩:=at_T52 HR0_10.out x7_5 p323 q323
            cases e323
            replace hx323_0:=(HB.out.cell (wB w _ hx323_0)).trans hx323_0
            replace hx323_1:=(HB.out.cell (wB w _ hx323_1)).trans hx323_1
            replace hx323_2:=(HB.out.cell (wB w _ hx323_2)).trans hx323_2
            replace p323:=eq_true p323
            replace q323:=eq_true q323
            go_upto_region 23 with (first|((with_reducible refine gD (N:=8) rfl ?_);(try (refine gate_guard (by rfl) ?_;dsimp only));refine box_event ?hg (N:=8) ?hd (cs:=#[.string (⟨#[]⟩ : ByteArray),.int .i64 0,.int .i64 0]) (t:=52) ?hr ?_;(case hd=>rfl);(case hg=>rfl);(case hr=>first|(go_simp;done)|(go_simp;rfl));intro gb324 hg w108 hbox hb;have n0_:=Am (blk_below (g:=gb301) (by (with_reducible repeat (first|refine bN ?_ _|refine bD ?_|refine bA ?_ _));exact BK301.out) hb);have n1_:=Am (blk_below (g:=gb302) (by (with_reducible repeat (first|refine bN ?_ _|refine bD ?_|refine bA ?_ _));exact BK302.out) hb);have n2_:=Am (below_step (by repeat (first|(with_reducible first|exact HB.out|apply bL|apply pN|apply bE|refine bS ?_ GE301.out|refine bS ?_ GE302.out)|exact HB.out)) hb);have n3_:=Am (hbox);have n4_:=Am ((by rw [hg];exact (bZ (by repeat (first|(with_reducible first|exact HB.out|apply bL|apply pN|apply bE|refine bS ?_ GE301.out|refine bS ?_ GE302.out)|exact HB.out))) : w.heap.size≤gb324));have n5_:=n4_;have n6_:=Am ((by rw [hg];exact Nat.ne_of_lt (blk_lt (g:=gb301) (by (with_reducible repeat (first|refine bN ?_ _|refine bD ?_|refine bA ?_ _));exact BK301.out)) : gb301 ≠ gb324));have n7_:=Am ((by rw [hg];exact Nat.ne_of_gt (blk_lt (g:=gb301) (by (with_reducible repeat (first|refine bN ?_ _|refine bD ?_|refine bA ?_ _));exact BK301.out)) : gb324 ≠ gb301));have n8_:=Am ((by rw [hg];exact Nat.ne_of_lt (blk_lt (g:=gb302) (by (with_reducible repeat (first|refine bN ?_ _|refine bD ?_|refine bA ?_ _));exact BK302.out)) : gb302 ≠ gb324));have n9_:=Am ((by rw [hg];exact Nat.ne_of_gt (blk_lt (g:=gb302) (by (with_reducible repeat (first|refine bN ?_ _|refine bD ?_|refine bA ?_ _));exact BK302.out)) : gb324 ≠ gb302));clear BK301;clear BK302;clear HB;have BK301:=n0_;have BK302:=n1_;have HB:=n2_;have BK324:=n3_;have GW324:=n4_;have GE324:=n5_;have NB301_324:=n6_;have NB324_301:=n7_;have NB302_324:=n8_;have NB324_302:=n9_;clear n0_ n1_ n2_ n3_ n4_ n5_ n6_ n7_ n8_ n9_;clear hb hbox hg;have hnb109:=NB324_301.out;have hnc109:=NB301_324.out;have hnb110:=NB324_302.out;have hnc110:=NB302_324.out;obtain ⟨X111_0,X111_1,X111_2,Y111_0,Y111_1,Y111_2⟩:=kc3 (w:=w108) (g:=gb324) BK324.out))
            repeat (go_quiet (first|((with_reducible refine gD (N:=8) rfl ?_);(try (refine gate_guard (by rfl) ?_;dsimp only));refine box_event ?hg (N:=8) ?hd (cs:=#[.string (⟨#[]⟩ : ByteArray),.int .i64 0,.int .i64 0]) (t:=52) ?hr ?_;(case hd=>rfl);(case hg=>rfl);(case hr=>first|(go_simp;done)|(go_simp;rfl));intro gb324 hg w108 hbox hb;have n0_:=Am (blk_below (g:=gb301) (by (with_reducible repeat (first|refine bN ?_ _|refine bD ?_|refine bA ?_ _));exact BK301.out) hb);have n1_:=Am (blk_below (g:=gb302) (by (with_reducible repeat (first|refine bN ?_ _|refine bD ?_|refine bA ?_ _));exact BK302.out) hb);have n2_:=Am (below_step (by repeat (first|(with_reducible first|exact HB.out|apply bL|apply pN|apply bE|refine bS ?_ GE301.out|refine bS ?_ GE302.out)|exact HB.out)) hb);have n3_:=Am (hbox);have n4_:=Am ((by rw [hg];exact (bZ (by repeat (first|(with_reducible first|exact HB.out|apply bL|apply pN|apply bE|refine bS ?_ GE301.out|refine bS ?_ GE302.out)|exact HB.out))) : w.heap.size≤gb324));have n5_:=n4_;have n6_:=Am ((by rw [hg];exact Nat.ne_of_lt (blk_lt (g:=gb301) (by (with_reducible repeat (first|refine bN ?_ _|refine bD ?_|refine bA ?_ _));exact BK301.out)) : gb301 ≠ gb324));have n7_:=Am ((by rw [hg];exact Nat.ne_of_gt (blk_lt (g:=gb301) (by (with_reducible repeat (first|refine bN ?_ _|refine bD ?_|refine bA ?_ _));exact BK301.out)) : gb324 ≠ gb301));have n8_:=Am ((by rw [hg];exact Nat.ne_of_lt (blk_lt (g:=gb302) (by (with_reducible repeat (first|refine bN ?_ _|refine bD ?_|refine bA ?_ _));exact BK302.out)) : gb302 ≠ gb324));have n9_:=Am ((by rw [hg];exact Nat.ne_of_gt (blk_lt (g:=gb302) (by (with_reducible repeat (first|refine bN ?_ _|refine bD ?_|refine bA ?_ _));exact BK302.out)) : gb324 ≠ gb302));clear BK301;clear BK302;clear HB;have BK301:=n0_;have BK302:=n1_;have HB:=n2_;have BK324:=n3_;have GW324:=n4_;have GE324:=n5_;have NB301_324:=n6_;have NB324_301:=n7_;have NB302_324:=n8_;have NB324_302:=n9_;clear n0_ n1_ n2_ n3_ n4_ n5_ n6_ n7_ n8_ n9_;clear hb hbox hg;have hnb109:=NB324_301.out;have hnc109:=NB301_324.out;have hnb110:=NB324_302.out;have hnc110:=NB302_324.out;obtain ⟨X111_0,X111_1,X111_2,Y111_0,Y111_1,Y111_2⟩:=kc3 (w:=w108) (g:=gb324) BK324.out));go_upto_region 23 with (first|((with_reducible refine gD (N:=8) rfl ?_);(try (refine gate_guard (by rfl) ?_;dsimp only));refine box_event ?hg (N:=8) ?hd (cs:=#[.string (⟨#[]⟩ : ByteArray),.int .i64 0,.int .i64 0]) (t:=52) ?hr ?_;(case hd=>rfl);(case hg=>rfl);(case hr=>first|(go_simp;done)|(go_simp;rfl));intro gb324 hg w108 hbox hb;have n0_:=Am (blk_below (g:=gb301) (by (with_reducible repeat (first|refine bN ?_ _|refine bD ?_|refine bA ?_ _));exact BK301.out) hb);have n1_:=Am (blk_below (g:=gb302) (by (with_reducible repeat (first|refine bN ?_ _|refine bD ?_|refine bA ?_ _));exact BK302.out) hb);have n2_:=Am (below_step (by repeat (first|(with_reducible first|exact HB.out|apply bL|apply pN|apply bE|refine bS ?_ GE301.out|refine bS ?_ GE302.out)|exact HB.out)) hb);have n3_:=Am (hbox);have n4_:=Am ((by rw [hg];exact (bZ (by repeat (first|(with_reducible first|exact HB.out|apply bL|apply pN|apply bE|refine bS ?_ GE301.out|refine bS ?_ GE302.out)|exact HB.out))) : w.heap.size≤gb324));have n5_:=n4_;have n6_:=Am ((by rw [hg];exact Nat.ne_of_lt (blk_lt (g:=gb301) (by (with_reducible repeat (first|refine bN ?_ _|refine bD ?_|refine bA ?_ _));exact BK301.out)) : gb301 ≠ gb324));have n7_:=Am ((by rw [hg];exact Nat.ne_of_gt (blk_lt (g:=gb301) (by (with_reducible repeat (first|refine bN ?_ _|refine bD ?_|refine bA ?_ _));exact BK301.out)) : gb324 ≠ gb301));have n8_:=Am ((by rw [hg];exact Nat.ne_of_lt (blk_lt (g:=gb302) (by (with_reducible repeat (first|refine bN ?_ _|refine bD ?_|refine bA ?_ _));exact BK302.out)) : gb302 ≠ gb324));have n9_:=Am ((by rw [hg];exact Nat.ne_of_gt (blk_lt (g:=gb302) (by (with_reducible repeat (first|refine bN ?_ _|refine bD ?_|refine bA ?_ _));exact BK302.out)) : gb324 ≠ gb302));clear BK301;clear BK302;clear HB;have BK301:=n0_;have BK302:=n1_;have HB:=n2_;have BK324:=n3_;have GW324:=n4_;have GE324:=n5_;have NB301_324:=n6_;have NB324_301:=n7_;have NB302_324:=n8_;have NB324_302:=n9_;clear n0_ n1_ n2_ n3_ n4_ n5_ n6_ n7_ n8_ n9_;clear hb hbox hg;have hnb109:=NB324_301.out;have hnc109:=NB301_324.out;have hnb110:=NB324_302.out;have hnc110:=NB302_324.out;obtain ⟨X111_0,X111_1,X111_2,Y111_0,Y111_1,Y111_2⟩:=kc3 (w:=w108) (g:=gb324) BK324.out)))
            (try simp only [Act.put,sT,sZ,sS])
            go_cut [139] (fun v139 wc=>∃ (kq : Nat) (x139_104 : Bool),v139 = .bool x139_104∧Aside0 (gangerref10_Check.j7 kq x7_5 x139_104 a0_0 a0_1 a0_2 a0_3 a0_4 a0_5 a0_6 a0_7 a0_8 l0_9 l0_10 l0_11 ((rd_T52 l0_10 x7_5).f0) ((rd_T52 l0_10 x7_5).f1) ((rd_T52 l0_10 x7_5).f2) = some r)∧Aside0 (kq≤k5)∧Aside0 (wc.heap[gb301]? = some (.cells #[.int .i64 a0_0,.int .i64 a0_1,.int .i64 a0_2,.int .i64 a0_3,.int .i64 a0_4,.int .i64 a0_5,.int .i64 a0_6,.int .i64 a0_7,.int .i64 a0_8,(.slice A0_9 l0_9.length c0_9),(.slice (some ad323) l0_10.length c0_10),(.slice A0_11 l0_11.length c0_11)] 28 (0,0)))∧Aside0 (wc.heap[gb302]? = some (.cells #[.int .i64 a0_4,.int .i64 a0_5,.int .i64 a0_6,.int .i64 a0_7,.int .i64 a0_8] 23 (0,0)))∧Aside0 (wc.heap[gb324]? = some (.cells #[.string ((rd_T52 l0_10 x7_5).f0),.int .i64 ((rd_T52 l0_10 x7_5).f1),.int .i64 ((rd_T52 l0_10 x7_5).f2)] 52 (0,0)))∧Aside0 (Below w.heap.size w wc))
            case first =>
             have H:=HC105.out
             clear HC105
             replace H:=oB H
             obtain ⟨t325,A1120,H⟩:=H
             try dsimp only at H
             have A112:=Am A1120
             clear A1120
             by_cases c113 : t325 = true
             rotate_left
             ·replace c113:=Bool.eq_false_iff.mpr c113
              subst c113
              have H1 : (gangerref10_Check.j7 k5 x7_5 true a0_0 a0_1 a0_2 a0_3 a0_4 a0_5 a0_6 a0_7 a0_8 l0_9 l0_10 l0_11 ((rd_T52 l0_10 x7_5).f0) ((rd_T52 l0_10 x7_5).f1) ((rd_T52 l0_10 x7_5).f2)) = some r:=by rw [if_neg (show ¬ (false = true) by decide)] at H;exact H
              clear H
              have H:=H1
              clear H1
              have H':=Am H
              clear H
              have hnb123:=NB324_301.out
              have hnc123:=NB301_324.out
              have hnb124:=NB324_302.out
              have hnc124:=NB302_324.out
              obtain ⟨X125_0,X125_1,X125_2,Y125_0,Y125_1,Y125_2⟩:=kc3 (w:=w108) (g:=gb324) BK324.out
              go_wp2_with (first|(go_at_call 20;(with_reducible refine (gangerref09_Name.calls k5 ((rd_T52 l0_10 x7_5).f0) false _ A112.out).mono ?_);rintro e w' ⟨rfl,⟨nd,rfl⟩⟩;(try first|exact ⟨rfl,_,wD _ _ _⟩|exact ⟨rfl,_,wE _ _ _ _⟩)))
              repeat (go_quiet (first|(go_at_call 20;(with_reducible refine (gangerref09_Name.calls k5 ((rd_T52 l0_10 x7_5).f0) false _ A112.out).mono ?_);rintro e w' ⟨rfl,⟨nd,rfl⟩⟩;(try first|exact ⟨rfl,_,wD _ _ _⟩|exact ⟨rfl,_,wE _ _ _ _⟩)));try go_wp2_with (first|(go_at_call 20;(with_reducible refine (gangerref09_Name.calls k5 ((rd_T52 l0_10 x7_5).f0) false _ A112.out).mono ?_);rintro e w' ⟨rfl,⟨nd,rfl⟩⟩;(try first|exact ⟨rfl,_,wD _ _ _⟩|exact ⟨rfl,_,wE _ _ _ _⟩))))
              go_meet
              case rel=>exact ⟨_,(true),(by first|rfl|(simp;done)|(simp [*];done)),H',⟨by have:=HJ1.out;have:=HJ27.out;have:=HJ44.out;have:=HK4.out;have:=HK5.out;first|omega|exact Nat.le_refl _⟩,⟨by (with_reducible repeat (first|refine bN ?_ _|refine bD ?_|refine bA ?_ _));refine blk_far ?_ NB301_324.out _;(with_reducible repeat (first|refine bN ?_ _|refine bD ?_|refine bA ?_ _));refine blk_far ?_ NB301_324.out _;(with_reducible repeat (first|refine bN ?_ _|refine bD ?_|refine bA ?_ _));refine blk_far ?_ NB301_324.out _;(with_reducible repeat (first|refine bN ?_ _|refine bD ?_|refine bA ?_ _));exact BK301.out⟩,⟨by (with_reducible repeat (first|refine bN ?_ _|refine bD ?_|refine bA ?_ _));refine blk_far ?_ NB302_324.out _;(with_reducible repeat (first|refine bN ?_ _|refine bD ?_|refine bA ?_ _));refine blk_far ?_ NB302_324.out _;(with_reducible repeat (first|refine bN ?_ _|refine bD ?_|refine bA ?_ _));refine blk_far ?_ NB302_324.out _;(with_reducible repeat (first|refine bN ?_ _|refine bD ?_|refine bA ?_ _));exact BK302.out⟩,⟨by (with_reducible repeat (first|refine bN ?_ _|refine bD ?_|refine bA ?_ _));refine blk_put (cs:=#[.string ((rd_T52 l0_10 x7_5).f0),.int .i64 ((rd_T52 l0_10 x7_5).f1),.int .i64 0]) ?_ 2 _ rfl;(with_reducible repeat (first|refine bN ?_ _|refine bD ?_|refine bA ?_ _));refine blk_put (cs:=#[.string ((rd_T52 l0_10 x7_5).f0),.int .i64 0,.int .i64 0]) ?_ 1 _ rfl;(with_reducible repeat (first|refine bN ?_ _|refine bD ?_|refine bA ?_ _));refine blk_put (cs:=#[.string (⟨#[]⟩ : ByteArray),.int .i64 0,.int .i64 0]) ?_ 0 _ rfl;(with_reducible repeat (first|refine bN ?_ _|refine bD ?_|refine bA ?_ _));exact BK324.out⟩,⟨by repeat (first|(with_reducible first|exact HB.out|apply bL|apply pN|apply bE|refine bS ?_ GE301.out|refine bS ?_ GE302.out|refine bS ?_ GE324.out)|exact HB.out)⟩⟩
             subst c113
             have H1 : ((gangerref10_out.f ((rd_T52 l0_10 x7_5).f1) 0 1048576).bind fun t326=>(if t326 = true then (gangerref10_Check.j7 k5 x7_5 true a0_0 a0_1 a0_2 a0_3 a0_4 a0_5 a0_6 a0_7 a0_8 l0_9 l0_10 l0_11 ((rd_T52 l0_10 x7_5).f0) ((rd_T52 l0_10 x7_5).f1) ((rd_T52 l0_10 x7_5).f2)) else ((gangerref10_out.f ((rd_T52 l0_10 x7_5).f2) 1 1048576).bind fun t327=>(gangerref10_Check.j7 k5 x7_5 t327 a0_0 a0_1 a0_2 a0_3 a0_4 a0_5 a0_6 a0_7 a0_8 l0_9 l0_10 l0_11 ((rd_T52 l0_10 x7_5).f0) ((rd_T52 l0_10 x7_5).f1) ((rd_T52 l0_10 x7_5).f2))))) = some r:=by rw [if_pos rfl] at H;exact H
             clear H
             have H:=H1
             clear H1
             replace H:=oB H
             obtain ⟨t326,A1140,H⟩:=H
             try dsimp only at H
             have A114:=Am A1140
             clear A1140
             by_cases c115 : t326 = true
             ·subst c115
              have H1 : (gangerref10_Check.j7 k5 x7_5 true a0_0 a0_1 a0_2 a0_3 a0_4 a0_5 a0_6 a0_7 a0_8 l0_9 l0_10 l0_11 ((rd_T52 l0_10 x7_5).f0) ((rd_T52 l0_10 x7_5).f1) ((rd_T52 l0_10 x7_5).f2)) = some r:=by rw [if_pos rfl] at H;exact H
              clear H
              have H:=H1
              clear H1
              have H':=Am H
              clear H
              have hnb116:=NB324_301.out
              have hnc116:=NB301_324.out
              have hnb117:=NB324_302.out
              have hnc117:=NB302_324.out
              obtain ⟨X118_0,X118_1,X118_2,Y118_0,Y118_1,Y118_2⟩:=kc3 (w:=w108) (g:=gb324) BK324.out
              go_wp2_with (first|(go_at_call 20;(with_reducible refine (gangerref09_Name.calls k5 ((rd_T52 l0_10 x7_5).f0) true _ A112.out).mono ?_);rintro e w' ⟨rfl,⟨nd,rfl⟩⟩;(try first|exact ⟨rfl,_,wD _ _ _⟩|exact ⟨rfl,_,wE _ _ _ _⟩))|(go_at_call 33;(with_reducible refine (gangerref10_out.calls ((rd_T52 l0_10 x7_5).f1) 0 1048576 true _ A114.out).mono ?_);rintro e w' ⟨rfl,⟨nd,rfl⟩⟩;(try first|exact ⟨rfl,_,wD _ _ _⟩|exact ⟨rfl,_,wE _ _ _ _⟩)))
              repeat (go_quiet (first|(go_at_call 20;(with_reducible refine (gangerref09_Name.calls k5 ((rd_T52 l0_10 x7_5).f0) true _ A112.out).mono ?_);rintro e w' ⟨rfl,⟨nd,rfl⟩⟩;(try first|exact ⟨rfl,_,wD _ _ _⟩|exact ⟨rfl,_,wE _ _ _ _⟩))|(go_at_call 33;(with_reducible refine (gangerref10_out.calls ((rd_T52 l0_10 x7_5).f1) 0 1048576 true _ A114.out).mono ?_);rintro e w' ⟨rfl,⟨nd,rfl⟩⟩;(try first|exact ⟨rfl,_,wD _ _ _⟩|exact ⟨rfl,_,wE _ _ _ _⟩)));try go_wp2_with (first|(go_at_call 20;(with_reducible refine (gangerref09_Name.calls k5 ((rd_T52 l0_10 x7_5).f0) true _ A112.out).mono ?_);rintro e w' ⟨rfl,⟨nd,rfl⟩⟩;(try first|exact ⟨rfl,_,wD _ _ _⟩|exact ⟨rfl,_,wE _ _ _ _⟩))|(go_at_call 33;(with_reducible refine (gangerref10_out.calls ((rd_T52 l0_10 x7_5).f1) 0 1048576 true _ A114.out).mono ?_);rintro e w' ⟨rfl,⟨nd,rfl⟩⟩;(try first|exact ⟨rfl,_,wD _ _ _⟩|exact ⟨rfl,_,wE _ _ _ _⟩))))
              go_meet
              case rel=>exact ⟨_,(true),(by first|rfl|(simp;done)|(simp [*];done)),H',⟨by have:=HJ1.out;have:=HJ27.out;have:=HJ44.out;have:=HK4.out;have:=HK5.out;first|omega|exact Nat.le_refl _⟩,⟨by (with_reducible repeat (first|refine bN ?_ _|refine bD ?_|refine bA ?_ _));refine blk_far ?_ NB301_324.out _;(with_reducible repeat (first|refine bN ?_ _|refine bD ?_|refine bA ?_ _));refine blk_far ?_ NB301_324.out _;(with_reducible repeat (first|refine bN ?_ _|refine bD ?_|refine bA ?_ _));refine blk_far ?_ NB301_324.out _;(with_reducible repeat (first|refine bN ?_ _|refine bD ?_|refine bA ?_ _));exact BK301.out⟩,⟨by (with_reducible repeat (first|refine bN ?_ _|refine bD ?_|refine bA ?_ _));refine blk_far ?_ NB302_324.out _;(with_reducible repeat (first|refine bN ?_ _|refine bD ?_|refine bA ?_ _));refine blk_far ?_ NB302_324.out _;(with_reducible repeat (first|refine bN ?_ _|refine bD ?_|refine bA ?_ _));refine blk_far ?_ NB302_324.out _;(with_reducible repeat (first|refine bN ?_ _|refine bD ?_|refine bA ?_ _));exact BK302.out⟩,⟨by (with_reducible repeat (first|refine bN ?_ _|refine bD ?_|refine bA ?_ _));refine blk_put (cs:=#[.string ((rd_T52 l0_10 x7_5).f0),.int .i64 ((rd_T52 l0_10 x7_5).f1),.int .i64 0]) ?_ 2 _ rfl;(with_reducible repeat (first|refine bN ?_ _|refine bD ?_|refine bA ?_ _));refine blk_put (cs:=#[.string ((rd_T52 l0_10 x7_5).f0),.int .i64 0,.int .i64 0]) ?_ 1 _ rfl;(with_reducible repeat (first|refine bN ?_ _|refine bD ?_|refine bA ?_ _));refine blk_put (cs:=#[.string (⟨#[]⟩ : ByteArray),.int .i64 0,.int .i64 0]) ?_ 0 _ rfl;(with_reducible repeat (first|refine bN ?_ _|refine bD ?_|refine bA ?_ _));exact BK324.out⟩,⟨by repeat (first|(with_reducible first|exact HB.out|apply bL|apply pN|apply bE|refine bS ?_ GE301.out|refine bS ?_ GE302.out|refine bS ?_ GE324.out)|exact HB.out)⟩⟩
             replace c115:=Bool.eq_false_iff.mpr c115
             subst c115
             have H1 : ((gangerref10_out.f ((rd_T52 l0_10 x7_5).f2) 1 1048576).bind fun t327=>(gangerref10_Check.j7 k5 x7_5 t327 a0_0 a0_1 a0_2 a0_3 a0_4 a0_5 a0_6 a0_7 a0_8 l0_9 l0_10 l0_11 ((rd_T52 l0_10 x7_5).f0) ((rd_T52 l0_10 x7_5).f1) ((rd_T52 l0_10 x7_5).f2))) = some r:=by rw [if_neg (show ¬ (false = true) by decide)] at H;exact H
             clear H
             have H:=H1
             clear H1
             replace H:=oB H
             obtain ⟨t327,A1190,H⟩:=H
             try dsimp only at H
             have A119:=Am A1190
             clear A1190
             have H':=Am H
             clear H
             have hnb120:=NB324_301.out
             have hnc120:=NB301_324.out
             have hnb121:=NB324_302.out
             have hnc121:=NB302_324.out
             obtain ⟨X122_0,X122_1,X122_2,Y122_0,Y122_1,Y122_2⟩:=kc3 (w:=w108) (g:=gb324) BK324.out
             go_wp2_with (first|(go_at_call 20;(with_reducible refine (gangerref09_Name.calls k5 ((rd_T52 l0_10 x7_5).f0) true _ A112.out).mono ?_);rintro e w' ⟨rfl,⟨nd,rfl⟩⟩;(try first|exact ⟨rfl,_,wD _ _ _⟩|exact ⟨rfl,_,wE _ _ _ _⟩))|(go_at_call 33;(with_reducible refine (gangerref10_out.calls ((rd_T52 l0_10 x7_5).f1) 0 1048576 false _ A114.out).mono ?_);rintro e w' ⟨rfl,⟨nd,rfl⟩⟩;(try first|exact ⟨rfl,_,wD _ _ _⟩|exact ⟨rfl,_,wE _ _ _ _⟩))|(go_at_call 33;(with_reducible refine (gangerref10_out.calls ((rd_T52 l0_10 x7_5).f2) 1 1048576 t327 _ A119.out).mono ?_);rintro e w' ⟨rfl,⟨nd,rfl⟩⟩;(try first|exact ⟨rfl,_,wD _ _ _⟩|exact ⟨rfl,_,wE _ _ _ _⟩)))
             repeat (go_quiet (first|(go_at_call 20;(with_reducible refine (gangerref09_Name.calls k5 ((rd_T52 l0_10 x7_5).f0) true _ A112.out).mono ?_);rintro e w' ⟨rfl,⟨nd,rfl⟩⟩;(try first|exact ⟨rfl,_,wD _ _ _⟩|exact ⟨rfl,_,wE _ _ _ _⟩))|(go_at_call 33;(with_reducible refine (gangerref10_out.calls ((rd_T52 l0_10 x7_5).f1) 0 1048576 false _ A114.out).mono ?_);rintro e w' ⟨rfl,⟨nd,rfl⟩⟩;(try first|exact ⟨rfl,_,wD _ _ _⟩|exact ⟨rfl,_,wE _ _ _ _⟩))|(go_at_call 33;(with_reducible refine (gangerref10_out.calls ((rd_T52 l0_10 x7_5).f2) 1 1048576 t327 _ A119.out).mono ?_);rintro e w' ⟨rfl,⟨nd,rfl⟩⟩;(try first|exact ⟨rfl,_,wD _ _ _⟩|exact ⟨rfl,_,wE _ _ _ _⟩)));try go_wp2_with (first|(go_at_call 20;(with_reducible refine (gangerref09_Name.calls k5 ((rd_T52 l0_10 x7_5).f0) true _ A112.out).mono ?_);rintro e w' ⟨rfl,⟨nd,rfl⟩⟩;(try first|exact ⟨rfl,_,wD _ _ _⟩|exact ⟨rfl,_,wE _ _ _ _⟩))|(go_at_call 33;(with_reducible refine (gangerref10_out.calls ((rd_T52 l0_10 x7_5).f1) 0 1048576 false _ A114.out).mono ?_);rintro e w' ⟨rfl,⟨nd,rfl⟩⟩;(try first|exact ⟨rfl,_,wD _ _ _⟩|exact ⟨rfl,_,wE _ _ _ _⟩))|(go_at_call 33;(with_reducible refine (gangerref10_out.calls ((rd_T52 l0_10 x7_5).f2) 1 1048576 t327 _ A119.out).mono ?_);rintro e w' ⟨rfl,⟨nd,rfl⟩⟩;(try first|exact ⟨rfl,_,wD _ _ _⟩|exact ⟨rfl,_,wE _ _ _ _⟩))))
             go_meet
             case rel=>exact ⟨_,(t327),(by first|rfl|(simp;done)|(simp [*];done)),H',⟨by have:=HJ1.out;have:=HJ27.out;have:=HJ44.out;have:=HK4.out;have:=HK5.out;first|omega|exact Nat.le_refl _⟩,⟨by (with_reducible repeat (first|refine bN ?_ _|refine bD ?_|refine bA ?_ _));refine blk_far ?_ NB301_324.out _;(with_reducible repeat (first|refine bN ?_ _|refine bD ?_|refine bA ?_ _));refine blk_far ?_ NB301_324.out _;(with_reducible repeat (first|refine bN ?_ _|refine bD ?_|refine bA ?_ _));refine blk_far ?_ NB301_324.out _;(with_reducible repeat (first|refine bN ?_ _|refine bD ?_|refine bA ?_ _));exact BK301.out⟩,⟨by (with_reducible repeat (first|refine bN ?_ _|refine bD ?_|refine bA ?_ _));refine blk_far ?_ NB302_324.out _;(with_reducible repeat (first|refine bN ?_ _|refine bD ?_|refine bA ?_ _));refine blk_far ?_ NB302_324.out _;(with_reducible repeat (first|refine bN ?_ _|refine bD ?_|refine bA ?_ _));refine blk_far ?_ NB302_324.out _;(with_reducible repeat (first|refine bN ?_ _|refine bD ?_|refine bA ?_ _));exact BK302.out⟩,⟨by (with_reducible repeat (first|refine bN ?_ _|refine bD ?_|refine bA ?_ _));refine blk_put (cs:=#[.string ((rd_T52 l0_10 x7_5).f0),.int .i64 ((rd_T52 l0_10 x7_5).f1),.int .i64 0]) ?_ 2 _ rfl;(with_reducible repeat (first|refine bN ?_ _|refine bD ?_|refine bA ?_ _));refine blk_put (cs:=#[.string ((rd_T52 l0_10 x7_5).f0),.int .i64 0,.int .i64 0]) ?_ 1 _ rfl;(with_reducible repeat (first|refine bN ?_ _|refine bD ?_|refine bA ?_ _));refine blk_put (cs:=#[.string (⟨#[]⟩ : ByteArray),.int .i64 0,.int .i64 0]) ?_ 0 _ rfl;(with_reducible repeat (first|refine bN ?_ _|refine bD ?_|refine bA ?_ _));exact BK324.out⟩,⟨by repeat (first|(with_reducible first|exact HB.out|apply bL|apply pN|apply bE|refine bS ?_ GE301.out|refine bS ?_ GE302.out|refine bS ?_ GE324.out)|exact HB.out)⟩⟩
            case rest =>
             clear HC105
             obtain ⟨kq,x139_104,rfl,HA,HJ104,BK301,BK302,BK324,HB⟩:=hcut
             cases kq with
             | zero=>exact absurd HA.out (by simp [gangerref10_Check.j7])
             | succ kj104 =>
              have H:=HA.out
              clear HA
              simp only [gangerref10_Check.j7] at H
              by_cases c126 : x139_104 = true
              ·subst c126
               have H1 : (some 100) = some r:=by rw [if_pos rfl] at H;exact H
               clear H
               have H:=H1
               clear H1
               obtain rfl:=Option.some.inj H
               go_wp2
               repeat (go_quiet (fail);try go_wp2)
               go_ret
               exact ⟨by first|rfl|(simp [errW_none,errW_some] <;> rfl)|(simp [*,errW_none,errW_some] <;> rfl),by repeat (first|(with_reducible first|exact HB.out|apply bL|apply pN|apply bE|refine bS ?_ GE301.out|refine bS ?_ GE302.out|refine bS ?_ GE324.out)|exact HB.out)⟩
              replace c126:=Bool.eq_false_iff.mpr c126
              subst c126
              have H1 : (gangerref10_Check.l3 kj104 x7_5 0 a0_0 a0_1 a0_2 a0_3 a0_4 a0_5 a0_6 a0_7 a0_8 l0_9 l0_10 l0_11 ((rd_T52 l0_10 x7_5).f0) ((rd_T52 l0_10 x7_5).f1) ((rd_T52 l0_10 x7_5).f2)) = some r:=by rw [if_neg (show ¬ (false = true) by decide)] at H;exact H
              clear H
              have H:=H1
              clear H1
              have H':=Am H
              clear H
              go_wp2
              repeat (go_quiet (fail);try go_wp2)
              go_loopg [9] kj104 (fun kq v9 w'=>∃ (x9_7 : Int),v9 = .int .i64 x9_7∧Aside0 (gangerref10_Check.l3 kq x7_5 x9_7 a0_0 a0_1 a0_2 a0_3 a0_4 a0_5 a0_6 a0_7 a0_8 l0_9 l0_10 l0_11 ((rd_T52 l0_10 x7_5).f0) ((rd_T52 l0_10 x7_5).f1) ((rd_T52 l0_10 x7_5).f2) = some r)∧Aside0 (kq≤kj104)∧Aside0 (w'.heap[gb301]? = some (.cells #[.int .i64 a0_0,.int .i64 a0_1,.int .i64 a0_2,.int .i64 a0_3,.int .i64 a0_4,.int .i64 a0_5,.int .i64 a0_6,.int .i64 a0_7,.int .i64 a0_8,(.slice A0_9 l0_9.length c0_9),(.slice (some ad323) l0_10.length c0_10),(.slice A0_11 l0_11.length c0_11)] 28 (0,0)))∧Aside0 (w'.heap[gb302]? = some (.cells #[.int .i64 a0_4,.int .i64 a0_5,.int .i64 a0_6,.int .i64 a0_7,.int .i64 a0_8] 23 (0,0)))∧Aside0 (w'.heap[gb324]? = some (.cells #[.string ((rd_T52 l0_10 x7_5).f0),.int .i64 ((rd_T52 l0_10 x7_5).f1),.int .i64 ((rd_T52 l0_10 x7_5).f2)] 52 (0,0)))∧Aside0 (Below w.heap.size w w'))
              case atStart=>exact ⟨(0),(by first|rfl|(simp;done)|(simp [*];done)),H',⟨Nat.le_refl _⟩,⟨by (with_reducible repeat (first|refine bN ?_ _|refine bD ?_|refine bA ?_ _));exact BK301.out⟩,⟨by (with_reducible repeat (first|refine bN ?_ _|refine bD ?_|refine bA ?_ _));exact BK302.out⟩,⟨by (with_reducible repeat (first|refine bN ?_ _|refine bD ?_|refine bA ?_ _));exact BK324.out⟩,⟨by repeat (first|(with_reducible first|exact HB.out|apply bL|apply pN|apply bE|refine bS ?_ GE301.out|refine bS ?_ GE302.out|refine bS ?_ GE324.out)|exact HB.out)⟩⟩
              case round =>
               clear H'
               obtain ⟨x9_7,rfl,HA,HK7,BK301,BK302,BK324,HB⟩:=hrel
               cases gk with
               | zero=>exact absurd HA.out (by simp [gangerref10_Check.l3])
               | succ k7 =>
                have H:=HA.out
                clear HA
                simp only [gangerref10_Check.l3] at H
                by_cases c127 : x9_7 < x7_5
                rotate_left
                ·rw [if_neg c127] at H
                 have c127b0 : decide (x9_7 < x7_5) = false:=decide_eq_false c127
                 clear c127
                 have H':=Am H
                 clear H
                 go_wp2
                 repeat (go_quiet (fail);try go_wp2)
                 go_roundg k7
                 case measure=>have:=HJ1.out;have:=HJ27.out;have:=HJ44.out;have:=HK4.out;have:=HK5.out;have:=HJ104.out;have:=HK7.out;omega
                 case rel=>exact ⟨(wrap64 (x7_5 + 1)),(by first|rfl|(simp;done)|(simp [*];done)),H',⟨by have:=HJ1.out;have:=HJ27.out;have:=HJ44.out;have:=HK4.out;have:=HK5.out;have:=HJ104.out;have:=HK7.out;omega⟩,⟨by (with_reducible repeat (first|refine bN ?_ _|refine bD ?_|refine bA ?_ _));exact BK301.out⟩,⟨by (with_reducible repeat (first|refine bN ?_ _|refine bD ?_|refine bA ?_ _));exact BK302.out⟩,⟨by repeat (first|(with_reducible first|exact HB.out|apply bL|apply pN|apply bE|refine bS ?_ GE301.out|refine bS ?_ GE302.out|refine bS ?_ GE324.out)|exact HB.out)⟩⟩
                rw [if_pos c127] at H
                have c127b0 : decide (x9_7 < x7_5) = true:=decide_eq_true c127
                clear c127
                by_cases c128 : 0≤x9_7
                rotate_left
                ·rw [if_neg c128] at H
                 exact absurd H (by simp)
                rw [if_pos c128] at H
                have c128b0 : decide (0≤x9_7) = true:=decide_eq_true c128
                clear c128
                by_cases c129 : x9_7 < (l0_10.length : Int)
                rotate_left
                ·rw [if_neg c129] at H
                 exact absurd H (by simp)
                rw [if_pos c129] at H
                have c129b0 : decide (x9_7 < (l0_10.length : Int)) = true:=decide_eq_true c129
                clear c129
                by_cases c130 : ((rd_T52 l0_10 x9_7).f0).toList = ((rd_T52 l0_10 x7_5).f0).toList
                ·rw [if_pos c130] at H
                 have c130b0 : (((rd_T52 l0_10 x9_7).f0).toList == ((rd_T52 l0_10 x7_5).f0).toList) = true:=beq_iff_eq.mpr c130
                 have c130b1 : (((rd_T52 l0_10 x9_7).f0).toList != ((rd_T52 l0_10 x7_5).f0).toList) = false:=bne_eq_false_iff_eq.mpr c130
                 clear c130
                 obtain rfl:=Option.some.inj H
                 have hnb131:=NB301_302.out
                 have hnc131:=NB302_301.out
                 have hnb132:=NB301_324.out
                 have hnc132:=NB324_301.out
                 obtain ⟨X133_0,X133_1,X133_2,X133_3,X133_4,X133_5,X133_6,X133_7,X133_8,X133_9,X133_10,X133_11,Y133_0,Y133_1,Y133_2,Y133_3,Y133_4,Y133_5,Y133_6,Y133_7,Y133_8,Y133_9,Y133_10,Y133_11⟩:=kc12 (w:=wr) (g:=gb301) BK301.out
                 have p328 : 0≤(x9_7 : Int):=of_decide_eq_true (by first|(with_reducible assumption)|assumption)
                 have q328 : x9_7 < (l0_10.length : Int):=of_decide_eq_true (by first|(with_reducible assumption)|assumption)
                 obtain ⟨ad328,e328,hx328_0,hx328_1,hx328_2⟩:=at_T52 HR0_10.out x9_7 p328 q328
                 obtain rfl : ad323 = ad328:=(by injection e328)
                 replace hx328_0:=(HB.out.cell (wB w _ hx328_0)).trans hx328_0
                 replace hx328_1:=(HB.out.cell (wB w _ hx328_1)).trans hx328_1
                 replace hx328_2:=(HB.out.cell (wB w _ hx328_2)).trans hx328_2
                 replace p328:=eq_true p328
                 replace q328:=eq_true q328
                 have hnb134:=NB324_302.out
                 have hnc134:=NB302_324.out
                 obtain ⟨X135_0,X135_1,X135_2,Y135_0,Y135_1,Y135_2⟩:=kc3 (w:=wr) (g:=gb324) BK324.out
                 go_wp2
                 repeat (go_quiet (fail);try go_wp2)
                 go_ret
                 exact ⟨by first|rfl|(simp [errW_none,errW_some] <;> rfl)|(simp [*,errW_none,errW_some] <;> rfl),by repeat (first|(with_reducible first|exact HB.out|apply bL|apply pN|apply bE|refine bS ?_ GE301.out|refine bS ?_ GE302.out|refine bS ?_ GE324.out)|exact HB.out)⟩
                rw [if_neg c130] at H
                have c130b0 : (((rd_T52 l0_10 x9_7).f0).toList == ((rd_T52 l0_10 x7_5).f0).toList) = false:=beq_eq_false_iff_ne.mpr c130
                have c130b1 : (((rd_T52 l0_10 x9_7).f0).toList != ((rd_T52 l0_10 x7_5).f0).toList) = true:=bne_iff_ne.mpr c130
                have H':=Am H
                clear H
                have hnb136:=NB301_302.out
                have hnc136:=NB302_301.out
                have hnb137:=NB301_324.out
                have hnc137:=NB324_301.out
                obtain ⟨X138_0,X138_1,X138_2,X138_3,X138_4,X138_5,X138_6,X138_7,X138_8,X138_9,X138_10,X138_11,Y138_0,Y138_1,Y138_2,Y138_3,Y138_4,Y138_5,Y138_6,Y138_7,Y138_8,Y138_9,Y138_10,Y138_11⟩:=kc12 (w:=wr) (g:=gb301) BK301.out
                have p328 : 0≤(x9_7 : Int):=of_decide_eq_true (by first|(with_reducible assumption)|assumption)
                have q328 : x9_7 < (l0_10.length : Int):=of_decide_eq_true (by first|(with_reducible assumption)|assumption)
                obtain ⟨ad328,e328,hx328_0,hx328_1,hx328_2⟩:=at_T52 HR0_10.out x9_7 p328 q328
                obtain rfl : ad323 = ad328:=(by injection e328)
                replace hx328_0:=(HB.out.cell (wB w _ hx328_0)).trans hx328_0
                replace hx328_1:=(HB.out.cell (wB w _ hx328_1)).trans hx328_1
                replace hx328_2:=(HB.out.cell (wB w _ hx328_2)).trans hx328_2
                replace p328:=eq_true p328
                replace q328:=eq_true q328
                have hnb139:=NB324_302.out
                have hnc139:=NB302_324.out
                obtain ⟨X140_0,X140_1,X140_2,Y140_0,Y140_1,Y140_2⟩:=kc3 (w:=wr) (g:=gb324) BK324.out
                go_wp2
                repeat (go_quiet (fail);try go_wp2)
                go_roundg k7
                case measure=>have:=HJ1.out;have:=HJ27.out;have:=HJ44.out;have:=HK4.out;have:=HK5.out;have:=HJ104.out;have:=HK7.out;omega
                case rel=>exact ⟨(wrap64 (x9_7 + 1)),(by first|rfl|(simp;done)|(simp [*];done)),H',⟨by have:=HJ1.out;have:=HJ27.out;have:=HJ44.out;have:=HK4.out;have:=HK5.out;have:=HJ104.out;have:=HK7.out;omega⟩,⟨by (with_reducible repeat (first|refine bN ?_ _|refine bD ?_|refine bA ?_ _));exact BK301.out⟩,⟨by (with_reducible repeat (first|refine bN ?_ _|refine bD ?_|refine bA ?_ _));exact BK302.out⟩,⟨by (with_reducible repeat (first|refine bN ?_ _|refine bD ?_|refine bA ?_ _));exact BK324.out⟩,⟨by repeat (first|(with_reducible first|exact HB.out|apply bL|apply pN|apply bE|refine bS ?_ GE301.out|refine bS ?_ GE302.out|refine bS ?_ GE324.out)|exact HB.out)⟩⟩
         rw [if_pos c58] at H
         have c58b0 : decide (x4_4 < (l0_9.length : Int)) = true:=decide_eq_true c58
         clear c58
         by_cases c59 : 0≤x4_4
         rotate_left
         ·rw [if_neg c59] at H
          exact absurd H (by simp)
         rw [if_pos c59] at H
         have c59b0 : decide (0≤x4_4) = true:=decide_eq_true c59
         clear c59
         have HC60:=Am H
         clear H
         have hnb61:=NB301_302.out
         have hnc61:=NB302_301.out
         obtain ⟨X62_0,X62_1,X62_2,X62_3,X62_4,X62_5,X62_6,X62_7,X62_8,X62_9,X62_10,X62_11,Y62_0,Y62_1,Y62_2,Y62_3,Y62_4,Y62_5,Y62_6,Y62_7,Y62_8,Y62_9,Y62_10,Y62_11⟩:=kc12 (w:=wr) (g:=gb301) BK301.out
         have p315 : 0≤(x4_4 : Int):=of_decide_eq_true (by first|(with_reducible assumption)|assumption)
         have q315 : x4_4 < (l0_9.length : Int):=of_decide_eq_true (by first|(with_reducible assumption)|assumption)
         obtain ⟨ad315,e315,hx315_0,hx315_1,hx315_2,hx315_3⟩:=at_T50 HR0_9.out x4_4 p315 q315
         cases e315
         replace hx315_0:=(HB.out.cell (wB w _ hx315_0)).trans hx315_0
         replace hx315_1:=(HB.out.cell (wB w _ hx315_1)).trans hx315_1
         replace hx315_2:=(HB.out.cell (wB w _ hx315_2)).trans hx315_2
         replace hx315_3:=(HB.out.cell (wB w _ hx315_3)).trans hx315_3
         replace p315:=eq_true p315
         replace q315:=eq_true q315
         go_upto_region 12 with (first|((with_reducible refine gD (N:=5) rfl ?_);(try (refine gate_guard (by rfl) ?_;dsimp only));refine box_event ?hg (N:=5) ?hd (cs:=#[.string (⟨#[]⟩ : ByteArray),.int .i64 0,.int .i64 0,.int .i64 0]) (t:=50) ?hr ?_;(case hd=>rfl);(case hg=>rfl);(case hr=>first|(go_simp;done)|(go_simp;rfl));intro gb316 hg w63 hbox hb;have n0_:=Am (blk_below (g:=gb301) (by (with_reducible repeat (first|refine bN ?_ _|refine bD ?_|refine bA ?_ _));exact BK301.out) hb);have n1_:=Am (blk_below (g:=gb302) (by (with_reducible repeat (first|refine bN ?_ _|refine bD ?_|refine bA ?_ _));exact BK302.out) hb);have n2_:=Am (below_step (by repeat (first|(with_reducible first|exact HB.out|apply bL|apply pN|apply bE|refine bS ?_ GE301.out|refine bS ?_ GE302.out)|exact HB.out)) hb);have n3_:=Am (hbox);have n4_:=Am ((by rw [hg];exact (bZ (by repeat (first|(with_reducible first|exact HB.out|apply bL|apply pN|apply bE|refine bS ?_ GE301.out|refine bS ?_ GE302.out)|exact HB.out))) : w.heap.size≤gb316));have n5_:=n4_;have n6_:=Am ((by rw [hg];exact Nat.ne_of_lt (blk_lt (g:=gb301) (by (with_reducible repeat (first|refine bN ?_ _|refine bD ?_|refine bA ?_ _));exact BK301.out)) : gb301 ≠ gb316));have n7_:=Am ((by rw [hg];exact Nat.ne_of_gt (blk_lt (g:=gb301) (by (with_reducible repeat (first|refine bN ?_ _|refine bD ?_|refine bA ?_ _));exact BK301.out)) : gb316 ≠ gb301));have n8_:=Am ((by rw [hg];exact Nat.ne_of_lt (blk_lt (g:=gb302) (by (with_reducible repeat (first|refine bN ?_ _|refine bD ?_|refine bA ?_ _));exact BK302.out)) : gb302 ≠ gb316));have n9_:=Am ((by rw [hg];exact Nat.ne_of_gt (blk_lt (g:=gb302) (by (with_reducible repeat (first|refine bN ?_ _|refine bD ?_|refine bA ?_ _));exact BK302.out)) : gb316 ≠ gb302));clear BK301;clear BK302;clear HB;have BK301:=n0_;have BK302:=n1_;have HB:=n2_;have BK316:=n3_;have GW316:=n4_;have GE316:=n5_;have NB301_316:=n6_;have NB316_301:=n7_;have NB302_316:=n8_;have NB316_302:=n9_;clear n0_ n1_ n2_ n3_ n4_ n5_ n6_ n7_ n8_ n9_;clear hb hbox hg;have hnb64:=NB316_301.out;have hnc64:=NB301_316.out;have hnb65:=NB316_302.out;have hnc65:=NB302_316.out;obtain ⟨X66_0,X66_1,X66_2,X66_3,Y66_0,Y66_1,Y66_2,Y66_3⟩:=kc4 (w:=w63) (g:=gb316) BK316.out))
         repeat (go_quiet (first|((with_reducible refine gD (N:=5) rfl ?_);(try (refine gate_guard (by rfl) ?_;dsimp only));refine box_event ?hg (N:=5) ?hd (cs:=#[.string (⟨#[]⟩ : ByteArray),.int .i64 0,.int .i64 0,.int .i64 0]) (t:=50) ?hr ?_;(case hd=>rfl);(case hg=>rfl);(case hr=>first|(go_simp;done)|(go_simp;rfl));intro gb316 hg w63 hbox hb;have n0_:=Am (blk_below (g:=gb301) (by (with_reducible repeat (first|refine bN ?_ _|refine bD ?_|refine bA ?_ _));exact BK301.out) hb);have n1_:=Am (blk_below (g:=gb302) (by (with_reducible repeat (first|refine bN ?_ _|refine bD ?_|refine bA ?_ _));exact BK302.out) hb);have n2_:=Am (below_step (by repeat (first|(with_reducible first|exact HB.out|apply bL|apply pN|apply bE|refine bS ?_ GE301.out|refine bS ?_ GE302.out)|exact HB.out)) hb);have n3_:=Am (hbox);have n4_:=Am ((by rw [hg];exact (bZ (by repeat (first|(with_reducible first|exact HB.out|apply bL|apply pN|apply bE|refine bS ?_ GE301.out|refine bS ?_ GE302.out)|exact HB.out))) : w.heap.size≤gb316));have n5_:=n4_;have n6_:=Am ((by rw [hg];exact Nat.ne_of_lt (blk_lt (g:=gb301) (by (with_reducible repeat (first|refine bN ?_ _|refine bD ?_|refine bA ?_ _));exact BK301.out)) : gb301 ≠ gb316));have n7_:=Am ((by rw [hg];exact Nat.ne_of_gt (blk_lt (g:=gb301) (by (with_reducible repeat (first|refine bN ?_ _|refine bD ?_|refine bA ?_ _));exact BK301.out)) : gb316 ≠ gb301));have n8_:=Am ((by rw [hg];exact Nat.ne_of_lt (blk_lt (g:=gb302) (by (with_reducible repeat (first|refine bN ?_ _|refine bD ?_|refine bA ?_ _));exact BK302.out)) : gb302 ≠ gb316));have n9_:=Am ((by rw [hg];exact Nat.ne_of_gt (blk_lt (g:=gb302) (by (with_reducible repeat (first|refine bN ?_ _|refine bD ?_|refine bA ?_ _));exact BK302.out)) : gb316 ≠ gb302));clear BK301;clear BK302;clear HB;have BK301:=n0_;have BK302:=n1_;have HB:=n2_;have BK316:=n3_;have GW316:=n4_;have GE316:=n5_;have NB301_316:=n6_;have NB316_301:=n7_;have NB302_316:=n8_;have NB316_302:=n9_;clear n0_ n1_ n2_ n3_ n4_ n5_ n6_ n7_ n8_ n9_;clear hb hbox hg;have hnb64:=NB316_301.out;have hnc64:=NB301_316.out;have hnb65:=NB316_302.out;have hnc65:=NB302_316.out;obtain ⟨X66_0,X66_1,X66_2,X66_3,Y66_0,Y66_1,Y66_2,Y66_3⟩:=kc4 (w:=w63) (g:=gb316) BK316.out));go_upto_region 12 with (first|((with_reducible refine gD (N:=5) rfl ?_);(try (refine gate_guard (by rfl) ?_;dsimp only));refine box_event ?hg (N:=5) ?hd (cs:=#[.string (⟨#[]⟩ : ByteArray),.int .i64 0,.int .i64 0,.int .i64 0]) (t:=50) ?hr ?_;(case hd=>rfl);(case hg=>rfl);(case hr=>first|(go_simp;done)|(go_simp;rfl));intro gb316 hg w63 hbox hb;have n0_:=Am (blk_below (g:=gb301) (by (with_reducible repeat (first|refine bN ?_ _|refine bD ?_|refine bA ?_ _));exact BK301.out) hb);have n1_:=Am (blk_below (g:=gb302) (by (with_reducible repeat (first|refine bN ?_ _|refine bD ?_|refine bA ?_ _));exact BK302.out) hb);have n2_:=Am (below_step (by repeat (first|(with_reducible first|exact HB.out|apply bL|apply pN|apply bE|refine bS ?_ GE301.out|refine bS ?_ GE302.out)|exact HB.out)) hb);have n3_:=Am (hbox);have n4_:=Am ((by rw [hg];exact (bZ (by repeat (first|(with_reducible first|exact HB.out|apply bL|apply pN|apply bE|refine bS ?_ GE301.out|refine bS ?_ GE302.out)|exact HB.out))) : w.heap.size≤gb316));have n5_:=n4_;have n6_:=Am ((by rw [hg];exact Nat.ne_of_lt (blk_lt (g:=gb301) (by (with_reducible repeat (first|refine bN ?_ _|refine bD ?_|refine bA ?_ _));exact BK301.out)) : gb301 ≠ gb316));have n7_:=Am ((by rw [hg];exact Nat.ne_of_gt (blk_lt (g:=gb301) (by (with_reducible repeat (first|refine bN ?_ _|refine bD ?_|refine bA ?_ _));exact BK301.out)) : gb316 ≠ gb301));have n8_:=Am ((by rw [hg];exact Nat.ne_of_lt (blk_lt (g:=gb302) (by (with_reducible repeat (first|refine bN ?_ _|refine bD ?_|refine bA ?_ _));exact BK302.out)) : gb302 ≠ gb316));have n9_:=Am ((by rw [hg];exact Nat.ne_of_gt (blk_lt (g:=gb302) (by (with_reducible repeat (first|refine bN ?_ _|refine bD ?_|refine bA ?_ _));exact BK302.out)) : gb316 ≠ gb302));clear BK301;clear BK302;clear HB;have BK301:=n0_;have BK302:=n1_;have HB:=n2_;have BK316:=n3_;have GW316:=n4_;have GE316:=n5_;have NB301_316:=n6_;have NB316_301:=n7_;have NB302_316:=n8_;have NB316_302:=n9_;clear n0_ n1_ n2_ n3_ n4_ n5_ n6_ n7_ n8_ n9_;clear hb hbox hg;have hnb64:=NB316_301.out;have hnc64:=NB301_316.out;have hnb65:=NB316_302.out;have hnc65:=NB302_316.out;obtain ⟨X66_0,X66_1,X66_2,X66_3,Y66_0,Y66_1,Y66_2,Y66_3⟩:=kc4 (w:=w63) (g:=gb316) BK316.out)))
         (try simp only [Act.put,sT,sZ,sS])
         go_cut [99] (fun v99 wc=>∃ (kq : Nat) (x99_59 : Bool),v99 = .bool x99_59∧Aside0 (gangerref10_Check.j4 kq x4_4 x99_59 a0_0 a0_1 a0_2 a0_3 a0_4 a0_5 a0_6 a0_7 a0_8 l0_9 l0_10 l0_11 ((rd_T50 l0_9 x4_4).f0) ((rd_T50 l0_9 x4_4).f1) ((rd_T50 l0_9 x4_4).f2) ((rd_T50 l0_9 x4_4).f3) = some r)∧Aside0 (kq≤k4)∧Aside0 (wc.heap[gb301]? = some (.cells #[.int .i64 a0_0,.int .i64 a0_1,.int .i64 a0_2,.int .i64 a0_3,.int .i64 a0_4,.int .i64 a0_5,.int .i64 a0_6,.int .i64 a0_7,.int .i64 a0_8,(.slice (some ad315) l0_9.length c0_9),(.slice A0_10 l0_10.length c0_10),(.slice A0_11 l0_11.length c0_11)] 28 (0,0)))∧Aside0 (wc.heap[gb302]? = some (.cells #[.int .i64 a0_4,.int .i64 a0_5,.int .i64 a0_6,.int .i64 a0_7,.int .i64 a0_8] 23 (0,0)))∧Aside0 (wc.heap[gb316]? = some (.cells #[.string ((rd_T50 l0_9 x4_4).f0),.int .i64 ((rd_T50 l0_9 x4_4).f1),.int .i64 ((rd_T50 l0_9 x4_4).f2),.int .i64 ((rd_T50 l0_9 x4_4).f3)] 50 (0,0)))∧Aside0 (Below w.heap.size w wc))
         case first =>
          have H:=HC60.out
          clear HC60
          replace H:=oB H
          obtain ⟨t317,A670,H⟩:=H
          try dsimp only at H
          have A67:=Am A670
          clear A670
          by_cases c68 : t317 = true
          rotate_left
          ·replace c68:=Bool.eq_false_iff.mpr c68
           subst c68
           have H1 : (gangerref10_Check.j4 k4 x4_4 true a0_0 a0_1 a0_2 a0_3 a0_4 a0_5 a0_6 a0_7 a0_8 l0_9 l0_10 l0_11 ((rd_T50 l0_9 x4_4).f0) ((rd_T50 l0_9 x4_4).f1) ((rd_T50 l0_9 x4_4).f2) ((rd_T50 l0_9 x4_4).f3)) = some r:=by rw [if_neg (show ¬ (false = true) by decide)] at H;exact H
           clear H
           have H:=H1
           clear H1
           have H':=Am H
           clear H
           have hnb83:=NB316_301.out
           have hnc83:=NB301_316.out
           have hnb84:=NB316_302.out
           have hnc84:=NB302_316.out
           obtain ⟨X85_0,X85_1,X85_2,X85_3,Y85_0,Y85_1,Y85_2,Y85_3⟩:=kc4 (w:=w63) (g:=gb316) BK316.out
           go_wp2_with (first|(go_at_call 20;(with_reducible refine (gangerref09_Name.calls k4 ((rd_T50 l0_9 x4_4).f0) false _ A67.out).mono ?_);rintro e w' ⟨rfl,⟨nd,rfl⟩⟩;(try first|exact ⟨rfl,_,wD _ _ _⟩|exact ⟨rfl,_,wE _ _ _ _⟩)))
           repeat (go_quiet (first|(go_at_call 20;(with_reducible refine (gangerref09_Name.calls k4 ((rd_T50 l0_9 x4_4).f0) false _ A67.out).mono ?_);rintro e w' ⟨rfl,⟨nd,rfl⟩⟩;(try first|exact ⟨rfl,_,wD _ _ _⟩|exact ⟨rfl,_,wE _ _ _ _⟩)));try go_wp2_with (first|(go_at_call 20;(with_reducible refine (gangerref09_Name.calls k4 ((rd_T50 l0_9 x4_4).f0) false _ A67.out).mono ?_);rintro e w' ⟨rfl,⟨nd,rfl⟩⟩;(try first|exact ⟨rfl,_,wD _ _ _⟩|exact ⟨rfl,_,wE _ _ _ _⟩))))
           go_meet
           case rel=>exact ⟨_,(true),(by first|rfl|(simp;done)|(simp [*];done)),H',⟨by have:=HJ1.out;have:=HJ27.out;have:=HJ44.out;have:=HK4.out;first|omega|exact Nat.le_refl _⟩,⟨by (with_reducible repeat (first|refine bN ?_ _|refine bD ?_|refine bA ?_ _));refine blk_far ?_ NB301_316.out _;(with_reducible repeat (first|refine bN ?_ _|refine bD ?_|refine bA ?_ _));refine blk_far ?_ NB301_316.out _;(with_reducible repeat (first|refine bN ?_ _|refine bD ?_|refine bA ?_ _));refine blk_far ?_ NB301_316.out _;(with_reducible repeat (first|refine bN ?_ _|refine bD ?_|refine bA ?_ _));refine blk_far ?_ NB301_316.out _;(with_reducible repeat (first|refine bN ?_ _|refine bD ?_|refine bA ?_ _));exact BK301.out⟩,⟨by (with_reducible repeat (first|refine bN ?_ _|refine bD ?_|refine bA ?_ _));refine blk_far ?_ NB302_316.out _;(with_reducible repeat (first|refine bN ?_ _|refine bD ?_|refine bA ?_ _));refine blk_far ?_ NB302_316.out _;(with_reducible repeat (first|refine bN ?_ _|refine bD ?_|refine bA ?_ _));refine blk_far ?_ NB302_316.out _;(with_reducible repeat (first|refine bN ?_ _|refine bD ?_|refine bA ?_ _));refine blk_far ?_ NB302_316.out _;(with_reducible repeat (first|refine bN ?_ _|refine bD ?_|refine bA ?_ _));exact BK302.out⟩,⟨by (with_reducible repeat (first|refine bN ?_ _|refine bD ?_|refine bA ?_ _));refine blk_put (cs:=#[.string ((rd_T50 l0_9 x4_4).f0),.int .i64 ((rd_T50 l0_9 x4_4).f1),.int .i64 ((rd_T50 l0_9 x4_4).f2),.int .i64 0]) ?_ 3 _ rfl;(with_reducible repeat (first|refine bN ?_ _|refine bD ?_|refine bA ?_ _));refine blk_put (cs:=#[.string ((rd_T50 l0_9 x4_4).f0),.int .i64 ((rd_T50 l0_9 x4_4).f1),.int .i64 0,.int .i64 0]) ?_ 2 _ rfl;(with_reducible repeat (first|refine bN ?_ _|refine bD ?_|refine bA ?_ _));refine blk_put (cs:=#[.string ((rd_T50 l0_9 x4_4).f0),.int .i64 0,.int .i64 0,.int .i64 0]) ?_ 1 _ rfl;(with_reducible repeat (first|refine bN ?_ _|refine bD ?_|refine bA ?_ _));refine blk_put (cs:=#[.string (⟨#[]⟩ : ByteArray),.int .i64 0,.int .i64 0,.int .i64 0]) ?_ 0 _ rfl;(with_reducible repeat (first|refine bN ?_ _|refine bD ?_|refine bA ?_ _));exact BK316.out⟩,⟨by repeat (first|(with_reducible first|exact HB.out|apply bL|apply pN|apply bE|refine bS ?_ GE301.out|refine bS ?_ GE302.out|refine bS ?_ GE316.out)|exact HB.out)⟩⟩
          subst c68
          have H1 : ((gangerref10_out.f ((rd_T50 l0_9 x4_4).f1) 0 10).bind fun t318=>(if t318 = true then (gangerref10_Check.j4 k4 x4_4 true a0_0 a0_1 a0_2 a0_3 a0_4 a0_5 a0_6 a0_7 a0_8 l0_9 l0_10 l0_11 ((rd_T50 l0_9 x4_4).f0) ((rd_T50 l0_9 x4_4).f1) ((rd_T50 l0_9 x4_4).f2) ((rd_T50 l0_9 x4_4).f3)) else ((gangerref10_out.f ((rd_T50 l0_9 x4_4).f2) 0 1048576).bind fun t319=>(if t319 = true then (gangerref10_Check.j4 k4 x4_4 true a0_0 a0_1 a0_2 a0_3 a0_4 a0_5 a0_6 a0_7 a0_8 l0_9 l0_10 l0_11 ((rd_T50 l0_9 x4_4).f0) ((rd_T50 l0_9 x4_4).f1) ((rd_T50 l0_9 x4_4).f2) ((rd_T50 l0_9 x4_4).f3)) else ((gangerref10_out.f ((rd_T50 l0_9 x4_4).f3) 1 1073741824).bind fun t320=>(gangerref10_Check.j4 k4 x4_4 t320 a0_0 a0_1 a0_2 a0_3 a0_4 a0_5 a0_6 a0_7 a0_8 l0_9 l0_10 l0_11 ((rd_T50 l0_9 x4_4).f0) ((rd_T50 l0_9 x4_4).f1) ((rd_T50 l0_9 x4_4).f2) ((rd_T50 l0_9 x4_4).f3))))))) = some r:=by rw [if_pos rfl] at H;exact H
          clear H
          have H:=H1
          clear H1
          replace H:=oB H
          obtain ⟨t318,A690,H⟩:=H
          try dsimp only at H
          have A69:=Am A690
          clear A690
          by_cases c70 : t318 = true
          ·subst c70
           have H1 : (gangerref10_Check.j4 k4 x4_4 true a0_0 a0_1 a0_2 a0_3 a0_4 a0_5 a0_6 a0_7 a0_8 l0_9 l0_10 l0_11 ((rd_T50 l0_9 x4_4).f0) ((rd_T50 l0_9 x4_4).f1) ((rd_T50 l0_9 x4_4).f2) ((rd_T50 l0_9 x4_4).f3)) = some r:=by rw [if_pos rfl] at H;exact H
           clear H
           have H:=H1
           clear H1
           have H':=Am H
           clear H
           have hnb71:=NB316_301.out
           have hnc71:=NB301_316.out
           have hnb72:=NB316_302.out
           have hnc72:=NB302_316.out
           obtain ⟨X73_0,X73_1,X73_2,X73_3,Y73_0,Y73_1,Y73_2,Y73_3⟩:=kc4 (w:=w63) (g:=gb316) BK316.out
           go_wp2_with (first|(go_at_call 20;(with_reducible refine (gangerref09_Name.calls k4 ((rd_T50 l0_9 x4_4).f0) true _ A67.out).mono ?_);rintro e w' ⟨rfl,⟨nd,rfl⟩⟩;(try first|exact ⟨rfl,_,wD _ _ _⟩|exact ⟨rfl,_,wE _ _ _ _⟩))|(go_at_call 33;(with_reducible refine (gangerref10_out.calls ((rd_T50 l0_9 x4_4).f1) 0 10 true _ A69.out).mono ?_);rintro e w' ⟨rfl,⟨nd,rfl⟩⟩;(try first|exact ⟨rfl,_,wD _ _ _⟩|exact ⟨rfl,_,wE _ _ _ _⟩)))
           repeat (go_quiet (first|(go_at_call 20;(with_reducible refine (gangerref09_Name.calls k4 ((rd_T50 l0_9 x4_4).f0) true _ A67.out).mono ?_);rintro e w' ⟨rfl,⟨nd,rfl⟩⟩;(try first|exact ⟨rfl,_,wD _ _ _⟩|exact ⟨rfl,_,wE _ _ _ _⟩))|(go_at_call 33;(with_reducible refine (gangerref10_out.calls ((rd_T50 l0_9 x4_4).f1) 0 10 true _ A69.out).mono ?_);rintro e w' ⟨rfl,⟨nd,rfl⟩⟩;(try first|exact ⟨rfl,_,wD _ _ _⟩|exact ⟨rfl,_,wE _ _ _ _⟩)));try go_wp2_with (first|(go_at_call 20;(with_reducible refine (gangerref09_Name.calls k4 ((rd_T50 l0_9 x4_4).f0) true _ A67.out).mono ?_);rintro e w' ⟨rfl,⟨nd,rfl⟩⟩;(try first|exact ⟨rfl,_,wD _ _ _⟩|exact ⟨rfl,_,wE _ _ _ _⟩))|(go_at_call 33;(with_reducible refine (gangerref10_out.calls ((rd_T50 l0_9 x4_4).f1) 0 10 true _ A69.out).mono ?_);rintro e w' ⟨rfl,⟨nd,rfl⟩⟩;(try first|exact ⟨rfl,_,wD _ _ _⟩|exact ⟨rfl,_,wE _ _ _ _⟩))))
           go_meet
           case rel=>exact ⟨_,(true),(by first|rfl|(simp;done)|(simp [*];done)),H',⟨by have:=HJ1.out;have:=HJ27.out;have:=HJ44.out;have:=HK4.out;first|omega|exact Nat.le_refl _⟩,⟨by (with_reducible repeat (first|refine bN ?_ _|refine bD ?_|refine bA ?_ _));refine blk_far ?_ NB301_316.out _;(with_reducible repeat (first|refine bN ?_ _|refine bD ?_|refine bA ?_ _));refine blk_far ?_ NB301_316.out _;(with_reducible repeat (first|refine bN ?_ _|refine bD ?_|refine bA ?_ _));refine blk_far ?_ NB301_316.out _;(with_reducible repeat (first|refine bN ?_ _|refine bD ?_|refine bA ?_ _));refine blk_far ?_ NB301_316.out _;(with_reducible repeat (first|refine bN ?_ _|refine bD ?_|refine bA ?_ _));exact BK301.out⟩,⟨by (with_reducible repeat (first|refine bN ?_ _|refine bD ?_|refine bA ?_ _));refine blk_far ?_ NB302_316.out _;(with_reducible repeat (first|refine bN ?_ _|refine bD ?_|refine bA ?_ _));refine blk_far ?_ NB302_316.out _;(with_reducible repeat (first|refine bN ?_ _|refine bD ?_|refine bA ?_ _));refine blk_far ?_ NB302_316.out _;(with_reducible repeat (first|refine bN ?_ _|refine bD ?_|refine bA ?_ _));refine blk_far ?_ NB302_316.out _;(with_reducible repeat (first|refine bN ?_ _|refine bD ?_|refine bA ?_ _));exact BK302.out⟩,⟨by (with_reducible repeat (first|refine bN ?_ _|refine bD ?_|refine bA ?_ _));refine blk_put (cs:=#[.string ((rd_T50 l0_9 x4_4).f0),.int .i64 ((rd_T50 l0_9 x4_4).f1),.int .i64 ((rd_T50 l0_9 x4_4).f2),.int .i64 0]) ?_ 3 _ rfl;(with_reducible repeat (first|refine bN ?_ _|refine bD ?_|refine bA ?_ _));refine blk_put (cs:=#[.string ((rd_T50 l0_9 x4_4).f0),.int .i64 ((rd_T50 l0_9 x4_4).f1),.int .i64 0,.int .i64 0]) ?_ 2 _ rfl;(with_reducible repeat (first|refine bN ?_ _|refine bD ?_|refine bA ?_ _));refine blk_put (cs:=#[.string ((rd_T50 l0_9 x4_4).f0),.int .i64 0,.int .i64 0,.int .i64 0]) ?_ 1 _ rfl;(with_reducible repeat (first|refine bN ?_ _|refine bD ?_|refine bA ?_ _));refine blk_put (cs:=#[.string (⟨#[]⟩ : ByteArray),.int .i64 0,.int .i64 0,.int .i64 0]) ?_ 0 _ rfl;(with_reducible repeat (first|refine bN ?_ _|refine bD ?_|refine bA ?_ _));exact BK316.out⟩,⟨by repeat (first|(with_reducible first|exact HB.out|apply bL|apply pN|apply bE|refine bS ?_ GE301.out|refine bS ?_ GE302.out|refine bS ?_ GE316.out)|exact HB.out)⟩⟩
          replace c70:=Bool.eq_false_iff.mpr c70
          subst c70
          have H1 : ((gangerref10_out.f ((rd_T50 l0_9 x4_4).f2) 0 1048576).bind fun t319=>(if t319 = true then (gangerref10_Check.j4 k4 x4_4 true a0_0 a0_1 a0_2 a0_3 a0_4 a0_5 a0_6 a0_7 a0_8 l0_9 l0_10 l0_11 ((rd_T50 l0_9 x4_4).f0) ((rd_T50 l0_9 x4_4).f1) ((rd_T50 l0_9 x4_4).f2) ((rd_T50 l0_9 x4_4).f3)) else ((gangerref10_out.f ((rd_T50 l0_9 x4_4).f3) 1 1073741824).bind fun t320=>(gangerref10_Check.j4 k4 x4_4 t320 a0_0 a0_1 a0_2 a0_3 a0_4 a0_5 a0_6 a0_7 a0_8 l0_9 l0_10 l0_11 ((rd_T50 l0_9 x4_4).f0) ((rd_T50 l0_9 x4_4).f1) ((rd_T50 l0_9 x4_4).f2) ((rd_T50 l0_9 x4_4).f3))))) = some r:=by rw [if_neg (show ¬ (false = true) by decide)] at H;exact H
          clear H
          have H:=H1
          clear H1
          replace H:=oB H
          obtain ⟨t319,A740,H⟩:=H
          try dsimp only at H
          have A74:=Am A740
          clear A740
          by_cases c75 : t319 = true
          ·subst c75
           have H1 : (gangerref10_Check.j4 k4 x4_4 true a0_0 a0_1 a0_2 a0_3 a0_4 a0_5 a0_6 a0_7 a0_8 l0_9 l0_10 l0_11 ((rd_T50 l0_9 x4_4).f0) ((rd_T50 l0_9 x4_4).f1) ((rd_T50 l0_9 x4_4).f2) ((rd_T50 l0_9 x4_4).f3)) = some r:=by rw [if_pos rfl] at H;exact H
           clear H
           have H:=H1
           clear H1
           have H':=Am H
           clear H
           have hnb76:=NB316_301.out
           have hnc76:=NB301_316.out
           have hnb77:=NB316_302.out
           have hnc77:=NB302_316.out
           obtain ⟨X78_0,X78_1,X78_2,X78_3,Y78_0,Y78_1,Y78_2,Y78_3⟩:=kc4 (w:=w63) (g:=gb316) BK316.out
           go_wp2_with (first|(go_at_call 20;(with_reducible refine (gangerref09_Name.calls k4 ((rd_T50 l0_9 x4_4).f0) true _ A67.out).mono ?_);rintro e w' ⟨rfl,⟨nd,rfl⟩⟩;(try first|exact ⟨rfl,_,wD _ _ _⟩|exact ⟨rfl,_,wE _ _ _ _⟩))|(go_at_call 33;(with_reducible refine (gangerref10_out.calls ((rd_T50 l0_9 x4_4).f1) 0 10 false _ A69.out).mono ?_);rintro e w' ⟨rfl,⟨nd,rfl⟩⟩;(try first|exact ⟨rfl,_,wD _ _ _⟩|exact ⟨rfl,_,wE _ _ _ _⟩))|(go_at_call 33;(with_reducible refine (gangerref10_out.calls ((rd_T50 l0_9 x4_4).f2) 0 1048576 true _ A74.out).mono ?_);rintro e w' ⟨rfl,⟨nd,rfl⟩⟩;(try first|exact ⟨rfl,_,wD _ _ _⟩|exact ⟨rfl,_,wE _ _ _ _⟩)))
           repeat (go_quiet (first|(go_at_call 20;(with_reducible refine (gangerref09_Name.calls k4 ((rd_T50 l0_9 x4_4).f0) true _ A67.out).mono ?_);rintro e w' ⟨rfl,⟨nd,rfl⟩⟩;(try first|exact ⟨rfl,_,wD _ _ _⟩|exact ⟨rfl,_,wE _ _ _ _⟩))|(go_at_call 33;(with_reducible refine (gangerref10_out.calls ((rd_T50 l0_9 x4_4).f1) 0 10 false _ A69.out).mono ?_);rintro e w' ⟨rfl,⟨nd,rfl⟩⟩;(try first|exact ⟨rfl,_,wD _ _ _⟩|exact ⟨rfl,_,wE _ _ _ _⟩))|(go_at_call 33;(with_reducible refine (gangerref10_out.calls ((rd_T50 l0_9 x4_4).f2) 0 1048576 true _ A74.out).mono ?_);rintro e w' ⟨rfl,⟨nd,rfl⟩⟩;(try first|exact ⟨rfl,_,wD _ _ _⟩|exact ⟨rfl,_,wE _ _ _ _⟩)));try go_wp2_with (first|(go_at_call 20;(with_reducible refine (gangerref09_Name.calls k4 ((rd_T50 l0_9 x4_4).f0) true _ A67.out).mono ?_);rintro e w' ⟨rfl,⟨nd,rfl⟩⟩;(try first|exact ⟨rfl,_,wD _ _ _⟩|exact ⟨rfl,_,wE _ _ _ _⟩))|(go_at_call 33;(with_reducible refine (gangerref10_out.calls ((rd_T50 l0_9 x4_4).f1) 0 10 false _ A69.out).mono ?_);rintro e w' ⟨rfl,⟨nd,rfl⟩⟩;(try first|exact ⟨rfl,_,wD _ _ _⟩|exact ⟨rfl,_,wE _ _ _ _⟩))|(go_at_call 33;(with_reducible refine (gangerref10_out.calls ((rd_T50 l0_9 x4_4).f2) 0 1048576 true _ A74.out).mono ?_);rintro e w' ⟨rfl,⟨nd,rfl⟩⟩;(try first|exact ⟨rfl,_,wD _ _ _⟩|exact ⟨rfl,_,wE _ _ _ _⟩))))
           go_meet
           case rel=>exact ⟨_,(true),(by first|rfl|(simp;done)|(simp [*];done)),H',⟨by have:=HJ1.out;have:=HJ27.out;have:=HJ44.out;have:=HK4.out;first|omega|exact Nat.le_refl _⟩,⟨by (with_reducible repeat (first|refine bN ?_ _|refine bD ?_|refine bA ?_ _));refine blk_far ?_ NB301_316.out _;(with_reducible repeat (first|refine bN ?_ _|refine bD ?_|refine bA ?_ _));refine blk_far ?_ NB301_316.out _;(with_reducible repeat (first|refine bN ?_ _|refine bD ?_|refine bA ?_ _));refine blk_far ?_ NB301_316.out _;(with_reducible repeat (first|refine bN ?_ _|refine bD ?_|refine bA ?_ _));refine blk_far ?_ NB301_316.out _;(with_reducible repeat (first|refine bN ?_ _|refine bD ?_|refine bA ?_ _));exact BK301.out⟩,⟨by (with_reducible repeat (first|refine bN ?_ _|refine bD ?_|refine bA ?_ _));refine blk_far ?_ NB302_316.out _;(with_reducible repeat (first|refine bN ?_ _|refine bD ?_|refine bA ?_ _));refine blk_far ?_ NB302_316.out _;(with_reducible repeat (first|refine bN ?_ _|refine bD ?_|refine bA ?_ _));refine blk_far ?_ NB302_316.out _;(with_reducible repeat (first|refine bN ?_ _|refine bD ?_|refine bA ?_ _));refine blk_far ?_ NB302_316.out _;(with_reducible repeat (first|refine bN ?_ _|refine bD ?_|refine bA ?_ _));exact BK302.out⟩,⟨by (with_reducible repeat (first|refine bN ?_ _|refine bD ?_|refine bA ?_ _));refine blk_put (cs:=#[.string ((rd_T50 l0_9 x4_4).f0),.int .i64 ((rd_T50 l0_9 x4_4).f1),.int .i64 ((rd_T50 l0_9 x4_4).f2),.int .i64 0]) ?_ 3 _ rfl;(with_reducible repeat (first|refine bN ?_ _|refine bD ?_|refine bA ?_ _));refine blk_put (cs:=#[.string ((rd_T50 l0_9 x4_4).f0),.int .i64 ((rd_T50 l0_9 x4_4).f1),.int .i64 0,.int .i64 0]) ?_ 2 _ rfl;(with_reducible repeat (first|refine bN ?_ _|refine bD ?_|refine bA ?_ _));refine blk_put (cs:=#[.string ((rd_T50 l0_9 x4_4).f0),.int .i64 0,.int .i64 0,.int .i64 0]) ?_ 1 _ rfl;(with_reducible repeat (first|refine bN ?_ _|refine bD ?_|refine bA ?_ _));refine blk_put (cs:=#[.string (⟨#[]⟩ : ByteArray),.int .i64 0,.int .i64 0,.int .i64 0]) ?_ 0 _ rfl;(with_reducible repeat (first|refine bN ?_ _|refine bD ?_|refine bA ?_ _));exact BK316.out⟩,⟨by repeat (first|(with_reducible first|exact HB.out|apply bL|apply pN|apply bE|refine bS ?_ GE301.out|refine bS ?_ GE302.out|refine bS ?_ GE316.out)|exact HB.out)⟩⟩
          replace c75:=Bool.eq_false_iff.mpr c75
          subst c75
          have H1 : ((gangerref10_out.f ((rd_T50 l0_9 x4_4).f3) 1 1073741824).bind fun t320=>(gangerref10_Check.j4 k4 x4_4 t320 a0_0 a0_1 a0_2 a0_3 a0_4 a0_5 a0_6 a0_7 a0_8 l0_9 l0_10 l0_11 ((rd_T50 l0_9 x4_4).f0) ((rd_T50 l0_9 x4_4).f1) ((rd_T50 l0_9 x4_4).f2) ((rd_T50 l0_9 x4_4).f3))) = some r:=by rw [if_neg (show ¬ (false = true) by decide)] at H;exact H
          clear H
          have H:=H1
          clear H1
          replace H:=oB H
          obtain ⟨t320,A790,H⟩:=H
          try dsimp only at H
          have A79:=Am A790
          clear A790
          have H':=Am H
          clear H
          have hnb80:=NB316_301.out
          have hnc80:=NB301_316.out
          have hnb81:=NB316_302.out
          have hnc81:=NB302_316.out
          obtain ⟨X82_0,X82_1,X82_2,X82_3,Y82_0,Y82_1,Y82_2,Y82_3⟩:=kc4 (w:=w63) (g:=gb316) BK316.out
          go_wp2_with (first|(go_at_call 20;(with_reducible refine (gangerref09_Name.calls k4 ((rd_T50 l0_9 x4_4).f0) true _ A67.out).mono ?_);rintro e w' ⟨rfl,⟨nd,rfl⟩⟩;(try first|exact ⟨rfl,_,wD _ _ _⟩|exact ⟨rfl,_,wE _ _ _ _⟩))|(go_at_call 33;(with_reducible refine (gangerref10_out.calls ((rd_T50 l0_9 x4_4).f1) 0 10 false _ A69.out).mono ?_);rintro e w' ⟨rfl,⟨nd,rfl⟩⟩;(try first|exact ⟨rfl,_,wD _ _ _⟩|exact ⟨rfl,_,wE _ _ _ _⟩))|(go_at_call 33;(with_reducible refine (gangerref10_out.calls ((rd_T50 l0_9 x4_4).f2) 0 1048576 false _ A74.out).mono ?_);rintro e w' ⟨rfl,⟨nd,rfl⟩⟩;(try first|exact ⟨rfl,_,wD _ _ _⟩|exact ⟨rfl,_,wE _ _ _ _⟩))|(go_at_call 33;(with_reducible refine (gangerref10_out.calls ((rd_T50 l0_9 x4_4).f3) 1 1073741824 t320 _ A79.out).mono ?_);rintro e w' ⟨rfl,⟨nd,rfl⟩⟩;(try first|exact ⟨rfl,_,wD _ _ _⟩|exact ⟨rfl,_,wE _ _ _ _⟩)))
          repeat (go_quiet (first|(go_at_call 20;(with_reducible refine (gangerref09_Name.calls k4 ((rd_T50 l0_9 x4_4).f0) true _ A67.out).mono ?_);rintro e w' ⟨rfl,⟨nd,rfl⟩⟩;(try first|exact ⟨rfl,_,wD _ _ _⟩|exact ⟨rfl,_,wE _ _ _ _⟩))|(go_at_call 33;(with_reducible refine (gangerref10_out.calls ((rd_T50 l0_9 x4_4).f1) 0 10 false _ A69.out).mono ?_);rintro e w' ⟨rfl,⟨nd,rfl⟩⟩;(try first|exact ⟨rfl,_,wD _ _ _⟩|exact ⟨rfl,_,wE _ _ _ _⟩))|(go_at_call 33;(with_reducible refine (gangerref10_out.calls ((rd_T50 l0_9 x4_4).f2) 0 1048576 false _ A74.out).mono ?_);rintro e w' ⟨rfl,⟨nd,rfl⟩⟩;(try first|exact ⟨rfl,_,wD _ _ _⟩|exact ⟨rfl,_,wE _ _ _ _⟩))|(go_at_call 33;(with_reducible refine (gangerref10_out.calls ((rd_T50 l0_9 x4_4).f3) 1 1073741824 t320 _ A79.out).mono ?_);rintro e w' ⟨rfl,⟨nd,rfl⟩⟩;(try first|exact ⟨rfl,_,wD _ _ _⟩|exact ⟨rfl,_,wE _ _ _ _⟩)));try go_wp2_with (first|(go_at_call 20;(with_reducible refine (gangerref09_Name.calls k4 ((rd_T50 l0_9 x4_4).f0) true _ A67.out).mono ?_);rintro e w' ⟨rfl,⟨nd,rfl⟩⟩;(try first|exact ⟨rfl,_,wD _ _ _⟩|exact ⟨rfl,_,wE _ _ _ _⟩))|(go_at_call 33;(with_reducible refine (gangerref10_out.calls ((rd_T50 l0_9 x4_4).f1) 0 10 false _ A69.out).mono ?_);rintro e w' ⟨rfl,⟨nd,rfl⟩⟩;(try first|exact ⟨rfl,_,wD _ _ _⟩|exact ⟨rfl,_,wE _ _ _ _⟩))|(go_at_call 33;(with_reducible refine (gangerref10_out.calls ((rd_T50 l0_9 x4_4).f2) 0 1048576 false _ A74.out).mono ?_);rintro e w' ⟨rfl,⟨nd,rfl⟩⟩;(try first|exact ⟨rfl,_,wD _ _ _⟩|exact ⟨rfl,_,wE _ _ _ _⟩))|(go_at_call 33;(with_reducible refine (gangerref10_out.calls ((rd_T50 l0_9 x4_4).f3) 1 1073741824 t320 _ A79.out).mono ?_);rintro e w' ⟨rfl,⟨nd,rfl⟩⟩;(try first|exact ⟨rfl,_,wD _ _ _⟩|exact ⟨rfl,_,wE _ _ _ _⟩))))
          go_meet
          case rel=>exact ⟨_,(t320),(by first|rfl|(simp;done)|(simp [*];done)),H',⟨by have:=HJ1.out;have:=HJ27.out;have:=HJ44.out;have:=HK4.out;first|omega|exact Nat.le_refl _⟩,⟨by (with_reducible repeat (first|refine bN ?_ _|refine bD ?_|refine bA ?_ _));refine blk_far ?_ NB301_316.out _;(with_reducible repeat (first|refine bN ?_ _|refine bD ?_|refine bA ?_ _));refine blk_far ?_ NB301_316.out _;(with_reducible repeat (first|refine bN ?_ _|refine bD ?_|refine bA ?_ _));refine blk_far ?_ NB301_316.out _;(with_reducible repeat (first|refine bN ?_ _|refine bD ?_|refine bA ?_ _));refine blk_far ?_ NB301_316.out _;(with_reducible repeat (first|refine bN ?_ _|refine bD ?_|refine bA ?_ _));exact BK301.out⟩,⟨by (with_reducible repeat (first|refine bN ?_ _|refine bD ?_|refine bA ?_ _));refine blk_far ?_ NB302_316.out _;(with_reducible repeat (first|refine bN ?_ _|refine bD ?_|refine bA ?_ _));refine blk_far ?_ NB302_316.out _;(with_reducible repeat (first|refine bN ?_ _|refine bD ?_|refine bA ?_ _));refine blk_far ?_ NB302_316.out _;(with_reducible repeat (first|refine bN ?_ _|refine bD ?_|refine bA ?_ _));refine blk_far ?_ NB302_316.out _;(with_reducible repeat (first|refine bN ?_ _|refine bD ?_|refine bA ?_ _));exact BK302.out⟩,⟨by (with_reducible repeat (first|refine bN ?_ _|refine bD ?_|refine bA ?_ _));refine blk_put (cs:=#[.string ((rd_T50 l0_9 x4_4).f0),.int .i64 ((rd_T50 l0_9 x4_4).f1),.int .i64 ((rd_T50 l0_9 x4_4).f2),.int .i64 0]) ?_ 3 _ rfl;(with_reducible repeat (first|refine bN ?_ _|refine bD ?_|refine bA ?_ _));refine blk_put (cs:=#[.string ((rd_T50 l0_9 x4_4).f0),.int .i64 ((rd_T50 l0_9 x4_4).f1),.int .i64 0,.int .i64 0]) ?_ 2 _ rfl;(with_reducible repeat (first|refine bN ?_ _|refine bD ?_|refine bA ?_ _));refine blk_put (cs:=#[.string ((rd_T50 l0_9 x4_4).f0),.int .i64 0,.int .i64 0,.int .i64 0]) ?_ 1 _ rfl;(with_reducible repeat (first|refine bN ?_ _|refine bD ?_|refine bA ?_ _));refine blk_put (cs:=#[.string (⟨#[]⟩ : ByteArray),.int .i64 0,.int .i64 0,.int .i64 0]) ?_ 0 _ rfl;(with_reducible repeat (first|refine bN ?_ _|refine bD ?_|refine bA ?_ _));exact BK316.out⟩,⟨by repeat (first|(with_reducible first|exact HB.out|apply bL|apply pN|apply bE|refine bS ?_ GE301.out|refine bS ?_ GE302.out|refine bS ?_ GE316.out)|exact HB.out)⟩⟩
         case rest =>
          clear HC60
          obtain ⟨kq,x99_59,rfl,HA,HJ59,BK301,BK302,BK316,HB⟩:=hcut
          cases kq with
          | zero=>exact absurd HA.out (by simp [gangerref10_Check.j4])
          | succ kj59 =>
           have H:=HA.out
           clear HA
           simp only [gangerref10_Check.j4] at H
           by_cases c86 : x99_59 = true
           ·subst c86
            have H1 : (some 100) = some r:=by rw [if_pos rfl] at H;exact H
            clear H
            have H:=H1
            clear H1
            obtain rfl:=Option.some.inj H
            go_wp2
            repeat (go_quiet (fail);try go_wp2)
            go_ret
            exact ⟨by first|rfl|(simp [errW_none,errW_some] <;> rfl)|(simp [*,errW_none,errW_some] <;> rfl),by repeat (first|(with_reducible first|exact HB.out|apply bL|apply pN|apply bE|refine bS ?_ GE301.out|refine bS ?_ GE302.out|refine bS ?_ GE316.out)|exact HB.out)⟩
           replace c86:=Bool.eq_false_iff.mpr c86
           subst c86
           have H1 : (gangerref10_Check.l1 kj59 x4_4 0 a0_0 a0_1 a0_2 a0_3 a0_4 a0_5 a0_6 a0_7 a0_8 l0_9 l0_10 l0_11 ((rd_T50 l0_9 x4_4).f0) ((rd_T50 l0_9 x4_4).f1) ((rd_T50 l0_9 x4_4).f2) ((rd_T50 l0_9 x4_4).f3)) = some r:=by rw [if_neg (show ¬ (false = true) by decide)] at H;exact H
           clear H
           have H:=H1
           clear H1
           have H':=Am H
           clear H
           go_wp2
           repeat (go_quiet (fail);try go_wp2)
           go_loopg [6] kj59 (fun kq v6 w'=>∃ (x6_6 : Int),v6 = .int .i64 x6_6∧Aside0 (gangerref10_Check.l1 kq x4_4 x6_6 a0_0 a0_1 a0_2 a0_3 a0_4 a0_5 a0_6 a0_7 a0_8 l0_9 l0_10 l0_11 ((rd_T50 l0_9 x4_4).f0) ((rd_T50 l0_9 x4_4).f1) ((rd_T50 l0_9 x4_4).f2) ((rd_T50 l0_9 x4_4).f3) = some r)∧Aside0 (kq≤kj59)∧Aside0 (w'.heap[gb301]? = some (.cells #[.int .i64 a0_0,.int .i64 a0_1,.int .i64 a0_2,.int .i64 a0_3,.int .i64 a0_4,.int .i64 a0_5,.int .i64 a0_6,.int .i64 a0_7,.int .i64 a0_8,(.slice (some ad315) l0_9.length c0_9),(.slice A0_10 l0_10.length c0_10),(.slice A0_11 l0_11.length c0_11)] 28 (0,0)))∧Aside0 (w'.heap[gb302]? = some (.cells #[.int .i64 a0_4,.int .i64 a0_5,.int .i64 a0_6,.int .i64 a0_7,.int .i64 a0_8] 23 (0,0)))∧Aside0 (w'.heap[gb316]? = some (.cells #[.string ((rd_T50 l0_9 x4_4).f0),.int .i64 ((rd_T50 l0_9 x4_4).f1),.int .i64 ((rd_T50 l0_9 x4_4).f2),.int .i64 ((rd_T50 l0_9 x4_4).f3)] 50 (0,0)))∧Aside0 (Below w.heap.size w w'))
           case atStart=>exact ⟨(0),(by first|rfl|(simp;done)|(simp [*];done)),H',⟨Nat.le_refl _⟩,⟨by (with_reducible repeat (first|refine bN ?_ _|refine bD ?_|refine bA ?_ _));exact BK301.out⟩,⟨by (with_reducible repeat (first|refine bN ?_ _|refine bD ?_|refine bA ?_ _));exact BK302.out⟩,⟨by (with_reducible repeat (first|refine bN ?_ _|refine bD ?_|refine bA ?_ _));exact BK316.out⟩,⟨by repeat (first|(with_reducible first|exact HB.out|apply bL|apply pN|apply bE|refine bS ?_ GE301.out|refine bS ?_ GE302.out|refine bS ?_ GE316.out)|exact HB.out)⟩⟩
           case round =>
            clear H'
            obtain ⟨x6_6,rfl,HA,HK6,BK301,BK302,BK316,HB⟩:=hrel
            cases gk with
            | zero=>exact absurd HA.out (by simp [gangerref10_Check.l1])
            | succ k6 =>
             have H:=HA.out
             clear HA
             simp only [gangerref10_Check.l1] at H
             by_cases c87 : x6_6 < x4_4
             rotate_left
             ·rw [if_neg c87] at H
              have c87b0 : decide (x6_6 < x4_4) = false:=decide_eq_false c87
              clear c87
              have H':=Am H
              clear H
              go_wp2
              repeat (go_quiet (fail);try go_wp2)
              go_roundg k6
              case measure=>have:=HJ1.out;have:=HJ27.out;have:=HJ44.out;have:=HK4.out;have:=HJ59.out;have:=HK6.out;omega
              case rel=>exact ⟨(wrap64 (x4_4 + 1)),(by first|rfl|(simp;done)|(simp [*];done)),H',⟨by have:=HJ1.out;have:=HJ27.out;have:=HJ44.out;have:=HK4.out;have:=HJ59.out;have:=HK6.out;omega⟩,⟨by (with_reducible repeat (first|refine bN ?_ _|refine bD ?_|refine bA ?_ _));exact BK301.out⟩,⟨by (with_reducible repeat (first|refine bN ?_ _|refine bD ?_|refine bA ?_ _));exact BK302.out⟩,⟨by repeat (first|(with_reducible first|exact HB.out|apply bL|apply pN|apply bE|refine bS ?_ GE301.out|refine bS ?_ GE302.out|refine bS ?_ GE316.out)|exact HB.out)⟩⟩
             rw [if_pos c87] at H
             have c87b0 : decide (x6_6 < x4_4) = true:=decide_eq_true c87
             clear c87
             by_cases c88 : 0≤x6_6
             rotate_left
             ·rw [if_neg c88] at H
              exact absurd H (by simp)
             rw [if_pos c88] at H
             have c88b0 : decide (0≤x6_6) = true:=decide_eq_true c88
             clear c88
             by_cases c89 : x6_6 < (l0_9.length : Int)
             rotate_left
             ·rw [if_neg c89] at H
              exact absurd H (by simp)
             rw [if_pos c89] at H
             have c89b0 : decide (x6_6 < (l0_9.length : Int)) = true:=decide_eq_true c89
             clear c89
             by_cases c90 : ((rd_T50 l0_9 x6_6).f0).toList = ((rd_T50 l0_9 x4_4).f0).toList
             ·rw [if_pos c90] at H
              have c90b0 : (((rd_T50 l0_9 x6_6).f0).toList == ((rd_T50 l0_9 x4_4).f0).toList) = true:=beq_iff_eq.mpr c90
              have c90b1 : (((rd_T50 l0_9 x6_6).f0).toList != ((rd_T50 l0_9 x4_4).f0).toList) = false:=bne_eq_false_iff_eq.mpr c90
              clear c90
              obtain rfl:=Option.some.inj H
              have hnb91:=NB301_302.out
              have hnc91:=NB302_301.out
              have hnb92:=NB301_316.out
              have hnc92:=NB316_301.out
              obtain ⟨X93_0,X93_1,X93_2,X93_3,X93_4,X93_5,X93_6,X93_7,X93_8,X93_9,X93_10,X93_11,Y93_0,Y93_1,Y93_2,Y93_3,Y93_4,Y93_5,Y93_6,Y93_7,Y93_8,Y93_9,Y93_10,Y93_11⟩:=kc12 (w:=wr) (g:=gb301) BK301.out
              have p321 : 0≤(x6_6 : Int):=of_decide_eq_true (by first|(with_reducible assumption)|assumption)
              have q321 : x6_6 < (l0_9.length : Int):=of_decide_eq_true (by first|(with_reducible assumption)|assumption)
              obtain ⟨ad321,e321,hx321_0,hx321_1,hx321_2,hx321_3⟩:=at_T50 HR0_9.out x6_6 p321 q321
              obtain rfl : ad315 = ad321:=(by injection e321)
              replace hx321_0:=(HB.out.cell (wB w _ hx321_0)).trans hx321_0
              replace hx321_1:=(HB.out.cell (wB w _ hx321_1)).trans hx321_1
              replace hx321_2:=(HB.out.cell (wB w _ hx321_2)).trans hx321_2
              replace hx321_3:=(HB.out.cell (wB w _ hx321_3)).trans hx321_3
              replace p321:=eq_true p321
              replace q321:=eq_true q321
              have hnb94:=NB316_302.out
              have hnc94:=NB302_316.out
              obtain ⟨X95_0,X95_1,X95_2,X95_3,Y95_0,Y95_1,Y95_2,Y95_3⟩:=kc4 (w:=wr) (g:=gb316) BK316.out
              go_wp2
              repeat (go_quiet (fail);try go_wp2)
              go_ret
              exact ⟨by first|rfl|(simp [errW_none,errW_some] <;> rfl)|(simp [*,errW_none,errW_some] <;> rfl),by repeat (first|(with_reducible first|exact HB.out|apply bL|apply pN|apply bE|refine bS ?_ GE301.out|refine bS ?_ GE302.out|refine bS ?_ GE316.out)|exact HB.out)⟩
             rw [if_neg c90] at H
             have c90b0 : (((rd_T50 l0_9 x6_6).f0).toList == ((rd_T50 l0_9 x4_4).f0).toList) = false:=beq_eq_false_iff_ne.mpr c90
             have c90b1 : (((rd_T50 l0_9 x6_6).f0).toList != ((rd_T50 l0_9 x4_4).f0).toList) = true:=bne_iff_ne.mpr c90
             have H':=Am H
             clear H
             have hnb96:=NB301_302.out
             have hnc96:=NB302_301.out
             have hnb97:=NB301_316.out
             have hnc97:=NB316_301.out
             obtain ⟨X98_0,X98_1,X98_2,X98_3,X98_4,X98_5,X98_6,X98_7,X98_8,X98_9,X98_10,X98_11,Y98_0,Y98_1,Y98_2,Y98_3,Y98_4,Y98_5,Y98_6,Y98_7,Y98_8,Y98_9,Y98_10,Y98_11⟩:=kc12 (w:=wr) (g:=gb301) BK301.out
             have p321 : 0≤(x6_6 : Int):=of_decide_eq_true (by first|(with_reducible assumption)|assumption)
             have q321 : x6_6 < (l0_9.length : Int):=of_decide_eq_true (by first|(with_reducible assumption)|assumption)
             obtain ⟨ad321,e321,hx321_0,hx321_1,hx321_2,hx321_3⟩:=at_T50 HR0_9.out x6_6 p321 q321
             obtain rfl : ad315 = ad321:=(by injection e321)
             replace hx321_0:=(HB.out.cell (wB w _ hx321_0)).trans hx321_0
             replace hx321_1:=(HB.out.cell (wB w _ hx321_1)).trans hx321_1
             replace hx321_2:=(HB.out.cell (wB w _ hx321_2)).trans hx321_2
             replace hx321_3:=(HB.out.cell (wB w _ hx321_3)).trans hx321_3
             replace p321:=eq_true p321
             replace q321:=eq_true q321
             have hnb99:=NB316_302.out
             have hnc99:=NB302_316.out
             obtain ⟨X100_0,X100_1,X100_2,X100_3,Y100_0,Y100_1,Y100_2,Y100_3⟩:=kc4 (w:=wr) (g:=gb316) BK316.out
             go_wp2
             repeat (go_quiet (fail);try go_wp2)
             go_roundg k6
             case measure=>have:=HJ1.out;have:=HJ27.out;have:=HJ44.out;have:=HK4.out;have:=HJ59.out;have:=HK6.out;omega
             case rel=>exact ⟨(wrap64 (x6_6 + 1)),(by first|rfl|(simp;done)|(simp [*];done)),H',⟨by have:=HJ1.out;have:=HJ27.out;have:=HJ44.out;have:=HK4.out;have:=HJ59.out;have:=HK6.out;omega⟩,⟨by (with_reducible repeat (first|refine bN ?_ _|refine bD ?_|refine bA ?_ _));exact BK301.out⟩,⟨by (with_reducible repeat (first|refine bN ?_ _|refine bD ?_|refine bA ?_ _));exact BK302.out⟩,⟨by (with_reducible repeat (first|refine bN ?_ _|refine bD ?_|refine bA ?_ _));exact BK316.out⟩,⟨by repeat (first|(with_reducible first|exact HB.out|apply bL|apply pN|apply bE|refine bS ?_ GE301.out|refine bS ?_ GE302.out|refine bS ?_ GE316.out)|exact HB.out)⟩⟩
end Go.Proofs.YtgidipomfbikiaaDoor.P
