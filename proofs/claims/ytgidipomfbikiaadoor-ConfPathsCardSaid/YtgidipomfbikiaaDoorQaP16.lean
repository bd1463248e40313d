/- cut to what one law reaches -/
import Derived.Test.YtgidipomfbikiaaDoorQaShort
import Derived.Test.YtgidipomfbikiaaDoorQaP0
import Derived.Test.YtgidipomfbikiaaDoorQaP14
import Derived.Test.YtgidipomfbikiaaDoorQaP15
namespace Go.Proofs.YtgidipomfbikiaaDoor.P
open Go.RowKit Go.Proofs.YtgidipomfbikiaaDoorW.PrintWords Go.Proofs.YtgidipomfbikiaaDoorW.PrintLast Go.Proofs.YtgidipomfbikiaaDoorW.PrintMore
attribute [local go_sem] max2_int min2_int max_two min_two max_three min_three max_four min_four   -- for this text's walks alone
set_option linter.unusedVariables false
set_option linter.unusedSimpArgs false
attribute [local go_sem] isSome_setCell
mutual
def gangerref10_Check.j0 : Nat→Bool→Int→Int→Int→Int→Int→Int→Int→Int→Int→List (S50)→List (S52)→List (S48)→Option (Int)
 | 0,_,_,_,_,_,_,_,_,_,_,_,_,_=>none
 | k + 1,x34,u_0,u_1,u_2,u_3,u_4,u_5,u_6,u_7,u_8,u_9,u_10,u_11=>if x34 = true then (some 100) else ((gangerref10_out.f u_0 1 4).bind fun t308=>(if t308 = true then (gangerref10_Check.j1 k true u_0 u_1 u_2 u_3 u_4 u_5 u_6 u_7 u_8 u_9 u_10 u_11) else ((gangerref10_out.f u_1 1 4294967296).bind fun t309=>(if t309 = true then (gangerref10_Check.j1 k true u_0 u_1 u_2 u_3 u_4 u_5 u_6 u_7 u_8 u_9 u_10 u_11) else ((gangerref10_out.f u_2 1 1073741824).bind fun t310=>(if t310 = true then (gangerref10_Check.j1 k true u_0 u_1 u_2 u_3 u_4 u_5 u_6 u_7 u_8 u_9 u_10 u_11) else ((gangerref10_out.f u_3 0 100).bind fun t311=>(gangerref10_Check.j1 k t311 u_0 u_1 u_2 u_3 u_4 u_5 u_6 u_7 u_8 u_9 u_10 u_11))))))))
def gangerref10_Check.j1 : Nat→Bool→Int→Int→Int→Int→Int→Int→Int→Int→Int→List (S50)→List (S52)→List (S48)→Option (Int)
 | 0,_,_,_,_,_,_,_,_,_,_,_,_,_=>none
 | k + 1,x52,u_0,u_1,u_2,u_3,u_4,u_5,u_6,u_7,u_8,u_9,u_10,u_11=>if x52 = true then (some 100) else ((gangerref10_out.f (u_9.length : Int) 1 8).bind fun t312=>(if t312 = true then (gangerref10_Check.j2 k true u_0 u_1 u_2 u_3 u_4 u_5 u_6 u_7 u_8 u_9 u_10 u_11) else ((gangerref10_out.f (u_10.length : Int) 1 8).bind fun t313=>(if t313 = true then (gangerref10_Check.j2 k true u_0 u_1 u_2 u_3 u_4 u_5 u_6 u_7 u_8 u_9 u_10 u_11) else ((gangerref10_out.f (u_11.length : Int) 1 50).bind fun t314=>(gangerref10_Check.j2 k t314 u_0 u_1 u_2 u_3 u_4 u_5 u_6 u_7 u_8 u_9 u_10 u_11))))))
def gangerref10_Check.j2 : Nat→Bool→Int→Int→Int→Int→Int→Int→Int→Int→Int→List (S50)→List (S52)→List (S48)→Option (Int)
 | 0,_,_,_,_,_,_,_,_,_,_,_,_,_=>none
 | k + 1,x68,u_0,u_1,u_2,u_3,u_4,u_5,u_6,u_7,u_8,u_9,u_10,u_11=>if x68 = true then (some 100) else (gangerref10_Check.l0 k 0 u_0 u_1 u_2 u_3 u_4 u_5 u_6 u_7 u_8 u_9 u_10 u_11)
def gangerref10_Check.l0 : Nat→Int→Int→Int→Int→Int→Int→Int→Int→Int→Int→List (S50)→List (S52)→List (S48)→Option (Int)
 | 0,_,_,_,_,_,_,_,_,_,_,_,_,_=>none
 | k + 1,x4,u_0,u_1,u_2,u_3,u_4,u_5,u_6,u_7,u_8,u_9,u_10,u_11=>if x4 < (u_9.length : Int) then (if 0≤x4 then ((gangerref09_Name.f k ((rd_T50 u_9 x4).f0)).bind fun t317=>(if t317 = true then ((gangerref10_out.f ((rd_T50 u_9 x4).f1) 0 10).bind fun t318=>(if t318 = true then (gangerref10_Check.j4 k x4 true u_0 u_1 u_2 u_3 u_4 u_5 u_6 u_7 u_8 u_9 u_10 u_11 ((rd_T50 u_9 x4).f0) ((rd_T50 u_9 x4).f1) ((rd_T50 u_9 x4).f2) ((rd_T50 u_9 x4).f3)) else ((gangerref10_out.f ((rd_T50 u_9 x4).f2) 0 1048576).bind fun t319=>(if t319 = true then (gangerref10_Check.j4 k x4 true u_0 u_1 u_2 u_3 u_4 u_5 u_6 u_7 u_8 u_9 u_10 u_11 ((rd_T50 u_9 x4).f0) ((rd_T50 u_9 x4).f1) ((rd_T50 u_9 x4).f2) ((rd_T50 u_9 x4).f3)) else ((gangerref10_out.f ((rd_T50 u_9 x4).f3) 1 1073741824).bind fun t320=>(gangerref10_Check.j4 k x4 t320 u_0 u_1 u_2 u_3 u_4 u_5 u_6 u_7 u_8 u_9 u_10 u_11 ((rd_T50 u_9 x4).f0) ((rd_T50 u_9 x4).f1) ((rd_T50 u_9 x4).f2) ((rd_T50 u_9 x4).f3))))))) else (gangerref10_Check.j4 k x4 true u_0 u_1 u_2 u_3 u_4 u_5 u_6 u_7 u_8 u_9 u_10 u_11 ((rd_T50 u_9 x4).f0) ((rd_T50 u_9 x4).f1) ((rd_T50 u_9 x4).f2) ((rd_T50 u_9 x4).f3)))) else (none)) else (gangerref10_Check.l2 k 0 u_0 u_1 u_2 u_3 u_4 u_5 u_6 u_7 u_8 u_9 u_10 u_11)
def gangerref10_Check.j4 : Nat→Int→Bool→Int→Int→Int→Int→Int→Int→Int→Int→Int→List (S50)→List (S52)→List (S48)→ByteArray→Int→Int→Int→Option (Int)
 | 0,_,_,_,_,_,_,_,_,_,_,_,_,_,_,_,_,_,_=>none
 | k + 1,x4,x99,u_0,u_1,u_2,u_3,u_4,u_5,u_6,u_7,u_8,u_9,u_10,u_11,v_0,v_1,v_2,v_3=>if x99 = true then (some 100) else (gangerref10_Check.l1 k x4 0 u_0 u_1 u_2 u_3 u_4 u_5 u_6 u_7 u_8 u_9 u_10 u_11 v_0 v_1 v_2 v_3)
def gangerref10_Check.l1 : Nat→Int→Int→Int→Int→Int→Int→Int→Int→Int→Int→Int→List (S50)→List (S52)→List (S48)→ByteArray→Int→Int→Int→Option (Int)
 | 0,_,_,_,_,_,_,_,_,_,_,_,_,_,_,_,_,_,_=>none
 | k + 1,x4,x6,u_0,u_1,u_2,u_3,u_4,u_5,u_6,u_7,u_8,u_9,u_10,u_11,v_0,v_1,v_2,v_3=>if x6 < x4 then (if 0≤x6 then (if x6 < (u_9.length : Int) then (if ((rd_T50 u_9 x6).f0).toList = v_0.toList then (some 100) else (gangerref10_Check.l1 k x4 (wrap64 (x6 + 1)) u_0 u_1 u_2 u_3 u_4 u_5 u_6 u_7 u_8 u_9 u_10 u_11 v_0 v_1 v_2 v_3)) else (none)) else (none)) else (gangerref10_Check.l0 k (wrap64 (x4 + 1)) u_0 u_1 u_2 u_3 u_4 u_5 u_6 u_7 u_8 u_9 u_10 u_11)
def gangerref10_Check.l2 : Nat→Int→Int→Int→Int→Int→Int→Int→Int→Int→Int→List (S50)→List (S52)→List (S48)→Option (Int)
 | 0,_,_,_,_,_,_,_,_,_,_,_,_,_=>none
 | k + 1,x7,u_0,u_1,u_2,u_3,u_4,u_5,u_6,u_7,u_8,u_9,u_10,u_11=>if x7 < (u_10.length : Int) then (if 0≤x7 then ((gangerref09_Name.f k ((rd_T52 u_10 x7).f0)).bind fun t325=>(if t325 = true then ((gangerref10_out.f ((rd_T52 u_10 x7).f1) 0 1048576).bind fun t326=>(if t326 = true then (gangerref10_Check.j7 k x7 true u_0 u_1 u_2 u_3 u_4 u_5 u_6 u_7 u_8 u_9 u_10 u_11 ((rd_T52 u_10 x7).f0) ((rd_T52 u_10 x7).f1) ((rd_T52 u_10 x7).f2)) else ((gangerref10_out.f ((rd_T52 u_10 x7).f2) 1 1048576).bind fun t327=>(gangerref10_Check.j7 k x7 t327 u_0 u_1 u_2 u_3 u_4 u_5 u_6 u_7 u_8 u_9 u_10 u_11 ((rd_T52 u_10 x7).f0) ((rd_T52 u_10 x7).f1) ((rd_T52 u_10 x7).f2))))) else (gangerref10_Check.j7 k x7 true u_0 u_1 u_2 u_3 u_4 u_5 u_6 u_7 u_8 u_9 u_10 u_11 ((rd_T52 u_10 x7).f0) ((rd_T52 u_10 x7).f1) ((rd_T52 u_10 x7).f2)))) else (none)) else ((gangerref10_tree.f k u_11).bind fun t322=>(some t322))
def gangerref10_Check.j7 : Nat→Int→Bool→Int→Int→Int→Int→Int→Int→Int→Int→Int→List (S50)→List (S52)→List (S48)→ByteArray→Int→Int→Option (Int)
 | 0,_,_,_,_,_,_,_,_,_,_,_,_,_,_,_,_,_=>none
 | k + 1,x7,x139,u_0,u_1,u_2,u_3,u_4,u_5,u_6,u_7,u_8,u_9,u_10,u_11,y_0,y_1,y_2=>if x139 = true then (some 100) else (gangerref10_Check.l3 k x7 0 u_0 u_1 u_2 u_3 u_4 u_5 u_6 u_7 u_8 u_9 u_10 u_11 y_0 y_1 y_2)
def gangerref10_Check.l3 : Nat→Int→Int→Int→Int→Int→Int→Int→Int→Int→Int→Int→List (S50)→List (S52)→List (S48)→ByteArray→Int→Int→Option (Int)
 | 0,_,_,_,_,_,_,_,_,_,_,_,_,_,_,_,_,_=>none
 | k + 1,x7,x9,u_0,u_1,u_2,u_3,u_4,u_5,u_6,u_7,u_8,u_9,u_10,u_11,y_0,y_1,y_2=>if x9 < x7 then (if 0≤x9 then (if x9 < (u_10.length : Int) then (if ((rd_T52 u_10 x9).f0).toList = y_0.toList then (some 100) else (gangerref10_Check.l3 k x7 (wrap64 (x9 + 1)) u_0 u_1 u_2 u_3 u_4 u_5 u_6 u_7 u_8 u_9 u_10 u_11 y_0 y_1 y_2)) else (none)) else (none)) else (gangerref10_Check.l2 k (wrap64 (x7 + 1)) u_0 u_1 u_2 u_3 u_4 u_5 u_6 u_7 u_8 u_9 u_10 u_11)
end
def gangerref10_Check.f (k : Nat) (a0_0 : Int) (a0_1 : Int) (a0_2 : Int) (a0_3 : Int) (a0_4 : Int) (a0_5 : Int) (a0_6 : Int) (a0_7 : Int) (a0_8 : Int) (l0_9 : List (S50)) (l0_10 : List (S52)) (l0_11 : List (S48)) : Option (Int):=(gangerref10_out.f a0_4 0 1048576).bind fun t303=>(if t303 = true then (gangerref10_Check.j0 k true a0_0 a0_1 a0_2 a0_3 a0_4 a0_5 a0_6 a0_7 a0_8 l0_9 l0_10 l0_11) else ((gangerref10_out.f a0_5 0 1048576).bind fun t304=>(if t304 = true then (gangerref10_Check.j0 k true a0_0 a0_1 a0_2 a0_3 a0_4 a0_5 a0_6 a0_7 a0_8 l0_9 l0_10 l0_11) else ((gangerref10_out.f a0_6 0 1048576).bind fun t305=>(if t305 = true then (gangerref10_Check.j0 k true a0_0 a0_1 a0_2 a0_3 a0_4 a0_5 a0_6 a0_7 a0_8 l0_9 l0_10 l0_11) else ((gangerref10_out.f a0_7 0 1048576).bind fun t306=>(if t306 = true then (gangerref10_Check.j0 k true a0_0 a0_1 a0_2 a0_3 a0_4 a0_5 a0_6 a0_7 a0_8 l0_9 l0_10 l0_11) else ((gangerref10_out.f a0_8 0 1048576).bind fun t307=>(gangerref10_Check.j0 k t307 a0_0 a0_1 a0_2 a0_3 a0_4 a0_5 a0_6 a0_7 a0_8 l0_9 l0_10 l0_11)))))))))
set_option maxHeartbeats 8000000 in
set_option maxRecDepth 100000 in
theorem gangerref10_Check.calls (k : Nat) (a0_0 : Int) (a0_1 : Int) (a0_2 : Int) (a0_3 : Int) (a0_4 : Int) (a0_5 : Int) (a0_6 : Int) (a0_7 : Int) (a0_8 : Int) (A0_9 : Option Addr) (c0_9 : Nat) (l0_9 : List (S50)) (A0_10 : Option Addr) (c0_10 : Nat) (l0_10 : List (S52)) (A0_11 : Option Addr) (c0_11 : Nat) (l0_11 : List (S48)) (r : Int) (w : World) (hr0_9 : Kd.C k50 w A0_9 l0_9.length l0_9) (hc0_9 : l0_9.length≤c0_9) (hr0_10 : Kd.C k52 w A0_10 l0_10.length l0_10) (hc0_10 : l0_10.length≤c0_10) (hr0_11 : Kd.C k48 w A0_11 l0_11.length l0_11) (hc0_11 : l0_11.length≤c0_11) (h : gangerref10_Check.f k a0_0 a0_1 a0_2 a0_3 a0_4 a0_5 a0_6 a0_7 a0_8 l0_9 l0_10 l0_11 = some r) :
  Calls Tryd.prog 15 #[.agg #[.int .i64 a0_0,.int .i64 a0_1,.int .i64 a0_2,.int .i64 a0_3,.int .i64 a0_4,.int .i64 a0_5,.int .i64 a0_6,.int .i64 a0_7,.int .i64 a0_8,.slice A0_9 l0_9.length c0_9,.slice A0_10 l0_10.length c0_10,.slice A0_11 l0_11.length c0_11]] w fun e w'=>e = .returned (.int .i64 r)∧Below w.heap.size w w':=by
 have hu28:=Tryd.underlying28
 have hu23:=Tryd.underlying23
 have hu50:=Tryd.underlying50
 have hu52:=Tryd.underlying52
 have HR0_9:=Am hr0_9
 have HC0_9:=Am hc0_9
 clear hr0_9 hc0_9
 have HR0_10:=Am hr0_10
 have HC0_10:=Am hc0_10
 clear hr0_10 hc0_10
 have HR0_11:=Am hr0_11
 have HC0_11:=Am hc0_11
 clear hr0_11 hc0_11
 have HB:=Am (Below.refl w.heap.size w)
 have H : ((gangerref10_out.f a0_4 0 1048576).bind fun t303=>(if t303 = true then (gangerref10_Check.j0 k true a0_0 a0_1 a0_2 a0_3 a0_4 a0_5 a0_6 a0_7 a0_8 l0_9 l0_10 l0_11) else ((gangerref10_out.f a0_5 0 1048576).bind fun t304=>(if t304 = true then (gangerref10_Check.j0 k true a0_0 a0_1 a0_2 a0_3 a0_4 a0_5 a0_6 a0_7 a0_8 l0_9 l0_10 l0_11) else ((gangerref10_out.f a0_6 0 1048576).bind fun t305=>(if t305 = true then (gangerref10_Check.j0 k true a0_0 a0_1 a0_2 a0_3 a0_4 a0_5 a0_6 a0_7 a0_8 l0_9 l0_10 l0_11) else ((gangerref10_out.f a0_7 0 1048576).bind fun t306=>(if t306 = true then (gangerref10_Check.j0 k true a0_0 a0_1 a0_2 a0_3 a0_4 a0_5 a0_6 a0_7 a0_8 l0_9 l0_10 l0_11) else ((gangerref10_out.f a0_8 0 1048576).bind fun t307=>(gangerref10_Check.j0 k t307 a0_0 a0_1 a0_2 a0_3 a0_4 a0_5 a0_6 a0_7 a0_8 l0_9 l0_10 l0_11)))))))))) = some r:=h
 clear h
 have HC2:=Am H
 clear H
 go_enter Tryd.func15,Tryd.ntmps15
 go_upto_region 2 with (first|((with_reducible refine gD (N:=1) rfl ?_);(try (refine gate_guard (by rfl) ?_;dsimp only));refine box_event ?hg (N:=1) ?hd (cs:=#[.int .i64 a0_0,.int .i64 a0_1,.int .i64 a0_2,.int .i64 a0_3,.int .i64 a0_4,.int .i64 a0_5,.int .i64 a0_6,.int .i64 a0_7,.int .i64 a0_8,.slice A0_9 l0_9.length c0_9,.slice A0_10 l0_10.length c0_10,.slice A0_11 l0_11.length c0_11]) (t:=28) ?hr ?_;(case hd=>rfl);(case hg=>rfl);(case hr=>first|(go_simp;done)|(go_simp;rfl));intro gb301 hg w3 hbox hb;have n0_:=Am (below_step (by repeat (first|(with_reducible first|exact HB.out|apply bL|apply pN|apply bE)|exact HB.out)) hb);have n1_:=Am (hbox);have n2_:=Am ((by rw [hg];exact (bZ (by repeat (first|(with_reducible first|exact HB.out|apply bL|apply pN|apply bE)|exact HB.out))) : w.heap.size≤gb301));have n3_:=Am ((by rw [hg];exact (bZ (by repeat (first|(with_reducible first|exact HB.out|apply bL|apply pN|apply bE)|exact HB.out))) : w.heap.size≤gb301));clear HB;have HB:=n0_;have BK301:=n1_;have GW301:=n2_;have GE301:=n3_;clear n0_ n1_ n2_ n3_;clear hb hbox hg;have hcz4_0 : w3.cell? ⟨gb301,0,none⟩ = some (.int .i64 a0_0):=(bC BK301.out 0).trans rfl;have hcz4_1 : w3.cell? ⟨gb301,1,none⟩ = some (.int .i64 a0_1):=(bC BK301.out 1).trans rfl;have hcz4_2 : w3.cell? ⟨gb301,2,none⟩ = some (.int .i64 a0_2):=(bC BK301.out 2).trans rfl;have hcz4_3 : w3.cell? ⟨gb301,3,none⟩ = some (.int .i64 a0_3):=(bC BK301.out 3).trans rfl;have hcz4_4 : w3.cell? ⟨gb301,4,none⟩ = some (.int .i64 a0_4):=(bC BK301.out 4).trans rfl;have hcz4_5 : w3.cell? ⟨gb301,5,none⟩ = some (.int .i64 a0_5):=(bC BK301.out 5).trans rfl;have hcz4_6 : w3.cell? ⟨gb301,6,none⟩ = some (.int .i64 a0_6):=(bC BK301.out 6).trans rfl;have hcz4_7 : w3.cell? ⟨gb301,7,none⟩ = some (.int .i64 a0_7):=(bC BK301.out 7).trans rfl;have hcz4_8 : w3.cell? ⟨gb301,8,none⟩ = some (.int .i64 a0_8):=(bC BK301.out 8).trans rfl;have hcz4_9 : w3.cell? ⟨gb301,9,none⟩ = some (.slice A0_9 l0_9.length c0_9):=(bC BK301.out 9).trans rfl;have hcz4_10 : w3.cell? ⟨gb301,10,none⟩ = some (.slice A0_10 l0_10.length c0_10):=(bC BK301.out 10).trans rfl;have hcz4_11 : w3.cell? ⟨gb301,11,none⟩ = some (.slice A0_11 l0_11.length c0_11):=(bC BK301.out 11).trans rfl;have hfz4_0:=bF BK301.out 0;have hfz4_1:=bF BK301.out 1;have hfz4_2:=bF BK301.out 2;have hfz4_3:=bF BK301.out 3;have hfz4_4:=bF BK301.out 4;have hfz4_5:=bF BK301.out 5;have hfz4_6:=bF BK301.out 6;have hfz4_7:=bF BK301.out 7;have hfz4_8:=bF BK301.out 8;have hfz4_9:=bF BK301.out 9;have hfz4_10:=bF BK301.out 10;have hfz4_11:=bF BK301.out 11)|((with_reducible refine gD (N:=3) rfl ?_);(try (refine gate_guard (by rfl) ?_;dsimp only));refine box_event ?hg (N:=3) ?hd (cs:=#[.int .i64 0,.int .i64 0,.int .i64 0,.int .i64 0,.int .i64 0]) (t:=23) ?hr ?_;(case hd=>rfl);(case hg=>rfl);(case hr=>first|(go_simp;done)|(go_simp;rfl));intro gb302 hg w5 hbox hb;have n0_:=Am (blk_below (g:=gb301) (by (with_reducible repeat (first|refine bN ?_ _|refine bD ?_|refine bA ?_ _));exact BK301.out) hb);have n1_:=Am (below_step (by repeat (first|(with_reducible first|exact HB.out|apply bL|apply pN|apply bE|refine bS ?_ GE301.out)|exact HB.out)) hb);have n2_:=Am (hbox);have n3_:=Am ((by rw [hg];exact (bZ (by repeat (first|(with_reducible first|exact HB.out|apply bL|apply pN|apply bE|refine bS ?_ GE301.out)|exact HB.out))) : w.heap.size≤gb302));have n4_:=Am ((by rw [hg];exact (bZ (by repeat (first|(with_reducible first|exact HB.out|apply bL|apply pN|apply bE|refine bS ?_ GE301.out)|exact HB.out))) : w.heap.size≤gb302));have n5_:=Am ((by rw [hg];exact Nat.ne_of_lt (blk_lt (g:=gb301) (by (with_reducible repeat (first|refine bN ?_ _|refine bD ?_|refine bA ?_ _));exact BK301.out)) : gb301 ≠ gb302));have n6_:=Am ((by rw [hg];exact Nat.ne_of_gt (blk_lt (g:=gb301) (by (with_reducible repeat (first|refine bN ?_ _|refine bD ?_|refine bA ?_ _));exact BK301.out)) : gb302 ≠ gb301));clear BK301;clear HB;have BK301:=n0_;have HB:=n1_;have BK302:=n2_;have GW302:=n3_;have GE302:=n4_;have NB301_302:=n5_;have NB302_301:=n6_;clear n0_ n1_ n2_ n3_ n4_ n5_ n6_;clear hb hbox hg;have hnb6:=NB302_301.out;have hnc6:=NB301_302.out;have hcz7_0 : w5.cell? ⟨gb302,0,none⟩ = some (.int .i64 0):=(bC BK302.out 0).trans rfl;have hcz7_1 : w5.cell? ⟨gb302,1,none⟩ = some (.int .i64 0):=(bC BK302.out 1).trans rfl;have hcz7_2 : w5.cell? ⟨gb302,2,none⟩ = some (.int .i64 0):=(bC BK302.out 2).trans rfl;have hcz7_3 : w5.cell? ⟨gb302,3,none⟩ = some (.int .i64 0):=(bC BK302.out 3).trans rfl;have hcz7_4 : w5.cell? ⟨gb302,4,none⟩ = some (.int .i64 0):=(bC BK302.out 4).trans rfl;have hfz7_0:=bF BK302.out 0;have hfz7_1:=bF BK302.out 1;have hfz7_2:=bF BK302.out 2;have hfz7_3:=bF BK302.out 3;have hfz7_4:=bF BK302.out 4))
 repeat (go_quiet (first|((with_reducible refine gD (N:=1) rfl ?_);(try (refine gate_guard (by rfl) ?_;dsimp only));refine box_event ?hg (N:=1) ?hd (cs:=#[.int .i64 a0_0,.int .i64 a0_1,.int .i64 a0_2,.int .i64 a0_3,.int .i64 a0_4,.int .i64 a0_5,.int .i64 a0_6,.int .i64 a0_7,.int .i64 a0_8,.slice A0_9 l0_9.length c0_9,.slice A0_10 l0_10.length c0_10,.slice A0_11 l0_11.length c0_11]) (t:=28) ?hr ?_;(case hd=>rfl);(case hg=>rfl);(case hr=>first|(go_simp;done)|(go_simp;rfl));intro gb301 hg w3 hbox hb;have n0_:=Am (below_step (by repeat (first|(with_reducible first|exact HB.out|apply bL|apply pN|apply bE)|exact HB.out)) hb);have n1_:=Am (hbox);have n2_:=Am ((by rw [hg];exact (bZ (by repeat (first|(with_reducible first|exact HB.out|apply bL|apply pN|apply bE)|exact HB.out))) : w.heap.size≤gb301));have n3_:=Am ((by rw [hg];exact (bZ (by repeat (first|(with_reducible first|exact HB.out|apply bL|apply pN|apply bE)|exact HB.out))) : w.heap.size≤gb301));clear HB;have HB:=n0_;have BK301:=n1_;have GW301:=n2_;have GE301:=n3_;clear n0_ n1_ n2_ n3_;clear hb hbox hg;have hcz4_0 : w3.cell? ⟨gb301,0,none⟩ = some (.int .i64 a0_0):=(bC BK301.out 0).trans rfl;have hcz4_1 : w3.cell? ⟨gb301,1,none⟩ = some (.int .i64 a0_1):=(bC BK301.out 1).trans rfl;have hcz4_2 : w3.cell? ⟨gb301,2,none⟩ = some (.int .i64 a0_2):=(bC BK301.out 2).trans rfl;have hcz4_3 : w3.cell? ⟨gb301,3,none⟩ = some (.int .i64 a0_3):=(bC BK301.out 3).trans rfl;have hcz4_4 : w3.cell? ⟨gb301,4,none⟩ = some (.int .i64 a0_4):=(bC BK301.out 4).trans rfl;have hcz4_5 : w3.cell? ⟨gb301,5,none⟩ = some (.int .i64 a0_5):=(bC BK301.out 5).trans rfl;have hcz4_6 : w3.cell? ⟨gb301,6,none⟩ = some (.int .i64 a0_6):=(bC BK301.out 6).trans rfl;have hcz4_7 : w3.cell? ⟨gb301,7,none⟩ = some (.int .i64 a0_7):=(bC BK301.out 7).trans rfl;have hcz4_8 : w3.cell? ⟨gb301,8,none⟩ = some (.int .i64 a0_8):=(bC BK301.out 8).trans rfl;have hcz4_9 : w3.cell? ⟨gb301,9,none⟩ = some (.slice A0_9 l0_9.length c0_9):=(bC BK301.out 9).trans rfl;have hcz4_10 : w3.cell? ⟨gb301,10,none⟩ = some (.slice A0_10 l0_10.length c0_10):=(bC BK301.out 10).trans rfl;have hcz4_11 : w3.cell? ⟨gb301,11,none⟩ = some (.slice A0_11 l0_11.length c0_11):=(bC BK301.out 11).trans rfl;have hfz4_0:=bF BK301.out 0;have hfz4_1:=bF BK301.out 1;have hfz4_2:=bF BK301.out 2;have hfz4_3:=bF BK301.out 3;have hfz4_4:=bF BK301.out 4;have hfz4_5:=bF BK301.out 5;have hfz4_6:=bF BK301.out 6;have hfz4_7:=bF BK301.out 7;have hfz4_8:=bF BK301.out 8;have hfz4_9:=bF BK301.out 9;have hfz4_10:=bF BK301.out 10;have hfz4_11:=bF BK301.out 11)|((with_reducible refine gD (N:=3) rfl ?_);(try (refine gate_guard (by rfl) ?_;dsimp only));refine box_event ?hg (N:=3) ?hd (cs:=#[.int .i64 0,.int .i64 0,.int .i64 0,.int .i64 0,.int .i64 0]) (t:=23) ?hr ?_;(case hd=>rfl);(case hg=>rfl);(case hr=>first|(go_simp;done)|(go_simp;rfl));intro gb302 hg w5 hbox hb;have n0_:=Am (blk_below (g:=gb301) (by (with_reducible repeat (first|refine bN ?_ _|refine bD ?_|refine bA ?_ _));exact BK301.out) hb);have n1_:=Am (below_step (by repeat (first|(with_reducible first|exact HB.out|apply bL|apply pN|apply bE|refine bS ?_ GE301.out)|exact HB.out)) hb);have n2_:=Am (hbox);have n3_:=Am ((by rw [hg];exact (bZ (by repeat (first|(with_reducible first|exact HB.out|apply bL|apply pN|apply bE|refine bS ?_ GE301.out)|exact HB.out))) : w.heap.size≤gb302));have n4_:=Am ((by rw [hg];exact (bZ (by repeat (first|(with_reducible first|exact HB.out|apply bL|apply pN|apply bE|refine bS ?_ GE301.out)|exact HB.out))) : w.heap.size≤gb302));have n5_:=Am ((by rw [hg];exact Nat.ne_of_lt (blk_lt (g:=gb301) (by (with_reducible repeat (first|refine bN ?_ _|refine bD ?_|refine bA ?_ _));exact BK301.out)) : gb301 ≠ gb302));have n6_:=Am ((by rw [hg];exact Nat.ne_of_gt (blk_lt (g:=gb301) (by (with_reducible repeat (first|refine bN ?_ _|refine bD ?_|refine bA ?_ _));exact BK301.out)) : gb302 ≠ gb301));clear BK301;clear HB;have BK301:=n0_;have HB:=n1_;have BK302:=n2_;have GW302:=n3_;have GE302:=n4_;have NB301_302:=n5_;have NB302_301:=n6_;clear n0_ n1_ n2_ n3_ n4_ n5_ n6_;clear hb hbox hg;have hnb6:=NB302_301.out;have hnc6:=NB301_302.out;have hcz7_0 : w5.cell? ⟨gb302,0,none⟩ = some (.int .i64 0):=(bC BK302.out 0).trans rfl;have hcz7_1 : w5.cell? ⟨gb302,1,none⟩ = some (.int .i64 0):=(bC BK302.out 1).trans rfl;have hcz7_2 : w5.cell? ⟨gb302,2,none⟩ = some (.int .i64 0):=(bC BK302.out 2).trans rfl;have hcz7_3 : w5.cell? ⟨gb302,3,none⟩ = some (.int .i64 0):=(bC BK302.out 3).trans rfl;have hcz7_4 : w5.cell? ⟨gb302,4,none⟩ = some (.int .i64 0):=(bC BK302.out 4).trans rfl;have hfz7_0:=bF BK302.out 0;have hfz7_1:=bF BK302.out 1;have hfz7_2:=bF BK302.out 2;have hfz7_3:=bF BK302.out 3;have hfz7_4:=bF BK302.out 4));go_upto_region 2 with (first|((with_reducible refine gD (N:=1) rfl ?_);(try (refine gate_guard (by rfl) ?_;dsimp only));refine box_event ?hg (N:=1) ?hd (cs:=#[.int .i64 a0_0,.int .i64 a0_1,.int .i64 a0_2,.int .i64 a0_3,.int .i64 a0_4,.int .i64 a0_5,.int .i64 a0_6,.int .i64 a0_7,.int .i64 a0_8,.slice A0_9 l0_9.length c0_9,.slice A0_10 l0_10.length c0_10,.slice A0_11 l0_11.length c0_11]) (t:=28) ?hr ?_;(case hd=>rfl);(case hg=>rfl);(case hr=>first|(go_simp;done)|(go_simp;rfl));intro gb301 hg w3 hbox hb;have n0_:=Am (below_step (by repeat (first|(with_reducible first|exact HB.out|apply bL|apply pN|apply bE)|exact HB.out)) hb);have n1_:=Am (hbox);have n2_:=Am ((by rw [hg];exact (bZ (by repeat (first|(with_reducible first|exact HB.out|apply bL|apply pN|apply bE)|exact HB.out))) : w.heap.size≤gb301));have n3_:=Am ((by rw [hg];exact (bZ (by repeat (first|(with_reducible first|exact HB.out|apply bL|apply pN|apply bE)|exact HB.out))) : w.heap.size≤gb301));clear HB;have HB:=n0_;have BK301:=n1_;have GW301:=n2_;have GE301:=n3_;clear n0_ n1_ n2_ n3_;clear hb hbox hg;have hcz4_0 : w3.cell? ⟨gb301,0,none⟩ = some (.int .i64 a0_0):=(bC BK301.out 0).trans rfl;have hcz4_1 : w3.cell? ⟨gb301,1,none⟩ = some (.int .i64 a0_1):=(bC BK301.out 1).trans rfl;have hcz4_2 : w3.cell? ⟨gb301,2,none⟩ = some (.int .i64 a0_2):=(bC BK301.out 2).trans rfl;have hcz4_3 : w3.cell? ⟨gb301,3,none⟩ = some (.int .i64 a0_3):=(bC BK301.out 3).trans rfl;have hcz4_4 : w3.cell? ⟨gb301,4,none⟩ = some (.int .i64 a0_4):=(bC BK301.out 4).trans rfl;have hcz4_5 : w3.cell? ⟨gb301,5,none⟩ = some (.int .i64 a0_5):=(bC BK301.out 5).trans rfl;have hcz4_6 : w3.cell? ⟨gb301,6,none⟩ = some (.int .i64 a0_6):=(bC BK301.out 6).trans rfl;have hcz4_7 : w3.cell? ⟨gb301,7,none⟩ = some (.int .i64 a0_7):=(bC BK301.out 7).trans rfl;have hcz4_8 : w3.cell? ⟨gb301,8,none⟩ = some (.int .i64 a0_8):=(bC BK301.out 8).trans rfl;have hcz4_9 : w3.cell? ⟨gb301,9,none⟩ = some (.slice A0_9 l0_9.length c0_9):=(bC BK301.out 9).trans rfl;have hcz4_10 : w3.cell? ⟨gb301,10,none⟩ = some (.slice A0_10 l0_10.length c0_10):=(bC BK301.out 10).trans rfl;have hcz4_11 : w3.cell? ⟨gb301,11,none⟩ = some (.slice A0_11 l0_11.length c0_11):=(bC BK301.out 11).trans rfl;have hfz4_0:=bF BK301.out 0;have hfz4_1:=bF BK301.out 1;have hfz4_2:=bF BK301.out 2;have hfz4_3:=bF BK301.out 3;have hfz4_4:=bF BK301.out 4;have hfz4_5:=bF BK301.out 5;have hfz4_6:=bF BK301.out 6;have hfz4_7:=bF BK301.out 7;have hfz4_8:=bF BK301.out 8;have hfz4_9:=bF BK301.out 9;have hfz4_10:=bF BK301.out 10;have hfz4_11:=bF BK301.out 11)|((with_reducible refine gD (N:=3) rfl ?_);(try (refine gate_guard (by rfl) ?_;dsimp only));refine box_event ?hg (N:=3) ?hd (cs:=#[.int .i64 0,.int .i64 0,.int .i64 0,.int .i64 0,.int .i64 0]) (t:=23) ?hr ?_;(case hd=>rfl);(case hg=>rfl);(case hr=>first|(go_simp;done)|(go_simp;rfl));intro gb302 hg w5 hbox hb;have n0_:=Am (blk_below (g:=gb301) (by (with_reducible repeat (first|refine bN ?_ _|refine bD ?_|refine bA ?_ _));exact BK301.out) hb);have n1_:=Am (below_step (by repeat (first|(with_reducible first|exact HB.out|apply bL|apply pN|apply bE|refine bS ?_ GE301.out)|exact HB.out)) hb);have n2_:=Am (hbox);have n3_:=Am ((by rw [hg];exact (bZ (by repeat (first|(with_reducible first|exact HB.out|apply bL|apply pN|apply bE|refine bS ?_ GE301.out)|exact HB.out))) : w.heap.size≤gb302));have n4_:=Am ((by rw [hg];exact (bZ (by repeat (first|(with_reducible first|exact HB.out|apply bL|apply pN|apply bE|refine bS ?_ GE301.out)|exact HB.out))) : w.heap.size≤gb302));have n5_:=Am ((by rw [hg];exact Nat.ne_of_lt (blk_lt (g:=gb301) (by (with_reducible repeat (first|refine bN ?_ _|refine bD ?_|refine bA ?_ _));exact BK301.out)) : gb301 ≠ gb302));have n6_:=Am ((by rw [hg];exact Nat.ne_of_gt (blk_lt (g:=gb301) (by (with_reducible repeat (first|refine bN ?_ _|refine bD ?_|refine bA ?_ _));exact BK301.out)) : gb302 ≠ gb301));clear BK301;clear HB;have BK301:=n0_;have HB:=n1_;have BK302:=n2_;have GW302:=n3_;have GE302:=n4_;have NB301_302:=n5_;have NB302_301:=n6_;clear n0_ n1_ n2_ n3_ n4_ n5_ n6_;clear hb hbox hg;have hnb6:=NB302_301.out;have hnc6:=NB301_302.out;have hcz7_0 : w5.cell? ⟨gb302,0,none⟩ = some (.int .i64 0):=(bC BK302.out 0).trans rfl;have hcz7_1 : w5.cell? ⟨gb302,1,none⟩ = some (.int .i64 0):=(bC BK302.out 1).trans rfl;have hcz7_2 : w5.cell? ⟨gb302,2,none⟩ = some (.int .i64 0):=(bC BK302.out 2).trans rfl;have hcz7_3 : w5.cell? ⟨gb302,3,none⟩ = some (.int .i64 0):=(bC BK302.out 3).trans rfl;have hcz7_4 : w5.cell? ⟨gb302,4,none⟩ = some (.int .i64 0):=(bC BK302.out 4).trans rfl;have hfz7_0:=bF BK302.out 0;have hfz7_1:=bF BK302.out 1;have hfz7_2:=bF BK302.out 2;have hfz7_3:=bF BK302.out 3;have hfz7_4:=bF BK302.out 4)))
 (try simp only [Act.put,sT,sZ,sS])
 go_cut [34] (fun v34 wc=>∃ (kq : Nat) (x34_1 : Bool),v34 = .bool x34_1∧Aside0 (gangerref10_Check.j0 kq x34_1 a0_0 a0_1 a0_2 a0_3 a0_4 a0_5 a0_6 a0_7 a0_8 l0_9 l0_10 l0_11 = some r)∧Aside0 (kq≤k)∧Aside0 (wc.heap[gb301]? = some (.cells #[.int .i64 a0_0,.int .i64 a0_1,.int .i64 a0_2,.int .i64 a0_3,.int .i64 a0_4,.int .i64 a0_5,.int .i64 a0_6,.int .i64 a0_7,.int .i64 a0_8,(.slice A0_9 l0_9.length c0_9),(.slice A0_10 l0_10.length c0_10),(.slice A0_11 l0_11.length c0_11)] 28 (0,0)))∧Aside0 (wc.heap[gb302]? = some (.cells #[.int .i64 a0_4,.int .i64 a0_5,.int .i64 a0_6,.int .i64 a0_7,.int .i64 a0_8] 23 (0,0)))∧Aside0 (Below w.heap.size w wc))
 case first =>
  have H:=HC2.out
  clear HC2
  replace H:=oB H
  obtain ⟨t303,A80,H⟩:=H
  replace H : (if t303 = true then (gangerref10_Check.j0 k true a0_0 a0_1 a0_2 a0_3 a0_4 a0_5 a0_6 a0_7 a0_8 l0_9 l0_10 l0_11) else ((gangerref10_out.f a0_5 0 1048576).bind fun t304=>(if t304 = true then (gangerref10_Check.j0 k true a0_0 a0_1 a0_2 a0_3 a0_4 a0_5 a0_6 a0_7 a0_8 l0_9 l0_10 l0_11) else ((gangerref10_out.f a0_6 0 1048576).bind fun t305=>(if t305 = true then (gangerref10_Check.j0 k true a0_0 a0_1 a0_2 a0_3 a0_4 a0_5 a0_6 a0_7 a0_8 l0_9 l0_10 l0_11) else ((gangerref10_out.f a0_7 0 1048576).bind fun t306=>(if t306 = true then (gangerref10_Check.j0 k true a0_0 a0_1 a0_2 a0_3 a0_4 a0_5 a0_6 a0_7 a0_8 l0_9 l0_10 l0_11) else ((gangerref10_out.f a0_8 0 1048576).bind fun t307=>(gangerref10_Check.j0 k t307 a0_0 a0_1 a0_2 a0_3 a0_4 a0_5 a0_6 a0_7 a0_8 l0_9 l0_10 l0_11))))))))) = some r:=H
  have A8:=Am A80
  clear A80
  by_cases c9 : t303 = true
  ·subst c9
   have H1 : (gangerref10_Check.j0 k true a0_0 a0_1 a0_2 a0_3 a0_4 a0_5 a0_6 a0_7 a0_8 l0_9 l0_10 l0_11) = some r:=by rw [if_pos rfl] at H;exact H
   clear H
   have H:=H1
   clear H1
   have H':=Am H
   clear H
   have hnb10:=NB302_301.out
   have hnc10:=NB301_302.out
   have hcz11_0 : w5.cell? ⟨gb302,0,none⟩ = some (.int .i64 0):=(bC BK302.out 0).trans rfl
   have hcz11_1 : w5.cell? ⟨gb302,1,none⟩ = some (.int .i64 0):=(bC BK302.out 1).trans rfl
   have hcz11_2 : w5.cell? ⟨gb302,2,none⟩ = some (.int .i64 0):=(bC BK302.out 2).trans rfl
   have hcz11_3 : w5.cell? ⟨gb302,3,none⟩ = some (.int .i64 0):=(bC BK302.out 3).trans rfl
   have hcz11_4 : w5.cell? ⟨gb302,4,none⟩ = some (.int .i64 0):=(bC BK302.out 4).trans rfl
   have hfz11_0:=bF BK302.out 0
   have hfz11_1:=bF BK302.out 1
   have hfz11_2:=bF BK302.out 2
   have hfz11_3:=bF BK302.out 3
   have hfz11_4:=bF BK302.out 4
   go_wp2_with (first|(go_at_call 33;(with_reducible refine (gangerref10_out.calls a0_4 0 1048576 true _ A8.out).mono ?_);rintro e w' ⟨rfl,⟨nd,rfl⟩⟩;(try first|exact ⟨rfl,_,wD _ _ _⟩|exact ⟨rfl,_,wE _ _ _ _⟩)))
   repeat (go_quiet (first|(go_at_call 33;(with_reducible refine (gangerref10_out.calls a0_4 0 1048576 true _ A8.out).mono ?_);rintro e w' ⟨rfl,⟨nd,rfl⟩⟩;(try first|exact ⟨rfl,_,wD _ _ _⟩|exact ⟨rfl,_,wE _ _ _ _⟩)));try go_wp2_with (first|(go_at_call 33;(with_reducible refine (gangerref10_out.calls a0_4 0 1048576 true _ A8.out).mono ?_);rintro e w' ⟨rfl,⟨nd,rfl⟩⟩;(try first|exact ⟨rfl,_,wD _ _ _⟩|exact ⟨rfl,_,wE _ _ _ _⟩))))
   go_meet
   case rel=>exact ⟨_,(true),(by first|rfl|(simp;done)|(simp [*];done)),H',⟨by first|omega|exact Nat.le_refl _⟩,⟨by (with_reducible repeat (first|refine bN ?_ _|refine bD ?_|refine bA ?_ _));refine blk_far ?_ NB301_302.out _;(with_reducible repeat (first|refine bN ?_ _|refine bD ?_|refine bA ?_ _));refine blk_far ?_ NB301_302.out _;(with_reducible repeat (first|refine bN ?_ _|refine bD ?_|refine bA ?_ _));refine blk_far ?_ NB301_302.out _;(with_reducible repeat (first|refine bN ?_ _|refine bD ?_|refine bA ?_ _));refine blk_far ?_ NB301_302.out _;(with_reducible repeat (first|refine bN ?_ _|refine bD ?_|refine bA ?_ _));refine blk_far ?_ NB301_302.out _;(with_reducible repeat (first|refine bN ?_ _|refine bD ?_|refine bA ?_ _));exact BK301.out⟩,⟨by (with_reducible repeat (first|refine bN ?_ _|refine bD ?_|refine bA ?_ _));refine blk_put (cs:=#[.int .i64 a0_4,.int .i64 a0_5,.int .i64 a0_6,.int .i64 a0_7,.int .i64 0]) ?_ 4 _ rfl;(with_reducible repeat (first|refine bN ?_ _|refine bD ?_|refine bA ?_ _));refine blk_put (cs:=#[.int .i64 a0_4,.int .i64 a0_5,.int .i64 a0_6,.int .i64 0,.int .i64 0]) ?_ 3 _ rfl;(with_reducible repeat (first|refine bN ?_ _|refine bD ?_|refine bA ?_ _));refine blk_put (cs:=#[.int .i64 a0_4,.int .i64 a0_5,.int .i64 0,.int .i64 0,.int .i64 0]) ?_ 2 _ rfl;(with_reducible repeat (first|refine bN ?_ _|refine bD ?_|refine bA ?_ _));refine blk_put (cs:=#[.int .i64 a0_4,.int .i64 0,.int .i64 0,.int .i64 0,.int .i64 0]) ?_ 1 _ rfl;(with_reducible repeat (first|refine bN ?_ _|refine bD ?_|refine bA ?_ _));refine blk_put (cs:=#[.int .i64 0,.int .i64 0,.int .i64 0,.int .i64 0,.int .i64 0]) ?_ 0 _ rfl;(with_reducible repeat (first|refine bN ?_ _|refine bD ?_|refine bA ?_ _));exact BK302.out⟩,⟨by repeat (first|(with_reducible first|exact HB.out|apply bL|apply pN|apply bE|refine bS ?_ GE301.out|refine bS ?_ GE302.out)|exact HB.out)⟩⟩
  replace c9:=Bool.eq_false_iff.mpr c9
  subst c9
  have H1 : ((gangerref10_out.f a0_5 0 1048576).bind fun t304=>(if t304 = true then (gangerref10_Check.j0 k true a0_0 a0_1 a0_2 a0_3 a0_4 a0_5 a0_6 a0_7 a0_8 l0_9 l0_10 l0_11) else ((gangerref10_out.f a0_6 0 1048576).bind fun t305=>(if t305 = true then (gangerref10_Check.j0 k true a0_0 a0_1 a0_2 a0_3 a0_4 a0_5 a0_6 a0_7 a0_8 l0_9 l0_10 l0_11) else ((gangerref10_out.f a0_7 0 1048576).bind fun t306=>(if t306 = true then (gangerref10_Check.j0 k true a0_0 a0_1 a0_2 a0_3 a0_4 a0_5 a0_6 a0_7 a0_8 l0_9 l0_10 l0_11) else ((gangerref10_out.f a0_8 0 1048576).bind fun t307=>(gangerref10_Check.j0 k t307 a0_0 a0_1 a0_2 a0_3 a0_4 a0_5 a0_6 a0_7 a0_8 l0_9 l0_10 l0_11)))))))) = some r:=by rw [if_neg (show ¬ (false = true) by decide)] at H;exact H
  clear H
  have H:=H1
  clear H1
  replace H:=oB H
  obtain ⟨t304,A120,H⟩:=H
  replace H : (if t304 = true then (gangerref10_Check.j0 k true a0_0 a0_1 a0_2 a0_3 a0_4 a0_5 a0_6 a0_7 a0_8 l0_9 l0_10 l0_11) else ((gangerref10_out.f a0_6 0 1048576).bind fun t305=>(if t305 = true then (gangerref10_Check.j0 k true a0_0 a0_1 a0_2 a0_3 a0_4 a0_5 a0_6 a0_7 a0_8 l0_9 l0_10 l0_11) else ((gangerref10_out.f a0_7 0 1048576).bind fun t306=>(if t306 = true then (gangerref10_Check.j0 k true a0_0 a0_1 a0_2 a0_3 a0_4 a0_5 a0_6 a0_7 a0_8 l0_9 l0_10 l0_11) else ((gangerref10_out.f a0_8 0 1048576).bind fun t307=>(gangerref10_Check.j0 k t307 a0_0 a0_1 a0_2 a0_3 a0_4 a0_5 a0_6 a0_7 a0_8 l0_9 l0_10 l0_11))))))) = some r:=H
  have A12:=Am A120
  clear A120
  by_cases c13 : t304 = true
  ·subst c13
   have H1 : (gangerref10_Check.j0 k true a0_0 a0_1 a0_2 a0_3 a0_4 a0_5 a0_6 a0_7 a0_8 l0_9 l0_10 l0_11) = some r:=by rw [if_pos rfl] at H;exact H
   clear H
   have H:=H1
   clear H1
   have H':=Am H
   clear H
   have hnb14:=NB302_301.out
   have hnc14:=NB301_302.out
   have hcz15_0 : w5.cell? ⟨gb302,0,none⟩ = some (.int .i64 0):=(bC BK302.out 0).trans rfl
   have hcz15_1 : w5.cell? ⟨gb302,1,none⟩ = some (.int .i64 0):=(bC BK302.out 1).trans rfl
   have hcz15_2 : w5.cell? ⟨gb302,2,none⟩ = some (.int .i64 0):=(bC BK302.out 2).trans rfl
   have hcz15_3 : w5.cell? ⟨gb302,3,none⟩ = some (.int .i64 0):=(bC BK302.out 3).trans rfl
   have hcz15_4 : w5.cell? ⟨gb302,4,none⟩ = some (.int .i64 0):=(bC BK302.out 4).trans rfl
   have hfz15_0:=bF BK302.out 0
   have hfz15_1:=bF BK302.out 1
   have hfz15_2:=bF BK302.out 2
   have hfz15_3:=bF BK302.out 3
   have hfz15_4:=bF BK302.out 4
   go_wp2_with (first|(go_at_call 33;(with_reducible refine (gangerref10_out.calls a0_4 0 1048576 false _ A8.out).mono ?_);rintro e w' ⟨rfl,⟨nd,rfl⟩⟩;(try first|exact ⟨rfl,_,wD _ _ _⟩|exact ⟨rfl,_,wE _ _ _ _⟩))|(go_at_call 33;(with_reducible refine (gangerref10_out.calls a0_5 0 1048576 true _ A12.out).mono ?_);rintro e w' ⟨rfl,⟨nd,rfl⟩⟩;(try first|exact ⟨rfl,_,wD _ _ _⟩|exact ⟨rfl,_,wE _ _ _ _⟩)))
   repeat (go_quiet (first|(go_at_call 33;(with_reducible refine (gangerref10_out.calls a0_4 0 1048576 false _ A8.out).mono ?_);rintro e w' ⟨rfl,⟨nd,rfl⟩⟩;(try first|exact ⟨rfl,_,wD _ _ _⟩|exact ⟨rfl,_,wE _ _ _ _⟩))|(go_at_call 33;(with_reducible refine (gangerref10_out.calls a0_5 0 1048576 true _ A12.out).mono ?_);rintro e w' ⟨rfl,⟨nd,rfl⟩⟩;(try first|exact ⟨rfl,_,wD _ _ _⟩|exact ⟨rfl,_,wE _ _ _ _⟩)));try go_wp2_with (first|(go_at_call 33;(with_reducible refine (gangerref10_out.calls a0_4 0 1048576 false _ A8.out).mono ?_);rintro e w' ⟨rfl,⟨nd,rfl⟩⟩;(try first|exact ⟨rfl,_,wD _ _ _⟩|exact ⟨rfl,_,wE _ _ _ _⟩))|(go_at_call 33;(with_reducible refine (gangerref10_out.calls a0_5 0 1048576 true _ A12.out).mono ?_);rintro e w' ⟨rfl,⟨nd,rfl⟩⟩;(try first|exact ⟨rfl,_,wD _ _ _⟩|exact ⟨rfl,_,wE _ _ _ _⟩))))
   go_meet
   case rel=>exact ⟨_,(true),(by first|rfl|(simp;done)|(simp [*];done)),H',⟨by first|omega|exact Nat.le_refl _⟩,⟨by (with_reducible repeat (first|refine bN ?_ _|refine bD ?_|refine bA ?_ _));refine blk_far ?_ NB301_302.out _;(with_reducible repeat (first|refine bN ?_ _|refine bD ?_|refine bA ?_ _));refine blk_far ?_ NB301_302.out _;(with_reducible repeat (first|refine bN ?_ _|refine bD ?_|refine bA ?_ _));refine blk_far ?_ NB301_302.out _;(with_reducible repeat (first|refine bN ?_ _|refine bD ?_|refine bA ?_ _));refine blk_far ?_ NB301_302.out _;(with_reducible repeat (first|refine bN ?_ _|refine bD ?_|refine bA ?_ _));refine blk_far ?_ NB301_302.out _;(with_reducible repeat (first|refine bN ?_ _|refine bD ?_|refine bA ?_ _));exact BK301.out⟩,⟨by (with_reducible repeat (first|refine bN ?_ _|refine bD ?_|refine bA ?_ _));refine blk_put (cs:=#[.int .i64 a0_4,.int .i64 a0_5,.int .i64 a0_6,.int .i64 a0_7,.int .i64 0]) ?_ 4 _ rfl;(with_reducible repeat (first|refine bN ?_ _|refine bD ?_|refine bA ?_ _));refine blk_put (cs:=#[.int .i64 a0_4,.int .i64 a0_5,.int .i64 a0_6,.int .i64 0,.int .i64 0]) ?_ 3 _ rfl;(with_reducible repeat (first|refine bN ?_ _|refine bD ?_|refine bA ?_ _));refine blk_put (cs:=#[.int .i64 a0_4,.int .i64 a0_5,.int .i64 0,.int .i64 0,.int .i64 0]) ?_ 2 _ rfl;(with_reducible repeat (first|refine bN ?_ _|refine bD ?_|refine bA ?_ _));refine blk_put (cs:=#[.int .i64 a0_4,.int .i64 0,.int .i64 0,.int .i64 0,.int .i64 0]) ?_ 1 _ rfl;(with_reducible repeat (first|refine bN ?_ _|refine bD ?_|refine bA ?_ _));refine blk_put (cs:=#[.int .i64 0,.int .i64 0,.int .i64 0,.int .i64 0,.int .i64 0]) ?_ 0 _ rfl;(with_reducible repeat (first|refine bN ?_ _|refine bD ?_|refine bA ?_ _));exact BK302.out⟩,⟨by repeat (first|(with_reducible first|exact HB.out|apply bL|apply pN|apply bE|refine bS ?_ GE301.out|refine bS ?_ GE302.out)|exact HB.out)⟩⟩
  replace c13:=Bool.eq_false_iff.mpr c13
  subst c13
  have H1 : ((gangerref10_out.f a0_6 0 1048576).bind fun t305=>(if t305 = true then (gangerref10_Check.j0 k true a0_0 a0_1 a0_2 a0_3 a0_4 a0_5 a0_6 a0_7 a0_8 l0_9 l0_10 l0_11) else ((gangerref10_out.f a0_7 0 1048576).bind fun t306=>(if t306 = true then (gangerref10_Check.j0 k true a0_0 a0_1 a0_2 a0_3 a0_4 a0_5 a0_6 a0_7 a0_8 l0_9 l0_10 l0_11) else ((gangerref10_out.f a0_8 0 1048576).bind fun t307=>(gangerref10_Check.j0 k t307 a0_0 a0_1 a0_2 a0_3 a0_4 a0_5 a0_6 a0_7 a0_8 l0_9 l0_10 l0_11)))))) = some r:=by rw [if_neg (show ¬ (false = true) by decide)] at H;exact H
  clear H
  have H:=H1
  clear H1
  replace H:=oB H
  obtain ⟨t305,A160,H⟩:=H
  replace H : (if t305 = true then (gangerref10_Check.j0 k true a0_0 a0_1 a0_2 a0_3 a0_4 a0_5 a0_6 a0_7 a0_8 l0_9 l0_10 l0_11) else ((gangerref10_out.f a0_7 0 1048576).bind fun t306=>(if t306 = true then (gangerref10_Check.j0 k true a0_0 a0_1 a0_2 a0_3 a0_4 a0_5 a0_6 a0_7 a0_8 l0_9 l0_10 l0_11) else ((gangerref10_out.f a0_8 0 1048576).bind fun t307=>(gangerref10_Check.j0 k t307 a0_0 a0_1 a0_2 a0_3 a0_4 a0_5 a0_6 a0_7 a0_8 l0_9 l0_10 l0_11))))) = some r:=H
  have A16:=Am A160
  clear A160
  by_cases c17 : t305 = true
  ·subst c17
   have H1 : (gangerref10_Check.j0 k true a0_0 a0_1 a0_2 a0_3 a0_4 a0_5 a0_6 a0_7 a0_8 l0_9 l0_10 l0_11) = some r:=by rw [if_pos rfl] at H;exact H
   clear H
   have H:=H1
   clear H1
   have H':=Am H
   clear H
   have hnb18:=NB302_301.out
   have hnc18:=NB301_302.out
   have hcz19_0 : w5.cell? ⟨gb302,0,none⟩ = some (.int .i64 0):=(bC BK302.out 0).trans rfl
   have hcz19_1 : w5.cell? ⟨gb302,1,none⟩ = some (.int .i64 0):=(bC BK302.out 1).trans rfl
   have hcz19_2 : w5.cell? ⟨gb302,2,none⟩ = some (.int .i64 0):=(bC BK302.out 2).trans rfl
   have hcz19_3 : w5.cell? ⟨gb302,3,none⟩ = some (.int .i64 0):=(bC BK302.out 3).trans rfl
   have hcz19_4 : w5.cell? ⟨gb302,4,none⟩ = some (.int .i64 0):=(bC BK302.out 4).trans rfl
   have hfz19_0:=bF BK302.out 0
   have hfz19_1:=bF BK302.out 1
   have hfz19_2:=bF BK302.out 2
   have hfz19_3:=bF BK302.out 3
   have hfz19_4:=bF BK302.out 4
   go_wp2_with (first|(go_at_call 33;(with_reducible refine (gangerref10_out.calls a0_4 0 1048576 false _ A8.out).mono ?_);rintro e w' ⟨rfl,⟨nd,rfl⟩⟩;(try first|exact ⟨rfl,_,wD _ _ _⟩|exact ⟨rfl,_,wE _ _ _ _⟩))|(go_at_call 33;(with_reducible refine (gangerref10_out.calls a0_5 0 1048576 false _ A12.out).mono ?_);rintro e w' ⟨rfl,⟨nd,rfl⟩⟩;(try first|exact ⟨rfl,_,wD _ _ _⟩|exact ⟨rfl,_,wE _ _ _ _⟩))|(go_at_call 33;(with_reducible refine (gangerref10_out.calls a0_6 0 1048576 true _ A16.out).mono ?_);rintro e w' ⟨rfl,⟨nd,rfl⟩⟩;(try first|exact ⟨rfl,_,wD _ _ _⟩|exact ⟨rfl,_,wE _ _ _ _⟩)))
   repeat (go_quiet (first|(go_at_call 33;(with_reducible refine (gangerref10_out.calls a0_4 0 1048576 false _ A8.out).mono ?_);rintro e w' ⟨rfl,⟨nd,rfl⟩⟩;(try first|exact ⟨rfl,_,wD _ _ _⟩|exact ⟨rfl,_,wE _ _ _ _⟩))|(go_at_call 33;(with_reducible refine (gangerref10_out.calls a0_5 0 1048576 false _ A12.out).mono ?_);rintro e w' ⟨rfl,⟨nd,rfl⟩⟩;(try first|exact ⟨rfl,_,wD _ _ _⟩|exact ⟨rfl,_,wE _ _ _ _⟩))|(go_at_call 33;(with_reducible refine (gangerref10_out.calls a0_6 0 1048576 true _ A16.out).mono ?_);rintro e w' ⟨rfl,⟨nd,rfl⟩⟩;(try first|exact ⟨rfl,_,wD _ _ _⟩|exact ⟨rfl,_,wE _ _ _ _⟩)));try go_wp2_with (first|(go_at_call 33;(with_reducible refine (gangerref10_out.calls a0_4 0 1048576 false _ A8.out).mono ?_);rintro e w' ⟨rfl,⟨nd,rfl⟩⟩;(try first|exact ⟨rfl,_,wD _ _ _⟩|exact ⟨rfl,_,wE _ _ _ _⟩))|(go_at_call 33;(with_reducible refine (gangerref10_out.calls a0_5 0 1048576 false _ A12.out).mono ?_);rintro e w' ⟨rfl,⟨nd,rfl⟩⟩;(try first|exact ⟨rfl,_,wD _ _ _⟩|exact ⟨rfl,_,wE _ _ _ _⟩))|(go_at_call 33;(with_reducible refine (gangerref10_out.calls a0_6 0 1048576 true _ A16.out).mono ?_);rintro e w' ⟨rfl,⟨nd,rfl⟩⟩;(try first|exact ⟨rfl,_,wD _ _ _⟩|exact ⟨rfl,_,wE _ _ _ _⟩))))
   go_meet
   case rel=>exact ⟨_,(true),(by first|rfl|(simp;done)|(simp [*];done)),H',⟨by first|omega|exact Nat.le_refl _⟩,⟨by (with_reducible repeat (first|refine bN ?_ _|refine bD ?_|refine bA ?_ _));refine blk_far ?_ NB301_302.out _;(with_reducible repeat (first|refine bN ?_ _|refine bD ?_|refine bA ?_ _));refine blk_far ?_ NB301_302.out _;(with_reducible repeat (first|refine bN ?_ _|refine bD ?_|refine bA ?_ _));refine blk_far ?_ NB301_302.out _;(with_reducible repeat (first|refine bN ?_ _|refine bD ?_|refine bA ?_ _));refine blk_far ?_ NB301_302.out _;(with_reducible repeat (first|refine bN ?_ _|refine bD ?_|refine bA ?_ _));refine blk_far ?_ NB301_302.out _;(with_reducible repeat (first|refine bN ?_ _|refine bD ?_|refine bA ?_ _));exact BK301.out⟩,⟨by (with_reducible repeat (first|refine bN ?_ _|refine bD ?_|refine bA ?_ _));refine blk_put (cs:=#[.int .i64 a0_4,.int .i64 a0_5,.int .i64 a0_6,.int .i64 a0_7,.int .i64 0]) ?_ 4 _ rfl;(with_reducible repeat (first|refine bN ?_ _|refine bD ?_|refine bA ?_ _));refine blk_put (cs:=#[.int .i64 a0_4,.int .i64 a0_5,.int .i64 a0_6,.int .i64 0,.int .i64 0]) ?_ 3 _ rfl;(with_reducible repeat (first|refine bN ?_ _|refine bD ?_|refine bA ?_ _));refine blk_put (cs:=#[.int .i64 a0_4,.int .i64 a0_5,.int .i64 0,.int .i64 0,.int .i64 0]) ?_ 2 _ rfl;(with_reducible repeat (first|refine bN ?_ _|refine bD ?_|refine bA ?_ _));refine blk_put (cs:=#[.int .i64 a0_4,.int .i64 0,.int .i64 0,.int .i64 0,.int .i64 0]) ?_ 1 _ rfl;(with_reducible repeat (first|refine bN ?_ _|refine bD ?_|refine bA ?_ _));refine blk_put (cs:=#[.int .i64 0,.int .i64 0,.int .i64 0,.int .i64 0,.int .i64 0]) ?_ 0 _ rfl;(with_reducible repeat (first|refine bN ?_ _|refine bD ?_|refine bA ?_ _));exact BK302.out⟩,⟨by repeat (first|(with_reducible first|exact HB.out|apply bL|apply pN|apply bE|refine bS ?_ GE301.out|refine bS ?_ GE302.out)|exact HB.out)⟩⟩
  replace c17:=Bool.eq_false_iff.mpr c17
  subst c17
  have H1 : ((gangerref10_out.f a0_7 0 1048576).bind fun t306=>(if t306 = true then (gangerref10_Check.j0 k true a0_0 a0_1 a0_2 a0_3 a0_4 a0_5 a0_6 a0_7 a0_8 l0_9 l0_10 l0_11) else ((gangerref10_out.f a0_8 0 1048576).bind fun t307=>(gangerref10_Check.j0 k t307 a0_0 a0_1 a0_2 a0_3 a0_4 a0_5 a0_6 a0_7 a0_8 l0_9 l0_10 l0_11)))) = some r:=by rw [if_neg (show ¬ (false = true) by decide)] at H;exact H
  clear H
  have H:=H1
  clear H1
  replace H:=oB H
  obtain ⟨t306,A200,H⟩:=H
  replace H : (if t306 = true then (gangerref10_Check.j0 k true a0_0 a0_1 a0_2 a0_3 a0_4 a0_5 a0_6 a0_7 a0_8 l0_9 l0_10 l0_11) else ((gangerref10_out.f a0_8 0 1048576).bind fun t307=>(gangerref10_Check.j0 k t307 a0_0 a0_1 a0_2 a0_3 a0_4 a0_5 a0_6 a0_7 a0_8 l0_9 l0_10 l0_11))) = some r:=H
  have A20:=Am A200
  clear A200
  by_cases c21 : t306 = true
  ·subst c21
   have H1 : (gangerref10_Check.j0 k true a0_0 a0_1 a0_2 a0_3 a0_4 a0_5 a0_6 a0_7 a0_8 l0_9 l0_10 l0_11) = some r:=by rw [if_pos rfl] at H;exact H
   clear H
   have H:=H1
   clear H1
   have H':=Am H
   clear H
   have hnb22:=NB302_301.out
   have hnc22:=NB301_302.out
   have hcz23_0 : w5.cell? ⟨gb302,0,none⟩ = some (.int .i64 0):=(bC BK302.out 0).trans rfl
   have hcz23_1 : w5.cell? ⟨gb302,1,none⟩ = some (.int .i64 0):=(bC BK302.out 1).trans rfl
   have hcz23_2 : w5.cell? ⟨gb302,2,none⟩ = some (.int .i64 0):=(bC BK302.out 2).trans rfl
   have hcz23_3 : w5.cell? ⟨gb302,3,none⟩ = some (.int .i64 0):=(bC BK302.out 3).trans rfl
   have hcz23_4 : w5.cell? ⟨gb302,4,none⟩ = some (.int .i64 0):=(bC BK302.out 4).trans rfl
   have hfz23_0:=bF BK302.out 0
   have hfz23_1:=bF BK302.out 1
   have hfz23_2:=bF BK302.out 2
   have hfz23_3:=bF BK302.out 3
   have hfz23_4:=bF BK302.out 4
   go_wp2_with (first|(go_at_call 33;(with_reducible refine (gangerref10_out.calls a0_4 0 1048576 false _ A8.out).mono ?_);rintro e w' ⟨rfl,⟨nd,rfl⟩⟩;(try first|exact ⟨rfl,_,wD _ _ _⟩|exact ⟨rfl,_,wE _ _ _ _⟩))|(go_at_call 33;(with_reducible refine (gangerref10_out.calls a0_5 0 1048576 false _ A12.out).mono ?_);rintro e w' ⟨rfl,⟨nd,rfl⟩⟩;(try first|exact ⟨rfl,_,wD _ _ _⟩|exact ⟨rfl,_,wE _ _ _ _⟩))|(go_at_call 33;(with_reducible refine (gangerref10_out.calls a0_6 0 1048576 false _ A16.out).mono ?_);rintro e w' ⟨rfl,⟨nd,rfl⟩⟩;(try first|exact ⟨rfl,_,wD _ _ _⟩|exact ⟨rfl,_,wE _ _ _ _⟩))|(go_at_call 33;(with_reducible refine (gangerref10_out.calls a0_7 0 1048576 true _ A20.out).mono ?_);rintro e w' ⟨rfl,⟨nd,rfl⟩⟩;(try first|exact ⟨rfl,_,wD _ _ _⟩|exact ⟨rfl,_,wE _ _ _ _⟩)))
   repeat (go_quiet (first|(go_at_call 33;(with_reducible refine (gangerref10_out.calls a0_4 0 1048576 false _ A8.out).mono ?_);rintro e w' ⟨rfl,⟨nd,rfl⟩⟩;(try first|exact ⟨rfl,_,wD _ _ _⟩|exact ⟨rfl,_,wE _ _ _ _⟩))|(go_at_call 33;(with_reducible refine (gangerref10_out.calls a0_5 0 1048576 false _ A12.out).mono ?_);rintro e w' ⟨rfl,⟨nd,rfl⟩⟩;(try first|exact ⟨rfl,_,wD _ _ _⟩|exact ⟨rfl,_,wE _ _ _ _⟩))|(go_at_call 33;(with_reducible refine (gangerref10_out.calls a0_6 0 1048576 false _ A16.out).mono ?_);rintro e w' ⟨rfl,⟨nd,rfl⟩⟩;(try first|exact ⟨rfl,_,wD _ _ _⟩|exact ⟨rfl,_,wE _ _ _ _⟩))|(go_at_call 33;(with_reducible refine (gangerref10_out.calls a0_7 0 1048576 true _ A20.out).mono ?_);rintro e w' ⟨rfl,⟨nd,rfl⟩⟩;(try first|exact ⟨rfl,_,wD _ _ _⟩|exact ⟨rfl,_,wE _ _ _ _⟩)));try go_wp2_with (first|(go_at_call 33;(with_reducible refine (gangerref10_out.calls a0_4 0 1048576 false _ A8.out).mono ?_);rintro e w' ⟨rfl,⟨nd,rfl⟩⟩;(try first|exact ⟨rfl,_,wD _ _ _⟩|exact ⟨rfl,_,wE _ _ _ _⟩))|(go_at_call 33;(with_reducible refine (gangerref10_out.calls a0_5 0 1048576 false _ A12.out).mono ?_);rintro e w' ⟨rfl,⟨nd,rfl⟩⟩;(try first|exact ⟨rfl,_,wD _ _ _⟩|exact ⟨rfl,_,wE _ _ _ _⟩))|(go_at_call 33;(with_reducible refine (gangerref10_out.calls a0_6 0 1048576 false _ A16.out).mono ?_);rintro e w' ⟨rfl,⟨nd,rfl⟩⟩;(try first|exact ⟨rfl,_,wD _ _ _⟩|exact ⟨rfl,_,wE _ _ _ _⟩))|(go_at_call 33;(with_reducible refine (gangerref10_out.calls a0_7 0 1048576 true _ A20.out).mono ?_);rintro e w' ⟨rfl,⟨nd,rfl⟩⟩;(try first|exact ⟨rfl,_,wD _ _ _⟩|exact ⟨rfl,_,wE _ _ _ _⟩))))
   go_meet
   case rel=>exact ⟨_,(true),(by first|rfl|(simp;done)|(simp [*];done)),H',⟨by first|omega|exact Nat.le_refl _⟩,⟨by (with_reducible repeat (first|refine bN ?_ _|refine bD ?_|refine bA ?_ _));refine blk_far ?_ NB301_302.out _;(with_reducible repeat (first|refine bN ?_ _|refine bD ?_|refine bA ?_ _));refine blk_far ?_ NB301_302.out _;(with_reducible repeat (first|refine bN ?_ _|refine bD ?_|refine bA ?_ _));refine blk_far ?_ NB301_302.out _;(with_reducible repeat (first|refine bN ?_ _|refine bD ?_|refine bA ?_ _));refine blk_far ?_ NB301_302.out _;(with_reducible repeat (first|refine bN ?_ _|refine bD ?_|refine bA ?_ _));refine blk_far ?_ NB301_302.out _;(with_reducible repeat (first|refine bN ?_ _|refine bD ?_|refine bA ?_ _));exact BK301.out⟩,⟨by (with_reducible repeat (first|refine bN ?_ _|refine bD ?_|refine bA ?_ _));refine blk_put (cs:=#[.int .i64 a0_4,.int .i64 a0_5,.int .i64 a0_6,.int .i64 a0_7,.int .i64 0]) ?_ 4 _ rfl;(with_reducible repeat (first|refine bN ?_ _|refine bD ?_|refine bA ?_ _));refine blk_put (cs:=#[.int .i64 a0_4,.int .i64 a0_5,.int .i64 a0_6,.int .i64 0,.int .i64 0]) ?_ 3 _ rfl;(with_reducible repeat (first|refine bN ?_ _|refine bD ?_|refine bA ?_ _));refine blk_put (cs:=#[.int .i64 a0_4,.int .i64 a0_5,.int .i64 0,.int .i64 0,.int .i64 0]) ?_ 2 _ rfl;(with_reducible repeat (first|refine bN ?_ _|refine bD ?_|refine bA ?_ _));refine blk_put (cs:=#[.int .i64 a0_4,.int .i64 0,.int .i64 0,.int .i64 0,.int .i64 0]) ?_ 1 _ rfl;(with_reducible repeat (first|refine bN ?_ _|refine bD ?_|refine bA ?_ _));refine blk_put (cs:=#[.int .i64 0,.int .i64 0,.int .i64 0,.int .i64 0,.int .i64 0]) ?_ 0 _ rfl;(with_reducible repeat (first|refine bN ?_ _|refine bD ?_|refine bA ?_ _));exact BK302.out⟩,⟨by repeat (first|(with_reducible first|exact HB.out|apply bL|apply pN|apply bE|refine bS ?_ GE301.out|refine bS ?_ GE302.out)|exact HB.out)⟩⟩
  replace c21:=Bool.eq_false_iff.mpr c21
  subst c21
  have H1 : ((gangerref10_out.f a0_8 0 1048576).bind fun t307=>(gangerref10_Check.j0 k t307 a0_0 a0_1 a0_2 a0_3 a0_4 a0_5 a0_6 a0_7 a0_8 l0_9 l0_10 l0_11)) = some r:=by rw [if_neg (show ¬ (false = true) by decide)] at H;exact H
  clear H
  have H:=H1
  clear H1
  replace H:=oB H
  obtain ⟨t307,A240,H⟩:=H
  replace H : (gangerref10_Check.j0 k t307 a0_0 a0_1 a0_2 a0_3 a0_4 a0_5 a0_6 a0_7 a0_8 l0_9 l0_10 l0_11) = some r:=H
  have A24:=Am A240
  clear A240
  have H':=Am H
  clear H
  have hnb25:=NB302_301.out
  have hnc25:=NB301_302.out
  have hcz26_0 : w5.cell? ⟨gb302,0,none⟩ = some (.int .i64 0):=(bC BK302.out 0).trans rfl
  have hcz26_1 : w5.cell? ⟨gb302,1,none⟩ = some (.int .i64 0):=(bC BK302.out 1).trans rfl
  have hcz26_2 : w5.cell? ⟨gb302,2,none⟩ = some (.int .i64 0):=(bC BK302.out 2).trans rfl
  have hcz26_3 : w5.cell? ⟨gb302,3,none⟩ = some (.int .i64 0):=(bC BK302.out 3).trans rfl
  have hcz26_4 : w5.cell? ⟨gb302,4,none⟩ = some (.int .i64 0):=(bC BK302.out 4).trans rfl
  have hfz26_0:=bF BK302.out 0
  have hfz26_1:=bF BK302.out 1
  have hfz26_2:=bF BK302.out 2
  have hfz26_3:=bF BK302.out 3
  have hfz26_4:=bF BK302.out 4
  go_wp2_with (first|(go_at_call 33;(with_reducible refine (gangerref10_out.calls a0_4 0 1048576 false _ A8.out).mono ?_);rintro e w' ⟨rfl,⟨nd,rfl⟩⟩;(try first|exact ⟨rfl,_,wD _ _ _⟩|exact ⟨rfl,_,wE _ _ _ _⟩))|(go_at_call 33;(with_reducible refine (gangerref10_out.calls a0_5 0 1048576 false _ A12.out).mono ?_);rintro e w' ⟨rfl,⟨nd,rfl⟩⟩;(try first|exact ⟨rfl,_,wD _ _ _⟩|exact ⟨rfl,_,wE _ _ _ _⟩))|(go_at_call 33;(with_reducible refine (gangerref10_out.calls a0_6 0 1048576 false _ A16.out).mono ?_);rintro e w' ⟨rfl,⟨nd,rfl⟩⟩;(try first|exact ⟨rfl,_,wD _ _ _⟩|exact ⟨rfl,_,wE _ _ _ _⟩))|(go_at_call 33;(with_reducible refine (gangerref10_out.calls a0_7 0 1048576 false _ A20.out).mono ?_);rintro e w' ⟨rfl,⟨nd,rfl⟩⟩;(try first|exact ⟨rfl,_,wD _ _ _⟩|exact ⟨rfl,_,wE _ _ _ _⟩))|(go_at_call 33;(with_reducible refine (gangerref10_out.calls a0_8 0 1048576 t307 _ A24.out).mono ?_);rintro e w' ⟨rfl,⟨nd,rfl⟩⟩;(try first|exact ⟨rfl,_,wD _ _ _⟩|exact ⟨rfl,_,wE _ _ _ _⟩)))
  repeat (go_quiet (first|(go_at_call 33;(with_reducible refine (gangerref10_out.calls a0_4 0 1048576 false _ A8.out).mono ?_);rintro e w' ⟨rfl,⟨nd,rfl⟩⟩;(try first|exact ⟨rfl,_,wD _ _ _⟩|exact ⟨rfl,_,wE _ _ _ _⟩))|(go_at_call 33;(with_reducible refine (gangerref10_out.calls a0_5 0 1048576 false _ A12.out).mono ?_);rintro e w' ⟨rfl,⟨nd,rfl⟩⟩;(try first|exact ⟨rfl,_,wD _ _ _⟩|exact ⟨rfl,_,wE _ _ _ _⟩))|(go_at_call 33;(with_reducible refine (gangerref10_out.calls a0_6 0 1048576 false _ A16.out).mono ?_);rintro e w' ⟨rfl,⟨nd,rfl⟩⟩;(try first|exact ⟨rfl,_,wD _ _ _⟩|exact ⟨rfl,_,wE _ _ _ _⟩))|(go_at_call 33;(with_reducible refine (gangerref10_out.calls a0_7 0 1048576 false _ A20.out).mono ?_);rintro e w' ⟨rfl,⟨nd,rfl⟩⟩;(try first|exact ⟨rfl,_,wD _ _ _⟩|exact ⟨rfl,_,wE _ _ _ _⟩))|(go_at_call 33;(with_reducible refine (gangerref10_out.calls a0_8 0 1048576 t307 _ A24.out).mono ?_);rintro e w' ⟨rfl,⟨nd,rfl⟩⟩;(try first|exact ⟨rfl,_,wD _ _ _⟩|exact ⟨rfl,_,wE _ _ _ _⟩)));try go_wp2_with (first|(go_at_call 33;(with_reducible refine (gangerref10_out.calls a0_4 0 1048576 false _ A8.out).mono ?_);rintro e w' ⟨rfl,⟨nd,rfl⟩⟩;(try first|exact ⟨rfl,_,wD _ _ _⟩|exact ⟨rfl,_,wE _ _ _ _⟩))|(go_at_call 33;(with_reducible refine (gangerref10_out.calls a0_5 0 1048576 false _ A12.out).mono ?_);rintro e w' ⟨rfl,⟨nd,rfl⟩⟩;(try first|exact ⟨rfl,_,wD _ _ _⟩|exact ⟨rfl,_,wE _ _ _ _⟩))|(go_at_call 33;(with_reducible refine (gangerref10_out.calls a0_6 0 1048576 false _ A16.out).mono ?_);rintro e w' ⟨rfl,⟨nd,rfl⟩⟩;(try first|exact ⟨rfl,_,wD _ _ _⟩|exact ⟨rfl,_,wE _ _ _ _⟩))|(go_at_call 33;(with_reducible refine (gangerref10_out.calls a0_7 0 1048576 false _ A20.out).mono ?_);rintro e w' ⟨rfl,⟨nd,rfl⟩⟩;(try first|exact ⟨rfl,_,wD _ _ _⟩|exact ⟨rfl,_,wE _ _ _ _⟩))|(go_at_call 33;(with_reducible refine (gangerref10_out.calls a0_8 0 1048576 t307 _ A24.out).mono ?_);rintro e w' ⟨rfl,⟨nd,rfl⟩⟩;(try first|exact ⟨rfl,_,wD _ _ _⟩|exact ⟨rfl,_,wE _ _ _ _⟩))))
  go_meet
  case rel=>exact ⟨_,(t307),(by first|rfl|(simp;done)|(simp [*];done)),H',⟨by first|omega|exact Nat.le_refl _⟩,⟨by (with_reducible repeat (first|refine bN ?_ _|refine bD ?_|refine bA ?_ _));refine blk_far ?_ NB301_302.out _;(with_reducible repeat (first|refine bN ?_ _|refine bD ?_|refine bA ?_ _));refine blk_far ?_ NB301_302.out _;(with_reducible repeat (first|refine bN ?_ _|refine bD ?_|refine bA ?_ _));refine blk_far ?_ NB301_302.out _;(with_reducible repeat (first|refine bN ?_ _|refine bD ?_|refine bA ?_ _));refine blk_far ?_ NB301_302.out _;(with_reducible repeat (first|refine bN ?_ _|refine bD ?_|refine bA ?_ _));refine blk_far ?_ NB301_302.out _;(with_reducible repeat (first|refine bN ?_ _|refine bD ?_|refine bA ?_ _));exact BK301.out⟩,⟨by (with_reducible repeat (first|refine bN ?_ _|refine bD ?_|refine bA ?_ _));refine blk_put (cs:=#[.int .i64 a0_4,.int .i64 a0_5,.int .i64 a0_6,.int .i64 a0_7,.int .i64 0]) ?_ 4 _ rfl;(with_reducible repeat (first|refine bN ?_ _|refine bD ?_|refine bA ?_ _));refine blk_put (cs:=#[.int .i64 a0_4,.int .i64 a0_5,.int .i64 a0_6,.int .i64 0,.int .i64 0]) ?_ 3 _ rfl;(with_reducible repeat (first|refine bN ?_ _|refine bD ?_|refine bA ?_ _));refine blk_put (cs:=#[.int .i64 a0_4,.int .i64 a0_5,.int .i64 0,.int .i64 0,.int .i64 0]) ?_ 2 _ rfl;(with_reducible repeat (first|refine bN ?_ _|refine bD ?_|refine bA ?_ _));refine blk_put (cs:=#[.int .i64 a0_4,.int .i64 0,.int .i64 0,.int .i64 0,.int .i64 0]) ?_ 1 _ rfl;(with_reducible repeat (first|refine bN ?_ _|refine bD ?_|refine bA ?_ _));refine blk_put (cs:=#[.int .i64 0,.int .i64 0,.int .i64 0,.int .i64 0,.int .i64 0]) ?_ 0 _ rfl;(with_reducible repeat (first|refine bN ?_ _|refine bD ?_|refine bA ?_ _));exact BK302.out⟩,⟨by repeat (first|(with_reducible first|exact HB.out|apply bL|apply pN|apply bE|refine bS ?_ GE301.out|refine bS ?_ GE302.out)|exact HB.out)⟩⟩
 case rest =>
  clear HC2
  obtain ⟨kq,x34_1,rfl,HA,HJ1,BK301,BK302,HB⟩:=hcut
  cases kq with
  | zero=>exact absurd HA.out (by simp [gangerref10_Check.j0])
  | succ kj1 =>
   have H:=HA.out
   clear HA
   simp only [gangerref10_Check.j0] at H
   by_cases c27 : x34_1 = true
   ·subst c27
    have H1 : (some 100) = some r:=by rw [if_pos rfl] at H;exact H
    clear H
    have H:=H1
    clear H1
    obtain rfl:=Option.some.inj H
    go_wp2
    repeat (go_quiet (fail);try go_wp2)
    go_ret
    exact ⟨by first|rfl|(simp [errW_none,errW_some] <;> rfl)|(simp [*,errW_none,errW_some] <;> rfl),by repeat (first|(with_reducible first|exact HB.out|apply bL|apply pN|apply bE|refine bS ?_ GE301.out|refine bS ?_ GE302.out)|exact HB.out)⟩
   replace c27:=Bool.eq_false_iff.mpr c27
   subst c27
   have H1 : ((gangerref10_out.f a0_0 1 4).bind fun t308=>(if t308 = true then (gangerref10_Check.j1 kj1 true a0_0 a0_1 a0_2 a0_3 a0_4 a0_5 a0_6 a0_7 a0_8 l0_9 l0_10 l0_11) else ((gangerref10_out.f a0_1 1 4294967296).bind fun t309=>(if t309 = true then (gangerref10_Check.j1 kj1 true a0_0 a0_1 a0_2 a0_3 a0_4 a0_5 a0_6 a0_7 a0_8 l0_9 l0_10 l0_11) else ((gangerref10_out.f a0_2 1 1073741824).bind fun t310=>(if t310 = true then (gangerref10_Check.j1 kj1 true a0_0 a0_1 a0_2 a0_3 a0_4 a0_5 a0_6 a0_7 a0_8 l0_9 l0_10 l0_11) else ((gangerref10_out.f a0_3 0 100).bind fun t311=>(gangerref10_Check.j1 kj1 t311 a0_0 a0_1 a0_2 a0_3 a0_4 a0_5 a0_6 a0_7 a0_8 l0_9 l0_10 l0_11)))))))) = some r:=by rw [if_neg (show ¬ (false = true) by decide)] at H;exact H
   clear H
   have H:=H1
   clear H1
   have HC28:=Am H
   clear H
   go_upto_region 4 with (fail)
   repeat (go_quiet (fail);go_upto_region 4 with (fail))
   go_cut [52] (fun v52 wc=>∃ (kq : Nat) (x52_27 : Bool),v52 = .bool x52_27∧Aside0 (gangerref10_Check.j1 kq x52_27 a0_0 a0_1 a0_2 a0_3 a0_4 a0_5 a0_6 a0_7 a0_8 l0_9 l0_10 l0_11 = some r)∧Aside0 (kq≤kj1)∧Aside0 (wc.heap[gb301]? = some (.cells #[.int .i64 a0_0,.int .i64 a0_1,.int .i64 a0_2,.int .i64 a0_3,.int .i64 a0_4,.int .i64 a0_5,.int .i64 a0_6,.int .i64 a0_7,.int .i64 a0_8,(.slice A0_9 l0_9.length c0_9),(.slice A0_10 l0_10.length c0_10),(.slice A0_11 l0_11.length c0_11)] 28 (0,0)))∧Aside0 (wc.heap[gb302]? = some (.cells #[.int .i64 a0_4,.int .i64 a0_5,.int .i64 a0_6,.int .i64 a0_7,.int .i64 a0_8] 23 (0,0)))∧Aside0 (Below w.heap.size w wc))
   case first =>
    have H:=HC28.out
    clear HC28
    replace H:=oB H
    obtain ⟨t308,A290,H⟩:=H
    replace H : (if t308 = true then (gangerref10_Check.j1 kj1 true a0_0 a0_1 a0_2 a0_3 a0_4 a0_5 a0_6 a0_7 a0_8 l0_9 l0_10 l0_11) else ((gangerref10_out.f a0_1 1 4294967296).bind fun t309=>(if t309 = true then (gangerref10_Check.j1 kj1 true a0_0 a0_1 a0_2 a0_3 a0_4 a0_5 a0_6 a0_7 a0_8 l0_9 l0_10 l0_11) else ((gangerref10_out.f a0_2 1 1073741824).bind fun t310=>(if t310 = true then (gangerref10_Check.j1 kj1 true a0_0 a0_1 a0_2 a0_3 a0_4 a0_5 a0_6 a0_7 a0_8 l0_9 l0_10 l0_11) else ((gangerref10_out.f a0_3 0 100).bind fun t311=>(gangerref10_Check.j1 kj1 t311 a0_0 a0_1 a0_2 a0_3 a0_4 a0_5 a0_6 a0_7 a0_8 l0_9 l0_10 l0_11))))))) = some r:=H
    have A29:=Am A290
    clear A290
    by_cases c30 : t308 = true
    ·subst c30
     have H1 : (gangerref10_Check.j1 kj1 true a0_0 a0_1 a0_2 a0_3 a0_4 a0_5 a0_6 a0_7 a0_8 l0_9 l0_10 l0_11) = some r:=by rw [if_pos rfl] at H;exact H
     clear H
     have H:=H1
     clear H1
     have H':=Am H
     clear H
     have hnb31:=NB301_302.out
     have hnc31:=NB302_301.out
     have hcz32_0 : wc.cell? ⟨gb301,0,none⟩ = some (.int .i64 a0_0):=(bC BK301.out 0).trans rfl
     have hcz32_1 : wc.cell? ⟨gb301,1,none⟩ = some (.int .i64 a0_1):=(bC BK301.out 1).trans rfl
     have hcz32_2 : wc.cell? ⟨gb301,2,none⟩ = some (.int .i64 a0_2):=(bC BK301.out 2).trans rfl
     have hcz32_3 : wc.cell? ⟨gb301,3,none⟩ = some (.int .i64 a0_3):=(bC BK301.out 3).trans rfl
     have hcz32_4 : wc.cell? ⟨gb301,4,none⟩ = some (.int .i64 a0_4):=(bC BK301.out 4).trans rfl
     have hcz32_5 : wc.cell? ⟨gb301,5,none⟩ = some (.int .i64 a0_5):=(bC BK301.out 5).trans rfl
     have hcz32_6 : wc.cell? ⟨gb301,6,none⟩ = some (.int .i64 a0_6):=(bC BK301.out 6).trans rfl
     have hcz32_7 : wc.cell? ⟨gb301,7,none⟩ = some (.int .i64 a0_7):=(bC BK301.out 7).trans rfl
     have hcz32_8 : wc.cell? ⟨gb301,8,none⟩ = some (.int .i64 a0_8):=(bC BK301.out 8).trans rfl
     have hcz32_9 : wc.cell? ⟨gb301,9,none⟩ = some (.slice A0_9 l0_9.length c0_9):=(bC BK301.out 9).trans rfl
     have hcz32_10 : wc.cell? ⟨gb301,10,none⟩ = some (.slice A0_10 l0_10.length c0_10):=(bC BK301.out 10).trans rfl
     have hcz32_11 : wc.cell? ⟨gb301,11,none⟩ = some (.slice A0_11 l0_11.length c0_11):=(bC BK301.out 11).trans rfl
     have hfz32_0:=bF BK301.out 0
     have hfz32_1:=bF BK301.out 1
     have hfz32_2:=bF BK301.out 2
     have hfz32_3:=bF BK301.out 3
     have hfz32_4:=bF BK301.out 4
     have hfz32_5:=bF BK301.out 5
     have hfz32_6:=bF BK301.out 6
     have hfz32_7:=bF BK301.out 7
     have hfz32_8:=bF BK301.out 8
     have hfz32_9:=bF BK301.out 9
     have hfz32_10:=bF BK301.out 10
     have hfz32_11:=bF BK301.out 11
     go_wp2_with (first|(go_at_call 33;(with_reducible refine (gangerref10_out.calls a0_0 1 4 true _ A29.out).mono ?_);rintro e w' ⟨rfl,⟨nd,rfl⟩⟩;(try first|exact ⟨rfl,_,wD _ _ _⟩|exact ⟨rfl,_,wE _ _ _ _⟩)))
     repeat (go_quiet (first|(go_at_call 33;(with_reducible refine (gangerref10_out.calls a0_0 1 4 true _ A29.out).mono ?_);rintro e w' ⟨rfl,⟨nd,rfl⟩⟩;(try first|exact ⟨rfl,_,wD _ _ _⟩|exact ⟨rfl,_,wE _ _ _ _⟩)));try go_wp2_with (first|(go_at_call 33;(with_reducible refine (gangerref10_out.calls a0_0 1 4 true _ A29.out).mono ?_);rintro e w' ⟨rfl,⟨nd,rfl⟩⟩;(try first|exact ⟨rfl,_,wD _ _ _⟩|exact ⟨rfl,_,wE _ _ _ _⟩))))
     go_meet
     case rel=>exact ⟨_,(true),(by first|rfl|(simp;done)|(simp [*];done)),H',⟨by have:=HJ1.out;first|omega|exact Nat.le_refl _⟩,⟨by (with_reducible repeat (first|refine bN ?_ _|refine bD ?_|refine bA ?_ _));exact BK301.out⟩,⟨by (with_reducible repeat (first|refine bN ?_ _|refine bD ?_|refine bA ?_ _));exact BK302.out⟩,⟨by repeat (first|(with_reducible first|exact HB.out|apply bL|apply pN|apply bE|refine bS ?_ GE301.out|refine bS ?_ GE302.out)|exact HB.out)⟩⟩
    replace c30:=Bool.eq_false_iff.mpr c30
    subst c30
    have H1 : ((gangerref10_out.f a0_1 1 4294967296).bind fun t309=>(if t309 = true then (gangerref10_Check.j1 kj1 true a0_0 a0_1 a0_2 a0_3 a0_4 a0_5 a0_6 a0_7 a0_8 l0_9 l0_10 l0_11) else ((gangerref10_out.f a0_2 1 1073741824).bind fun t310=>(if t310 = true then (gangerref10_Check.j1 kj1 true a0_0 a0_1 a0_2 a0_3 a0_4 a0_5 a0_6 a0_7 a0_8 l0_9 l0_10 l0_11) else ((gangerref10_out.f a0_3 0 100).bind fun t311=>(gangerref10_Check.j1 kj1 t311 a0_0 a0_1 a0_2 a0_3 a0_4 a0_5 a0_6 a0_7 a0_8 l0_9 l0_10 l0_11)))))) = some r:=by rw [if_neg (show ¬ (false = true) by decide)] at H;exact H
    clear H
    have H:=H1
    clear H1
    replace H:=oB H
    obtain ⟨t309,A330,H⟩:=H
    replace H : (if t309 = true then (gangerref10_Check.j1 kj1 true a0_0 a0_1 a0_2 a0_3 a0_4 a0_5 a0_6 a0_7 a0_8 l0_9 l0_10 l0_11) else ((gangerref10_out.f a0_2 1 1073741824).bind fun t310=>(if t310 = true then (gangerref10_Check.j1 kj1 true a0_0 a0_1 a0_2 a0_3 a0_4 a0_5 a0_6 a0_7 a0_8 l0_9 l0_10 l0_11) else ((gangerref10_out.f a0_3 0 100).bind fun t311=>(gangerref10_Check.j1 kj1 t311 a0_0 a0_1 a0_2 a0_3 a0_4 a0_5 a0_6 a0_7 a0_8 l0_9 l0_10 l0_11))))) = some r:=H
    have A33:=Am A330
    clear A330
    by_cases c34 : t309 = true
    ·subst c34
     have H1 : (gangerref10_Check.j1 kj1 true a0_0 a0_1 a0_2 a0_3 a0_4 a0_5 a0_6 a0_7 a0_8 l0_9 l0_10 l0_11) = some r:=by rw [if_pos rfl] at H;exact H
     clear H
     have H:=H1
     clear H1
     have H':=Am H
     clear H
     have hnb35:=NB301_302.out
     have hnc35:=NB302_301.out
     have hcz36_0 : wc.cell? ⟨gb301,0,none⟩ = some (.int .i64 a0_0):=(bC BK301.out 0).trans rfl
     have hcz36_1 : wc.cell? ⟨gb301,1,none⟩ = some (.int .i64 a0_1):=(bC BK301.out 1).trans rfl
     have hcz36_2 : wc.cell? ⟨gb301,2,none⟩ = some (.int .i64 a0_2):=(bC BK301.out 2).trans rfl
     have hcz36_3 : wc.cell? ⟨gb301,3,none⟩ = some (.int .i64 a0_3):=(bC BK301.out 3).trans rfl
     have hcz36_4 : wc.cell? ⟨gb301,4,none⟩ = some (.int .i64 a0_4):=(bC BK301.out 4).trans rfl
     have hcz36_5 : wc.cell? ⟨gb301,5,none⟩ = some (.int .i64 a0_5):=(bC BK301.out 5).trans rfl
     have hcz36_6 : wc.cell? ⟨gb301,6,none⟩ = some (.int .i64 a0_6):=(bC BK301.out 6).trans rfl
     have hcz36_7 : wc.cell? ⟨gb301,7,none⟩ = some (.int .i64 a0_7):=(bC BK301.out 7).trans rfl
     have hcz36_8 : wc.cell? ⟨gb301,8,none⟩ = some (.int .i64 a0_8):=(bC BK301.out 8).trans rfl
     have hcz36_9 : wc.cell? ⟨gb301,9,none⟩ = some (.slice A0_9 l0_9.length c0_9):=(bC BK301.out 9).trans rfl
     have hcz36_10 : wc.cell? ⟨gb301,10,none⟩ = some (.slice A0_10 l0_10.length c0_10):=(bC BK301.out 10).trans rfl
     have hcz36_11 : wc.cell? ⟨gb301,11,none⟩ = some (.slice A0_11 l0_11.length c0_11):=(bC BK301.out 11).trans rfl
     have hfz36_0:=bF BK301.out 0
     have hfz36_1:=bF BK301.out 1
     have hfz36_2:=bF BK301.out 2
     have hfz36_3:=bF BK301.out 3
     have hfz36_4:=bF BK301.out 4
     have hfz36_5:=bF BK301.out 5
     have hfz36_6:=bF BK301.out 6
     have hfz36_7:=bF BK301.out 7
     have hfz36_8:=bF BK301.out 8
     have hfz36_9:=bF BK301.out 9
     have hfz36_10:=bF BK301.out 10
     have hfz36_11:=bF BK301.out 11
     go_wp2_with (first|(go_at_call 33;(with_reducible refine (gangerref10_out.calls a0_0 1 4 false _ A29.out).mono ?_);rintro e w' ⟨rfl,⟨nd,rfl⟩⟩;(try first|exact ⟨rfl,_,wD _ _ _⟩|exact ⟨rfl,_,wE _ _ _ _⟩))|(go_at_call 33;(with_reducible refine (gangerref10_out.calls a0_1 1 4294967296 true _ A33.out).mono ?_);rintro e w' ⟨rfl,⟨nd,rfl⟩⟩;(try first|exact ⟨rfl,_,wD _ _ _⟩|exact ⟨rfl,_,wE _ _ _ _⟩)))
     repeat (go_quiet (first|(go_at_call 33;(with_reducible refine (gangerref10_out.calls a0_0 1 4 false _ A29.out).mono ?_);rintro e w' ⟨rfl,⟨nd,rfl⟩⟩;(try first|exact ⟨rfl,_,wD _ _ _⟩|exact ⟨rfl,_,wE _ _ _ _⟩))|(go_at_call 33;(with_reducible refine (gangerref10_out.calls a0_1 1 4294967296 true _ A33.out).mono ?_);rintro e w' ⟨rfl,⟨nd,rfl⟩⟩;(try first|exact ⟨rfl,_,wD _ _ _⟩|exact ⟨rfl,_,wE _ _ _ _⟩)));try go_wp2_with (first|(go_at_call 33;(with_reducible refine (gangerref10_out.calls a0_0 1 4 false _ A29.out).mono ?_);rintro e w' ⟨rfl,⟨nd,rfl⟩⟩;(try first|exact ⟨rfl,_,wD _ _ _⟩|exact ⟨rfl,_,wE _ _ _ _⟩))|(go_at_call 33;(with_reducible refine (gangerref10_out.calls a0_1 1 4294967296 true _ A33.out).mono ?_);rintro e w' ⟨rfl,⟨nd,rfl⟩⟩;(try first|exact ⟨rfl,_,wD _ _ _⟩|exact ⟨rfl,_,wE _ _ _ _⟩))))
     go_meet
     case rel=>exact ⟨_,(true),(by first|rfl|(simp;done)|(simp [*];done)),H',⟨by have:=HJ1.out;first|omega|exact Nat.le_refl _⟩,⟨by (with_reducible repeat (first|refine bN ?_ _|refine bD ?_|refine bA ?_ _));exact BK301.out⟩,⟨by (with_reducible repeat (first|refine bN ?_ _|refine bD ?_|refine bA ?_ _));exact BK302.out⟩,⟨by repeat (first|(with_reducible first|exact HB.out|apply bL|apply pN|apply bE|refine bS ?_ GE301.out|refine bS ?_ GE302.out)|exact HB.out)⟩⟩
    replace c34:=Bool.eq_false_iff.mpr c34
    subst c34
    have H1 : ((gangerref10_out.f a0_2 1 1073741824).bind fun t310=>(if t310 = true then (gangerref10_Check.j1 kj1 true a0_0 a0_1 a0_2 a0_3 a0_4 a0_5 a0_6 a0_7 a0_8 l0_9 l0_10 l0_11) else ((gangerref10_out.f a0_3 0 100).bind fun t311=>(gangerref10_Check.j1 kj1 t311 a0_0 a0_1 a0_2 a0_3 a0_4 a0_5 a0_6 a0_7 a0_8 l0_9 l0_10 l0_11)))) = some r:=by rw [if_neg (show ¬ (false = true) by decide)] at H;exact H
    clear H
    have H:=H1
    clear H1
    replace H:=oB H
    obtain ⟨t310,A370,H⟩:=H
    replace H : (if t310 = true then (gangerref10_Check.j1 kj1 true a0_0 a0_1 a0_2 a0_3 a0_4 a0_5 a0_6 a0_7 a0_8 l0_9 l0_10 l0_11) else ((gangerref10_out.f a0_3 0 100).bind fun t311=>(gangerref10_Check.j1 kj1 t311 a0_0 a0_1 a0_2 a0_3 a0_4 a0_5 a0_6 a0_7 a0_8 l0_9 l0_10 l0_11))) = some r:=H
    have A37:=Am A370
    clear A370
    by_cases c38 : t310 = true
    ·subst c38
     have H1 : (gangerref10_Check.j1 kj1 true a0_0 a0_1 a0_2 a0_3 a0_4 a0_5 a0_6 a0_7 a0_8 l0_9 l0_10 l0_11) = some r:=by rw [if_pos rfl] at H;exact H
     clear H
     have H:=H1
     clear H1
     have H':=Am H
     clear H
     have hnb39:=NB301_302.out
     have hnc39:=NB302_301.out
     have hcz40_0 : wc.cell? ⟨gb301,0,none⟩ = some (.int .i64 a0_0):=(bC BK301.out 0).trans rfl
     have hcz40_1 : wc.cell? ⟨gb301,1,none⟩ = some (.int .i64 a0_1):=(bC BK301.out 1).trans rfl
     have hcz40_2 : wc.cell? ⟨gb301,2,none⟩ = some (.int .i64 a0_2):=(bC BK301.out 2).trans rfl
     have hcz40_3 : wc.cell? ⟨gb301,3,none⟩ = some (.int .i64 a0_3):=(bC BK301.out 3).trans rfl
     have hcz40_4 : wc.cell? ⟨gb301,4,none⟩ = some (.int .i64 a0_4):=(bC BK301.out 4).trans rfl
     have hcz40_5 : wc.cell? ⟨gb301,5,none⟩ = some (.int .i64 a0_5):=(bC BK301.out 5).trans rfl
     have hcz40_6 : wc.cell? ⟨gb301,6,none⟩ = some (.int .i64 a0_6):=(bC BK301.out 6).trans rfl
     have hcz40_7 : wc.cell? ⟨gb301,7,none⟩ = some (.int .i64 a0_7):=(bC BK301.out 7).trans rfl
     have hcz40_8 : wc.cell? ⟨gb301,8,none⟩ = some (.int .i64 a0_8):=(bC BK301.out 8).trans rfl
     have hcz40_9 : wc.cell? ⟨gb301,9,none⟩ = some (.slice A0_9 l0_9.length c0_9):=(bC BK301.out 9).trans rfl
     have hcz40_10 : wc.cell? ⟨gb301,10,none⟩ = some (.slice A0_10 l0_10.length c0_10):=(bC BK301.out 10).trans rfl
     have hcz40_11 : wc.cell? ⟨gb301,11,none⟩ = some (.slice A0_11 l0_11.length c0_11):=(bC BK301.out 11).trans rfl
     have hfz40_0:=bF BK301.out 0
     have hfz40_1:=bF BK301.out 1
     have hfz40_2:=bF BK301.out 2
     have hfz40_3:=bF BK301.out 3
     have hfz40_4:=bF BK301.out 4
     have hfz40_5:=bF BK301.out 5
     have hfz40_6:=bF BK301.out 6
     have hfz40_7:=bF BK301.out 7
     have hfz40_8:=bF BK301.out 8
     have hfz40_9:=bF BK301.out 9
     have hfz40_10:=bF BK301.out 10
     have hfz40_11:=bF BK301.out 11
     go_wp2_with (first|(go_at_call 33;(with_reducible refine (gangerref10_out.calls a0_0 1 4 false _ A29.out).mono ?_);rintro e w' ⟨rfl,⟨nd,rfl⟩⟩;(try first|exact ⟨rfl,_,wD _ _ _⟩|exact ⟨rfl,_,wE _ _ _ _⟩))|(go_at_call 33;(with_reducible refine (gangerref10_out.calls a0_1 1 4294967296 false _ A33.out).mono ?_);rintro e w' ⟨rfl,⟨nd,rfl⟩⟩;(try first|exact ⟨rfl,_,wD _ _ _⟩|exact ⟨rfl,_,wE _ _ _ _⟩))|(go_at_call 33;(with_reducible refine (gangerref10_out.calls a0_2 1 1073741824 true _ A37.out).mono ?_);rintro e w' ⟨rfl,⟨nd,rfl⟩⟩;(try first|exact ⟨rfl,_,wD _ _ _⟩|exact ⟨rfl,_,wE _ _ _ _⟩)))
     repeat (go_quiet (first|(go_at_call 33;(with_reducible refine (gangerref10_out.calls a0_0 1 4 false _ A29.out).mono ?_);rintro e w' ⟨rfl,⟨nd,rfl⟩⟩;(try first|exact ⟨rfl,_,wD _ _ _⟩|exact ⟨rfl,_,wE _ _ _ _⟩))|(go_at_call 33;(with_reducible refine (gangerref10_out.calls a0_1 1 4294967296 false _ A33.out).mono ?_);rintro e w' ⟨rfl,⟨nd,rfl⟩⟩;(try first|exact ⟨rfl,_,wD _ _ _⟩|exact ⟨rfl,_,wE _ _ _ _⟩))|(go_at_call 33;(with_reducible refine (gangerref10_out.calls a0_2 1 1073741824 true _ A37.out).mono ?_);rintro e w' ⟨rfl,⟨nd,rfl⟩⟩;(try first|exact ⟨rfl,_,wD _ _ _⟩|exact ⟨rfl,_,wE _ _ _ _⟩)));try go_wp2_with (first|(go_at_call 33;(with_reducible refine (gangerref10_out.calls a0_0 1 4 false _ A29.out).mono ?_);rintro e w' ⟨rfl,⟨nd,rfl⟩⟩;(try first|exact ⟨rfl,_,wD _ _ _⟩|exact ⟨rfl,_,wE _ _ _ _⟩))|(go_at_call 33;(with_reducible refine (gangerref10_out.calls a0_1 1 4294967296 false _ A33.out).mono ?_);rintro e w' ⟨rfl,⟨nd,rfl⟩⟩;(try first|exact ⟨rfl,_,wD _ _ _⟩|exact ⟨rfl,_,wE _ _ _ _⟩))|(go_at_call 33;(with_reducible refine (gangerref10_out.calls a0_2 1 1073741824 true _ A37.out).mono ?_);rintro e w' ⟨rfl,⟨nd,rfl⟩⟩;(try first|exact ⟨rfl,_,wD _ _ _⟩|exact ⟨rfl,_,wE _ _ _ _⟩))))
     go_meet
     case rel=>exact ⟨_,(true),(by first|rfl|(simp;done)|(simp [*];done)),H',⟨by have:=HJ1.out;first|omega|exact Nat.le_refl _⟩,⟨by (with_reducible repeat (first|refine bN ?_ _|refine bD ?_|refine bA ?_ _));exact BK301.out⟩,⟨by (with_reducible repeat (first|refine bN ?_ _|refine bD ?_|refine bA ?_ _));exact BK302.out⟩,⟨by repeat (first|(with_reducible first|exact HB.out|apply bL|apply pN|apply bE|refine bS ?_ GE301.out|refine bS ?_ GE302.out)|exact HB.out)⟩⟩
    replace c38:=Bool.eq_false_iff.mpr c38
    subst c38
    have H1 : ((gangerref10_out.f a0_3 0 100).bind fun t311=>(gangerref10_Check.j1 kj1 t311 a0_0 a0_1 a0_2 a0_3 a0_4 a0_5 a0_6 a0_7 a0_8 l0_9 l0_10 l0_11)) = some r:=by rw [if_neg (show ¬ (false = true) by decide)] at H;exact H
    clear H
    have H:=H1
    clear H1
    replace H:=oB H
    obtain ⟨t311,A410,H⟩:=H
    replace H : (gangerref10_Check.j1 kj1 t311 a0_0 a0_1 a0_2 a0_3 a0_4 a0_5 a0_6 a0_7 a0_8 l0_9 l0_10 l0_11) = some r:=H
    have A41:=Am A410
    clear A410
    have H':=Am H
    clear H
    have hnb42:=NB301_302.out
    have hnc42:=NB302_301.out
    have hcz43_0 : wc.cell? ⟨gb301,0,none⟩ = some (.int .i64 a0_0):=(bC BK301.out 0).trans rfl
    have hcz43_1 : wc.cell? ⟨gb301,1,none⟩ = some (.int .i64 a0_1):=(bC BK301.out 1).trans rfl
    have hcz43_2 : wc.cell? ⟨gb301,2,none⟩ = some (.int .i64 a0_2):=(bC BK301.out 2).trans rfl
    have hcz43_3 : wc.cell? ⟨gb301,3,none⟩ = some (.int .i64 a0_3):=(bC BK301.out 3).trans rfl
    have hcz43_4 : wc.cell? ⟨gb301,4,none⟩ = some (.int .i64 a0_4):=(bC BK301.out 4).trans rfl
    have hcz43_5 : wc.cell? ⟨gb301,5,none⟩ = some (.int .i64 a0_5):=(bC BK301.out 5).trans rfl
    have hcz43_6 : wc.cell? ⟨gb301,6,none⟩ = some (.int .i64 a0_6):=(bC BK301.out 6).trans rfl
    have hcz43_7 : wc.cell? ⟨gb301,7,none⟩ = some (.int .i64 a0_7):=(bC BK301.out 7).trans rfl
    have hcz43_8 : wc.cell? ⟨gb301,8,none⟩ = some (.int .i64 a0_8):=(bC BK301.out 8).trans rfl
    have hcz43_9 : wc.cell? ⟨gb301,9,none⟩ = some (.slice A0_9 l0_9.length c0_9):=(bC BK301.out 9).trans rfl
    have hcz43_10 : wc.cell? ⟨gb301,10,none⟩ = some (.slice A0_10 l0_10.length c0_10):=(bC BK301.out 10).trans rfl
    have hcz43_11 : wc.cell? ⟨gb301,11,none⟩ = some (.slice A0_11 l0_11.length c0_11):=(bC BK301.out 11).trans rfl
    have hfz43_0:=bF BK301.out 0
    have hfz43_1:=bF BK301.out 1
    have hfz43_2:=bF BK301.out 2
    have hfz43_3:=bF BK301.out 3
    have hfz43_4:=bF BK301.out 4
    have hfz43_5:=bF BK301.out 5
    have hfz43_6:=bF BK301.out 6
    have hfz43_7:=bF BK301.out 7
    have hfz43_8:=bF BK301.out 8
    have hfz43_9:=bF BK301.out 9
    have hfz43_10:=bF BK301.out 10
    have hfz43_11:=bF BK301.out 11
    go_wp2_with (first|(go_at_call 33;(with_reducible refine (gangerref10_out.calls a0_0 1 4 false _ A29.out).mono ?_);rintro e w' ⟨rfl,⟨nd,rfl⟩⟩;(try first|exact ⟨rfl,_,wD _ _ _⟩|exact ⟨rfl,_,wE _ _ _ _⟩))|(go_at_call 33;(with_reducible refine (gangerref10_out.calls a0_1 1 4294967296 false _ A33.out).mono ?_);rintro e w' ⟨rfl,⟨nd,rfl⟩⟩;(try first|exact ⟨rfl,_,wD _ _ _⟩|exact ⟨rfl,_,wE _ _ _ _⟩))|(go_at_call 33;(with_reducible refine (gangerref10_out.calls a0_2 1 1073741824 false _ A37.out).mono ?_);rintro e w' ⟨rfl,⟨nd,rfl⟩⟩;(try first|exact ⟨rfl,_,wD _ _ _⟩|exact ⟨rfl,_,wE _ _ _ _⟩))|(go_at_call 33;(with_reducible refine (gangerref10_out.calls a0_3 0 100 t311 _ A41.out).mono ?_);rintro e w' ⟨rfl,⟨nd,rfl⟩⟩;(try first|exact ⟨rfl,_,wD _ _ _⟩|exact ⟨rfl,_,wE _ _ _ _⟩)))
    repeat (go_quiet (first|(go_at_call 33;(with_reducible refine (gangerref10_out.calls a0_0 1 4 false _ A29.out).mono ?_);rintro e w' ⟨rfl,⟨nd,rfl⟩⟩;(try first|exact ⟨rfl,_,wD _ _ _⟩|exact ⟨rfl,_,wE _ _ _ _⟩))|(go_at_call 33;(with_reducible refine (gangerref10_out.calls a0_1 1 4294967296 false _ A33.out).mono ?_);rintro e w' ⟨rfl,⟨nd,rfl⟩⟩;(try first|exact ⟨rfl,_,wD _ _ _⟩|exact ⟨rfl,_,wE _ _ _ _⟩))|(go_at_call 33;(with_reducible refine (gangerref10_out.calls a0_2 1 1073741824 false _ A37.out).mono ?_);rintro e w' ⟨rfl,⟨nd,rfl⟩⟩;(try first|exact ⟨rfl,_,wD _ _ _⟩|exact ⟨rfl,_,wE _ _ _ _⟩))|(go_at_call 33;(with_reducible refine (gangerref10_out.calls a0_3 0 100 t311 _ A41.out).mono ?_);rintro e w' ⟨rfl,⟨nd,rfl⟩⟩;(try first|exact ⟨rfl,_,wD _ _ _⟩|exact ⟨rfl,_,wE _ _ _ _⟩)));try go_wp2_with (first|(go_at_call 33;(with_reducible refine (gangerref10_out.calls a0_0 1 4 false _ A29.out).mono ?_);rintro e w' ⟨rfl,⟨nd,rfl⟩⟩;(try first|exact ⟨rfl,_,wD _ _ _⟩|exact ⟨rfl,_,wE _ _ _ _⟩))|(go_at_call 33;(with_reducible refine (gangerref10_out.calls a0_1 1 4294967296 false _ A33.out).mono ?_);rintro e w' ⟨rfl,⟨nd,rfl⟩⟩;(try first|exact ⟨rfl,_,wD _ _ _⟩|exact ⟨rfl,_,wE _ _ _ _⟩))|(go_at_call 33;(with_reducible refine (gangerref10_out.calls a0_2 1 1073741824 false _ A37.out).mono ?_);rintro e w' ⟨rfl,⟨nd,rfl⟩⟩;(try first|exact ⟨rfl,_,wD _ _ _⟩|exact ⟨rfl,_,wE _ _ _ _⟩))|(go_at_call 33;(with_reducible refine (gangerref10_out.calls a0_3 0 100 t311 _ A41.out).mono ?_);rintro e w' ⟨rfl,⟨nd,rfl⟩⟩;(try first|exact ⟨rfl,_,wD _ _ _⟩|exact ⟨rfl,_,wE _ _ _ _⟩))))
    go_meet
    case rel=>exact ⟨_,(t311),(by first|rfl|(simp;done)|(simp [*];done)),H',⟨by have:=HJ1.out;first|omega|exact Nat.le_refl _⟩,⟨by (with_reducible repeat (first|refine bN ?_ _|refine bD ?_|refine bA ?_ _));exact BK301.out⟩,⟨by (with_reducible repeat (first|refine bN ?_ _|refine bD ?_|refine bA ?_ _));exact BK302.out⟩,⟨by repeat (first|(with_reducible first|exact HB.out|apply bL|apply pN|apply bE|refine bS ?_ GE301.out|refine bS ?_ GE302.out)|exact HB.out)⟩⟩
   case rest =>
    clear HC28
    obtain ⟨kq,x52_27,rfl,HA,HJ27,BK301,BK302,HB⟩:=hcut
    cases kq with
    | zero=>exact absurd HA.out (by simp [gangerref10_Check.j1])
    | succ kj27 =>
     have H:=HA.out
     clear HA
     simp only [gangerref10_Check.j1] at H
     by_cases c44 : x52_27 = true
     ·subst c44
      have H1 : (some 100) = some r:=by rw [if_pos rfl] at H;exact H
      clear H
      have H:=H1
      clear H1
      obtain rfl:=Option.some.inj H
      go_wp2
      repeat (go_quiet (fail);try go_wp2)
      go_ret
      exact ⟨by first|rfl|(simp [errW_none,errW_some] <;> rfl)|(simp [*,errW_none,errW_some] <;> rfl),by repeat (first|(with_reducible first|exact HB.out|apply bL|apply pN|apply bE|refine bS ?_ GE301.out|refine bS ?_ GE302.out)|exact HB.out)⟩
     replace c44:=Bool.eq_false_iff.mpr c44
     subst c44
     have H1 : ((gangerref10_out.f (l0_9.length : Int) 1 8).bind fun t312=>(if t312 = true then (gangerref10_Check.j2 kj27 true a0_0 a0_1 a0_2 a0_3 a0_4 a0_5 a0_6 a0_7 a0_8 l0_9 l0_10 l0_11) else ((gangerref10_out.f (l0_10.length : Int) 1 8).bind fun t313=>(if t313 = true then (gangerref10_Check.j2 kj27 true a0_0 a0_1 a0_2 a0_3 a0_4 a0_5 a0_6 a0_7 a0_8 l0_9 l0_10 l0_11) else ((gangerref10_out.f (l0_11.length : Int) 1 50).bind fun t314=>(gangerref10_Check.j2 kj27 t314 a0_0 a0_1 a0_2 a0_3 a0_4 a0_5 a0_6 a0_7 a0_8 l0_9 l0_10 l0_11)))))) = some r:=by rw [if_neg (show ¬ (false = true) by decide)] at H;exact H
     clear H
     have H:=H1
     clear H1
     have HC45:=Am H
     clear H
     go_upto_region 6 with (fail)
     repeat (go_quiet (fail);go_upto_region 6 with (fail))
     go_cut [68] (fun v68 wc=>∃ (kq : Nat) (x68_44 : Bool),v68 = .bool x68_44∧Aside0 (gangerref10_Check.j2 kq x68_44 a0_0 a0_1 a0_2 a0_3 a0_4 a0_5 a0_6 a0_7 a0_8 l0_9 l0_10 l0_11 = some r)∧Aside0 (kq≤kj27)∧Aside0 (wc.heap[gb301]? = some (.cells #[.int .i64 a0_0,.int .i64 a0_1,.int .i64 a0_2,.int .i64 a0_3,.int .i64 a0_4,.int .i64 a0_5,.int .i64 a0_6,.int .i64 a0_7,.int .i64 a0_8,(.slice A0_9 l0_9.length c0_9),(.slice A0_10 l0_10.length c0_10),(.slice A0_11 l0_11.length c0_11)] 28 (0,0)))∧Aside0 (wc.heap[gb302]? = some (.cells #[.int .i64 a0_4,.int .i64 a0_5,.int .i64 a0_6,.int .i64 a0_7,.int .i64 a0_8] 23 (0,0)))∧Aside0 (Below w.heap.size w wc))
     case first =>
      have H:=HC45.out
      clear HC45
      replace H:=oB H
      obtain ⟨t312,A460,H⟩:=H
      replace H : (if t312 = true then (gangerref10_Check.j2 kj27 true a0_0 a0_1 a0_2 a0_3 a0_4 a0_5 a0_6 a0_7 a0_8 l0_9 l0_10 l0_11) else ((gangerref10_out.f (l0_10.length : Int) 1 8).bind fun t313=>(if t313 = true then (gangerref10_Check.j2 kj27 true a0_0 a0_1 a0_2 a0_3 a0_4 a0_5 a0_6 a0_7 a0_8 l0_9 l0_10 l0_11) else ((gangerref10_out.f (l0_11.length : Int) 1 50).bind fun t314=>(gangerref10_Check.j2 kj27 t314 a0_0 a0_1 a0_2 a0_3 a0_4 a0_5 a0_6 a0_7 a0_8 l0_9 l0_10 l0_11))))) = some r:=H
      have A46:=Am A460
      clear A460
      by_cases c47 : t312 = true
      ·subst c47
       have H1 : (gangerref10_Check.j2 kj27 true a0_0 a0_1 a0_2 a0_3 a0_4 a0_5 a0_6 a0_7 a0_8 l0_9 l0_10 l0_11) = some r:=by rw [if_pos rfl] at H;exact H
       clear H
       have H:=H1
       clear H1
       have H':=Am H
       clear H
       have hnb48:=NB301_302.out
       have hnc48:=NB302_301.out
       have hcz49_0 : wc.cell? ⟨gb301,0,none⟩ = some (.int .i64 a0_0):=(bC BK301.out 0).trans rfl
       have hcz49_1 : wc.cell? ⟨gb301,1,none⟩ = some (.int .i64 a0_1):=(bC BK301.out 1).trans rfl
       have hcz49_2 : wc.cell? ⟨gb301,2,none⟩ = some (.int .i64 a0_2):=(bC BK301.out 2).trans rfl
       have hcz49_3 : wc.cell? ⟨gb301,3,none⟩ = some (.int .i64 a0_3):=(bC BK301.out 3).trans rfl
       have hcz49_4 : wc.cell? ⟨gb301,4,none⟩ = some (.int .i64 a0_4):=(bC BK301.out 4).trans rfl
       have hcz49_5 : wc.cell? ⟨gb301,5,none⟩ = some (.int .i64 a0_5):=(bC BK301.out 5).trans rfl
       have hcz49_6 : wc.cell? ⟨gb301,6,none⟩ = some (.int .i64 a0_6):=(bC BK301.out 6).trans rfl
       have hcz49_7 : wc.cell? ⟨gb301,7,none⟩ = some (.int .i64 a0_7):=(bC BK301.out 7).trans rfl
       have hcz49_8 : wc.cell? ⟨gb301,8,none⟩ = some (.int .i64 a0_8):=(bC BK301.out 8).trans rfl
       have hcz49_9 : wc.cell? ⟨gb301,9,none⟩ = some (.slice A0_9 l0_9.length c0_9):=(bC BK301.out 9).trans rfl
       have hcz49_10 : wc.cell? ⟨gb301,10,none⟩ = some (.slice A0_10 l0_10.length c0_10):=(bC BK301.out 10).trans rfl
       have hcz49_11 : wc.cell? ⟨gb301,11,none⟩ = some (.slice A0_11 l0_11.length c0_11):=(bC BK301.out 11).trans rfl
       have hfz49_0:=bF BK301.out 0
       have hfz49_1:=bF BK301.out 1
       have hfz49_2:=bF BK301.out 2
       have hfz49_3:=bF BK301.out 3
       have hfz49_4:=bF BK301.out 4
       have hfz49_5:=bF BK301.out 5
       have hfz49_6:=bF BK301.out 6
       have hfz49_7:=bF BK301.out 7
       have hfz49_8:=bF BK301.out 8
       have hfz49_9:=bF BK301.out 9
       have hfz49_10:=bF BK301.out 10
       have hfz49_11:=bF BK301.out 11
       go_wp2_with (first|(go_at_call 33;(with_reducible refine (gangerref10_out.calls (l0_9.length : Int) 1 8 true _ A46.out).mono ?_);rintro e w' ⟨rfl,⟨nd,rfl⟩⟩;(try first|exact ⟨rfl,_,wD _ _ _⟩|exact ⟨rfl,_,wE _ _ _ _⟩)))
       repeat (go_quiet (first|(go_at_call 33;(with_reducible refine (gangerref10_out.calls (l0_9.length : Int) 1 8 true _ A46.out).mono ?_);rintro e w' ⟨rfl,⟨nd,rfl⟩⟩;(try first|exact ⟨rfl,_,wD _ _ _⟩|exact ⟨rfl,_,wE _ _ _ _⟩)));try go_wp2_with (first|(go_at_call 33;(with_reducible refine (gangerref10_out.calls (l0_9.length : Int) 1 8 true _ A46.out).mono ?_);rintro e w' ⟨rfl,⟨nd,rfl⟩⟩;(try first|exact ⟨rfl,_,wD _ _ _⟩|exact ⟨rfl,_,wE _ _ _ _⟩))))
       go_meet
       case rel=>exact ⟨_,(true),(by first|rfl|(simp;done)|(simp [*];done)),H',⟨by have:=HJ1.out;have:=HJ27.out;first|omega|exact Nat.le_refl _⟩,⟨by (with_reducible repeat (first|refine bN ?_ _|refine bD ?_|refine bA ?_ _));exact BK301.out⟩,⟨by (with_reducible repeat (first|refine bN ?_ _|refine bD ?_|refine bA ?_ _));exact BK302.out⟩,⟨by repeat (first|(with_reducible first|exact HB.out|apply bL|apply pN|apply bE|refine bS ?_ GE301.out|refine bS ?_ GE302.out)|exact HB.out)⟩⟩
      replace c47:=Bool.eq_false_iff.mpr c47
      subst c47
      have H1 : ((gangerref10_out.f (l0_10.length : Int) 1 8).bind fun t313=>(if t313 = true then (gangerref10_Check.j2 kj27 true a0_0 a0_1 a0_2 a0_3 a0_4 a0_5 a0_6 a0_7 a0_8 l0_9 l0_10 l0_11) else ((gangerref10_out.f (l0_11.length : Int) 1 50).bind fun t314=>(gangerref10_Check.j2 kj27 t314 a0_0 a0_1 a0_2 a0_3 a0_4 a0_5 a0_6 a0_7 a0_8 l0_9 l0_10 l0_11)))) = some r:=by rw [if_neg (show ¬ (false = true) by decide)] at H;exact H
      clear H
      have H:=H1
      clear H1
      replace H:=oB H
      obtain ⟨t313,A500,H⟩:=H
      replace H : (if t313 = true then (gangerref10_Check.j2 kj27 true a0_0 a0_1 a0_2 a0_3 a0_4 a0_5 a0_6 a0_7 a0_8 l0_9 l0_10 l0_11) else ((gangerref10_out.f (l0_11.length : Int) 1 50).bind fun t314=>(gangerref10_Check.j2 kj27 t314 a0_0 a0_1 a0_2 a0_3 a0_4 a0_5 a0_6 a0_7 a0_8 l0_9 l0_10 l0_11))) = some r:=H
      have A50:=Am A500
      clear A500
      by_cases c51 : t313 = true
      ·subst c51
       have H1 : (gangerref10_Check.j2 kj27 true a0_0 a0_1 a0_2 a0_3 a0_4 a0_5 a0_6 a0_7 a0_8 l0_9 l0_10 l0_11) = some r:=by rw [if_pos rfl] at H;exact H
       clear H
       have H:=H1
       clear H1
       have H':=Am H
       clear H
       have hnb52:=NB301_302.out
       have hnc52:=NB302_301.out
       have hcz53_0 : wc.cell? ⟨gb301,0,none⟩ = some (.int .i64 a0_0):=(bC BK301.out 0).trans rfl
       have hcz53_1 : wc.cell? ⟨gb301,1,none⟩ = some (.int .i64 a0_1):=(bC BK301.out 1).trans rfl
       have hcz53_2 : wc.cell? ⟨gb301,2,none⟩ = some (.int .i64 a0_2):=(bC BK301.out 2).trans rfl
       have hcz53_3 : wc.cell? ⟨gb301,3,none⟩ = some (.int .i64 a0_3):=(bC BK301.out 3).trans rfl
       have hcz53_4 : wc.cell? ⟨gb301,4,none⟩ = some (.int .i64 a0_4):=(bC BK301.out 4).trans rfl
       have hcz53_5 : wc.cell? ⟨gb301,5,none⟩ = some (.int .i64 a0_5):=(bC BK301.out 5).trans rfl
       have hcz53_6 : wc.cell? ⟨gb301,6,none⟩ = some (.int .i64 a0_6):=(bC BK301.out 6).trans rfl
       have hcz53_7 : wc.cell? ⟨gb301,7,none⟩ = some (.int .i64 a0_7):=(bC BK301.out 7).trans rfl
       have hcz53_8 : wc.cell? ⟨gb301,8,none⟩ = some (.int .i64 a0_8):=(bC BK301.out 8).trans rfl
       have hcz53_9 : wc.cell? ⟨gb301,9,none⟩ = some (.slice A0_9 l0_9.length c0_9):=(bC BK301.out 9).trans rfl
       have hcz53_10 : wc.cell? ⟨gb301,10,none⟩ = some (.slice A0_10 l0_10.length c0_10):=(bC BK301.out 10).trans rfl
       have hcz53_11 : wc.cell? ⟨gb301,11,none⟩ = some (.slice A0_11 l0_11.length c0_11):=(bC BK301.out 11).trans rfl
       have hfz53_0:=bF BK301.out 0
       have hfz53_1:=bF BK301.out 1
       have hfz53_2:=bF BK301.out 2
       have hfz53_3:=bF BK301.out 3
       have hfz53_4:=bF BK301.out 4
       have hfz53_5:=bF BK301.out 5
       have hfz53_6:=bF BK301.out 6
       have hfz53_7:=bF BK301.out 7
       have hfz53_8:=bF BK301.out 8
       have hfz53_9:=bF BK301.out 9
       have hfz53_10:=bF BK301.out 10
       have hfz53_11:=bF BK301.out 11
       go_wp2_with (first|(go_at_call 33;(with_reducible refine (gangerref10_out.calls (l0_9.length : Int) 1 8 false _ A46.out).mono ?_);rintro e w' ⟨rfl,⟨nd,rfl⟩⟩;(try first|exact ⟨rfl,_,wD _ _ _⟩|exact ⟨rfl,_,wE _ _ _ _⟩))|(go_at_call 33;(with_reducible refine (gangerref10_out.calls (l0_10.length : Int) 1 8 true _ A50.out).mono ?_);rintro e w' ⟨rfl,⟨nd,rfl⟩⟩;(try first|exact ⟨rfl,_,wD _ _ _⟩|exact ⟨rfl,_,wE _ _ _ _⟩)))
       repeat (go_quiet (first|(go_at_call 33;(with_reducible refine (gangerref10_out.calls (l0_9.length : Int) 1 8 false _ A46.out).mono ?_);rintro e w' ⟨rfl,⟨nd,rfl⟩⟩;(try first|exact ⟨rfl,_,wD _ _ _⟩|exact ⟨rfl,_,wE _ _ _ _⟩))|(go_at_call 33;(with_reducible refine (gangerref10_out.calls (l0_10.length : Int) 1 8 true _ A50.out).mono ?_);rintro e w' ⟨rfl,⟨nd,rfl⟩⟩;(try first|exact ⟨rfl,_,wD _ _ _⟩|exact ⟨rfl,_,wE _ _ _ _⟩)));try go_wp2_with (first|(go_at_call 33;(with_reducible refine (gangerref10_out.calls (l0_9.length : Int) 1 8 false _ A46.out).mono ?_);rintro e w' ⟨rfl,⟨nd,rfl⟩⟩;(try first|exact ⟨rfl,_,wD _ _ _⟩|exact ⟨rfl,_,wE _ _ _ _⟩))|(go_at_call 33;(with_reducible refine (gangerref10_out.calls (l0_10.length : Int) 1 8 true _ A50.out).mono ?_);rintro e w' ⟨rfl,⟨nd,rfl⟩⟩;(try first|exact ⟨rfl,_,wD _ _ _⟩|exact ⟨rfl,_,wE _ _ _ _⟩))))
       go_meet
       case rel=>exact ⟨_,(true),(by first|rfl|(simp;done)|(simp [*];done)),H',⟨by have:=HJ1.out;have:=HJ27.out;first|omega|exact Nat.le_refl _⟩,⟨by (with_reducible repeat (first|refine bN ?_ _|refine bD ?_|refine bA ?_ _));exact BK301.out⟩,⟨by (with_reducible repeat (first|refine bN ?_ _|refine bD ?_|refine bA ?_ _));exact BK302.out⟩,⟨by repeat (first|(with_reducible first|exact HB.out|apply bL|apply pN|apply bE|refine bS ?_ GE301.out|refine bS ?_ GE302.out)|exact HB.out)⟩⟩
      replace c51:=Bool.eq_false_iff.mpr c51
      subst c51
      have H1 : ((gangerref10_out.f (l0_11.length : Int) 1 50).bind fun t314=>(gangerref10_Check.j2 kj27 t314 a0_0 a0_1 a0_2 a0_3 a0_4 a0_5 a0_6 a0_7 a0_8 l0_9 l0_10 l0_11)) = some r:=by rw [if_neg (show ¬ (false = true) by decide)] at H;exact H
      clear H
      have H:=H1
      clear H1
      replace H:=oB H
      obtain ⟨t314,A540,H⟩:=H
      replace H : (gangerref10_Check.j2 kj27 t314 a0_0 a0_1 a0_2 a0_3 a0_4 a0_5 a0_6 a0_7 a0_8 l0_9 l0_10 l0_11) = some r:=H
      have A54:=Am A540
      clear A540
      have H':=Am H
      clear H
      have hnb55:=NB301_302.out
      have hnc55:=NB302_301.out
      have hcz56_0 : wc.cell? ⟨gb301,0,none⟩ = some (.int .i64 a0_0):=(bC BK301.out 0).trans rfl
      have hcz56_1 : wc.cell? ⟨gb301,1,none⟩ = some (.int .i64 a0_1):=(bC BK301.out 1).trans rfl
      have hcz56_2 : wc.cell? ⟨gb301,2,none⟩ = some (.int .i64 a0_2):=(bC BK301.out 2).trans rfl
      have hcz56_3 : wc.cell? ⟨gb301,3,none⟩ = some (.int .i64 a0_3):=(bC BK301.out 3).trans rfl
      have hcz56_4 : wc.cell? ⟨gb301,4,none⟩ = some (.int .i64 a0_4):=(bC BK301.out 4).trans rfl
      have hcz56_5 : wc.cell? ⟨gb301,5,none⟩ = some (.int .i64 a0_5):=(bC BK301.out 5).trans rfl
      have hcz56_6 : wc.cell? ⟨gb301,6,none⟩ = some (.int .i64 a0_6):=(bC BK301.out 6).trans rfl
      have hcz56_7 : wc.cell? ⟨gb301,7,none⟩ = some (.int .i64 a0_7):=(bC BK301.out 7).trans rfl
      have hcz56_8 : wc.cell? ⟨gb301,8,none⟩ = some (.int .i64 a0_8):=(bC BK301.out 8).trans rfl
      have hcz56_9 : wc.cell? ⟨gb301,9,none⟩ = some (.slice A0_9 l0_9.length c0_9):=(bC BK301.out 9).trans rfl
      have hcz56_10 : wc.cell? ⟨gb301,10,none⟩ = some (.slice A0_10 l0_10.length c0_10):=(bC BK301.out 10).trans rfl
      have hcz56_11 : wc.cell? ⟨gb301,11,none⟩ = some (.slice A0_11 l0_11.length c0_11):=(bC BK301.out 11).trans rfl
      have hfz56_0:=bF BK301.out 0
      have hfz56_1:=bF BK301.out 1
      have hfz56_2:=bF BK301.out 2
      have hfz56_3:=bF BK301.out 3
      have hfz56_4:=bF BK301.out 4
      have hfz56_5:=bF BK301.out 5
      have hfz56_6:=bF BK301.out 6
      have hfz56_7:=bF BK301.out 7
      have hfz56_8:=bF BK301.out 8
      have hfz56_9:=bF BK301.out 9
      have hfz56_10:=bF BK301.out 10
      have hfz56_11:=bF BK301.out 11
      go_wp2_with (first|(go_at_call 33;(with_reducible refine (gangerref10_out.calls (l0_9.length : Int) 1 8 false _ A46.out).mono ?_);rintro e w' ⟨rfl,⟨nd,rfl⟩⟩;(try first|exact ⟨rfl,_,wD _ _ _⟩|exact ⟨rfl,_,wE _ _ _ _⟩))|(go_at_call 33;(with_reducible refine (gangerref10_out.calls (l0_10.length : Int) 1 8 false _ A50.out).mono ?_);rintro e w' ⟨rfl,⟨nd,rfl⟩⟩;(try first|exact ⟨rfl,_,wD _ _ _⟩|exact ⟨rfl,_,wE _ _ _ _⟩))|(go_at_call 33;(with_reducible refine (gangerref10_out.calls (l0_11.length : Int) 1 50 t314 _ A54.out).mono ?_);rintro e w' ⟨rfl,⟨nd,rfl⟩⟩;(try first|exact ⟨rfl,_,wD _ _ _⟩|exact ⟨rfl,_,wE _ _ _ _⟩)))
      repeat (go_quiet (first|(go_at_call 33;(with_reducible refine (gangerref10_out.calls (l0_9.length : Int) 1 8 false _ A46.out).mono ?_);rintro e w' ⟨rfl,⟨nd,rfl⟩⟩;(try first|exact ⟨rfl,_,wD _ _ _⟩|exact ⟨rfl,_,wE _ _ _ _⟩))|(go_at_call 33;(with_reducible refine (gangerref10_out.calls (l0_10.length : Int) 1 8 false _ A50.out).mono ?_);rintro e w' ⟨rfl,⟨nd,rfl⟩⟩;(try first|exact ⟨rfl,_,wD _ _ _⟩|exact ⟨rfl,_,wE _ _ _ _⟩))|(go_at_call 33;(with_reducible refine (gangerref10_out.calls (l0_11.length : Int) 1 50 t314 _ A54.out).mono ?_);rintro e w' ⟨rfl,⟨nd,rfl⟩⟩;(try first|exact ⟨rfl,_,wD _ _ _⟩|exact ⟨rfl,_,wE _ _ _ _⟩)));try go_wp2_with (first|(go_at_call 33;(with_reducible refine (gangerref10_out.calls (l0_9.length : Int) 1 8 false _ A46.out).mono ?_);rintro e w' ⟨rfl,⟨nd,rfl⟩⟩;(try first|exact ⟨rfl,_,wD _ _ _⟩|exact ⟨rfl,_,wE _ _ _ _⟩))|(go_at_call 33;(with_reducible refine (gangerref10_out.calls (l0_10.length : Int) 1 8 false _ A50.out).mono ?_);rintro e w' ⟨rfl,⟨nd,rfl⟩⟩;(try first|exact ⟨rfl,_,wD _ _ _⟩|exact ⟨rfl,_,wE _ _ _ _⟩))|(go_at_call 33;(with_reducible refine (gangerref10_out.calls (l0_11.length : Int) 1 50 t314 _ A54.out).mono ?_);rintro e w' ⟨rfl,⟨nd,rfl⟩⟩;(try first|exact ⟨rfl,_,wD _ _ _⟩|exact ⟨rfl,_,wE _ _ _ _⟩))))
      go_meet
      case rel=>exact ⟨_,(t314),(by first|rfl|(simp;done)|(simp [*];done)),H',⟨by have:=HJ1.out;have:=HJ27.out;first|omega|exact Nat.le_refl _⟩,⟨by (with_reducible repeat (first|refine bN ?_ _|refine bD ?_|refine bA ?_ _));exact BK301.out⟩,⟨by (with_reducible repeat (first|refine bN ?_ _|refine bD ?_|refine bA ?_ _));exact BK302.out⟩,⟨by repeat (first|(with_reducible first|exact HB.out|apply bL|apply pN|apply bE|refine bS ?_ GE301.out|refine bS ?_ GE302.out)|exact HB.out)⟩⟩
     case rest =>
      clear HC45
      obtain ⟨kq,x68_44,rfl,HA,HJ44,BK301,BK302,HB⟩:=hcut
      cases kq with
      | zero=>exact absurd HA.out (by simp [gangerref10_Check.j2])
      | succ kj44 =>
       have H:=HA.out
       clear HA
       simp only [gangerref10_Check.j2] at H
       by_cases c57 : x68_44 = true
       ·subst c57
        have H1 : (some 100) = some r:=by rw [if_pos rfl] at H;exact H
        clear H
        have H:=H1
        clear H1
        obtain rfl:=Option.some.inj H
        go_wp2
        repeat (go_quiet (fail);try go_wp2)
        go_ret
        exact ⟨by first|rfl|(simp [errW_none,errW_some] <;> rfl)|(simp [*,errW_none,errW_some] <;> rfl),by repeat (first|(with_reducible first|exact HB.out|apply bL|apply pN|apply bE|refine bS ?_ GE301.out|refine bS ?_ GE302.out)|exact HB.out)⟩
       replace c57:=Bool.eq_false_iff.mpr c57
       subst c57
       have H1 : (gangerref10_Check.l0 kj44 0 a0_0 a0_1 a0_2 a0_3 a0_4 a0_5 a0_6 a0_7 a0_8 l0_9 l0_10 l0_11) = some r:=by rw [if_neg (show ¬ (false = true) by decide)] at H;exact H
       clear H
       have H:=H1
       clear H1
       have H':=Am H
       clear H
       go_wp2
       repeat (go_quiet (fail);try go_wp2)
       go_loopg [4] kj44 (fun kq v4 w'=>∃ (x4_4 : Int),v4 = .int .i64 x4_4∧Aside0 (gangerref10_Check.l0 kq x4_4 a0_0 a0_1 a0_2 a0_3 a0_4 a0_5 a0_6 a0_7 a0_8 l0_9 l0_10 l0_11 = some r)∧Aside0 (kq≤kj44)∧Aside0 (w'.heap[gb301]? = some (.cells #[.int .i64 a0_0,.int .i64 a0_1,.int .i64 a0_2,.int .i64 a0_3,.int .i64 a0_4,.int .i64 a0_5,.int .i64 a0_6,.int .i64 a0_7,.int .i64 a0_8,(.slice A0_9 l0_9.length c0_9),(.slice A0_10 l0_10.length c0_10),(.slice A0_11 l0_11.length c0_11)] 28 (0,0)))∧Aside0 (w'.heap[gb302]? = some (.cells #[.int .i64 a0_4,.int .i64 a0_5,.int .i64 a0_6,.int .i64 a0_7,.int .i64 a0_8] 23 (0,0)))∧Aside0 (Below w.heap.size w w'))
       case atStart=>exact ⟨(0),(by first|rfl|(simp;done)|(simp [*];done)),H',⟨Nat.le_refl _⟩,⟨by (with_reducible repeat (first|refine bN ?_ _|refine bD ?_|refine bA ?_ _));exact BK301.out⟩,⟨by (with_reducible repeat (first|refine bN ?_ _|refine bD ?_|refine bA ?_ _));exact BK302.out⟩,⟨by repeat (first|(with_reducible first|exact HB.out|apply bL|apply pN|apply bE|refine bS ?_ GE301.out|refine bS ?_ GE302.out)|exact HB.out)⟩⟩
       case round =>
        clear H'
        obtain ⟨x4_4,rfl,HA,HK4,BK301,BK302,HB⟩:=hrel
        cases gk with
        | zero=>exact absurd HA.out (by simp [gangerref10_Check.l0])
        | succ k4 =>
         have H:=HA.out
         clear HA
         simp only [gangerref10_Check.l0] at H
         by_cases c58 : x4_4 < (l0_9.length : Int)
         rotate_left
         ·rw [if_neg c58] at H
          have c58b0 : decide (x4_4 < (l0_9.length : Int)) = false:=decide_eq_false c58
          clear c58
          have H':=Am H
          clear H
          have hnb101:=NB301_302.out
          have hnc101:=NB302_301.out
          have hcz102_0 : wr.cell? ⟨gb301,0,none⟩ = some (.int .i64 a0_0):=(bC BK301.out 0).trans rfl
          have hcz102_1 : wr.cell? ⟨gb301,1,none⟩ = some (.int .i64 a0_1):=(bC BK301.out 1).trans rfl
          have hcz102_2 : wr.cell? ⟨gb301,2,none⟩ = some (.int .i64 a0_2):=(bC BK301.out 2).trans rfl
          have hcz102_3 : wr.cell? ⟨gb301,3,none⟩ = some (.int .i64 a0_3):=(bC BK301.out 3).trans rfl
          have hcz102_4 : wr.cell? ⟨gb301,4,none⟩ = some (.int .i64 a0_4):=(bC BK301.out 4).trans rfl
          have hcz102_5 : wr.cell? ⟨gb301,5,none⟩ = some (.int .i64 a0_5):=(bC BK301.out 5).trans rfl
          have hcz102_6 : wr.cell? ⟨gb301,6,none⟩ = some (.int .i64 a0_6):=(bC BK301.out 6).trans rfl
          have hcz102_7 : wr.cell? ⟨gb301,7,none⟩ = some (.int .i64 a0_7):=(bC BK301.out 7).trans rfl
          have hcz102_8 : wr.cell? ⟨gb301,8,none⟩ = some (.int .i64 a0_8):=(bC BK301.out 8).trans rfl
          have hcz102_9 : wr.cell? ⟨gb301,9,none⟩ = some (.slice A0_9 l0_9.length c0_9):=(bC BK301.out 9).trans rfl
          have hcz102_10 : wr.cell? ⟨gb301,10,none⟩ = some (.slice A0_10 l0_10.length c0_10):=(bC BK301.out 10).trans rfl
          have hcz102_11 : wr.cell? ⟨gb301,11,none⟩ = some (.slice A0_11 l0_11.length c0_11):=(bC BK301.out 11).trans rfl
          have hfz102_0:=bF BK301.out 0
          have hfz102_1:=bF BK301.out 1
          have hfz102_2:=bF BK301.out 2
          have hfz102_3:=bF BK301.out 3
          have hfz102_4:=bF BK301.out 4
          have hfz102_5:=bF BK301.out 5
          have hfz102_6:=bF BK301.out 6
          have hfz102_7:=bF BK301.out 7
          have hfz102_8:=bF BK301.out 8
          have hfz102_9:=bF BK301.out 9
          have hfz102_10:=bF BK301.out 10
          have hfz102_11:=bF BK301.out 11
          go_wp2
          repeat (go_quiet (fail);try go_wp2)
          go_loopg [7] k4 (fun kq v7 w'=>∃ (x7_5 : Int),v7 = .int .i64 x7_5∧Aside0 (gangerref10_Check.l2 kq x7_5 a0_0 a0_1 a0_2 a0_3 a0_4 a0_5 a0_6 a0_7 a0_8 l0_9 l0_10 l0_11 = some r)∧Aside0 (kq≤k4)∧Aside0 (w'.heap[gb301]? = some (.cells #[.int .i64 a0_0,.int .i64 a0_1,.int .i64 a0_2,.int .i64 a0_3,.int .i64 a0_4,.int .i64 a0_5,.int .i64 a0_6,.int .i64 a0_7,.int .i64 a0_8,(.slice A0_9 l0_9.length c0_9),(.slice A0_10 l0_10.length c0_10),(.slice A0_11 l0_11.length c0_11)] 28 (0,0)))∧Aside0 (w'.heap[gb302]? = some (.cells #[.int .i64 a0_4,.int .i64 a0_5,.int .i64 a0_6,.int .i64 a0_7,.int .i64 a0_8] 23 (0,0)))∧Aside0 (Below w.heap.size w w'))
          case atStart=>exact ⟨(0),(by first|rfl|(simp;done)|(simp [*];done)),H',⟨Nat.le_refl _⟩,⟨by (with_reducible repeat (first|refine bN ?_ _|refine bD ?_|refine bA ?_ _));exact BK301.out⟩,⟨by (with_reducible repeat (first|refine bN ?_ _|refine bD ?_|refine bA ?_ _));exact BK302.out⟩,⟨by repeat (first|(with_reducible first|exact HB.out|apply bL|apply pN|apply bE|refine bS ?_ GE301.out|refine bS ?_ GE302.out)|exact HB.out)⟩⟩
          case round =>
           clear H'
           obtain ⟨x7_5,rfl,HA,HK5,BK301,BK302,HB⟩:=hrel
           cases gk with
           | zero=>exact absurd HA.out (by simp [gangerref10_Check.l2])
           | succ k5 =>
            have H:=HA.out
            clear HA
            simp only [gangerref10_Check.l2] at H
            by_cases c103 : x7_5 < (l0_10.length : Int)
            rotate_left
            ·rw [if_neg c103] at H
             have c103b0 : decide (x7_5 < (l0_10.length : Int)) = false:=decide_eq_false c103
             clear c103
             replace H:=oB H
             obtain ⟨t322,A1410,H⟩:=H
             replace H : (some t322) = some r:=H
             have A141:=Am A1410
             clear A1410
             obtain rfl:=Option.some.inj H
             have hnb142:=NB301_302.out
             have hnc142:=NB302_301.out
             have hcz143_0 : wr.cell? ⟨gb301,0,none⟩ = some (.int .i64 a0_0):=(bC BK301.out 0).trans rfl
             have hcz143_1 : wr.cell? ⟨gb301,1,none⟩ = some (.int .i64 a0_1):=(bC BK301.out 1).trans rfl
             have hcz143_2 : wr.cell? ⟨gb301,2,none⟩ = some (.int .i64 a0_2):=(bC BK301.out 2).trans rfl
             have hcz143_3 : wr.cell? ⟨gb301,3,none⟩ = some (.int .i64 a0_3):=(bC BK301.out 3).trans rfl
             have hcz143_4 : wr.cell? ⟨gb301,4,none⟩ = some (.int .i64 a0_4):=(bC BK301.out 4).trans rfl
             have hcz143_5 : wr.cell? ⟨gb301,5,none⟩ = some (.int .i64 a0_5):=(bC BK301.out 5).trans rfl
             have hcz143_6 : wr.cell? ⟨gb301,6,none⟩ = some (.int .i64 a0_6):=(bC BK301.out 6).trans rfl
             have hcz143_7 : wr.cell? ⟨gb301,7,none⟩ = some (.int .i64 a0_7):=(bC BK301.out 7).trans rfl
             have hcz143_8 : wr.cell? ⟨gb301,8,none⟩ = some (.int .i64 a0_8):=(bC BK301.out 8).trans rfl
             have hcz143_9 : wr.cell? ⟨gb301,9,none⟩ = some (.slice A0_9 l0_9.length c0_9):=(bC BK301.out 9).trans rfl
             have hcz143_10 : wr.cell? ⟨gb301,10,none⟩ = some (.slice A0_10 l0_10.length c0_10):=(bC BK301.out 10).trans rfl
             have hcz143_11 : wr.cell? ⟨gb301,11,none⟩ = some (.slice A0_11 l0_11.length c0_11):=(bC BK301.out 11).trans rfl
             have hfz143_0:=bF BK301.out 0
             have hfz143_1:=bF BK301.out 1
             have hfz143_2:=bF BK301.out 2
             have hfz143_3:=bF BK301.out 3
             have hfz143_4:=bF BK301.out 4
             have hfz143_5:=bF BK301.out 5
             have hfz143_6:=bF BK301.out 6
             have hfz143_7:=bF BK301.out 7
             have hfz143_8:=bF BK301.out 8
             have hfz143_9:=bF BK301.out 9
             have hfz143_10:=bF BK301.out 10
             have hfz143_11:=bF BK301.out 11
             go_wp2_with (first|(go_at_call 34;(with_reducible refine (gangerref10_tree.calls k5 _ _ l0_11 t322 _ ?side1 ?side2 A141.out).mono ?_);(case side1=>repeat (first|exact (Kd.C_below HR0_11.out HB.out)|(with_reducible refine Kd.C_alloc ?_ _)|(with_reducible refine Kd.C_drewN ?_ _)|(with_reducible refine Kd.C_drew ?_)));(case side2=>exact HC0_11.out);rintro e w' ⟨rfl,⟨nd,rfl⟩⟩;(try first|exact ⟨rfl,_,wD _ _ _⟩|exact ⟨rfl,_,wE _ _ _ _⟩)))
             repeat (go_quiet (first|(go_at_call 34;(with_reducible refine (gangerref10_tree.calls k5 _ _ l0_11 t322 _ ?side1 ?side2 A141.out).mono ?_);(case side1=>repeat (first|exact (Kd.C_below HR0_11.out HB.out)|(with_reducible refine Kd.C_alloc ?_ _)|(with_reducible refine Kd.C_drewN ?_ _)|(with_reducible refine Kd.C_drew ?_)));(case side2=>exact HC0_11.out);rintro e w' ⟨rfl,⟨nd,rfl⟩⟩;(try first|exact ⟨rfl,_,wD _ _ _⟩|exact ⟨rfl,_,wE _ _ _ _⟩)));try go_wp2_with (first|(go_at_call 34;(with_reducible refine (gangerref10_tree.calls k5 _ _ l0_11 t322 _ ?side1 ?side2 A141.out).mono ?_);(case side1=>repeat (first|exact (Kd.C_below HR0_11.out HB.out)|(with_reducible refine Kd.C_alloc ?_ _)|(with_reducible refine Kd.C_drewN ?_ _)|(with_reducible refine Kd.C_drew ?_)));(case side2=>exact HC0_11.out);rintro e w' ⟨rfl,⟨nd,rfl⟩⟩;(try first|exact ⟨rfl,_,wD _ _ _⟩|exact ⟨rfl,_,wE _ _ _ _⟩))))
             go_ret
             exact ⟨by first|rfl|(simp [errW_none,errW_some] <;> rfl)|(simp [*,errW_none,errW_some] <;> rfl),by repeat (first|(with_reducible first|exact HB.out|apply bL|apply pN|apply bE|refine bS ?_ GE301.out|refine bS ?_ GE302.out)|exact HB.out)⟩
            rw [if_pos c103] at H
            have c103b0 : decide (x7_5 < (l0_10.length : Int)) = true:=decide_eq_true c103
            clear c103
            by_cases c104 : 0≤x7_5
            rotate_left
            ·rw [if_neg c104] at H
             exact absurd H (by simp)
            rw [if_pos c104] at H
            have c104b0 : decide (0≤x7_5) = true:=decide_eq_true c104
            clear c104
            have HC105:=Am H
            clear H
            have hnb106:=NB301_302.out
            have hnc106:=NB302_301.out
            have hcz107_0 : wr.cell? ⟨gb301,0,none⟩ = some (.int .i64 a0_0):=(bC BK301.out 0).trans rfl
            have hcz107_1 : wr.cell? ⟨gb301,1,none⟩ = some (.int .i64 a0_1):=(bC BK301.out 1).trans rfl
            have hcz107_2 : wr.cell? ⟨gb301,2,none⟩ = some (.int .i64 a0_2):=(bC BK301.out 2).trans rfl
            have hcz107_3 : wr.cell? ⟨gb301,3,none⟩ = some (.int .i64 a0_3):=(bC BK301.out 3).trans rfl
            have hcz107_4 : wr.cell? ⟨gb301,4,none⟩ = some (.int .i64 a0_4):=(bC BK301.out 4).trans rfl
            have hcz107_5 : wr.cell? ⟨gb301,5,none⟩ = some (.int .i64 a0_5):=(bC BK301.out 5).trans rfl
            have hcz107_6 : wr.cell? ⟨gb301,6,none⟩ = some (.int .i64 a0_6):=(bC BK301.out 6).trans rfl
            have hcz107_7 : wr.cell? ⟨gb301,7,none⟩ = some (.int .i64 a0_7):=(bC BK301.out 7).trans rfl
            have hcz107_8 : wr.cell? ⟨gb301,8,none⟩ = some (.int .i64 a0_8):=(bC BK301.out 8).trans rfl
            have hcz107_9 : wr.cell? ⟨gb301,9,none⟩ = some (.slice A0_9 l0_9.length c0_9):=(bC BK301.out 9).trans rfl
            have hcz107_10 : wr.cell? ⟨gb301,10,none⟩ = some (.slice A0_10 l0_10.length c0_10):=(bC BK301.out 10).trans rfl
            have hcz107_11 : wr.cell? ⟨gb301,11,none⟩ = some (.slice A0_11 l0_11.length c0_11):=(bC BK301.out 11).trans rfl
            have hfz107_0:=bF BK301.out 0
            have hfz107_1:=bF BK301.out 1
            have hfz107_2:=bF BK301.out 2
            have hfz107_3:=bF BK301.out 3
            have hfz107_4:=bF BK301.out 4
            have hfz107_5:=bF BK301.out 5
            have hfz107_6:=bF BK301.out 6
            have hfz107_7:=bF BK301.out 7
            have hfz107_8:=bF BK301.out 8
            have hfz107_9:=bF BK301.out 9
            have hfz107_10:=bF BK301.out 10
            have hfz107_11:=bF BK301.out 11
            have p323 : 0≤(x7_5 : Int):=of_decide_eq_true (by first|(with_reducible assumption)|assumption)
            have q323 : x7_5 < (l0_10.length : Int):=of_decide_eq_true (by first|(with_reducible assumption)|assumption)
            obtain ⟨ad323,e323,hx323_0,hx323_1,hx323_2⟩:=at_T52 HR0_10.out x7_5 p323 q323
            cases e323
            replace hx323_0:=(HB.out.cell (wB w _ hx323_0)).trans hx323_0
            replace hx323_1:=(HB.out.cell (wB w _ hx323_1)).trans hx323_1
            replace hx323_2:=(HB.out.cell (wB w _ hx323_2)).trans hx323_2
            replace p323:=eq_true p323
            replace q323:=eq_true q323
            go_upto_region 23 with (first|((with_reducible refine gD (N:=8) rfl ?_);(try (refine gate_guard (by rfl) ?_;dsimp only));refine box_event ?hg (N:=8) ?hd (cs:=#[.string (⟨#[]⟩ : ByteArray),.int .i64 0,.int .i64 0]) (t:=52) ?hr ?_;(case hd=>rfl);(case hg=>rfl);(case hr=>first|(go_simp;done)|(go_simp;rfl));intro gb324 hg w108 hbox hb;have n0_:=Am (blk_below (g:=gb301) (by (with_reducible repeat (first|refine bN ?_ _|refine bD ?_|refine bA ?_ _));exact BK301.out) hb);have n1_:=Am (blk_below (g:=gb302) (by (with_reducible repeat (first|refine bN ?_ _|refine bD ?_|refine bA ?_ _));exact BK302.out) hb);have n2_:=Am (below_step (by repeat (first|(with_reducible first|exact HB.out|apply bL|apply pN|apply bE|refine bS ?_ GE301.out|refine bS ?_ GE302.out)|exact HB.out)) hb);have n3_:=Am (hbox);have n4_:=Am ((by rw [hg];exact (bZ (by repeat (first|(with_reducible first|exact HB.out|apply bL|apply pN|apply bE|refine bS ?_ GE301.out|refine bS ?_ GE302.out)|exact HB.out))) : w.heap.size≤gb324));have n5_:=Am ((by rw [hg];exact (bZ (by repeat (first|(with_reducible first|exact HB.out|apply bL|apply pN|apply bE|refine bS ?_ GE301.out|refine bS ?_ GE302.out)|exact HB.out))) : w.heap.size≤gb324));have n6_:=Am ((by rw [hg];exact Nat.ne_of_lt (blk_lt (g:=gb301) (by (with_reducible repeat (first|refine bN ?_ _|refine bD ?_|refine bA ?_ _));exact BK301.out)) : gb301 ≠ gb324));have n7_:=Am ((by rw [hg];exact Nat.ne_of_gt (blk_lt (g:=gb301) (by (with_reducible repeat (first|refine bN ?_ _|refine bD ?_|refine bA ?_ _));exact BK301.out)) : gb324 ≠ gb301));have n8_:=Am ((by rw [hg];exact Nat.ne_of_lt (blk_lt (g:=gb302) (by (with_reducible repeat (first|refine bN ?_ _|refine bD ?_|refine bA ?_ _));exact BK302.out)) : gb302 ≠ gb324));have n9_:=Am ((by rw [hg];exact Nat.ne_of_gt (blk_lt (g:=gb302) (by (with_reducible repeat (first|refine bN ?_ _|refine bD ?_|refine bA ?_ _));exact BK302.out)) : gb324 ≠ gb302));clear BK301;clear BK302;clear HB;have BK301:=n0_;have BK302:=n1_;have HB:=n2_;have BK324:=n3_;have GW324:=n4_;have GE324:=n5_;have NB301_324:=n6_;have NB324_301:=n7_;have NB302_324:=n8_;have NB324_302:=n9_;clear n0_ n1_ n2_ n3_ n4_ n5_ n6_ n7_ n8_ n9_;clear hb hbox hg;have hnb109:=NB324_301.out;have hnc109:=NB301_324.out;have hnb110:=NB324_302.out;have hnc110:=NB302_324.out;have hcz111_0 : w108.cell? ⟨gb324,0,none⟩ = some (.string (⟨#[]⟩ : ByteArray)):=(bC BK324.out 0).trans rfl;have hcz111_1 : w108.cell? ⟨gb324,1,none⟩ = some (.int .i64 0):=(bC BK324.out 1).trans rfl;have hcz111_2 : w108.cell? ⟨gb324,2,none⟩ = some (.int .i64 0):=(bC BK324.out 2).trans rfl;have hfz111_0:=bF BK324.out 0;have hfz111_1:=bF BK324.out 1;have hfz111_2:=bF BK324.out 2))
            repeat (go_quiet (first|((with_reducible refine gD (N:=8) rfl ?_);(try (refine gate_guard (by rfl) ?_;dsimp only));refine box_event ?hg (N:=8) ?hd (cs:=#[.string (⟨#[]⟩ : ByteArray),.int .i64 0,.int .i64 0]) (t:=52) ?hr ?_;(case hd=>rfl);(case hg=>rfl);(case hr=>first|(go_simp;done)|(go_simp;rfl));intro gb324 hg w108 hbox hb;have n0_:=Am (blk_below (g:=gb301) (by (with_reducible repeat (first|refine bN ?_ _|refine bD ?_|refine bA ?_ _));exact BK301.out) hb);have n1_:=Am (blk_below (g:=gb302) (by (with_reducible repeat (first|refine bN ?_ _|refine bD ?_|refine bA ?_ _));exact BK302.out) hb);have n2_:=Am (below_step (by repeat (first|(with_reducible first|exact HB.out|apply bL|apply pN|apply bE|refine bS ?_ GE301.out|refine bS ?_ GE302.out)|exact HB.out)) hb);have n3_:=Am (hbox);have n4_:=Am ((by rw [hg];exact (bZ (by repeat (first|(with_reducible first|exact HB.out|apply bL|apply pN|apply bE|refine bS ?_ GE301.out|refine bS ?_ GE302.out)|exact HB.out))) : w.heap.size≤gb324));have n5_:=Am ((by rw [hg];exact (bZ (by repeat (first|(with_reducible first|exact HB.out|apply bL|apply pN|apply bE|refine bS ?_ GE301.out|refine bS ?_ GE302.out)|exact HB.out))) : w.heap.size≤gb324));have n6_:=Am ((by rw [hg];exact Nat.ne_of_lt (blk_lt (g:=gb301) (by (with_reducible repeat (first|refine bN ?_ _|refine bD ?_|refine bA ?_ _));exact BK301.out)) : gb301 ≠ gb324));have n7_:=Am ((by rw [hg];exact Nat.ne_of_gt (blk_lt (g:=gb301) (by (with_reducible repeat (first|refine bN ?_ _|refine bD ?_|refine bA ?_ _));exact BK301.out)) : gb324 ≠ gb301));have n8_:=Am ((by rw [hg];exact Nat.ne_of_lt (blk_lt (g:=gb302) (by (with_reducible repeat (first|refine bN ?_ _|refine bD ?_|refine bA ?_ _));exact BK302.out)) : gb302 ≠ gb324));have n9_:=Am ((by rw [hg];exact Nat.ne_of_gt (blk_lt (g:=gb302) (by (with_reducible repeat (first|refine bN ?_ _|refine bD ?_|refine bA ?_ _));exact BK302.out)) : gb324 ≠ gb302));clear BK301;clear BK302;clear HB;have BK301:=n0_;have BK302:=n1_;have HB:=n2_;have BK324:=n3_;have GW324:=n4_;have GE324:=n5_;have NB301_324:=n6_;have NB324_301:=n7_;have NB302_324:=n8_;have NB324_302:=n9_;clear n0_ n1_ n2_ n3_ n4_ n5_ n6_ n7_ n8_ n9_;clear hb hbox hg;have hnb109:=NB324_301.out;have hnc109:=NB301_324.out;have hnb110:=NB324_302.out;have hnc110:=NB302_324.out;have hcz111_0 : w108.cell? ⟨gb324,0,none⟩ = some (.string (⟨#[]⟩ : ByteArray)):=(bC BK324.out 0).trans rfl;have hcz111_1 : w108.cell? ⟨gb324,1,none⟩ = some (.int .i64 0):=(bC BK324.out 1).trans rfl;have hcz111_2 : w108.cell? ⟨gb324,2,none⟩ = some (.int .i64 0):=(bC BK324.out 2).trans rfl;have hfz111_0:=bF BK324.out 0;have hfz111_1:=bF BK324.out 1;have hfz111_2:=bF BK324.out 2));go_upto_region 23 with (first|((with_reducible refine gD (N:=8) rfl ?_);(try (refine gate_guard (by rfl) ?_;dsimp only));refine box_event ?hg (N:=8) ?hd (cs:=#[.string (⟨#[]⟩ : ByteArray),.int .i64 0,.int .i64 0]) (t:=52) ?hr ?_;(case hd=>rfl);(case hg=>rfl);(case hr=>first|(go_simp;done)|(go_simp;rfl));intro gb324 hg w108 hbox hb;have n0_:=Am (blk_below (g:=gb301) (by (with_reducible repeat (first|refine bN ?_ _|refine bD ?_|refine bA ?_ _));exact BK301.out) hb);have n1_:=Am (blk_below (g:=gb302) (by (with_reducible repeat (first|refine bN ?_ _|refine bD ?_|refine bA ?_ _));exact BK302.out) hb);have n2_:=Am (below_step (by repeat (first|(with_reducible first|exact HB.out|apply bL|apply pN|apply bE|refine bS ?_ GE301.out|refine bS ?_ GE302.out)|exact HB.out)) hb);have n3_:=Am (hbox);have n4_:=Am ((by rw [hg];exact (bZ (by repeat (first|(with_reducible first|exact HB.out|apply bL|apply pN|apply bE|refine bS ?_ GE301.out|refine bS ?_ GE302.out)|exact HB.out))) : w.heap.size≤gb324));have n5_:=Am ((by rw [hg];exact (bZ (by repeat (first|(with_reducible first|exact HB.out|apply bL|apply pN|apply bE|refine bS ?_ GE301.out|refine bS ?_ GE302.out)|exact HB.out))) : w.heap.size≤gb324));have n6_:=Am ((by rw [hg];exact Nat.ne_of_lt (blk_lt (g:=gb301) (by (with_reducible repeat (first|refine bN ?_ _|refine bD ?_|refine bA ?_ _));exact BK301.out)) : gb301 ≠ gb324));have n7_:=Am ((by rw [hg];exact Nat.ne_of_gt (blk_lt (g:=gb301) (by (with_reducible repeat (first|refine bN ?_ _|refine bD ?_|refine bA ?_ _));exact BK301.out)) : gb324 ≠ gb301));have n8_:=Am ((by rw [hg];exact Nat.ne_of_lt (blk_lt (g:=gb302) (by (with_reducible repeat (first|refine bN ?_ _|refine bD ?_|refine bA ?_ _));exact BK302.out)) : gb302 ≠ gb324));have n9_:=Am ((by rw [hg];exact Nat.ne_of_gt (blk_lt (g:=gb302) (by (with_reducible repeat (first|refine bN ?_ _|refine bD ?_|refine bA ?_ _));exact BK302.out)) : gb324 ≠ gb302));clear BK301;clear BK302;clear HB;have BK301:=n0_;have BK302:=n1_;have HB:=n2_;have BK324:=n3_;have GW324:=n4_;have GE324:=n5_;have NB301_324:=n6_;have NB324_301:=n7_;have NB302_324:=n8_;have NB324_302:=n9_;clear n0_ n1_ n2_ n3_ n4_ n5_ n6_ n7_ n8_ n9_;clear hb hbox hg;have hnb109:=NB324_301.out;have hnc109:=NB301_324.out;have hnb110:=NB324_302.out;have hnc110:=NB302_324.out;have hcz111_0 : w108.cell? ⟨gb324,0,none⟩ = some (.string (⟨#[]⟩ : ByteArray)):=(bC BK324.out 0).trans rfl;have hcz111_1 : w108.cell? ⟨gb324,1,none⟩ = some (.int .i64 0):=(bC BK324.out 1).trans rfl;have hcz111_2 : w108.cell? ⟨gb324,2,none⟩ = some (.int .i64 0):=(bC BK324.out 2).trans rfl;have hfz111_0:=bF BK324.out 0;have hfz111_1:=bF BK324.out 1;have hfz111_2:=bF BK324.out 2)))
            (try simp only [Act.put,sT,sZ,sS])
            go_cut [139] (fun v139 wc=>∃ (kq : Nat) (x139_104 : Bool),v139 = .bool x139_104∧Aside0 (gangerref10_Check.j7 kq x7_5 x139_104 a0_0 a0_1 a0_2 a0_3 a0_4 a0_5 a0_6 a0_7 a0_8 l0_9 l0_10 l0_11 ((rd_T52 l0_10 x7_5).f0) ((rd_T52 l0_10 x7_5).f1) ((rd_T52 l0_10 x7_5).f2) = some r)∧Aside0 (kq≤k5)∧Aside0 (wc.heap[gb301]? = some (.cells #[.int .i64 a0_0,.int .i64 a0_1,.int .i64 a0_2,.int .i64 a0_3,.int .i64 a0_4,.int .i64 a0_5,.int .i64 a0_6,.int .i64 a0_7,.int .i64 a0_8,(.slice A0_9 l0_9.length c0_9),(.slice (some ad323) l0_10.length c0_10),(.slice A0_11 l0_11.length c0_11)] 28 (0,0)))∧Aside0 (wc.heap[gb302]? = some (.cells #[.int .i64 a0_4,.int .i64 a0_5,.int .i64 a0_6,.int .i64 a0_7,.int .i64 a0_8] 23 (0,0)))∧Aside0 (wc.heap[gb324]? = some (.cells #[.string ((rd_T52 l0_10 x7_5).f0),.int .i64 ((rd_T52 l0_10 x7_5).f1),.int .i64 ((rd_T52 l0_10 x7_5).f2)] 52 (0,0)))∧Aside0 (Below w.heap.size w wc))
            case first =>
             have H:=HC105.out
             clear HC105
             replace H:=oB H
             obtain ⟨t325,A1120,H⟩:=H
             replace H : (if t325 = true then ((gangerref10_out.f ((rd_T52 l0_10 x7_5).f1) 0 1048576).bind fun t326=>(if t326 = true then (gangerref10_Check.j7 k5 x7_5 true a0_0 a0_1 a0_2 a0_3 a0_4 a0_5 a0_6 a0_7 a0_8 l0_9 l0_10 l0_11 ((rd_T52 l0_10 x7_5).f0) ((rd_T52 l0_10 x7_5).f1) ((rd_T52 l0_10 x7_5).f2)) else ((gangerref10_out.f ((rd_T52 l0_10 x7_5).f2) 1 1048576).bind fun t327=>(gangerref10_Check.j7 k5 x7_5 t327 a0_0 a0_1 a0_2 a0_3 a0_4 a0_5 a0_6 a0_7 a0_8 l0_9 l0_10 l0_11 ((rd_T52 l0_10 x7_5).f0) ((rd_T52 l0_10 x7_5).f1) ((rd_T52 l0_10 x7_5).f2))))) else (gangerref10_Check.j7 k5 x7_5 true a0_0 a0_1 a0_2 a0_3 a0_4 a0_5 a0_6 a0_7 a0_8 l0_9 l0_10 l0_11 ((rd_T52 l0_10 x7_5).f0) ((rd_T52 l0_10 x7_5).f1) ((rd_T52 l0_10 x7_5).f2))) = some r:=H
             have A112:=Am A1120
             clear A1120
             by_cases c113 : t325 = true
             rotate_left
             ·replace c113:=Bool.eq_false_iff.mpr c113
              subst c113
              have H1 : (gangerref10_Check.j7 k5 x7_5 true a0_0 a0_1 a0_2 a0_3 a0_4 a0_5 a0_6 a0_7 a0_8 l0_9 l0_10 l0_11 ((rd_T52 l0_10 x7_5).f0) ((rd_T52 l0_10 x7_5).f1) ((rd_T52 l0_10 x7_5).f2)) = some r:=by rw [if_neg (show ¬ (false = true) by decide)] at H;exact H
              clear H
              have H:=H1
              clear H1
              have H':=Am H
              clear H
              have hnb123:=NB324_301.out
              have hnc123:=NB301_324.out
              have hnb124:=NB324_302.out
              have hnc124:=NB302_324.out
              have hcz125_0 : w108.cell? ⟨gb324,0,none⟩ = some (.string (⟨#[]⟩ : ByteArray)):=(bC BK324.out 0).trans rfl
              have hcz125_1 : w108.cell? ⟨gb324,1,none⟩ = some (.int .i64 0):=(bC BK324.out 1).trans rfl
              have hcz125_2 : w108.cell? ⟨gb324,2,none⟩ = some (.int .i64 0):=(bC BK324.out 2).trans rfl
              have hfz125_0:=bF BK324.out 0
              have hfz125_1:=bF BK324.out 1
              have hfz125_2:=bF BK324.out 2
              go_wp2_with (first|(go_at_call 20;(with_reducible refine (gangerref09_Name.calls k5 ((rd_T52 l0_10 x7_5).f0) false _ A112.out).mono ?_);rintro e w' ⟨rfl,⟨nd,rfl⟩⟩;(try first|exact ⟨rfl,_,wD _ _ _⟩|exact ⟨rfl,_,wE _ _ _ _⟩)))
              repeat (go_quiet (first|(go_at_call 20;(with_reducible refine (gangerref09_Name.calls k5 ((rd_T52 l0_10 x7_5).f0) false _ A112.out).mono ?_);rintro e w' ⟨rfl,⟨nd,rfl⟩⟩;(try first|exact ⟨rfl,_,wD _ _ _⟩|exact ⟨rfl,_,wE _ _ _ _⟩)));try go_wp2_with (first|(go_at_call 20;(with_reducible refine (gangerref09_Name.calls k5 ((rd_T52 l0_10 x7_5).f0) false _ A112.out).mono ?_);rintro e w' ⟨rfl,⟨nd,rfl⟩⟩;(try first|exact ⟨rfl,_,wD _ _ _⟩|exact ⟨rfl,_,wE _ _ _ _⟩))))
              go_meet
              case rel=>exact ⟨_,(true),(by first|rfl|(simp;done)|(simp [*];done)),H',⟨by have:=HJ1.out;have:=HJ27.out;have:=HJ44.out;have:=HK4.out;have:=HK5.out;first|omega|exact Nat.le_refl _⟩,⟨by (with_reducible repeat (first|refine bN ?_ _|refine bD ?_|refine bA ?_ _));refine blk_far ?_ NB301_324.out _;(with_reducible repeat (first|refine bN ?_ _|refine bD ?_|refine bA ?_ _));refine blk_far ?_ NB301_324.out _;(with_reducible repeat (first|refine bN ?_ _|refine bD ?_|refine bA ?_ _));refine blk_far ?_ NB301_324.out _;(with_reducible repeat (first|refine bN ?_ _|refine bD ?_|refine bA ?_ _));exact BK301.out⟩,⟨by (with_reducible repeat (first|refine bN ?_ _|refine bD ?_|refine bA ?_ _));refine blk_far ?_ NB302_324.out _;(with_reducible repeat (first|refine bN ?_ _|refine bD ?_|refine bA ?_ _));refine blk_far ?_ NB302_324.out _;(with_reducible repeat (first|refine bN ?_ _|refine bD ?_|refine bA ?_ _));refine blk_far ?_ NB302_324.out _;(with_reducible repeat (first|refine bN ?_ _|refine bD ?_|refine bA ?_ _));exact BK302.out⟩,⟨by (with_reducible repeat (first|refine bN ?_ _|refine bD ?_|refine bA ?_ _));refine blk_put (cs:=#[.string ((rd_T52 l0_10 x7_5).f0),.int .i64 ((rd_T52 l0_10 x7_5).f1),.int .i64 0]) ?_ 2 _ rfl;(with_reducible repeat (first|refine bN ?_ _|refine bD ?_|refine bA ?_ _));refine blk_put (cs:=#[.string ((rd_T52 l0_10 x7_5).f0),.int .i64 0,.int .i64 0]) ?_ 1 _ rfl;(with_reducible repeat (first|refine bN ?_ _|refine bD ?_|refine bA ?_ _));refine blk_put (cs:=#[.string (⟨#[]⟩ : ByteArray),.int .i64 0,.int .i64 0]) ?_ 0 _ rfl;(with_reducible repeat (first|refine bN ?_ _|refine bD ?_|refine bA ?_ _));exact BK324.out⟩,⟨by repeat (first|(with_reducible first|exact HB.out|apply bL|apply pN|apply bE|refine bS ?_ GE301.out|refine bS ?_ GE302.out|refine bS ?_ GE324.out)|exact HB.out)⟩⟩
             subst c113
             have H1 : ((gangerref10_out.f ((rd_T52 l0_10 x7_5).f1) 0 1048576).bind fun t326=>(if t326 = true then (gangerref10_Check.j7 k5 x7_5 true a0_0 a0_1 a0_2 a0_3 a0_4 a0_5 a0_6 a0_7 a0_8 l0_9 l0_10 l0_11 ((rd_T52 l0_10 x7_5).f0) ((rd_T52 l0_10 x7_5).f1) ((rd_T52 l0_10 x7_5).f2)) else ((gangerref10_out.f ((rd_T52 l0_10 x7_5).f2) 1 1048576).bind fun t327=>(gangerref10_Check.j7 k5 x7_5 t327 a0_0 a0_1 a0_2 a0_3 a0_4 a0_5 a0_6 a0_7 a0_8 l0_9 l0_10 l0_11 ((rd_T52 l0_10 x7_5).f0) ((rd_T52 l0_10 x7_5).f1) ((rd_T52 l0_10 x7_5).f2))))) = some r:=by rw [if_pos rfl] at H;exact H
             clear H
             have H:=H1
             clear H1
             replace H:=oB H
             obtain ⟨t326,A1140,H⟩:=H
             replace H : (if t326 = true then (gangerref10_Check.j7 k5 x7_5 true a0_0 a0_1 a0_2 a0_3 a0_4 a0_5 a0_6 a0_7 a0_8 l0_9 l0_10 l0_11 ((rd_T52 l0_10 x7_5).f0) ((rd_T52 l0_10 x7_5).f1) ((rd_T52 l0_10 x7_5).f2)) else ((gangerref10_out.f ((rd_T52 l0_10 x7_5).f2) 1 1048576).bind fun t327=>(gangerref10_Check.j7 k5 x7_5 t327 a0_0 a0_1 a0_2 a0_3 a0_4 a0_5 a0_6 a0_7 a0_8 l0_9 l0_10 l0_11 ((rd_T52 l0_10 x7_5).f0) ((rd_T52 l0_10 x7_5).f1) ((rd_T52 l0_10 x7_5).f2)))) = some r:=H
             have A114:=Am A1140
             clear A1140
             by_cases c115 : t326 = true
             ·subst c115
              have H1 : (gangerref10_Check.j7 k5 x7_5 true a0_0 a0_1 a0_2 a0_3 a0_4 a0_5 a0_6 a0_7 a0_8 l0_9 l0_10 l0_11 ((rd_T52 l0_10 x7_5).f0) ((rd_T52 l0_10 x7_5).f1) ((rd_T52 l0_10 x7_5).f2)) = some r:=by rw [if_pos rfl] at H;exact H
              clear H
              have H:=H1
              clear H1
              have H':=Am H
              clear H
              have hnb116:=NB324_301.out
              have hnc116:=NB301_324.out
              have hnb117:=NB324_302.out
              have hnc117:=NB302_324.out
              have hcz118_0 : w108.cell? ⟨gb324,0,none⟩ = some (.string (⟨#[]⟩ : ByteArray)):=(bC BK324.out 0).trans rfl
              have hcz118_1 : w108.cell? ⟨gb324,1,none⟩ = some (.int .i64 0):=(bC BK324.out 1).trans rfl
              have hcz118_2 : w108.cell? ⟨gb324,2,none⟩ = some (.int .i64 0):=(bC BK324.out 2).trans rfl
              have hfz118_0:=bF BK324.out 0
              have hfz118_1:=bF BK324.out 1
              have hfz118_2:=bF BK324.out 2
              go_wp2_with (first|(go_at_call 20;(with_reducible refine (gangerref09_Name.calls k5 ((rd_T52 l0_10 x7_5).f0) true _ A112.out).mono ?_);rintro e w' ⟨rfl,⟨nd,rfl⟩⟩;(try first|exact ⟨rfl,_,wD _ _ _⟩|exact ⟨rfl,_,wE _ _ _ _⟩))|(go_at_call 33;(with_reducible refine (gangerref10_out.calls ((rd_T52 l0_10 x7_5).f1) 0 1048576 true _ A114.out).mono ?_);rintro e w' ⟨rfl,⟨nd,rfl⟩⟩;(try first|exact ⟨rfl,_,wD _ _ _⟩|exact ⟨rfl,_,wE _ _ _ _⟩)))
              repeat (go_quiet (first|(go_at_call 20;(with_reducible refine (gangerref09_Name.calls k5 ((rd_T52 l0_10 x7_5).f0) true _ A112.out).mono ?_);rintro e w' ⟨rfl,⟨nd,rfl⟩⟩;(try first|exact ⟨rfl,_,wD _ _ _⟩|exact ⟨rfl,_,wE _ _ _ _⟩))|(go_at_call 33;(with_reducible refine (gangerref10_out.calls ((rd_T52 l0_10 x7_5).f1) 0 1048576 true _ A114.out).mono ?_);rintro e w' ⟨rfl,⟨nd,rfl⟩⟩;(try first|exact ⟨rfl,_,wD _ _ _⟩|exact ⟨rfl,_,wE _ _ _ _⟩)));try go_wp2_with (first|(go_at_call 20;(with_reducible refine (gangerref09_Name.calls k5 ((rd_T52 l0_10 x7_5).f0) true _ A112.out).mono ?_);rintro e w' ⟨rfl,⟨nd,rfl⟩⟩;(try first|exact ⟨rfl,_,wD _ _ _⟩|exact ⟨rfl,_,wE _ _ _ _⟩))|(go_at_call 33;(with_reducible refine (gangerref10_out.calls ((rd_T52 l0_10 x7_5).f1) 0 1048576 true _ A114.out).mono ?_);rintro e w' ⟨rfl,⟨nd,rfl⟩⟩;(try first|exact ⟨rfl,_,wD _ _ _⟩|exact ⟨rfl,_,wE _ _ _ _⟩))))
              go_meet
              case rel=>exact ⟨_,(true),(by first|rfl|(simp;done)|(simp [*];done)),H',⟨by have:=HJ1.out;have:=HJ27.out;have:=HJ44.out;have:=HK4.out;have:=HK5.out;first|omega|exact Nat.le_refl _⟩,⟨by (with_reducible repeat (first|refine bN ?_ _|refine bD ?_|refine bA ?_ _));refine blk_far ?_ NB301_324.out _;(with_reducible repeat (first|refine bN ?_ _|refine bD ?_|refine bA ?_ _));refine blk_far ?_ NB301_324.out _;(with_reducible repeat (first|refine bN ?_ _|refine bD ?_|refine bA ?_ _));refine blk_far ?_ NB301_324.out _;(with_reducible repeat (first|refine bN ?_ _|refine bD ?_|refine bA ?_ _));exact BK301.out⟩,⟨by (with_reducible repeat (first|refine bN ?_ _|refine bD ?_|refine bA ?_ _));refine blk_far ?_ NB302_324.out _;(with_reducible repeat (first|refine bN ?_ _|refine bD ?_|refine bA ?_ _));refine blk_far ?_ NB302_324.out _;(with_reducible repeat (first|refine bN ?_ _|refine bD ?_|refine bA ?_ _));refine blk_far ?_ NB302_324.out _;(with_reducible repeat (first|refine bN ?_ _|refine bD ?_|refine bA ?_ _));exact BK302.out⟩,⟨by (with_reducible repeat (first|refine bN ?_ _|refine bD ?_|refine bA ?_ _));refine blk_put (cs:=#[.string ((rd_T52 l0_10 x7_5).f0),.int .i64 ((rd_T52 l0_10 x7_5).f1),.int .i64 0]) ?_ 2 _ rfl;(with_reducible repeat (first|refine bN ?_ _|refine bD ?_|refine bA ?_ _));refine blk_put (cs:=#[.string ((rd_T52 l0_10 x7_5).f0),.int .i64 0,.int .i64 0]) ?_ 1 _ rfl;(with_reducible repeat (first|refine bN ?_ _|refine bD ?_|refine bA ?_ _));refine blk_put (cs:=#[.string (⟨#[]⟩ : ByteArray),.int .i64 0,.int .i64 0]) ?_ 0 _ rfl;(with_reducible repeat (first|refine bN ?_ _|refine bD ?_|refine bA ?_ _));exact BK324.out⟩,⟨by repeat (first|(with_reducible first|exact HB.out|apply bL|apply pN|apply bE|refine bS ?_ GE301.out|refine bS ?_ GE302.out|refine bS ?_ GE324.out)|exact HB.out)⟩⟩
             replace c115:=Bool.eq_false_iff.mpr c115
             subst c115
             have H1 : ((gangerref10_out.f ((rd_T52 l0_10 x7_5).f2) 1 1048576).bind fun t327=>(gangerref10_Check.j7 k5 x7_5 t327 a0_0 a0_1 a0_2 a0_3 a0_4 a0_5 a0_6 a0_7 a0_8 l0_9 l0_10 l0_11 ((rd_T52 l0_10 x7_5).f0) ((rd_T52 l0_10 x7_5).f1) ((rd_T52 l0_10 x7_5).f2))) = some r:=by rw [if_neg (show ¬ (false = true) by decide)] at H;exact H
             clear H
             have H:=H1
             clear H1
             replace H:=oB H
             obtain ⟨t327,A1190,H⟩:=H
             replace H : (gangerref10_Check.j7 k5 x7_5 t327 a0_0 a0_1 a0_2 a0_3 a0_4 a0_5 a0_6 a0_7 a0_8 l0_9 l0_10 l0_11 ((rd_T52 l0_10 x7_5).f0) ((rd_T52 l0_10 x7_5).f1) ((rd_T52 l0_10 x7_5).f2)) = some r:=H
             have A119:=Am A1190
             clear A1190
             have H':=Am H
             clear H
             have hnb120:=NB324_301.out
             have hnc120:=NB301_324.out
             have hnb121:=NB324_302.out
             have hnc121:=NB302_324.out
             have hcz122_0 : w108.cell? ⟨gb324,0,none⟩ = some (.string (⟨#[]⟩ : ByteArray)):=(bC BK324.out 0).trans rfl
             have hcz122_1 : w108.cell? ⟨gb324,1,none⟩ = some (.int .i64 0):=(bC BK324.out 1).trans rfl
             have hcz122_2 : w108.cell? ⟨gb324,2,none⟩ = some (.int .i64 0):=(bC BK324.out 2).trans rfl
             have hfz122_0:=bF BK324.out 0
             have hfz122_1:=bF BK324.out 1
             have hfz122_2:=bF BK324.out 2
             go_wp2_with (first|(go_at_call 20;(with_reducible refine (gangerref09_Name.calls k5 ((rd_T52 l0_10 x7_5).f0) true _ A112.out).mono ?_);rintro e w' ⟨rfl,⟨nd,rfl⟩⟩;(try first|exact ⟨rfl,_,wD _ _ _⟩|exact ⟨rfl,_,wE _ _ _ _⟩))|(go_at_call 33;(with_reducible refine (gangerref10_out.calls ((rd_T52 l0_10 x7_5).f1) 0 1048576 false _ A114.out).mono ?_);rintro e w' ⟨rfl,⟨nd,rfl⟩⟩;(try first|exact ⟨rfl,_,wD _ _ _⟩|exact ⟨rfl,_,wE _ _ _ _⟩))|(go_at_call 33;(with_reducible refine (gangerref10_out.calls ((rd_T52 l0_10 x7_5).f2) 1 1048576 t327 _ A119.out).mono ?_);rintro e w' ⟨rfl,⟨nd,rfl⟩⟩;(try first|exact ⟨rfl,_,wD _ _ _⟩|exact ⟨rfl,_,wE _ _ _ _⟩)))
             repeat (go_quiet (first|(go_at_call 20;(with_reducible refine (gangerref09_Name.calls k5 ((rd_T52 l0_10 x7_5).f0) true _ A112.out).mono ?_);rintro e w' ⟨rfl,⟨nd,rfl⟩⟩;(try first|exact ⟨rfl,_,wD _ _ _⟩|exact ⟨rfl,_,wE _ _ _ _⟩))|(go_at_call 33;(with_reducible refine (gangerref10_out.calls ((rd_T52 l0_10 x7_5).f1) 0 1048576 false _ A114.out).mono ?_);rintro e w' ⟨rfl,⟨nd,rfl⟩⟩;(try first|exact ⟨rfl,_,wD _ _ _⟩|exact ⟨rfl,_,wE _ _ _ _⟩))|(go_at_call 33;(with_reducible refine (gangerref10_out.calls ((rd_T52 l0_10 x7_5).f2) 1 1048576 t327 _ A119.out).mono ?_);rintro e w' ⟨rfl,⟨nd,rfl⟩⟩;(try first|exact ⟨rfl,_,wD _ _ _⟩|exact ⟨rfl,_,wE _ _ _ _⟩)));try go_wp2_with (first|(go_at_call 20;(with_reducible refine (gangerref09_Name.calls k5 ((rd_T52 l0_10 x7_5).f0) true _ A112.out).mono ?_);rintro e w' ⟨rfl,⟨nd,rfl⟩⟩;(try first|exact ⟨rfl,_,wD _ _ _⟩|exact ⟨rfl,_,wE _ _ _ _⟩))|(go_at_call 33;(with_reducible refine (gangerref10_out.calls ((rd_T52 l0_10 x7_5).f1) 0 1048576 false _ A114.out).mono ?_);rintro e w' ⟨rfl,⟨nd,rfl⟩⟩;(try first|exact ⟨rfl,_,wD _ _ _⟩|exact ⟨rfl,_,wE _ _ _ _⟩))|(go_at_call 33;(with_reducible refine (gangerref10_out.calls ((rd_T52 l0_10 x7_5).f2) 1 1048576 t327 _ A119.out).mono ?_);rintro e w' ⟨rfl,⟨nd,rfl⟩⟩;(try first|exact ⟨rfl,_,wD _ _ _⟩|exact ⟨rfl,_,wE _ _ _ _⟩))))
             go_meet
             case rel=>exact ⟨_,(t327),(by first|rfl|(simp;done)|(simp [*];done)),H',⟨by have:=HJ1.out;have:=HJ27.out;have:=HJ44.out;have:=HK4.out;have:=HK5.out;first|omega|exact Nat.le_refl _⟩,⟨by (with_reducible repeat (first|refine bN ?_ _|refine bD ?_|refine bA ?_ _));refine blk_far ?_ NB301_324.out _;(with_reducible repeat (first|refine bN ?_ _|refine bD ?_|refine bA ?_ _));refine blk_far ?_ NB301_324.out _;(with_reducible repeat (first|refine bN ?_ _|refine bD ?_|refine bA ?_ _));refine blk_far ?_ NB301_324.out _;(with_reducible repeat (first|refine bN ?_ _|refine bD ?_|refine bA ?_ _));exact BK301.out⟩,⟨by (with_reducible repeat (first|refine bN ?_ _|refine bD ?_|refine bA ?_ _));refine blk_far ?_ NB302_324.out _;(with_reducible repeat (first|refine bN ?_ _|refine bD ?_|refine bA ?_ _));refine blk_far ?_ NB302_324.out _;(with_reducible repeat (first|refine bN ?_ _|refine bD ?_|refine bA ?_ _));refine blk_far ?_ NB302_324.out _;(with_reducible repeat (first|refine bN ?_ _|refine bD ?_|refine bA ?_ _));exact BK302.out⟩,⟨by (with_reducible repeat (first|refine bN ?_ _|refine bD ?_|refine bA ?_ _));refine blk_put (cs:=#[.string ((rd_T52 l0_10 x7_5).f0),.int .i64 ((rd_T52 l0_10 x7_5).f1),.int .i64 0]) ?_ 2 _ rfl;(with_reducible repeat (first|refine bN ?_ _|refine bD ?_|refine bA ?_ _));refine blk_put (cs:=#[.string ((rd_T52 l0_10 x7_5).f0),.int .i64 0,.int .i64 0]) ?_ 1 _ rfl;(with_reducible repeat (first|refine bN ?_ _|refine bD ?_|refine bA ?_ _));refine blk_put (cs:=#[.string (⟨#[]⟩ : ByteArray),.int .i64 0,.int .i64 0]) ?_ 0 _ rfl;(with_reducible repeat (first|refine bN ?_ _|refine bD ?_|refine bA ?_ _));exact BK324.out⟩,⟨by repeat (first|(with_reducible first|exact HB.out|apply bL|apply pN|apply bE|refine bS ?_ GE301.out|refine bS ?_ GE302.out|refine bS ?_ GE324.out)|exact HB.out)⟩⟩
            case rest =>
             clear HC105
             obtain ⟨kq,x139_104,rfl,HA,HJ104,BK301,BK302,BK324,HB⟩:=hcut
             cases kq with
             | zero=>exact absurd HA.out (by simp [gangerref10_Check.j7])
             | succ kj104 =>
              have H:=HA.out
              clear HA
              simp only [gangerref10_Check.j7] at H
              by_cases c126 : x139_104 = true
              ·subst c126
               have H1 : (some 100) = some r:=by rw [if_pos rfl] at H;exact H
               clear H
               have H:=H1
               clear H1
               obtain rfl:=Option.some.inj H
               go_wp2
               repeat (go_quiet (fail);try go_wp2)
               go_ret
               exact ⟨by first|rfl|(simp [errW_none,errW_some] <;> rfl)|(simp [*,errW_none,errW_some] <;> rfl),by repeat (first|(with_reducible first|exact HB.out|apply bL|apply pN|apply bE|refine bS ?_ GE301.out|refine bS ?_ GE302.out|refine bS ?_ GE324.out)|exact HB.out)⟩
              replace c126:=Bool.eq_false_iff.mpr c126
              subst c126
              have H1 : (gangerref10_Check.l3 kj104 x7_5 0 a0_0 a0_1 a0_2 a0_3 a0_4 a0_5 a0_6 a0_7 a0_8 l0_9 l0_10 l0_11 ((rd_T52 l0_10 x7_5).f0) ((rd_T52 l0_10 x7_5).f1) ((rd_T52 l0_10 x7_5).f2)) = some r:=by rw [if_neg (show ¬ (false = true) by decide)] at H;exact H
              clear H
              have H:=H1
              clear H1
              have H':=Am H
              clear H
              go_wp2
              repeat (go_quiet (fail);try go_wp2)
              go_loopg [9] kj104 (fun kq v9 w'=>∃ (x9_7 : Int),v9 = .int .i64 x9_7∧Aside0 (gangerref10_Check.l3 kq x7_5 x9_7 a0_0 a0_1 a0_2 a0_3 a0_4 a0_5 a0_6 a0_7 a0_8 l0_9 l0_10 l0_11 ((rd_T52 l0_10 x7_5).f0) ((rd_T52 l0_10 x7_5).f1) ((rd_T52 l0_10 x7_5).f2) = some r)∧Aside0 (kq≤kj104)∧Aside0 (w'.heap[gb301]? = some (.cells #[.int .i64 a0_0,.int .i64 a0_1,.int .i64 a0_2,.int .i64 a0_3,.int .i64 a0_4,.int .i64 a0_5,.int .i64 a0_6,.int .i64 a0_7,.int .i64 a0_8,(.slice A0_9 l0_9.length c0_9),(.slice (some ad323) l0_10.length c0_10),(.slice A0_11 l0_11.length c0_11)] 28 (0,0)))∧Aside0 (w'.heap[gb302]? = some (.cells #[.int .i64 a0_4,.int .i64 a0_5,.int .i64 a0_6,.int .i64 a0_7,.int .i64 a0_8] 23 (0,0)))∧Aside0 (w'.heap[gb324]? = some (.cells #[.string ((rd_T52 l0_10 x7_5).f0),.int .i64 ((rd_T52 l0_10 x7_5).f1),.int .i64 ((rd_T52 l0_10 x7_5).f2)] 52 (0,0)))∧Aside0 (Below w.heap.size w w'))
              case atStart=>exact ⟨(0),(by first|rfl|(simp;done)|(simp [*];done)),H',⟨Nat.le_refl _⟩,⟨by (with_reducible repeat (first|refine bN ?_ _|refine bD ?_|refine bA ?_ _));exact BK301.out⟩,⟨by (with_reducible repeat (first|refine bN ?_ _|refine bD ?_|refine bA ?_ _));exact BK302.out⟩,⟨by (with_reducible repeat (first|refine bN ?_ _|refine bD ?_|refine bA ?_ _));exact BK324.out⟩,⟨by repeat (first|(with_reducible first|exact HB.out|apply bL|apply pN|apply bE|refine bS ?_ GE301.out|refine bS ?_ GE302.out|refine bS ?_ GE324.out)|exact HB.out)⟩⟩
              case round =>
               clear H'
               obtain ⟨x9_7,rfl,HA,HK7,BK301,BK302,BK324,HB⟩:=hrel
               cases gk with
               | zero=>exact absurd HA.out (by simp [gangerref10_Check.l3])
               | succ k7 =>
                have H:=HA.out
                clear HA
                simp only [gangerref10_Check.l3] at H
                by_cases c127 : x9_7 < x7_5
                rotate_left
                ·rw [if_neg c127] at H
                 have c127b0 : decide (x9_7 < x7_5) = false:=decide_eq_false c127
                 clear c127
                 have H':=Am H
                 clear H
                 go_wp2
                 repeat (go_quiet (fail);try go_wp2)
                 go_roundg k7
                 case measure=>have:=HJ1.out;have:=HJ27.out;have:=HJ44.out;have:=HK4.out;have:=HK5.out;have:=HJ104.out;have:=HK7.out;omega
                 case rel=>exact ⟨(wrap64 (x7_5 + 1)),(by first|rfl|(simp;done)|(simp [*];done)),H',⟨by have:=HJ1.out;have:=HJ27.out;have:=HJ44.out;have:=HK4.out;have:=HK5.out;have:=HJ104.out;have:=HK7.out;omega⟩,⟨by (with_reducible repeat (first|refine bN ?_ _|refine bD ?_|refine bA ?_ _));exact BK301.out⟩,⟨by (with_reducible repeat (first|refine bN ?_ _|refine bD ?_|refine bA ?_ _));exact BK302.out⟩,⟨by repeat (first|(with_reducible first|exact HB.out|apply bL|apply pN|apply bE|refine bS ?_ GE301.out|refine bS ?_ GE302.out|refine bS ?_ GE324.out)|exact HB.out)⟩⟩
                rw [if_pos c127] at H
                have c127b0 : decide (x9_7 < x7_5) = true:=decide_eq_true c127
                clear c127
                by_cases c128 : 0≤x9_7
                rotate_left
                ·rw [if_neg c128] at H
                 exact absurd H (by simp)
                rw [if_pos c128] at H
                have c128b0 : decide (0≤x9_7) = true:=decide_eq_true c128
                clear c128
                by_cases c129 : x9_7 < (l0_10.length : Int)
                rotate_left
                ·rw [if_neg c129] at H
                 exact absurd H (by simp)
                rw [if_pos c129] at H
                have c129b0 : decide (x9_7 < (l0_10.length : Int)) = true:=decide_eq_true c129
                clear c129
                by_cases c130 : ((rd_T52 l0_10 x9_7).f0).toList = ((rd_T52 l0_10 x7_5).f0).toList
                ·rw [if_pos c130] at H
                 have c130b0 : (((rd_T52 l0_10 x9_7).f0).toList == ((rd_T52 l0_10 x7_5).f0).toList) = true:=beq_iff_eq.mpr c130
                 have c130b1 : (((rd_T52 l0_10 x9_7).f0).toList != ((rd_T52 l0_10 x7_5).f0).toList) = false:=bne_eq_false_iff_eq.mpr c130
                 clear c130
                 obtain rfl:=Option.some.inj H
                 have hnb131:=NB301_302.out
                 have hnc131:=NB302_301.out
                 have hnb132:=NB301_324.out
                 have hnc132:=NB324_301.out
                 have hcz133_0 : wr.cell? ⟨gb301,0,none⟩ = some (.int .i64 a0_0):=(bC BK301.out 0).trans rfl
                 have hcz133_1 : wr.cell? ⟨gb301,1,none⟩ = some (.int .i64 a0_1):=(bC BK301.out 1).trans rfl
                 have hcz133_2 : wr.cell? ⟨gb301,2,none⟩ = some (.int .i64 a0_2):=(bC BK301.out 2).trans rfl
                 have hcz133_3 : wr.cell? ⟨gb301,3,none⟩ = some (.int .i64 a0_3):=(bC BK301.out 3).trans rfl
                 have hcz133_4 : wr.cell? ⟨gb301,4,none⟩ = some (.int .i64 a0_4):=(bC BK301.out 4).trans rfl
                 have hcz133_5 : wr.cell? ⟨gb301,5,none⟩ = some (.int .i64 a0_5):=(bC BK301.out 5).trans rfl
                 have hcz133_6 : wr.cell? ⟨gb301,6,none⟩ = some (.int .i64 a0_6):=(bC BK301.out 6).trans rfl
                 have hcz133_7 : wr.cell? ⟨gb301,7,none⟩ = some (.int .i64 a0_7):=(bC BK301.out 7).trans rfl
                 have hcz133_8 : wr.cell? ⟨gb301,8,none⟩ = some (.int .i64 a0_8):=(bC BK301.out 8).trans rfl
                 have hcz133_9 : wr.cell? ⟨gb301,9,none⟩ = some (.slice A0_9 l0_9.length c0_9):=(bC BK301.out 9).trans rfl
                 have hcz133_10 : wr.cell? ⟨gb301,10,none⟩ = some (.slice (some ad323) l0_10.length c0_10):=(bC BK301.out 10).trans rfl
                 have hcz133_11 : wr.cell? ⟨gb301,11,none⟩ = some (.slice A0_11 l0_11.length c0_11):=(bC BK301.out 11).trans rfl
                 have hfz133_0:=bF BK301.out 0
                 have hfz133_1:=bF BK301.out 1
                 have hfz133_2:=bF BK301.out 2
                 have hfz133_3:=bF BK301.out 3
                 have hfz133_4:=bF BK301.out 4
                 have hfz133_5:=bF BK301.out 5
                 have hfz133_6:=bF BK301.out 6
                 have hfz133_7:=bF BK301.out 7
                 have hfz133_8:=bF BK301.out 8
                 have hfz133_9:=bF BK301.out 9
                 have hfz133_10:=bF BK301.out 10
                 have hfz133_11:=bF BK301.out 11
                 have p328 : 0≤(x9_7 : Int):=of_decide_eq_true (by first|(with_reducible assumption)|assumption)
                 have q328 : x9_7 < (l0_10.length : Int):=of_decide_eq_true (by first|(with_reducible assumption)|assumption)
                 obtain ⟨ad328,e328,hx328_0,hx328_1,hx328_2⟩:=at_T52 HR0_10.out x9_7 p328 q328
                 obtain rfl : ad323 = ad328:=(by injection e328)
                 replace hx328_0:=(HB.out.cell (wB w _ hx328_0)).trans hx328_0
                 replace hx328_1:=(HB.out.cell (wB w _ hx328_1)).trans hx328_1
                 replace hx328_2:=(HB.out.cell (wB w _ hx328_2)).trans hx328_2
                 replace p328:=eq_true p328
                 replace q328:=eq_true q328
                 have hnb134:=NB324_302.out
                 have hnc134:=NB302_324.out
                 have hcz135_0 : wr.cell? ⟨gb324,0,none⟩ = some (.string ((rd_T52 l0_10 x7_5).f0)):=(bC BK324.out 0).trans rfl
                 have hcz135_1 : wr.cell? ⟨gb324,1,none⟩ = some (.int .i64 ((rd_T52 l0_10 x7_5).f1)):=(bC BK324.out 1).trans rfl
                 have hcz135_2 : wr.cell? ⟨gb324,2,none⟩ = some (.int .i64 ((rd_T52 l0_10 x7_5).f2)):=(bC BK324.out 2).trans rfl
                 have hfz135_0:=bF BK324.out 0
                 have hfz135_1:=bF BK324.out 1
                 have hfz135_2:=bF BK324.out 2
                 go_wp2
                 repeat (go_quiet (fail);try go_wp2)
                 go_ret
                 exact ⟨by first|rfl|(simp [errW_none,errW_some] <;> rfl)|(simp [*,errW_none,errW_some] <;> rfl),by repeat (first|(with_reducible first|exact HB.out|apply bL|apply pN|apply bE|refine bS ?_ GE301.out|refine bS ?_ GE302.out|refine bS ?_ GE324.out)|exact HB.out)⟩
                rw [if_neg c130] at H
                have c130b0 : (((rd_T52 l0_10 x9_7).f0).toList == ((rd_T52 l0_10 x7_5).f0).toList) = false:=beq_eq_false_iff_ne.mpr c130
                have c130b1 : (((rd_T52 l0_10 x9_7).f0).toList != ((rd_T52 l0_10 x7_5).f0).toList) = true:=bne_iff_ne.mpr c130
                have H':=Am H
                clear H
                have hnb136:=NB301_302.out
                have hnc136:=NB302_301.out
                have hnb137:=NB301_324.out
                have hnc137:=NB324_301.out
                have hcz138_0 : wr.cell? ⟨gb301,0,none⟩ = some (.int .i64 a0_0):=(bC BK301.out 0).trans rfl
                have hcz138_1 : wr.cell? ⟨gb301,1,none⟩ = some (.int .i64 a0_1):=(bC BK301.out 1).trans rfl
                have hcz138_2 : wr.cell? ⟨gb301,2,none⟩ = some (.int .i64 a0_2):=(bC BK301.out 2).trans rfl
                have hcz138_3 : wr.cell? ⟨gb301,3,none⟩ = some (.int .i64 a0_3):=(bC BK301.out 3).trans rfl
                have hcz138_4 : wr.cell? ⟨gb301,4,none⟩ = some (.int .i64 a0_4):=(bC BK301.out 4).trans rfl
                have hcz138_5 : wr.cell? ⟨gb301,5,none⟩ = some (.int .i64 a0_5):=(bC BK301.out 5).trans rfl
                have hcz138_6 : wr.cell? ⟨gb301,6,none⟩ = some (.int .i64 a0_6):=(bC BK301.out 6).trans rfl
                have hcz138_7 : wr.cell? ⟨gb301,7,none⟩ = some (.int .i64 a0_7):=(bC BK301.out 7).trans rfl
                have hcz138_8 : wr.cell? ⟨gb301,8,none⟩ = some (.int .i64 a0_8):=(bC BK301.out 8).trans rfl
                have hcz138_9 : wr.cell? ⟨gb301,9,none⟩ = some (.slice A0_9 l0_9.length c0_9):=(bC BK301.out 9).trans rfl
                have hcz138_10 : wr.cell? ⟨gb301,10,none⟩ = some (.slice (some ad323) l0_10.length c0_10):=(bC BK301.out 10).trans rfl
                have hcz138_11 : wr.cell? ⟨gb301,11,none⟩ = some (.slice A0_11 l0_11.length c0_11):=(bC BK301.out 11).trans rfl
                have hfz138_0:=bF BK301.out 0
                have hfz138_1:=bF BK301.out 1
                have hfz138_2:=bF BK301.out 2
                have hfz138_3:=bF BK301.out 3
                have hfz138_4:=bF BK301.out 4
                have hfz138_5:=bF BK301.out 5
                have hfz138_6:=bF BK301.out 6
                have hfz138_7:=bF BK301.out 7
                have hfz138_8:=bF BK301.out 8
                have hfz138_9:=bF BK301.out 9
                have hfz138_10:=bF BK301.out 10
                have hfz138_11:=bF BK301.out 11
                have p328 : 0≤(x9_7 : Int):=of_decide_eq_true (by first|(with_reducible assumption)|assumption)
                have q328 : x9_7 < (l0_10.length : Int):=of_decide_eq_true (by first|(with_reducible assumption)|assumption)
                obtain ⟨ad328,e328,hx328_0,hx328_1,hx328_2⟩:=at_T52 HR0_10.out x9_7 p328 q328
                obtain rfl : ad323 = ad328:=(by injection e328)
                replace hx328_0:=(HB.out.cell (wB w _ hx328_0)).trans hx328_0
                replace hx328_1:=(HB.out.cell (wB w _ hx328_1)).trans hx328_1
                replace hx328_2:=(HB.out.cell (wB w _ hx328_2)).trans hx328_2
                replace p328:=eq_true p328
                replace q328:=eq_true q328
                have hnb139:=NB324_302.out
                have hnc139:=NB302_324.out
                have hcz140_0 : wr.cell? ⟨gb324,0,none⟩ = some (.string ((rd_T52 l0_10 x7_5).f0)):=(bC BK324.out 0).trans rfl
                have hcz140_1 : wr.cell? ⟨gb324,1,none⟩ = some (.int .i64 ((rd_T52 l0_10 x7_5).f1)):=(bC BK324.out 1).trans rfl
                have hcz140_2 : wr.cell? ⟨gb324,2,none⟩ = some (.int .i64 ((rd_T52 l0_10 x7_5).f2)):=(bC BK324.out 2).trans rfl
                have hfz140_0:=bF BK324.out 0
                have hfz140_1:=bF BK324.out 1
                have hfz140_2:=bF BK324.out 2
                go_wp2
                repeat (go_quiet (fail);try go_wp2)
                go_roundg k7
                case measure=>have:=HJ1.out;have:=HJ27.out;have:=HJ44.out;have:=HK4.out;have:=HK5.out;have:=HJ104.out;have:=HK7.out;omega
                case rel=>exact ⟨(wrap64 (x9_7 + 1)),(by first|rfl|(simp;done)|(simp [*];done)),H',⟨by have:=HJ1.out;have:=HJ27.out;have:=HJ44.out;have:=HK4.out;have:=HK5.out;have:=HJ104.out;have:=HK7.out;omega⟩,⟨by (with_reducible repeat (first|refine bN ?_ _|refine bD ?_|refine bA ?_ _));exact BK301.out⟩,⟨by (with_reducible repeat (first|refine bN ?_ _|refine bD ?_|refine bA ?_ _));exact BK302.out⟩,⟨by (with_reducible repeat (first|refine bN ?_ _|refine bD ?_|refine bA ?_ _));exact BK324.out⟩,⟨by repeat (first|(with_reducible first|exact HB.out|apply bL|apply pN|apply bE|refine bS ?_ GE301.out|refine bS ?_ GE302.out|refine bS ?_ GE324.out)|exact HB.out)⟩⟩
         rw [if_pos c58] at H
         have c58b0 : decide (x4_4 < (l0_9.length : Int)) = true:=decide_eq_true c58
         clear c58
         by_cases c59 : 0≤x4_4
         rotate_left
         ·rw [if_neg c59] at H
          exact absurd H (by simp)
         rw [if_pos c59] at H
         have c59b0 : decide (0≤x4_4) = true:=decide_eq_true c59
         clear c59
         have HC60:=Am H
         clear H
         have hnb61:=NB301_302.out
         have hnc61:=NB302_301.out
         have hcz62_0 : wr.cell? ⟨gb301,0,none⟩ = some (.int .i64 a0_0):=(bC BK301.out 0).trans rfl
         have hcz62_1 : wr.cell? ⟨gb301,1,none⟩ = some (.int .i64 a0_1):=(bC BK301.out 1).trans rfl
         have hcz62_2 : wr.cell? ⟨gb301,2,none⟩ = some (.int .i64 a0_2):=(bC BK301.out 2).trans rfl
         have hcz62_3 : wr.cell? ⟨gb301,3,none⟩ = some (.int .i64 a0_3):=(bC BK301.out 3).trans rfl
         have hcz62_4 : wr.cell? ⟨gb301,4,none⟩ = some (.int .i64 a0_4):=(bC BK301.out 4).trans rfl
         have hcz62_5 : wr.cell? ⟨gb301,5,none⟩ = some (.int .i64 a0_5):=(bC BK301.out 5).trans rfl
         have hcz62_6 : wr.cell? ⟨gb301,6,none⟩ = some (.int .i64 a0_6):=(bC BK301.out 6).trans rfl
         have hcz62_7 : wr.cell? ⟨gb301,7,none⟩ = some (.int .i64 a0_7):=(bC BK301.out 7).trans rfl
         have hcz62_8 : wr.cell? ⟨gb301,8,none⟩ = some (.int .i64 a0_8):=(bC BK301.out 8).trans rfl
         have hcz62_9 : wr.cell? ⟨gb301,9,none⟩ = some (.slice A0_9 l0_9.length c0_9):=(bC BK301.out 9).trans rfl
         have hcz62_10 : wr.cell? ⟨gb301,10,none⟩ = some (.slice A0_10 l0_10.length c0_10):=(bC BK301.out 10).trans rfl
         have hcz62_11 : wr.cell? ⟨gb301,11,none⟩ = some (.slice A0_11 l0_11.length c0_11):=(bC BK301.out 11).trans rfl
         have hfz62_0:=bF BK301.out 0
         have hfz62_1:=bF BK301.out 1
         have hfz62_2:=bF BK301.out 2
         have hfz62_3:=bF BK301.out 3
         have hfz62_4:=bF BK301.out 4
         have hfz62_5:=bF BK301.out 5
         have hfz62_6:=bF BK301.out 6
         have hfz62_7:=bF BK301.out 7
         have hfz62_8:=bF BK301.out 8
         have hfz62_9:=bF BK301.out 9
         have hfz62_10:=bF BK301.out 10
         have hfz62_11:=bF BK301.out 11
         have p315 : 0≤(x4_4 : Int):=of_decide_eq_true (by first|(with_reducible assumption)|assumption)
         have q315 : x4_4 < (l0_9.length : Int):=of_decide_eq_true (by first|(with_reducible assumption)|assumption)
         obtain ⟨ad315,e315,hx315_0,hx315_1,hx315_2,hx315_3⟩:=at_T50 HR0_9.out x4_4 p315 q315
         cases e315
         replace hx315_0:=(HB.out.cell (wB w _ hx315_0)).trans hx315_0
         replace hx315_1:=(HB.out.cell (wB w _ hx315_1)).trans hx315_1
         replace hx315_2:=(HB.out.cell (wB w _ hx315_2)).trans hx315_2
         replace hx315_3:=(HB.out.cell (wB w _ hx315_3)).trans hx315_3
         replace p315:=eq_true p315
         replace q315:=eq_true q315
         go_upto_region 12 with (first|((with_reducible refine gD (N:=5) rfl ?_);(try (refine gate_guard (by rfl) ?_;dsimp only));refine box_event ?hg (N:=5) ?hd (cs:=#[.string (⟨#[]⟩ : ByteArray),.int .i64 0,.int .i64 0,.int .i64 0]) (t:=50) ?hr ?_;(case hd=>rfl);(case hg=>rfl);(case hr=>first|(go_simp;done)|(go_simp;rfl));intro gb316 hg w63 hbox hb;have n0_:=Am (blk_below (g:=gb301) (by (with_reducible repeat (first|refine bN ?_ _|refine bD ?_|refine bA ?_ _));exact BK301.out) hb);have n1_:=Am (blk_below (g:=gb302) (by (with_reducible repeat (first|refine bN ?_ _|refine bD ?_|refine bA ?_ _));exact BK302.out) hb);have n2_:=Am (below_step (by repeat (first|(with_reducible first|exact HB.out|apply bL|apply pN|apply bE|refine bS ?_ GE301.out|refine bS ?_ GE302.out)|exact HB.out)) hb);have n3_:=Am (hbox);have n4_:=Am ((by rw [hg];exact (bZ (by repeat (first|(with_reducible first|exact HB.out|apply bL|apply pN|apply bE|refine bS ?_ GE301.out|refine bS ?_ GE302.out)|exact HB.out))) : w.heap.size≤gb316));have n5_:=Am ((by rw [hg];exact (bZ (by repeat (first|(with_reducible first|exact HB.out|apply bL|apply pN|apply bE|refine bS ?_ GE301.out|refine bS ?_ GE302.out)|exact HB.out))) : w.heap.size≤gb316));have n6_:=Am ((by rw [hg];exact Nat.ne_of_lt (blk_lt (g:=gb301) (by (with_reducible repeat (first|refine bN ?_ _|refine bD ?_|refine bA ?_ _));exact BK301.out)) : gb301 ≠ gb316));have n7_:=Am ((by rw [hg];exact Nat.ne_of_gt (blk_lt (g:=gb301) (by (with_reducible repeat (first|refine bN ?_ _|refine bD ?_|refine bA ?_ _));exact BK301.out)) : gb316 ≠ gb301));have n8_:=Am ((by rw [hg];exact Nat.ne_of_lt (blk_lt (g:=gb302) (by (with_reducible repeat (first|refine bN ?_ _|refine bD ?_|refine bA ?_ _));exact BK302.out)) : gb302 ≠ gb316));have n9_:=Am ((by rw [hg];exact Nat.ne_of_gt (blk_lt (g:=gb302) (by (with_reducible repeat (first|refine bN ?_ _|refine bD ?_|refine bA ?_ _));exact BK302.out)) : gb316 ≠ gb302));clear BK301;clear BK302;clear HB;have BK301:=n0_;have BK302:=n1_;have HB:=n2_;have BK316:=n3_;have GW316:=n4_;have GE316:=n5_;have NB301_316:=n6_;have NB316_301:=n7_;have NB302_316:=n8_;have NB316_302:=n9_;clear n0_ n1_ n2_ n3_ n4_ n5_ n6_ n7_ n8_ n9_;clear hb hbox hg;have hnb64:=NB316_301.out;have hnc64:=NB301_316.out;have hnb65:=NB316_302.out;have hnc65:=NB302_316.out;have hcz66_0 : w63.cell? ⟨gb316,0,none⟩ = some (.string (⟨#[]⟩ : ByteArray)):=(bC BK316.out 0).trans rfl;have hcz66_1 : w63.cell? ⟨gb316,1,none⟩ = some (.int .i64 0):=(bC BK316.out 1).trans rfl;have hcz66_2 : w63.cell? ⟨gb316,2,none⟩ = some (.int .i64 0):=(bC BK316.out 2).trans rfl;have hcz66_3 : w63.cell? ⟨gb316,3,none⟩ = some (.int .i64 0):=(bC BK316.out 3).trans rfl;have hfz66_0:=bF BK316.out 0;have hfz66_1:=bF BK316.out 1;have hfz66_2:=bF BK316.out 2;have hfz66_3:=bF BK316.out 3))
         repeat (go_quiet (first|((with_reducible refine gD (N:=5) rfl ?_);(try (refine gate_guard (by rfl) ?_;dsimp only));refine box_event ?hg (N:=5) ?hd (cs:=#[.string (⟨#[]⟩ : ByteArray),.int .i64 0,.int .i64 0,.int .i64 0]) (t:=50) ?hr ?_;(case hd=>rfl);(case hg=>rfl);(case hr=>first|(go_simp;done)|(go_simp;rfl));intro gb316 hg w63 hbox hb;have n0_:=Am (blk_below (g:=gb301) (by (with_reducible repeat (first|refine bN ?_ _|refine bD ?_|refine bA ?_ _));exact BK301.out) hb);have n1_:=Am (blk_below (g:=gb302) (by (with_reducible repeat (first|refine bN ?_ _|refine bD ?_|refine bA ?_ _));exact BK302.out) hb);have n2_:=Am (below_step (by repeat (first|(with_reducible first|exact HB.out|apply bL|apply pN|apply bE|refine bS ?_ GE301.out|refine bS ?_ GE302.out)|exact HB.out)) hb);have n3_:=Am (hbox);have n4_:=Am ((by rw [hg];exact (bZ (by repeat (first|(with_reducible first|exact HB.out|apply bL|apply pN|apply bE|refine bS ?_ GE301.out|refine bS ?_ GE302.out)|exact HB.out))) : w.heap.size≤gb316));have n5_:=Am ((by rw [hg];exact (bZ (by repeat (first|(with_reducible first|exact HB.out|apply bL|apply pN|apply bE|refine bS ?_ GE301.out|refine bS ?_ GE302.out)|exact HB.out))) : w.heap.size≤gb316));have n6_:=Am ((by rw [hg];exact Nat.ne_of_lt (blk_lt (g:=gb301) (by (with_reducible repeat (first|refine bN ?_ _|refine bD ?_|refine bA ?_ _));exact BK301.out)) : gb301 ≠ gb316));have n7_:=Am ((by rw [hg];exact Nat.ne_of_gt (blk_lt (g:=gb301) (by (with_reducible repeat (first|refine bN ?_ _|refine bD ?_|refine bA ?_ _));exact BK301.out)) : gb316 ≠ gb301));have n8_:=Am ((by rw [hg];exact Nat.ne_of_lt (blk_lt (g:=gb302) (by (with_reducible repeat (first|refine bN ?_ _|refine bD ?_|refine bA ?_ _));exact BK302.out)) : gb302 ≠ gb316));have n9_:=Am ((by rw [hg];exact Nat.ne_of_gt (blk_lt (g:=gb302) (by (with_reducible repeat (first|refine bN ?_ _|refine bD ?_|refine bA ?_ _));exact BK302.out)) : gb316 ≠ gb302));clear BK301;clear BK302;clear HB;have BK301:=n0_;have BK302:=n1_;have HB:=n2_;have BK316:=n3_;have GW316:=n4_;have GE316:=n5_;have NB301_316:=n6_;have NB316_301:=n7_;have NB302_316:=n8_;have NB316_302:=n9_;clear n0_ n1_ n2_ n3_ n4_ n5_ n6_ n7_ n8_ n9_;clear hb hbox hg;have hnb64:=NB316_301.out;have hnc64:=NB301_316.out;have hnb65:=NB316_302.out;have hnc65:=NB302_316.out;have hcz66_0 : w63.cell? ⟨gb316,0,none⟩ = some (.string (⟨#[]⟩ : ByteArray)):=(bC BK316.out 0).trans rfl;have hcz66_1 : w63.cell? ⟨gb316,1,none⟩ = some (.int .i64 0):=(bC BK316.out 1).trans rfl;have hcz66_2 : w63.cell? ⟨gb316,2,none⟩ = some (.int .i64 0):=(bC BK316.out 2).trans rfl;have hcz66_3 : w63.cell? ⟨gb316,3,none⟩ = some (.int .i64 0):=(bC BK316.out 3).trans rfl;have hfz66_0:=bF BK316.out 0;have hfz66_1:=bF BK316.out 1;have hfz66_2:=bF BK316.out 2;have hfz66_3:=bF BK316.out 3));go_upto_region 12 with (first|((with_reducible refine gD (N:=5) rfl ?_);(try (refine gate_guard (by rfl) ?_;dsimp only));refine box_event ?hg (N:=5) ?hd (cs:=#[.string (⟨#[]⟩ : ByteArray),.int .i64 0,.int .i64 0,.int .i64 0]) (t:=50) ?hr ?_;(case hd=>rfl);(case hg=>rfl);(case hr=>first|(go_simp;done)|(go_simp;rfl));intro gb316 hg w63 hbox hb;have n0_:=Am (blk_below (g:=gb301) (by (with_reducible repeat (first|refine bN ?_ _|refine bD ?_|refine bA ?_ _));exact BK301.out) hb);have n1_:=Am (blk_below (g:=gb302) (by (with_reducible repeat (first|refine bN ?_ _|refine bD ?_|refine bA ?_ _));exact BK302.out) hb);have n2_:=Am (below_step (by repeat (first|(with_reducible first|exact HB.out|apply bL|apply pN|apply bE|refine bS ?_ GE301.out|refine bS ?_ GE302.out)|exact HB.out)) hb);have n3_:=Am (hbox);have n4_:=Am ((by rw [hg];exact (bZ (by repeat (first|(with_reducible first|exact HB.out|apply bL|apply pN|apply bE|refine bS ?_ GE301.out|refine bS ?_ GE302.out)|exact HB.out))) : w.heap.size≤gb316));have n5_:=Am ((by rw [hg];exact (bZ (by repeat (first|(with_reducible first|exact HB.out|apply bL|apply pN|apply bE|refine bS ?_ GE301.out|refine bS ?_ GE302.out)|exact HB.out))) : w.heap.size≤gb316));have n6_:=Am ((by rw [hg];exact Nat.ne_of_lt (blk_lt (g:=gb301) (by (with_reducible repeat (first|refine bN ?_ _|refine bD ?_|refine bA ?_ _));exact BK301.out)) : gb301 ≠ gb316));have n7_:=Am ((by rw [hg];exact Nat.ne_of_gt (blk_lt (g:=gb301) (by (with_reducible repeat (first|refine bN ?_ _|refine bD ?_|refine bA ?_ _));exact BK301.out)) : gb316 ≠ gb301));have n8_:=Am ((by rw [hg];exact Nat.ne_of_lt (blk_lt (g:=gb302) (by (with_reducible repeat (first|refine bN ?_ _|refine bD ?_|refine bA ?_ _));exact BK302.out)) : gb302 ≠ gb316));have n9_:=Am ((by rw [hg];exact Nat.ne_of_gt (blk_lt (g:=gb302) (by (with_reducible repeat (first|refine bN ?_ _|refine bD ?_|refine bA ?_ _));exact BK302.out)) : gb316 ≠ gb302));clear BK301;clear BK302;clear HB;have BK301:=n0_;have BK302:=n1_;have HB:=n2_;have BK316:=n3_;have GW316:=n4_;have GE316:=n5_;have NB301_316:=n6_;have NB316_301:=n7_;have NB302_316:=n8_;have NB316_302:=n9_;clear n0_ n1_ n2_ n3_ n4_ n5_ n6_ n7_ n8_ n9_;clear hb hbox hg;have hnb64:=NB316_301.out;have hnc64:=NB301_316.out;have hnb65:=NB316_302.out;have hnc65:=NB302_316.out;have hcz66_0 : w63.cell? ⟨gb316,0,none⟩ = some (.string (⟨#[]⟩ : ByteArray)):=(bC BK316.out 0).trans rfl;have hcz66_1 : w63.cell? ⟨gb316,1,none⟩ = some (.int .i64 0):=(bC BK316.out 1).trans rfl;have hcz66_2 : w63.cell? ⟨gb316,2,none⟩ = some (.int .i64 0):=(bC BK316.out 2).trans rfl;have hcz66_3 : w63.cell? ⟨gb316,3,none⟩ = some (.int .i64 0):=(bC BK316.out 3).trans rfl;have hfz66_0:=bF BK316.out 0;have hfz66_1:=bF BK316.out 1;have hfz66_2:=bF BK316.out 2;have hfz66_3:=bF BK316.out 3)))
         (try simp only [Act.put,sT,sZ,sS])
         go_cut [99] (fun v99 wc=>∃ (kq : Nat) (x99_59 : Bool),v99 = .bool x99_59∧Aside0 (gangerref10_Check.j4 kq x4_4 x99_59 a0_0 a0_1 a0_2 a0_3 a0_4 a0_5 a0_6 a0_7 a0_8 l0_9 l0_10 l0_11 ((rd_T50 l0_9 x4_4).f0) ((rd_T50 l0_9 x4_4).f1) ((rd_T50 l0_9 x4_4).f2) ((rd_T50 l0_9 x4_4).f3) = some r)∧Aside0 (kq≤k4)∧Aside0 (wc.heap[gb301]? = some (.cells #[.int .i64 a0_0,.int .i64 a0_1,.int .i64 a0_2,.int .i64 a0_3,.int .i64 a0_4,.int .i64 a0_5,.int .i64 a0_6,.int .i64 a0_7,.int .i64 a0_8,(.slice (some ad315) l0_9.length c0_9),(.slice A0_10 l0_10.length c0_10),(.slice A0_11 l0_11.length c0_11)] 28 (0,0)))∧Aside0 (wc.heap[gb302]? = some (.cells #[.int .i64 a0_4,.int .i64 a0_5,.int .i64 a0_6,.int .i64 a0_7,.int .i64 a0_8] 23 (0,0)))∧Aside0 (wc.heap[gb316]? = some (.cells #[.string ((rd_T50 l0_9 x4_4).f0),.int .i64 ((rd_T50 l0_9 x4_4).f1),.int .i64 ((rd_T50 l0_9 x4_4).f2),.int .i64 ((rd_T50 l0_9 x4_4).f3)] 50 (0,0)))∧Aside0 (Below w.heap.size w wc))
         case first =>
          have H:=HC60.out
          clear HC60
          replace H:=oB H
          obtain ⟨t317,A670,H⟩:=H
          replace H : (if t317 = true then ((gangerref10_out.f ((rd_T50 l0_9 x4_4).f1) 0 10).bind fun t318=>(if t318 = true then (gangerref10_Check.j4 k4 x4_4 true a0_0 a0_1 a0_2 a0_3 a0_4 a0_5 a0_6 a0_7 a0_8 l0_9 l0_10 l0_11 ((rd_T50 l0_9 x4_4).f0) ((rd_T50 l0_9 x4_4).f1) ((rd_T50 l0_9 x4_4).f2) ((rd_T50 l0_9 x4_4).f3)) else ((gangerref10_out.f ((rd_T50 l0_9 x4_4).f2) 0 1048576).bind fun t319=>(if t319 = true then (gangerref10_Check.j4 k4 x4_4 true a0_0 a0_1 a0_2 a0_3 a0_4 a0_5 a0_6 a0_7 a0_8 l0_9 l0_10 l0_11 ((rd_T50 l0_9 x4_4).f0) ((rd_T50 l0_9 x4_4).f1) ((rd_T50 l0_9 x4_4).f2) ((rd_T50 l0_9 x4_4).f3)) else ((gangerref10_out.f ((rd_T50 l0_9 x4_4).f3) 1 1073741824).bind fun t320=>(gangerref10_Check.j4 k4 x4_4 t320 a0_0 a0_1 a0_2 a0_3 a0_4 a0_5 a0_6 a0_7 a0_8 l0_9 l0_10 l0_11 ((rd_T50 l0_9 x4_4).f0) ((rd_T50 l0_9 x4_4).f1) ((rd_T50 l0_9 x4_4).f2) ((rd_T50 l0_9 x4_4).f3))))))) else (gangerref10_Check.j4 k4 x4_4 true a0_0 a0_1 a0_2 a0_3 a0_4 a0_5 a0_6 a0_7 a0_8 l0_9 l0_10 l0_11 ((rd_T50 l0_9 x4_4).f0) ((rd_T50 l0_9 x4_4).f1) ((rd_T50 l0_9 x4_4).f2) ((rd_T50 l0_9 x4_4).f3))) = some r:=H
          have A67:=Am A670
          clear A670
          by_cases c68 : t317 = true
          rotate_left
          ·replace c68:=Bool.eq_false_iff.mpr c68
           subst c68
           have H1 : (gangerref10_Check.j4 k4 x4_4 true a0_0 a0_1 a0_2 a0_3 a0_4 a0_5 a0_6 a0_7 a0_8 l0_9 l0_10 l0_11 ((rd_T50 l0_9 x4_4).f0) ((rd_T50 l0_9 x4_4).f1) ((rd_T50 l0_9 x4_4).f2) ((rd_T50 l0_9 x4_4).f3)) = some r:=by rw [if_neg (show ¬ (false = true) by decide)] at H;exact H
           clear H
           have H:=H1
           clear H1
           have H':=Am H
           clear H
           have hnb83:=NB316_301.out
           have hnc83:=NB301_316.out
           have hnb84:=NB316_302.out
           have hnc84:=NB302_316.out
           have hcz85_0 : w63.cell? ⟨gb316,0,none⟩ = some (.string (⟨#[]⟩ : ByteArray)):=(bC BK316.out 0).trans rfl
           have hcz85_1 : w63.cell? ⟨gb316,1,none⟩ = some (.int .i64 0):=(bC BK316.out 1).trans rfl
           have hcz85_2 : w63.cell? ⟨gb316,2,none⟩ = some (.int .i64 0):=(bC BK316.out 2).trans rfl
           have hcz85_3 : w63.cell? ⟨gb316,3,none⟩ = some (.int .i64 0):=(bC BK316.out 3).trans rfl
           have hfz85_0:=bF BK316.out 0
           have hfz85_1:=bF BK316.out 1
           have hfz85_2:=bF BK316.out 2
           have hfz85_3:=bF BK316.out 3
           go_wp2_with (first|(go_at_call 20;(with_reducible refine (gangerref09_Name.calls k4 ((rd_T50 l0_9 x4_4).f0) false _ A67.out).mono ?_);rintro e w' ⟨rfl,⟨nd,rfl⟩⟩;(try first|exact ⟨rfl,_,wD _ _ _⟩|exact ⟨rfl,_,wE _ _ _ _⟩)))
           repeat (go_quiet (first|(go_at_call 20;(with_reducible refine (gangerref09_Name.calls k4 ((rd_T50 l0_9 x4_4).f0) false _ A67.out).mono ?_);rintro e w' ⟨rfl,⟨nd,rfl⟩⟩;(try first|exact ⟨rfl,_,wD _ _ _⟩|exact ⟨rfl,_,wE _ _ _ _⟩)));try go_wp2_with (first|(go_at_call 20;(with_reducible refine (gangerref09_Name.calls k4 ((rd_T50 l0_9 x4_4).f0) false _ A67.out).mono ?_);rintro e w' ⟨rfl,⟨nd,rfl⟩⟩;(try first|exact ⟨rfl,_,wD _ _ _⟩|exact ⟨rfl,_,wE _ _ _ _⟩))))
           go_meet
           case rel=>exact ⟨_,(true),(by first|rfl|(simp;done)|(simp [*];done)),H',⟨by have:=HJ1.out;have:=HJ27.out;have:=HJ44.out;have:=HK4.out;first|omega|exact Nat.le_refl _⟩,⟨by (with_reducible repeat (first|refine bN ?_ _|refine bD ?_|refine bA ?_ _));refine blk_far ?_ NB301_316.out _;(with_reducible repeat (first|refine bN ?_ _|refine bD ?_|refine bA ?_ _));refine blk_far ?_ NB301_316.out _;(with_reducible repeat (first|refine bN ?_ _|refine bD ?_|refine bA ?_ _));refine blk_far ?_ NB301_316.out _;(with_reducible repeat (first|refine bN ?_ _|refine bD ?_|refine bA ?_ _));refine blk_far ?_ NB301_316.out _;(with_reducible repeat (first|refine bN ?_ _|refine bD ?_|refine bA ?_ _));exact BK301.out⟩,⟨by (with_reducible repeat (first|refine bN ?_ _|refine bD ?_|refine bA ?_ _));refine blk_far ?_ NB302_316.out _;(with_reducible repeat (first|refine bN ?_ _|refine bD ?_|refine bA ?_ _));refine blk_far ?_ NB302_316.out _;(with_reducible repeat (first|refine bN ?_ _|refine bD ?_|refine bA ?_ _));refine blk_far ?_ NB302_316.out _;(with_reducible repeat (first|refine bN ?_ _|refine bD ?_|refine bA ?_ _));refine blk_far ?_ NB302_316.out _;(with_reducible repeat (first|refine bN ?_ _|refine bD ?_|refine bA ?_ _));exact BK302.out⟩,⟨by (with_reducible repeat (first|refine bN ?_ _|refine bD ?_|refine bA ?_ _));refine blk_put (cs:=#[.string ((rd_T50 l0_9 x4_4).f0),.int .i64 ((rd_T50 l0_9 x4_4).f1),.int .i64 ((rd_T50 l0_9 x4_4).f2),.int .i64 0]) ?_ 3 _ rfl;(with_reducible repeat (first|refine bN ?_ _|refine bD ?_|refine bA ?_ _));refine blk_put (cs:=#[.string ((rd_T50 l0_9 x4_4).f0),.int .i64 ((rd_T50 l0_9 x4_4).f1),.int .i64 0,.int .i64 0]) ?_ 2 _ rfl;(with_reducible repeat (first|refine bN ?_ _|refine bD ?_|refine bA ?_ _));refine blk_put (cs:=#[.string ((rd_T50 l0_9 x4_4).f0),.int .i64 0,.int .i64 0,.int .i64 0]) ?_ 1 _ rfl;(with_reducible repeat (first|refine bN ?_ _|refine bD ?_|refine bA ?_ _));refine blk_put (cs:=#[.string (⟨#[]⟩ : ByteArray),.int .i64 0,.int .i64 0,.int .i64 0]) ?_ 0 _ rfl;(with_reducible repeat (first|refine bN ?_ _|refine bD ?_|refine bA ?_ _));exact BK316.out⟩,⟨by repeat (first|(with_reducible first|exact HB.out|apply bL|apply pN|apply bE|refine bS ?_ GE301.out|refine bS ?_ GE302.out|refine bS ?_ GE316.out)|exact HB.out)⟩⟩
          subst c68
          have H1 : ((gangerref10_out.f ((rd_T50 l0_9 x4_4).f1) 0 10).bind fun t318=>(if t318 = true then (gangerref10_Check.j4 k4 x4_4 true a0_0 a0_1 a0_2 a0_3 a0_4 a0_5 a0_6 a0_7 a0_8 l0_9 l0_10 l0_11 ((rd_T50 l0_9 x4_4).f0) ((rd_T50 l0_9 x4_4).f1) ((rd_T50 l0_9 x4_4).f2) ((rd_T50 l0_9 x4_4).f3)) else ((gangerref10_out.f ((rd_T50 l0_9 x4_4).f2) 0 1048576).bind fun t319=>(if t319 = true then (gangerref10_Check.j4 k4 x4_4 true a0_0 a0_1 a0_2 a0_3 a0_4 a0_5 a0_6 a0_7 a0_8 l0_9 l0_10 l0_11 ((rd_T50 l0_9 x4_4).f0) ((rd_T50 l0_9 x4_4).f1) ((rd_T50 l0_9 x4_4).f2) ((rd_T50 l0_9 x4_4).f3)) else ((gangerref10_out.f ((rd_T50 l0_9 x4_4).f3) 1 1073741824).bind fun t320=>(gangerref10_Check.j4 k4 x4_4 t320 a0_0 a0_1 a0_2 a0_3 a0_4 a0_5 a0_6 a0_7 a0_8 l0_9 l0_10 l0_11 ((rd_T50 l0_9 x4_4).f0) ((rd_T50 l0_9 x4_4).f1) ((rd_T50 l0_9 x4_4).f2) ((rd_T50 l0_9 x4_4).f3))))))) = some r:=by rw [if_pos rfl] at H;exact H
          clear H
          have H:=H1
          clear H1
          replace H:=oB H
          obtain ⟨t318,A690,H⟩:=H
          replace H : (if t318 = true then (gangerref10_Check.j4 k4 x4_4 true a0_0 a0_1 a0_2 a0_3 a0_4 a0_5 a0_6 a0_7 a0_8 l0_9 l0_10 l0_11 ((rd_T50 l0_9 x4_4).f0) ((rd_T50 l0_9 x4_4).f1) ((rd_T50 l0_9 x4_4).f2) ((rd_T50 l0_9 x4_4).f3)) else ((gangerref10_out.f ((rd_T50 l0_9 x4_4).f2) 0 1048576).bind fun t319=>(if t319 = true then (gangerref10_Check.j4 k4 x4_4 true a0_0 a0_1 a0_2 a0_3 a0_4 a0_5 a0_6 a0_7 a0_8 l0_9 l0_10 l0_11 ((rd_T50 l0_9 x4_4).f0) ((rd_T50 l0_9 x4_4).f1) ((rd_T50 l0_9 x4_4).f2) ((rd_T50 l0_9 x4_4).f3)) else ((gangerref10_out.f ((rd_T50 l0_9 x4_4).f3) 1 1073741824).bind fun t320=>(gangerref10_Check.j4 k4 x4_4 t320 a0_0 a0_1 a0_2 a0_3 a0_4 a0_5 a0_6 a0_7 a0_8 l0_9 l0_10 l0_11 ((rd_T50 l0_9 x4_4).f0) ((rd_T50 l0_9 x4_4).f1) ((rd_T50 l0_9 x4_4).f2) ((rd_T50 l0_9 x4_4).f3)))))) = some r:=H
          have A69:=Am A690
          clear A690
          by_cases c70 : t318 = true
          ·subst c70
           have H1 : (gangerref10_Check.j4 k4 x4_4 true a0_0 a0_1 a0_2 a0_3 a0_4 a0_5 a0_6 a0_7 a0_8 l0_9 l0_10 l0_11 ((rd_T50 l0_9 x4_4).f0) ((rd_T50 l0_9 x4_4).f1) ((rd_T50 l0_9 x4_4).f2) ((rd_T50 l0_9 x4_4).f3)) = some r:=by rw [if_pos rfl] at H;exact H
           clear H
           have H:=H1
           clear H1
           have H':=Am H
           clear H
           have hnb71:=NB316_301.out
           have hnc71:=NB301_316.out
           have hnb72:=NB316_302.out
           have hnc72:=NB302_316.out
           have hcz73_0 : w63.cell? ⟨gb316,0,none⟩ = some (.string (⟨#[]⟩ : ByteArray)):=(bC BK316.out 0).trans rfl
           have hcz73_1 : w63.cell? ⟨gb316,1,none⟩ = some (.int .i64 0):=(bC BK316.out 1).trans rfl
           have hcz73_2 : w63.cell? ⟨gb316,2,none⟩ = some (.int .i64 0):=(bC BK316.out 2).trans rfl
           have hcz73_3 : w63.cell? ⟨gb316,3,none⟩ = some (.int .i64 0):=(bC BK316.out 3).trans rfl
           have hfz73_0:=bF BK316.out 0
           have hfz73_1:=bF BK316.out 1
           have hfz73_2:=bF BK316.out 2
           have hfz73_3:=bF BK316.out 3
           go_wp2_with (first|(go_at_call 20;(with_reducible refine (gangerref09_Name.calls k4 ((rd_T50 l0_9 x4_4).f0) true _ A67.out).mono ?_);rintro e w' ⟨rfl,⟨nd,rfl⟩⟩;(try first|exact ⟨rfl,_,wD _ _ _⟩|exact ⟨rfl,_,wE _ _ _ _⟩))|(go_at_call 33;(with_reducible refine (gangerref10_out.calls ((rd_T50 l0_9 x4_4).f1) 0 10 true _ A69.out).mono ?_);rintro e w' ⟨rfl,⟨nd,rfl⟩⟩;(try first|exact ⟨rfl,_,wD _ _ _⟩|exact ⟨rfl,_,wE _ _ _ _⟩)))
           repeat (go_quiet (first|(go_at_call 20;(with_reducible refine (gangerref09_Name.calls k4 ((rd_T50 l0_9 x4_4).f0) true _ A67.out).mono ?_);rintro e w' ⟨rfl,⟨nd,rfl⟩⟩;(try first|exact ⟨rfl,_,wD _ _ _⟩|exact ⟨rfl,_,wE _ _ _ _⟩))|(go_at_call 33;(with_reducible refine (gangerref10_out.calls ((rd_T50 l0_9 x4_4).f1) 0 10 true _ A69.out).mono ?_);rintro e w' ⟨rfl,⟨nd,rfl⟩⟩;(try first|exact ⟨rfl,_,wD _ _ _⟩|exact ⟨rfl,_,wE _ _ _ _⟩)));try go_wp2_with (first|(go_at_call 20;(with_reducible refine (gangerref09_Name.calls k4 ((rd_T50 l0_9 x4_4).f0) true _ A67.out).mono ?_);rintro e w' ⟨rfl,⟨nd,rfl⟩⟩;(try first|exact ⟨rfl,_,wD _ _ _⟩|exact ⟨rfl,_,wE _ _ _ _⟩))|(go_at_call 33;(with_reducible refine (gangerref10_out.calls ((rd_T50 l0_9 x4_4).f1) 0 10 true _ A69.out).mono ?_);rintro e w' ⟨rfl,⟨nd,rfl⟩⟩;(try first|exact ⟨rfl,_,wD _ _ _⟩|exact ⟨rfl,_,wE _ _ _ _⟩))))
           go_meet
           case rel=>exact ⟨_,(true),(by first|rfl|(simp;done)|(simp [*];done)),H',⟨by have:=HJ1.out;have:=HJ27.out;have:=HJ44.out;have:=HK4.out;first|omega|exact Nat.le_refl _⟩,⟨by (with_reducible repeat (first|refine bN ?_ _|refine bD ?_|refine bA ?_ _));refine blk_far ?_ NB301_316.out _;(with_reducible repeat (first|refine bN ?_ _|refine bD ?_|refine bA ?_ _));refine blk_far ?_ NB301_316.out _;(with_reducible repeat (first|refine bN ?_ _|refine bD ?_|refine bA ?_ _));refine blk_far ?_ NB301_316.out _;(with_reducible repeat (first|refine bN ?_ _|refine bD ?_|refine bA ?_ _));refine blk_far ?_ NB301_316.out _;(with_reducible repeat (first|refine bN ?_ _|refine bD ?_|refine bA ?_ _));exact BK301.out⟩,⟨by (with_reducible repeat (first|refine bN ?_ _|refine bD ?_|refine bA ?_ _));refine blk_far ?_ NB302_316.out _;(with_reducible repeat (first|refine bN ?_ _|refine bD ?_|refine bA ?_ _));refine blk_far ?_ NB302_316.out _;(with_reducible repeat (first|refine bN ?_ _|refine bD ?_|refine bA ?_ _));refine blk_far ?_ NB302_316.out _;(with_reducible repeat (first|refine bN ?_ _|refine bD ?_|refine bA ?_ _));refine blk_far ?_ NB302_316.out _;(with_reducible repeat (first|refine bN ?_ _|refine bD ?_|refine bA ?_ _));exact BK302.out⟩,⟨by (with_reducible repeat (first|refine bN ?_ _|refine bD ?_|refine bA ?_ _));refine blk_put (cs:=#[.string ((rd_T50 l0_9 x4_4).f0),.int .i64 ((rd_T50 l0_9 x4_4).f1),.int .i64 ((rd_T50 l0_9 x4_4).f2),.int .i64 0]) ?_ 3 _ rfl;(with_reducible repeat (first|refine bN ?_ _|refine bD ?_|refine bA ?_ _));refine blk_put (cs:=#[.string ((rd_T50 l0_9 x4_4).f0),.int .i64 ((rd_T50 l0_9 x4_4).f1),.int .i64 0,.int .i64 0]) ?_ 2 _ rfl;(with_reducible repeat (first|refine bN ?_ _|refine bD ?_|refine bA ?_ _));refine blk_put (cs:=#[.string ((rd_T50 l0_9 x4_4).f0),.int .i64 0,.int .i64 0,.int .i64 0]) ?_ 1 _ rfl;(with_reducible repeat (first|refine bN ?_ _|refine bD ?_|refine bA ?_ _));refine blk_put (cs:=#[.string (⟨#[]⟩ : ByteArray),.int .i64 0,.int .i64 0,.int .i64 0]) ?_ 0 _ rfl;(with_reducible repeat (first|refine bN ?_ _|refine bD ?_|refine bA ?_ _));exact BK316.out⟩,⟨by repeat (first|(with_reducible first|exact HB.out|apply bL|apply pN|apply bE|refine bS ?_ GE301.out|refine bS ?_ GE302.out|refine bS ?_ GE316.out)|exact HB.out)⟩⟩
          replace c70:=Bool.eq_false_iff.mpr c70
          subst c70
          have H1 : ((gangerref10_out.f ((rd_T50 l0_9 x4_4).f2) 0 1048576).bind fun t319=>(if t319 = true then (gangerref10_Check.j4 k4 x4_4 true a0_0 a0_1 a0_2 a0_3 a0_4 a0_5 a0_6 a0_7 a0_8 l0_9 l0_10 l0_11 ((rd_T50 l0_9 x4_4).f0) ((rd_T50 l0_9 x4_4).f1) ((rd_T50 l0_9 x4_4).f2) ((rd_T50 l0_9 x4_4).f3)) else ((gangerref10_out.f ((rd_T50 l0_9 x4_4).f3) 1 1073741824).bind fun t320=>(gangerref10_Check.j4 k4 x4_4 t320 a0_0 a0_1 a0_2 a0_3 a0_4 a0_5 a0_6 a0_7 a0_8 l0_9 l0_10 l0_11 ((rd_T50 l0_9 x4_4).f0) ((rd_T50 l0_9 x4_4).f1) ((rd_T50 l0_9 x4_4).f2) ((rd_T50 l0_9 x4_4).f3))))) = some r:=by rw [if_neg (show ¬ (false = true) by decide)] at H;exact H
          clear H
          have H:=H1
          clear H1
          replace H:=oB H
          obtain ⟨t319,A740,H⟩:=H
          replace H : (if t319 = true then (gangerref10_Check.j4 k4 x4_4 true a0_0 a0_1 a0_2 a0_3 a0_4 a0_5 a0_6 a0_7 a0_8 l0_9 l0_10 l0_11 ((rd_T50 l0_9 x4_4).f0) ((rd_T50 l0_9 x4_4).f1) ((rd_T50 l0_9 x4_4).f2) ((rd_T50 l0_9 x4_4).f3)) else ((gangerref10_out.f ((rd_T50 l0_9 x4_4).f3) 1 1073741824).bind fun t320=>(gangerref10_Check.j4 k4 x4_4 t320 a0_0 a0_1 a0_2 a0_3 a0_4 a0_5 a0_6 a0_7 a0_8 l0_9 l0_10 l0_11 ((rd_T50 l0_9 x4_4).f0) ((rd_T50 l0_9 x4_4).f1) ((rd_T50 l0_9 x4_4).f2) ((rd_T50 l0_9 x4_4).f3)))) = some r:=H
          have A74:=Am A740
          clear A740
          by_cases c75 : t319 = true
          ·subst c75
           have H1 : (gangerref10_Check.j4 k4 x4_4 true a0_0 a0_1 a0_2 a0_3 a0_4 a0_5 a0_6 a0_7 a0_8 l0_9 l0_10 l0_11 ((rd_T50 l0_9 x4_4).f0) ((rd_T50 l0_9 x4_4).f1) ((rd_T50 l0_9 x4_4).f2) ((rd_T50 l0_9 x4_4).f3)) = some r:=by rw [if_pos rfl] at H;exact H
           clear H
           have H:=H1
           clear H1
           have H':=Am H
           clear H
           have hnb76:=NB316_301.out
           have hnc76:=NB301_316.out
           have hnb77:=NB316_302.out
           have hnc77:=NB302_316.out
           have hcz78_0 : w63.cell? ⟨gb316,0,none⟩ = some (.string (⟨#[]⟩ : ByteArray)):=(bC BK316.out 0).trans rfl
           have hcz78_1 : w63.cell? ⟨gb316,1,none⟩ = some (.int .i64 0):=(bC BK316.out 1).trans rfl
           have hcz78_2 : w63.cell? ⟨gb316,2,none⟩ = some (.int .i64 0):=(bC BK316.out 2).trans rfl
           have hcz78_3 : w63.cell? ⟨gb316,3,none⟩ = some (.int .i64 0):=(bC BK316.out 3).trans rfl
           have hfz78_0:=bF BK316.out 0
           have hfz78_1:=bF BK316.out 1
           have hfz78_2:=bF BK316.out 2
           have hfz78_3:=bF BK316.out 3
           go_wp2_with (first|(go_at_call 20;(with_reducible refine (gangerref09_Name.calls k4 ((rd_T50 l0_9 x4_4).f0) true _ A67.out).mono ?_);rintro e w' ⟨rfl,⟨nd,rfl⟩⟩;(try first|exact ⟨rfl,_,wD _ _ _⟩|exact ⟨rfl,_,wE _ _ _ _⟩))|(go_at_call 33;(with_reducible refine (gangerref10_out.calls ((rd_T50 l0_9 x4_4).f1) 0 10 false _ A69.out).mono ?_);rintro e w' ⟨rfl,⟨nd,rfl⟩⟩;(try first|exact ⟨rfl,_,wD _ _ _⟩|exact ⟨rfl,_,wE _ _ _ _⟩))|(go_at_call 33;(with_reducible refine (gangerref10_out.calls ((rd_T50 l0_9 x4_4).f2) 0 1048576 true _ A74.out).mono ?_);rintro e w' ⟨rfl,⟨nd,rfl⟩⟩;(try first|exact ⟨rfl,_,wD _ _ _⟩|exact ⟨rfl,_,wE _ _ _ _⟩)))
           repeat (go_quiet (first|(go_at_call 20;(with_reducible refine (gangerref09_Name.calls k4 ((rd_T50 l0_9 x4_4).f0) true _ A67.out).mono ?_);rintro e w' ⟨rfl,⟨nd,rfl⟩⟩;(try first|exact ⟨rfl,_,wD _ _ _⟩|exact ⟨rfl,_,wE _ _ _ _⟩))|(go_at_call 33;(with_reducible refine (gangerref10_out.calls ((rd_T50 l0_9 x4_4).f1) 0 10 false _ A69.out).mono ?_);rintro e w' ⟨rfl,⟨nd,rfl⟩⟩;(try first|exact ⟨rfl,_,wD _ _ _⟩|exact ⟨rfl,_,wE _ _ _ _⟩))|(go_at_call 33;(with_reducible refine (gangerref10_out.calls ((rd_T50 l0_9 x4_4).f2) 0 1048576 true _ A74.out).mono ?_);rintro e w' ⟨rfl,⟨nd,rfl⟩⟩;(try first|exact ⟨rfl,_,wD _ _ _⟩|exact ⟨rfl,_,wE _ _ _ _⟩)));try go_wp2_with (first|(go_at_call 20;(with_reducible refine (gangerref09_Name.calls k4 ((rd_T50 l0_9 x4_4).f0) true _ A67.out).mono ?_);rintro e w' ⟨rfl,⟨nd,rfl⟩⟩;(try first|exact ⟨rfl,_,wD _ _ _⟩|exact ⟨rfl,_,wE _ _ _ _⟩))|(go_at_call 33;(with_reducible refine (gangerref10_out.calls ((rd_T50 l0_9 x4_4).f1) 0 10 false _ A69.out).mono ?_);rintro e w' ⟨rfl,⟨nd,rfl⟩⟩;(try first|exact ⟨rfl,_,wD _ _ _⟩|exact ⟨rfl,_,wE _ _ _ _⟩))|(go_at_call 33;(with_reducible refine (gangerref10_out.calls ((rd_T50 l0_9 x4_4).f2) 0 1048576 true _ A74.out).mono ?_);rintro e w' ⟨rfl,⟨nd,rfl⟩⟩;(try first|exact ⟨rfl,_,wD _ _ _⟩|exact ⟨rfl,_,wE _ _ _ _⟩))))
           go_meet
           case rel=>exact ⟨_,(true),(by first|rfl|(simp;done)|(simp [*];done)),H',⟨by have:=HJ1.out;have:=HJ27.out;have:=HJ44.out;have:=HK4.out;first|omega|exact Nat.le_refl _⟩,⟨by (with_reducible repeat (first|refine bN ?_ _|refine bD ?_|refine bA ?_ _));refine blk_far ?_ NB301_316.out _;(with_reducible repeat (first|refine bN ?_ _|refine bD ?_|refine bA ?_ _));refine blk_far ?_ NB301_316.out _;(with_reducible repeat (first|refine bN ?_ _|refine bD ?_|refine bA ?_ _));refine blk_far ?_ NB301_316.out _;(with_reducible repeat (first|refine bN ?_ _|refine bD ?_|refine bA ?_ _));refine blk_far ?_ NB301_316.out _;(with_reducible repeat (first|refine bN ?_ _|refine bD ?_|refine bA ?_ _));exact BK301.out⟩,⟨by (with_reducible repeat (first|refine bN ?_ _|refine bD ?_|refine bA ?_ _));refine blk_far ?_ NB302_316.out _;(with_reducible repeat (first|refine bN ?_ _|refine bD ?_|refine bA ?_ _));refine blk_far ?_ NB302_316.out _;(with_reducible repeat (first|refine bN ?_ _|refine bD ?_|refine bA ?_ _));refine blk_far ?_ NB302_316.out _;(with_reducible repeat (first|refine bN ?_ _|refine bD ?_|refine bA ?_ _));refine blk_far ?_ NB302_316.out _;(with_reducible repeat (first|refine bN ?_ _|refine bD ?_|refine bA ?_ _));exact BK302.out⟩,⟨by (with_reducible repeat (first|refine bN ?_ _|refine bD ?_|refine bA ?_ _));refine blk_put (cs:=#[.string ((rd_T50 l0_9 x4_4).f0),.int .i64 ((rd_T50 l0_9 x4_4).f1),.int .i64 ((rd_T50 l0_9 x4_4).f2),.int .i64 0]) ?_ 3 _ rfl;(with_reducible repeat (first|refine bN ?_ _|refine bD ?_|refine bA ?_ _));refine blk_put (cs:=#[.string ((rd_T50 l0_9 x4_4).f0),.int .i64 ((rd_T50 l0_9 x4_4).f1),.int .i64 0,.int .i64 0]) ?_ 2 _ rfl;(with_reducible repeat (first|refine bN ?_ _|refine bD ?_|refine bA ?_ _));refine blk_put (cs:=#[.string ((rd_T50 l0_9 x4_4).f0),.int .i64 0,.int .i64 0,.int .i64 0]) ?_ 1 _ rfl;(with_reducible repeat (first|refine bN ?_ _|refine bD ?_|refine bA ?_ _));refine blk_put (cs:=#[.string (⟨#[]⟩ : ByteArray),.int .i64 0,.int .i64 0,.int .i64 0]) ?_ 0 _ rfl;(with_reducible repeat (first|refine bN ?_ _|refine bD ?_|refine bA ?_ _));exact BK316.out⟩,⟨by repeat (first|(with_reducible first|exact HB.out|apply bL|apply pN|apply bE|refine bS ?_ GE301.out|refine bS ?_ GE302.out|refine bS ?_ GE316.out)|exact HB.out)⟩⟩
          replace c75:=Bool.eq_false_iff.mpr c75
          subst c75
          have H1 : ((gangerref10_out.f ((rd_T50 l0_9 x4_4).f3) 1 1073741824).bind fun t320=>(gangerref10_Check.j4 k4 x4_4 t320 a0_0 a0_1 a0_2 a0_3 a0_4 a0_5 a0_6 a0_7 a0_8 l0_9 l0_10 l0_11 ((rd_T50 l0_9 x4_4).f0) ((rd_T50 l0_9 x4_4).f1) ((rd_T50 l0_9 x4_4).f2) ((rd_T50 l0_9 x4_4).f3))) = some r:=by rw [if_neg (show ¬ (false = true) by decide)] at H;exact H
          clear H
          have H:=H1
          clear H1
          replace H:=oB H
          obtain ⟨t320,A790,H⟩:=H
          replace H : (gangerref10_Check.j4 k4 x4_4 t320 a0_0 a0_1 a0_2 a0_3 a0_4 a0_5 a0_6 a0_7 a0_8 l0_9 l0_10 l0_11 ((rd_T50 l0_9 x4_4).f0) ((rd_T50 l0_9 x4_4).f1) ((rd_T50 l0_9 x4_4).f2) ((rd_T50 l0_9 x4_4).f3)) = some r:=H
          have A79:=Am A790
          clear A790
          have H':=Am H
          clear H
          have hnb80:=NB316_301.out
          have hnc80:=NB301_316.out
          have hnb81:=NB316_302.out
          have hnc81:=NB302_316.out
          have hcz82_0 : w63.cell? ⟨gb316,0,none⟩ = some (.string (⟨#[]⟩ : ByteArray)):=(bC BK316.out 0).trans rfl
          have hcz82_1 : w63.cell? ⟨gb316,1,none⟩ = some (.int .i64 0):=(bC BK316.out 1).trans rfl
          have hcz82_2 : w63.cell? ⟨gb316,2,none⟩ = some (.int .i64 0):=(bC BK316.out 2).trans rfl
          have hcz82_3 : w63.cell? ⟨gb316,3,none⟩ = some (.int .i64 0):=(bC BK316.out 3).trans rfl
          have hfz82_0:=bF BK316.out 0
          have hfz82_1:=bF BK316.out 1
          have hfz82_2:=bF BK316.out 2
          have hfz82_3:=bF BK316.out 3
          go_wp2_with (first|(go_at_call 20;(with_reducible refine (gangerref09_Name.calls k4 ((rd_T50 l0_9 x4_4).f0) true _ A67.out).mono ?_);rintro e w' ⟨rfl,⟨nd,rfl⟩⟩;(try first|exact ⟨rfl,_,wD _ _ _⟩|exact ⟨rfl,_,wE _ _ _ _⟩))|(go_at_call 33;(with_reducible refine (gangerref10_out.calls ((rd_T50 l0_9 x4_4).f1) 0 10 false _ A69.out).mono ?_);rintro e w' ⟨rfl,⟨nd,rfl⟩⟩;(try first|exact ⟨rfl,_,wD _ _ _⟩|exact ⟨rfl,_,wE _ _ _ _⟩))|(go_at_call 33;(with_reducible refine (gangerref10_out.calls ((rd_T50 l0_9 x4_4).f2) 0 1048576 false _ A74.out).mono ?_);rintro e w' ⟨rfl,⟨nd,rfl⟩⟩;(try first|exact ⟨rfl,_,wD _ _ _⟩|exact ⟨rfl,_,wE _ _ _ _⟩))|(go_at_call 33;(with_reducible refine (gangerref10_out.calls ((rd_T50 l0_9 x4_4).f3) 1 1073741824 t320 _ A79.out).mono ?_);rintro e w' ⟨rfl,⟨nd,rfl⟩⟩;(try first|exact ⟨rfl,_,wD _ _ _⟩|exact ⟨rfl,_,wE _ _ _ _⟩)))
          repeat (go_quiet (first|(go_at_call 20;(with_reducible refine (gangerref09_Name.calls k4 ((rd_T50 l0_9 x4_4).f0) true _ A67.out).mono ?_);rintro e w' ⟨rfl,⟨nd,rfl⟩⟩;(try first|exact ⟨rfl,_,wD _ _ _⟩|exact ⟨rfl,_,wE _ _ _ _⟩))|(go_at_call 33;(with_reducible refine (gangerref10_out.calls ((rd_T50 l0_9 x4_4).f1) 0 10 false _ A69.out).mono ?_);rintro e w' ⟨rfl,⟨nd,rfl⟩⟩;(try first|exact ⟨rfl,_,wD _ _ _⟩|exact ⟨rfl,_,wE _ _ _ _⟩))|(go_at_call 33;(with_reducible refine (gangerref10_out.calls ((rd_T50 l0_9 x4_4).f2) 0 1048576 false _ A74.out).mono ?_);rintro e w' ⟨rfl,⟨nd,rfl⟩⟩;(try first|exact ⟨rfl,_,wD _ _ _⟩|exact ⟨rfl,_,wE _ _ _ _⟩))|(go_at_call 33;(with_reducible refine (gangerref10_out.calls ((rd_T50 l0_9 x4_4).f3) 1 1073741824 t320 _ A79.out).mono ?_);rintro e w' ⟨rfl,⟨nd,rfl⟩⟩;(try first|exact ⟨rfl,_,wD _ _ _⟩|exact ⟨rfl,_,wE _ _ _ _⟩)));try go_wp2_with (first|(go_at_call 20;(with_reducible refine (gangerref09_Name.calls k4 ((rd_T50 l0_9 x4_4).f0) true _ A67.out).mono ?_);rintro e w' ⟨rfl,⟨nd,rfl⟩⟩;(try first|exact ⟨rfl,_,wD _ _ _⟩|exact ⟨rfl,_,wE _ _ _ _⟩))|(go_at_call 33;(with_reducible refine (gangerref10_out.calls ((rd_T50 l0_9 x4_4).f1) 0 10 false _ A69.out).mono ?_);rintro e w' ⟨rfl,⟨nd,rfl⟩⟩;(try first|exact ⟨rfl,_,wD _ _ _⟩|exact ⟨rfl,_,wE _ _ _ _⟩))|(go_at_call 33;(with_reducible refine (gangerref10_out.calls ((rd_T50 l0_9 x4_4).f2) 0 1048576 false _ A74.out).mono ?_);rintro e w' ⟨rfl,⟨nd,rfl⟩⟩;(try first|exact ⟨rfl,_,wD _ _ _⟩|exact ⟨rfl,_,wE _ _ _ _⟩))|(go_at_call 33;(with_reducible refine (gangerref10_out.calls ((rd_T50 l0_9 x4_4).f3) 1 1073741824 t320 _ A79.out).mono ?_);rintro e w' ⟨rfl,⟨nd,rfl⟩⟩;(try first|exact ⟨rfl,_,wD _ _ _⟩|exact ⟨rfl,_,wE _ _ _ _⟩))))
          go_meet
          case rel=>exact ⟨_,(t320),(by first|rfl|(simp;done)|(simp [*];done)),H',⟨by have:=HJ1.out;have:=HJ27.out;have:=HJ44.out;have:=HK4.out;first|omega|exact Nat.le_refl _⟩,⟨by (with_reducible repeat (first|refine bN ?_ _|refine bD ?_|refine bA ?_ _));refine blk_far ?_ NB301_316.out _;(with_reducible repeat (first|refine bN ?_ _|refine bD ?_|refine bA ?_ _));refine blk_far ?_ NB301_316.out _;(with_reducible repeat (first|refine bN ?_ _|refine bD ?_|refine bA ?_ _));refine blk_far ?_ NB301_316.out _;(with_reducible repeat (first|refine bN ?_ _|refine bD ?_|refine bA ?_ _));refine blk_far ?_ NB301_316.out _;(with_reducible repeat (first|refine bN ?_ _|refine bD ?_|refine bA ?_ _));exact BK301.out⟩,⟨by (with_reducible repeat (first|refine bN ?_ _|refine bD ?_|refine bA ?_ _));refine blk_far ?_ NB302_316.out _;(with_reducible repeat (first|refine bN ?_ _|refine bD ?_|refine bA ?_ _));refine blk_far ?_ NB302_316.out _;(with_reducible repeat (first|refine bN ?_ _|refine bD ?_|refine bA ?_ _));refine blk_far ?_ NB302_316.out _;(with_reducible repeat (first|refine bN ?_ _|refine bD ?_|refine bA ?_ _));refine blk_far ?_ NB302_316.out _;(with_reducible repeat (first|refine bN ?_ _|refine bD ?_|refine bA ?_ _));exact BK302.out⟩,⟨by (with_reducible repeat (first|refine bN ?_ _|refine bD ?_|refine bA ?_ _));refine blk_put (cs:=#[.string ((rd_T50 l0_9 x4_4).f0),.int .i64 ((rd_T50 l0_9 x4_4).f1),.int .i64 ((rd_T50 l0_9 x4_4).f2),.int .i64 0]) ?_ 3 _ rfl;(with_reducible repeat (first|refine bN ?_ _|refine bD ?_|refine bA ?_ _));refine blk_put (cs:=#[.string ((rd_T50 l0_9 x4_4).f0),.int .i64 ((rd_T50 l0_9 x4_4).f1),.int .i64 0,.int .i64 0]) ?_ 2 _ rfl;(with_reducible repeat (first|refine bN ?_ _|refine bD ?_|refine bA ?_ _));refine blk_put (cs:=#[.string ((rd_T50 l0_9 x4_4).f0),.int .i64 0,.int .i64 0,.int .i64 0]) ?_ 1 _ rfl;(with_reducible repeat (first|refine bN ?_ _|refine bD ?_|refine bA ?_ _));refine blk_put (cs:=#[.string (⟨#[]⟩ : ByteArray),.int .i64 0,.int .i64 0,.int .i64 0]) ?_ 0 _ rfl;(with_reducible repeat (first|refine bN ?_ _|refine bD ?_|refine bA ?_ _));exact BK316.out⟩,⟨by repeat (first|(with_reducible first|exact HB.out|apply bL|apply pN|apply bE|refine bS ?_ GE301.out|refine bS ?_ GE302.out|refine bS ?_ GE316.out)|exact HB.out)⟩⟩
         case rest =>
          clear HC60
          obtain ⟨kq,x99_59,rfl,HA,HJ59,BK301,BK302,BK316,HB⟩:=hcut
          cases kq with
          | zero=>exact absurd HA.out (by simp [gangerref10_Check.j4])
          | succ kj59 =>
           have H:=HA.out
           clear HA
           simp only [gangerref10_Check.j4] at H
           by_cases c86 : x99_59 = true
           ·subst c86
            have H1 : (some 100) = some r:=by rw [if_pos rfl] at H;exact H
            clear H
            have H:=H1
            clear H1
            obtain rfl:=Option.some.inj H
            go_wp2
            repeat (go_quiet (fail);try go_wp2)
            go_ret
            exact ⟨by first|rfl|(simp [errW_none,errW_some] <;> rfl)|(simp [*,errW_none,errW_some] <;> rfl),by repeat (first|(with_reducible first|exact HB.out|apply bL|apply pN|apply bE|refine bS ?_ GE301.out|refine bS ?_ GE302.out|refine bS ?_ GE316.out)|exact HB.out)⟩
           replace c86:=Bool.eq_false_iff.mpr c86
           subst c86
           have H1 : (gangerref10_Check.l1 kj59 x4_4 0 a0_0 a0_1 a0_2 a0_3 a0_4 a0_5 a0_6 a0_7 a0_8 l0_9 l0_10 l0_11 ((rd_T50 l0_9 x4_4).f0) ((rd_T50 l0_9 x4_4).f1) ((rd_T50 l0_9 x4_4).f2) ((rd_T50 l0_9 x4_4).f3)) = some r:=by rw [if_neg (show ¬ (false = true) by decide)] at H;exact H
           clear H
           have H:=H1
           clear H1
           have H':=Am H
           clear H
           go_wp2
           repeat (go_quiet (fail);try go_wp2)
           go_loopg [6] kj59 (fun kq v6 w'=>∃ (x6_6 : Int),v6 = .int .i64 x6_6∧Aside0 (gangerref10_Check.l1 kq x4_4 x6_6 a0_0 a0_1 a0_2 a0_3 a0_4 a0_5 a0_6 a0_7 a0_8 l0_9 l0_10 l0_11 ((rd_T50 l0_9 x4_4).f0) ((rd_T50 l0_9 x4_4).f1) ((rd_T50 l0_9 x4_4).f2) ((rd_T50 l0_9 x4_4).f3) = some r)∧Aside0 (kq≤kj59)∧Aside0 (w'.heap[gb301]? = some (.cells #[.int .i64 a0_0,.int .i64 a0_1,.int .i64 a0_2,.int .i64 a0_3,.int .i64 a0_4,.int .i64 a0_5,.int .i64 a0_6,.int .i64 a0_7,.int .i64 a0_8,(.slice (some ad315) l0_9.length c0_9),(.slice A0_10 l0_10.length c0_10),(.slice A0_11 l0_11.length c0_11)] 28 (0,0)))∧Aside0 (w'.heap[gb302]? = some (.cells #[.int .i64 a0_4,.int .i64 a0_5,.int .i64 a0_6,.int .i64 a0_7,.int .i64 a0_8] 23 (0,0)))∧Aside0 (w'.heap[gb316]? = some (.cells #[.string ((rd_T50 l0_9 x4_4).f0),.int .i64 ((rd_T50 l0_9 x4_4).f1),.int .i64 ((rd_T50 l0_9 x4_4).f2),.int .i64 ((rd_T50 l0_9 x4_4).f3)] 50 (0,0)))∧Aside0 (Below w.heap.size w w'))
           case atStart=>exact ⟨(0),(by first|rfl|(simp;done)|(simp [*];done)),H',⟨Nat.le_refl _⟩,⟨by (with_reducible repeat (first|refine bN ?_ _|refine bD ?_|refine bA ?_ _));exact BK301.out⟩,⟨by (with_reducible repeat (first|refine bN ?_ _|refine bD ?_|refine bA ?_ _));exact BK302.out⟩,⟨by (with_reducible repeat (first|refine bN ?_ _|refine bD ?_|refine bA ?_ _));exact BK316.out⟩,⟨by repeat (first|(with_reducible first|exact HB.out|apply bL|apply pN|apply bE|refine bS ?_ GE301.out|refine bS ?_ GE302.out|refine bS ?_ GE316.out)|exact HB.out)⟩⟩
           case round =>
            clear H'
            obtain ⟨x6_6,rfl,HA,HK6,BK301,BK302,BK316,HB⟩:=hrel
            cases gk with
            | zero=>exact absurd HA.out (by simp [gangerref10_Check.l1])
            | succ k6 =>
             have H:=HA.out
             clear HA
             simp only [gangerref10_Check.l1] at H
             by_cases c87 : x6_6 < x4_4
             rotate_left
             ·rw [if_neg c87] at H
              have c87b0 : decide (x6_6 < x4_4) = false:=decide_eq_false c87
              clear c87
              have H':=Am H
              clear H
              go_wp2
              repeat (go_quiet (fail);try go_wp2)
              go_roundg k6
              case measure=>have:=HJ1.out;have:=HJ27.out;have:=HJ44.out;have:=HK4.out;have:=HJ59.out;have:=HK6.out;omega
              case rel=>exact ⟨(wrap64 (x4_4 + 1)),(by first|rfl|(simp;done)|(simp [*];done)),H',⟨by have:=HJ1.out;have:=HJ27.out;have:=HJ44.out;have:=HK4.out;have:=HJ59.out;have:=HK6.out;omega⟩,⟨by (with_reducible repeat (first|refine bN ?_ _|refine bD ?_|refine bA ?_ _));exact BK301.out⟩,⟨by (with_reducible repeat (first|refine bN ?_ _|refine bD ?_|refine bA ?_ _));exact BK302.out⟩,⟨by repeat (first|(with_reducible first|exact HB.out|apply bL|apply pN|apply bE|refine bS ?_ GE301.out|refine bS ?_ GE302.out|refine bS ?_ GE316.out)|exact HB.out)⟩⟩
             rw [if_pos c87] at H
             have c87b0 : decide (x6_6 < x4_4) = true:=decide_eq_true c87
             clear c87
             by_cases c88 : 0≤x6_6
             rotate_left
             ·rw [if_neg c88] at H
              exact absurd H (by simp)
             rw [if_pos c88] at H
             have c88b0 : decide (0≤x6_6) = true:=decide_eq_true c88
             clear c88
             by_cases c89 : x6_6 < (l0_9.length : Int)
             rotate_left
             ·rw [if_neg c89] at H
              exact absurd H (by simp)
             rw [if_pos c89] at H
             have c89b0 : decide (x6_6 < (l0_9.length : Int)) = true:=decide_eq_true c89
             clear c89
             by_cases c90 : ((rd_T50 l0_9 x6_6).f0).toList = ((rd_T50 l0_9 x4_4).f0).toList
             ·rw [if_pos c90] at H
              have c90b0 : (((rd_T50 l0_9 x6_6).f0).toList == ((rd_T50 l0_9 x4_4).f0).toList) = true:=beq_iff_eq.mpr c90
              have c90b1 : (((rd_T50 l0_9 x6_6).f0).toList != ((rd_T50 l0_9 x4_4).f0).toList) = false:=bne_eq_false_iff_eq.mpr c90
              clear c90
              obtain rfl:=Option.some.inj H
              have hnb91:=NB301_302.out
              have hnc91:=NB302_301.out
              have hnb92:=NB301_316.out
              have hnc92:=NB316_301.out
              have hcz93_0 : wr.cell? ⟨gb301,0,none⟩ = some (.int .i64 a0_0):=(bC BK301.out 0).trans rfl
              have hcz93_1 : wr.cell? ⟨gb301,1,none⟩ = some (.int .i64 a0_1):=(bC BK301.out 1).trans rfl
              have hcz93_2 : wr.cell? ⟨gb301,2,none⟩ = some (.int .i64 a0_2):=(bC BK301.out 2).trans rfl
              have hcz93_3 : wr.cell? ⟨gb301,3,none⟩ = some (.int .i64 a0_3):=(bC BK301.out 3).trans rfl
              have hcz93_4 : wr.cell? ⟨gb301,4,none⟩ = some (.int .i64 a0_4):=(bC BK301.out 4).trans rfl
              have hcz93_5 : wr.cell? ⟨gb301,5,none⟩ = some (.int .i64 a0_5):=(bC BK301.out 5).trans rfl
              have hcz93_6 : wr.cell? ⟨gb301,6,none⟩ = some (.int .i64 a0_6):=(bC BK301.out 6).trans rfl
              have hcz93_7 : wr.cell? ⟨gb301,7,none⟩ = some (.int .i64 a0_7):=(bC BK301.out 7).trans rfl
              have hcz93_8 : wr.cell? ⟨gb301,8,none⟩ = some (.int .i64 a0_8):=(bC BK301.out 8).trans rfl
              have hcz93_9 : wr.cell? ⟨gb301,9,none⟩ = some (.slice (some ad315) l0_9.length c0_9):=(bC BK301.out 9).trans rfl
              have hcz93_10 : wr.cell? ⟨gb301,10,none⟩ = some (.slice A0_10 l0_10.length c0_10):=(bC BK301.out 10).trans rfl
              have hcz93_11 : wr.cell? ⟨gb301,11,none⟩ = some (.slice A0_11 l0_11.length c0_11):=(bC BK301.out 11).trans rfl
              have hfz93_0:=bF BK301.out 0
              have hfz93_1:=bF BK301.out 1
              have hfz93_2:=bF BK301.out 2
              have hfz93_3:=bF BK301.out 3
              have hfz93_4:=bF BK301.out 4
              have hfz93_5:=bF BK301.out 5
              have hfz93_6:=bF BK301.out 6
              have hfz93_7:=bF BK301.out 7
              have hfz93_8:=bF BK301.out 8
              have hfz93_9:=bF BK301.out 9
              have hfz93_10:=bF BK301.out 10
              have hfz93_11:=bF BK301.out 11
              have p321 : 0≤(x6_6 : Int):=of_decide_eq_true (by first|(with_reducible assumption)|assumption)
              have q321 : x6_6 < (l0_9.length : Int):=of_decide_eq_true (by first|(with_reducible assumption)|assumption)
              obtain ⟨ad321,e321,hx321_0,hx321_1,hx321_2,hx321_3⟩:=at_T50 HR0_9.out x6_6 p321 q321
              obtain rfl : ad315 = ad321:=(by injection e321)
              replace hx321_0:=(HB.out.cell (wB w _ hx321_0)).trans hx321_0
              replace hx321_1:=(HB.out.cell (wB w _ hx321_1)).trans hx321_1
              replace hx321_2:=(HB.out.cell (wB w _ hx321_2)).trans hx321_2
              replace hx321_3:=(HB.out.cell (wB w _ hx321_3)).trans hx321_3
              replace p321:=eq_true p321
              replace q321:=eq_true q321
              have hnb94:=NB316_302.out
              have hnc94:=NB302_316.out
              have hcz95_0 : wr.cell? ⟨gb316,0,none⟩ = some (.string ((rd_T50 l0_9 x4_4).f0)):=(bC BK316.out 0).trans rfl
              have hcz95_1 : wr.cell? ⟨gb316,1,none⟩ = some (.int .i64 ((rd_T50 l0_9 x4_4).f1)):=(bC BK316.out 1).trans rfl
              have hcz95_2 : wr.cell? ⟨gb316,2,none⟩ = some (.int .i64 ((rd_T50 l0_9 x4_4).f2)):=(bC BK316.out 2).trans rfl
              have hcz95_3 : wr.cell? ⟨gb316,3,none⟩ = some (.int .i64 ((rd_T50 l0_9 x4_4).f3)):=(bC BK316.out 3).trans rfl
              have hfz95_0:=bF BK316.out 0
              have hfz95_1:=bF BK316.out 1
              have hfz95_2:=bF BK316.out 2
              have hfz95_3:=bF BK316.out 3
              go_wp2
              repeat (go_quiet (fail);try go_wp2)
              go_ret
              exact ⟨by first|rfl|(simp [errW_none,errW_some] <;> rfl)|(simp [*,errW_none,errW_some] <;> rfl),by repeat (first|(with_reducible first|exact HB.out|apply bL|apply pN|apply bE|refine bS ?_ GE301.out|refine bS ?_ GE302.out|refine bS ?_ GE316.out)|exact HB.out)⟩
             rw [if_neg c90] at H
             have c90b0 : (((rd_T50 l0_9 x6_6).f0).toList == ((rd_T50 l0_9 x4_4).f0).toList) = false:=beq_eq_false_iff_ne.mpr c90
             have c90b1 : (((rd_T50 l0_9 x6_6).f0).toList != ((rd_T50 l0_9 x4_4).f0).toList) = true:=bne_iff_ne.mpr c90
             have H':=Am H
             clear H
             have hnb96:=NB301_302.out
             have hnc96:=NB302_301.out
             have hnb97:=NB301_316.out
             have hnc97:=NB316_301.out
             have hcz98_0 : wr.cell? ⟨gb301,0,none⟩ = some (.int .i64 a0_0):=(bC BK301.out 0).trans rfl
             have hcz98_1 : wr.cell? ⟨gb301,1,none⟩ = some (.int .i64 a0_1):=(bC BK301.out 1).trans rfl
             have hcz98_2 : wr.cell? ⟨gb301,2,none⟩ = some (.int .i64 a0_2):=(bC BK301.out 2).trans rfl
             have hcz98_3 : wr.cell? ⟨gb301,3,none⟩ = some (.int .i64 a0_3):=(bC BK301.out 3).trans rfl
             have hcz98_4 : wr.cell? ⟨gb301,4,none⟩ = some (.int .i64 a0_4):=(bC BK301.out 4).trans rfl
             have hcz98_5 : wr.cell? ⟨gb301,5,none⟩ = some (.int .i64 a0_5):=(bC BK301.out 5).trans rfl
             have hcz98_6 : wr.cell? ⟨gb301,6,none⟩ = some (.int .i64 a0_6):=(bC BK301.out 6).trans rfl
             have hcz98_7 : wr.cell? ⟨gb301,7,none⟩ = some (.int .i64 a0_7):=(bC BK301.out 7).trans rfl
             have hcz98_8 : wr.cell? ⟨gb301,8,none⟩ = some (.int .i64 a0_8):=(bC BK301.out 8).trans rfl
             have hcz98_9 : wr.cell? ⟨gb301,9,none⟩ = some (.slice (some ad315) l0_9.length c0_9):=(bC BK301.out 9).trans rfl
             have hcz98_10 : wr.cell? ⟨gb301,10,none⟩ = some (.slice A0_10 l0_10.length c0_10):=(bC BK301.out 10).trans rfl
             have hcz98_11 : wr.cell? ⟨gb301,11,none⟩ = some (.slice A0_11 l0_11.length c0_11):=(bC BK301.out 11).trans rfl
             have hfz98_0:=bF BK301.out 0
             have hfz98_1:=bF BK301.out 1
             have hfz98_2:=bF BK301.out 2
             have hfz98_3:=bF BK301.out 3
             have hfz98_4:=bF BK301.out 4
             have hfz98_5:=bF BK301.out 5
             have hfz98_6:=bF BK301.out 6
             have hfz98_7:=bF BK301.out 7
             have hfz98_8:=bF BK301.out 8
             have hfz98_9:=bF BK301.out 9
             have hfz98_10:=bF BK301.out 10
             have hfz98_11:=bF BK301.out 11
             have p321 : 0≤(x6_6 : Int):=of_decide_eq_true (by first|(with_reducible assumption)|assumption)
             have q321 : x6_6 < (l0_9.length : Int):=of_decide_eq_true (by first|(with_reducible assumption)|assumption)
             obtain ⟨ad321,e321,hx321_0,hx321_1,hx321_2,hx321_3⟩:=at_T50 HR0_9.out x6_6 p321 q321
             obtain rfl : ad315 = ad321:=(by injection e321)
             replace hx321_0:=(HB.out.cell (wB w _ hx321_0)).trans hx321_0
             replace hx321_1:=(HB.out.cell (wB w _ hx321_1)).trans hx321_1
             replace hx321_2:=(HB.out.cell (wB w _ hx321_2)).trans hx321_2
             replace hx321_3:=(HB.out.cell (wB w _ hx321_3)).trans hx321_3
             replace p321:=eq_true p321
             replace q321:=eq_true q321
             have hnb99:=NB316_302.out
             have hnc99:=NB302_316.out
             have hcz100_0 : wr.cell? ⟨gb316,0,none⟩ = some (.string ((rd_T50 l0_9 x4_4).f0)):=(bC BK316.out 0).trans rfl
             have hcz100_1 : wr.cell? ⟨gb316,1,none⟩ = some (.int .i64 ((rd_T50 l0_9 x4_4).f1)):=(bC BK316.out 1).trans rfl
             have hcz100_2 : wr.cell? ⟨gb316,2,none⟩ = some (.int .i64 ((rd_T50 l0_9 x4_4).f2)):=(bC BK316.out 2).trans rfl
             have hcz100_3 : wr.cell? ⟨gb316,3,none⟩ = some (.int .i64 ((rd_T50 l0_9 x4_4).f3)):=(bC BK316.out 3).trans rfl
             have hfz100_0:=bF BK316.out 0
             have hfz100_1:=bF BK316.out 1
             have hfz100_2:=bF BK316.out 2
             have hfz100_3:=bF BK316.out 3
             go_wp2
             repeat (go_quiet (fail);try go_wp2)
             go_roundg k6
             case measure=>have:=HJ1.out;have:=HJ27.out;have:=HJ44.out;have:=HK4.out;have:=HJ59.out;have:=HK6.out;omega
             case rel=>exact ⟨(wrap64 (x6_6 + 1)),(by first|rfl|(simp;done)|(simp [*];done)),H',⟨by have:=HJ1.out;have:=HJ27.out;have:=HJ44.out;have:=HK4.out;have:=HJ59.out;have:=HK6.out;omega⟩,⟨by (with_reducible repeat (first|refine bN ?_ _|refine bD ?_|refine bA ?_ _));exact BK301.out⟩,⟨by (with_reducible repeat (first|refine bN ?_ _|refine bD ?_|refine bA ?_ _));exact BK302.out⟩,⟨by (with_reducible repeat (first|refine bN ?_ _|refine bD ?_|refine bA ?_ _));exact BK316.out⟩,⟨by repeat (first|(with_reducible first|exact HB.out|apply bL|apply pN|apply bE|refine bS ?_ GE301.out|refine bS ?_ GE302.out|refine bS ?_ GE316.out)|exact HB.out)⟩⟩
end Go.Proofs.YtgidipomfbikiaaDoor.P
