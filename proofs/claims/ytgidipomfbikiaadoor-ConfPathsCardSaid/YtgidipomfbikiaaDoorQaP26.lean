/- cut to what one law reaches -/
import Derived.Test.YtgidipomfbikiaaDoorQaShort
import Derived.Test.YtgidipomfbikiaaDoorQaP0
import Derived.Test.YtgidipomfbikiaaDoorQaP5
import Derived.Test.YtgidipomfbikiaaDoorQaP7
import Derived.Test.YtgidipomfbikiaaDoorQaP12
import Derived.Test.YtgidipomfbikiaaDoorQaP25
namespace Go.Proofs.YtgidipomfbikiaaDoor.P
open Go.RowKit Go.Proofs.YtgidipomfbikiaaDoorW.PrintWords Go.Proofs.YtgidipomfbikiaaDoorW.PrintLast Go.Proofs.YtgidipomfbikiaaDoorW.PrintMore
attribute [local go_sem] max2_int min2_int max_two min_two max_three min_three max_four min_four   -- for this text's walks alone
set_option linter.unusedVariables false
set_option linter.unusedSimpArgs false
attribute [local go_sem] isSome_setCell
mutual
def gangerlaw10_ConfPaths.j0 : Nat→ByteArray→Bool→Int→Int→Int→Int→Int→Int→Int→Int→Int→List (S50)→List (S52)→List (S48)→Option (Bool)
 | 0,_,_,_,_,_,_,_,_,_,_,_,_,_,_=>none
 | k + 1,x1,x16,u_0,u_1,u_2,u_3,u_4,u_5,u_6,u_7,u_8,u_9,u_10,u_11=>if x16 = true then ((gangerlaw10_known.f k).bind fun t719=>(some t719)) else ((conf_Path.f k u_0 u_1 u_2 u_3 u_4 u_5 u_6 u_7 u_8 u_9 u_10 u_11 x1).bind fun t720=>((gangerref10_Path.f k u_0 u_1 u_2 u_3 u_4 u_5 u_6 u_7 u_8 u_9 u_10 u_11 x1).bind fun t723=>(if (t720.length : Int) = (t723.length : Int) then (gangerlaw10_ConfPaths.l0 k t720 t723 0 u_0 u_1 u_2 u_3 u_4 u_5 u_6 u_7 u_8 u_9 u_10 u_11) else (none))))
def gangerlaw10_ConfPaths.l0 : Nat→List ByteArray→List ByteArray→Int→Int→Int→Int→Int→Int→Int→Int→Int→Int→List (S50)→List (S52)→List (S48)→Option (Bool)
 | 0,_,_,_,_,_,_,_,_,_,_,_,_,_,_,_=>none
 | k + 1,x5,x6,x7,u_0,u_1,u_2,u_3,u_4,u_5,u_6,u_7,u_8,u_9,u_10,u_11=>if x7 < (x5.length : Int) then (if 0≤x7 then (if x7 < (x6.length : Int) then (if (rdOf ByteArray.empty x5 x7).toList = (rdOf ByteArray.empty x6 x7).toList then (gangerlaw10_ConfPaths.l0 k x5 x6 (wrap64 (x7 + 1)) u_0 u_1 u_2 u_3 u_4 u_5 u_6 u_7 u_8 u_9 u_10 u_11) else (none)) else (none)) else (none)) else ((conf_Check.f k u_0 u_1 u_2 u_3 u_4 u_5 u_6 u_7 u_8 u_9 u_10 u_11).bind fun t728=>(if t728 = 0 then (gangerlaw10_ConfPaths.l1 k 0 u_0 u_1 u_2 u_3 u_4 u_5 u_6 u_7 u_8 u_9 u_10 u_11) else (if (x5.length : Int) = 0 then ((gangerlaw10_known.f k).bind fun t729=>(some t729)) else (none))))
def gangerlaw10_ConfPaths.l1 : Nat→Int→Int→Int→Int→Int→Int→Int→Int→Int→Int→List (S50)→List (S52)→List (S48)→Option (Bool)
 | 0,_,_,_,_,_,_,_,_,_,_,_,_,_=>none
 | k + 1,x8,u_0,u_1,u_2,u_3,u_4,u_5,u_6,u_7,u_8,u_9,u_10,u_11=>if x8 < (u_11.length : Int) then (if 0≤x8 then ((conf_Path.f k u_0 u_1 u_2 u_3 u_4 u_5 u_6 u_7 u_8 u_9 u_10 u_11 ((rd_T48 u_11 x8).f0)).bind fun t732=>(if (t732.length : Int) < 1 then (gangerlaw10_ConfPaths.j3 k x8 t732 true u_0 u_1 u_2 u_3 u_4 u_5 u_6 u_7 u_8 u_9 u_10 u_11) else (if (t732.length : Int) > (wrap64 (x8 + 1)) then (gangerlaw10_ConfPaths.j3 k x8 t732 true u_0 u_1 u_2 u_3 u_4 u_5 u_6 u_7 u_8 u_9 u_10 u_11) else (if 0 < (t732.length : Int) then (if (rdOf ByteArray.empty t732 0).toList = ((rd_T48 u_11 x8).f0).toList then (if 0≤(wrap64 ((t732.length : Int) - 1)) then (if (wrap64 ((t732.length : Int) - 1)) < (t732.length : Int) then (if 0 < (u_11.length : Int) then (gangerlaw10_ConfPaths.j3 k x8 t732 ((rdOf ByteArray.empty t732 (wrap64 ((t732.length : Int) - 1))).toList != ((rd_T48 u_11 0).f0).toList) u_0 u_1 u_2 u_3 u_4 u_5 u_6 u_7 u_8 u_9 u_10 u_11) else (none)) else (none)) else (none)) else (gangerlaw10_ConfPaths.j3 k x8 t732 true u_0 u_1 u_2 u_3 u_4 u_5 u_6 u_7 u_8 u_9 u_10 u_11)) else (none))))) else (none)) else ((gangerlaw10_known.f k).bind fun t730=>(some t730))
def gangerlaw10_ConfPaths.j3 : Nat→Int→List ByteArray→Bool→Int→Int→Int→Int→Int→Int→Int→Int→Int→List (S50)→List (S52)→List (S48)→Option (Bool)
 | 0,_,_,_,_,_,_,_,_,_,_,_,_,_,_,_=>none
 | k + 1,x8,x9,x103,u_0,u_1,u_2,u_3,u_4,u_5,u_6,u_7,u_8,u_9,u_10,u_11=>if x103 = true then (none) else (if x8 > 0 then (if 1 < (x9.length : Int) then (if 0≤x8 then (if x8 < (u_11.length : Int) then (if (rdOf ByteArray.empty x9 1).toList = ((rd_T48 u_11 x8).f1).toList then (gangerlaw10_ConfPaths.l1 k (wrap64 (x8 + 1)) u_0 u_1 u_2 u_3 u_4 u_5 u_6 u_7 u_8 u_9 u_10 u_11) else (none)) else (none)) else (none)) else (none)) else (gangerlaw10_ConfPaths.l1 k (wrap64 (x8 + 1)) u_0 u_1 u_2 u_3 u_4 u_5 u_6 u_7 u_8 u_9 u_10 u_11))
end
def gangerlaw10_ConfPaths.f (k : Nat) (a0_0 : Int) (a0_1 : Int) (a0_2 : Int) (a0_3 : Int) (a0_4 : Int) (a0_5 : Int) (a0_6 : Int) (a0_7 : Int) (a0_8 : Int) (l0_9 : List (S50)) (l0_10 : List (S52)) (l0_11 : List (S48)) (a1 : ByteArray) : Option (Bool):=(gangerlaw10_long.f k a0_0 a0_1 a0_2 a0_3 a0_4 a0_5 a0_6 a0_7 a0_8 l0_9 l0_10 l0_11).bind fun t718=>(if t718 = true then (gangerlaw10_ConfPaths.j0 k a1 true a0_0 a0_1 a0_2 a0_3 a0_4 a0_5 a0_6 a0_7 a0_8 l0_9 l0_10 l0_11) else (gangerlaw10_ConfPaths.j0 k a1 (decide ((a1.size : Int) > 300)) a0_0 a0_1 a0_2 a0_3 a0_4 a0_5 a0_6 a0_7 a0_8 l0_9 l0_10 l0_11))
def gangerlaw10_ConfPaths.T10 : Bool × List (List Nat × List Nat):=(true,[([],[]),([],[]),([0,1],[0,1]),([2],[2]),([],[]),([],[]),([4,5],[4,5]),([6],[6]),([3,7],[3,7])])
def gangerlaw10_ConfPaths.B10 : List Nat:=[0,0,3,7,0,0,48,112,255]
theorem gangerlaw10_ConfPaths.tab10 : rtab .any (opsOf Tryd.f8 10) = gangerlaw10_ConfPaths.T10:=by kernel_rfl
theorem gangerlaw10_ConfPaths.bits10 : waitsOk gangerlaw10_ConfPaths.T10.2 gangerlaw10_ConfPaths.B10 = true:=by kernel_rfl
def gangerlaw10_ConfPaths.T17 : Bool × List (List Nat × List Nat):=(true,[([],[]),([],[]),([1],[1]),([],[]),([2,3],[2,3]),([4],[4]),([5],[5]),([0,6],[0,6]),([7,7,0,1,2,3,4,5,6,7],[7])])
def gangerlaw10_ConfPaths.B17 : List Nat:=[0,0,2,0,14,30,62,127,255]
theorem gangerlaw10_ConfPaths.tab17 : rtab .any (opsOf Tryd.f8 17) = gangerlaw10_ConfPaths.T17:=by kernel_rfl
theorem gangerlaw10_ConfPaths.bits17 : waitsOk gangerlaw10_ConfPaths.T17.2 gangerlaw10_ConfPaths.B17 = true:=by kernel_rfl
def gangerlaw10_ConfPaths.T18 : Bool × List (List Nat × List Nat):=(true,[([],[]),([0],[0]),([1],[1]),([2],[2]),([3],[3]),([4,3],[3,4]),([3],[3]),([6,3],[3,6]),([5,7,3],[3,5,7]),([3,8],[3,8]),([9,3],[9]),([10],[10]),([11,10],[10,11]),([12,10],[10,12]),([10],[10]),([14,10],[10,14]),([10],[10]),([15,16,10],[10,15,16]),([17,10],[10,17]),([18,10],[10,18]),([13,19,10],[10,13,19]),([10,20],[10,20]),([21,10],[21]),([22],[22]),([22],[22]),([24,22],[22,24]),([25,22],[22,25]),([23,26,22],[22,23,26]),([27,22],[22,27]),([22],[22]),([29,22],[22,29]),([30,22],[22,30]),([31,22],[22,31]),([32,22],[22,32]),([28,33,22],[22,28,33]),([22,34],[22,34])])
def gangerlaw10_ConfPaths.B18 : List Nat:=[0,1,3,7,15,31,15,79,255,511,1023,2047,4095,8191,2047,18431,2047,116735,247807,509951,1048575,2097151,4194303,8388607,8388607,25165823,58720255,134217727,268435455,8388607,545259519,1619001343,3766484991,8061452287,17179869183,34359738367]
theorem gangerlaw10_ConfPaths.tab18 : rtab .any (opsOf Tryd.f8 18) = gangerlaw10_ConfPaths.T18:=by kernel_rfl
theorem gangerlaw10_ConfPaths.bits18 : waitsOk gangerlaw10_ConfPaths.T18.2 gangerlaw10_ConfPaths.B18 = true:=by kernel_rfl
def gangerlaw10_ConfPaths.T20 : Bool × List (List Nat × List Nat):=(true,[([],[]),([0],[0]),([1],[1]),([2],[2]),([3,2],[2,3]),([4,2],[2,4]),([2],[2]),([6,2],[2,6]),([2],[2]),([7,8,2],[2,7,8]),([9,2],[2,9]),([10,2],[2,10]),([5,11,2],[2,5,11]),([2,12],[2,12])])
def gangerlaw10_ConfPaths.B20 : List Nat:=[0,1,3,7,15,31,7,71,7,455,967,1991,4095,8191]
theorem gangerlaw10_ConfPaths.tab20 : rtab .any (opsOf Tryd.f8 20) = gangerlaw10_ConfPaths.T20:=by kernel_rfl
theorem gangerlaw10_ConfPaths.bits20 : waitsOk gangerlaw10_ConfPaths.T20.2 gangerlaw10_ConfPaths.B20 = true:=by kernel_rfl
set_option maxHeartbeats 8000000 in
set_option maxRecDepth 100000 in
theorem gangerlaw10_ConfPaths.calls (k : Nat) (a0_0 : Int) (a0_1 : Int) (a0_2 : Int) (a0_3 : Int) (a0_4 : Int) (a0_5 : Int) (a0_6 : Int) (a0_7 : Int) (a0_8 : Int) (A0_9 : Option Addr) (c0_9 : Nat) (l0_9 : List (S50)) (A0_10 : Option Addr) (c0_10 : Nat) (l0_10 : List (S52)) (A0_11 : Option Addr) (c0_11 : Nat) (l0_11 : List (S48)) (a1 : ByteArray) (r : Bool) (w : World) (hG : Glob w) (hr0_9 : Kd.C k50 w A0_9 l0_9.length l0_9) (hc0_9 : l0_9.length≤c0_9) (hr0_10 : Kd.C k52 w A0_10 l0_10.length l0_10) (hc0_10 : l0_10.length≤c0_10) (hr0_11 : Kd.C k48 w A0_11 l0_11.length l0_11) (hc0_11 : l0_11.length≤c0_11) (h : gangerlaw10_ConfPaths.f k a0_0 a0_1 a0_2 a0_3 a0_4 a0_5 a0_6 a0_7 a0_8 l0_9 l0_10 l0_11 a1 = some r) :
  Calls Tryd.prog 8 #[.agg #[.int .i64 a0_0,.int .i64 a0_1,.int .i64 a0_2,.int .i64 a0_3,.int .i64 a0_4,.int .i64 a0_5,.int .i64 a0_6,.int .i64 a0_7,.int .i64 a0_8,.slice A0_9 l0_9.length c0_9,.slice A0_10 l0_10.length c0_10,.slice A0_11 l0_11.length c0_11],.string a1] w fun e w'=>e = .returned (.bool r)∧Below w.heap.size w w':=by
 have hu28:=Tryd.underlying28
 have HG:=Am hG
 clear hG
 have HR0_9:=Am hr0_9
 have HC0_9:=Am hc0_9
 clear hr0_9 hc0_9
 have HR0_10:=Am hr0_10
 have HC0_10:=Am hc0_10
 clear hr0_10 hc0_10
 have HR0_11:=Am hr0_11
 have HC0_11:=Am hc0_11
 clear hr0_11 hc0_11
 have HB:=Am (Below.refl w.heap.size w)
 have H : ((gangerlaw10_long.f k a0_0 a0_1 a0_2 a0_3 a0_4 a0_5 a0_6 a0_7 a0_8 l0_9 l0_10 l0_11).bind fun t718=>(if t718 = true then (gangerlaw10_ConfPaths.j0 k a1 true a0_0 a0_1 a0_2 a0_3 a0_4 a0_5 a0_6 a0_7 a0_8 l0_9 l0_10 l0_11) else (gangerlaw10_ConfPaths.j0 k a1 (decide ((a1.size : Int) > 300)) a0_0 a0_1 a0_2 a0_3 a0_4 a0_5 a0_6 a0_7 a0_8 l0_9 l0_10 l0_11))) = some r:=h
 clear h
 have HC3:=Am H
 clear H
 go_enter Tryd.func8,Tryd.ntmps8
 go_upto_region 1 with (first|((with_reducible refine gD (N:=2) rfl ?_);(try (refine gate_guard (by rfl) ?_;dsimp only));refine box_event ?hg (N:=2) ?hd (cs:=#[.int .i64 a0_0,.int .i64 a0_1,.int .i64 a0_2,.int .i64 a0_3,.int .i64 a0_4,.int .i64 a0_5,.int .i64 a0_6,.int .i64 a0_7,.int .i64 a0_8,.slice A0_9 l0_9.length c0_9,.slice A0_10 l0_10.length c0_10,.slice A0_11 l0_11.length c0_11]) (t:=28) ?hr ?_;(case hd=>rfl);(case hg=>rfl);(case hr=>first|(go_simp;done)|(go_simp;rfl));intro gb717 hg w4 hbox hb;have n0_:=Am (below_step (by repeat (first|(with_reducible first|exact HB.out|apply bL|apply pN|apply bE)|exact HB.out)) hb);have n1_:=Am (hbox);have n2_:=Am ((by rw [hg];exact (bZ (by repeat (first|(with_reducible first|exact HB.out|apply bL|apply pN|apply bE)|exact HB.out))) : w.heap.size≤gb717));have n3_:=Am ((by rw [hg];exact (bZ (by repeat (first|(with_reducible first|exact HB.out|apply bL|apply pN|apply bE)|exact HB.out))) : w.heap.size≤gb717));clear HB;have HB:=n0_;have BK717:=n1_;have GW717:=n2_;have GE717:=n3_;clear n0_ n1_ n2_ n3_;clear hb hbox hg))
 (try simp only [Act.put,sT,sZ,sS])
 go_cut [16] (fun v16 wc=>∃ (kq : Nat) (x16_2 : Bool),v16 = .bool x16_2∧Aside0 (gangerlaw10_ConfPaths.j0 kq a1 x16_2 a0_0 a0_1 a0_2 a0_3 a0_4 a0_5 a0_6 a0_7 a0_8 l0_9 l0_10 l0_11 = some r)∧Aside0 (kq≤k)∧Aside0 (wc.heap[gb717]? = some (.cells #[.int .i64 a0_0,.int .i64 a0_1,.int .i64 a0_2,.int .i64 a0_3,.int .i64 a0_4,.int .i64 a0_5,.int .i64 a0_6,.int .i64 a0_7,.int .i64 a0_8,(.slice A0_9 l0_9.length c0_9),(.slice A0_10 l0_10.length c0_10),(.slice A0_11 l0_11.length c0_11)] 28 (0,0)))∧Aside0 (Below w.heap.size w wc))
 case first =>
  have H:=HC3.out
  clear HC3
  replace H:=oB H
  obtain ⟨t718,A50,H⟩:=H
  replace H : (if t718 = true then (gangerlaw10_ConfPaths.j0 k a1 true a0_0 a0_1 a0_2 a0_3 a0_4 a0_5 a0_6 a0_7 a0_8 l0_9 l0_10 l0_11) else (gangerlaw10_ConfPaths.j0 k a1 (decide ((a1.size : Int) > 300)) a0_0 a0_1 a0_2 a0_3 a0_4 a0_5 a0_6 a0_7 a0_8 l0_9 l0_10 l0_11)) = some r:=H
  have A5:=Am A50
  clear A50
  by_cases c6 : t718 = true
  ·subst c6
   have H1 : (gangerlaw10_ConfPaths.j0 k a1 true a0_0 a0_1 a0_2 a0_3 a0_4 a0_5 a0_6 a0_7 a0_8 l0_9 l0_10 l0_11) = some r:=by rw [if_pos rfl] at H;exact H
   clear H
   have H:=H1
   clear H1
   have H':=Am H
   clear H
   have hcz7_0 : w4.cell? ⟨gb717,0,none⟩ = some (.int .i64 a0_0):=(bC BK717.out 0).trans rfl
   have hcz7_1 : w4.cell? ⟨gb717,1,none⟩ = some (.int .i64 a0_1):=(bC BK717.out 1).trans rfl
   have hcz7_2 : w4.cell? ⟨gb717,2,none⟩ = some (.int .i64 a0_2):=(bC BK717.out 2).trans rfl
   have hcz7_3 : w4.cell? ⟨gb717,3,none⟩ = some (.int .i64 a0_3):=(bC BK717.out 3).trans rfl
   have hcz7_4 : w4.cell? ⟨gb717,4,none⟩ = some (.int .i64 a0_4):=(bC BK717.out 4).trans rfl
   have hcz7_5 : w4.cell? ⟨gb717,5,none⟩ = some (.int .i64 a0_5):=(bC BK717.out 5).trans rfl
   have hcz7_6 : w4.cell? ⟨gb717,6,none⟩ = some (.int .i64 a0_6):=(bC BK717.out 6).trans rfl
   have hcz7_7 : w4.cell? ⟨gb717,7,none⟩ = some (.int .i64 a0_7):=(bC BK717.out 7).trans rfl
   have hcz7_8 : w4.cell? ⟨gb717,8,none⟩ = some (.int .i64 a0_8):=(bC BK717.out 8).trans rfl
   have hcz7_9 : w4.cell? ⟨gb717,9,none⟩ = some (.slice A0_9 l0_9.length c0_9):=(bC BK717.out 9).trans rfl
   have hcz7_10 : w4.cell? ⟨gb717,10,none⟩ = some (.slice A0_10 l0_10.length c0_10):=(bC BK717.out 10).trans rfl
   have hcz7_11 : w4.cell? ⟨gb717,11,none⟩ = some (.slice A0_11 l0_11.length c0_11):=(bC BK717.out 11).trans rfl
   have hfz7_0:=bF BK717.out 0
   have hfz7_1:=bF BK717.out 1
   have hfz7_2:=bF BK717.out 2
   have hfz7_3:=bF BK717.out 3
   have hfz7_4:=bF BK717.out 4
   have hfz7_5:=bF BK717.out 5
   have hfz7_6:=bF BK717.out 6
   have hfz7_7:=bF BK717.out 7
   have hfz7_8:=bF BK717.out 8
   have hfz7_9:=bF BK717.out 9
   have hfz7_10:=bF BK717.out 10
   have hfz7_11:=bF BK717.out 11
   go_wp2_with (first|((with_reducible refine gC (f:=9) rfl ?_);refine goesL_ (some 11) rfl rfl Tryd.func9 (by kernel_rfl) rfl #[.agg #[.int .i64 a0_0,.int .i64 a0_1,.int .i64 a0_2,.int .i64 a0_3,.int .i64 a0_4,.int .i64 a0_5,.int .i64 a0_6,.int .i64 a0_7,.int .i64 a0_8,.slice A0_9 l0_9.length c0_9,.slice A0_10 l0_10.length c0_10,.slice A0_11 l0_11.length c0_11]] rfl (by (try simp only [mT,mC,mN]);first|done|rfl|(simp only [lD,lT];rfl)) ?_;(with_reducible refine (gangerlaw10_long.calls k a0_0 a0_1 a0_2 a0_3 a0_4 a0_5 a0_6 a0_7 a0_8 _ _ l0_9 _ _ l0_10 _ _ l0_11 true _ ?side1 ?side2 ?side3 ?side4 ?side5 ?side6 A5.out).mono ?_);(case side1=>repeat (first|exact (Kd.C_below HR0_9.out HB.out)|(with_reducible refine Kd.C_alloc ?_ _)|(with_reducible refine Kd.C_drewN ?_ _)|(with_reducible refine Kd.C_drew ?_)));(case side2=>exact HC0_9.out);(case side3=>repeat (first|exact (Kd.C_below HR0_10.out HB.out)|(with_reducible refine Kd.C_alloc ?_ _)|(with_reducible refine Kd.C_drewN ?_ _)|(with_reducible refine Kd.C_drew ?_)));(case side4=>exact HC0_10.out);(case side5=>repeat (first|exact (Kd.C_below HR0_11.out HB.out)|(with_reducible refine Kd.C_alloc ?_ _)|(with_reducible refine Kd.C_drewN ?_ _)|(with_reducible refine Kd.C_drew ?_)));(case side6=>exact HC0_11.out);rintro e w8 ⟨rfl,hb⟩;refine ⟨_,rfl,?_⟩;have n0_:=Am (blk_below (g:=gb717) (by (with_reducible repeat (first|refine bN ?_ _|refine bD ?_|refine bA ?_ _));exact BK717.out) hb);have n1_:=Am (below_step (by repeat (first|(with_reducible first|exact HB.out|apply bL|apply pN|apply bE|refine bS ?_ GE717.out)|exact HB.out)) hb);clear BK717;clear HB;have BK717:=n0_;have HB:=n1_;clear n0_ n1_;(try clear hb);(try clear hb2);(try clear hk);(try clear hi)))
   go_meet
   case rel=>exact ⟨_,(true),(by first|rfl|(simp;done)|(simp [*];done)),H',⟨by first|omega|exact Nat.le_refl _⟩,⟨by (with_reducible repeat (first|refine bN ?_ _|refine bD ?_|refine bA ?_ _));exact BK717.out⟩,⟨by repeat (first|(with_reducible first|exact HB.out|apply bL|apply pN|apply bE|refine bS ?_ GE717.out)|exact HB.out)⟩⟩
  replace c6:=Bool.eq_false_iff.mpr c6
  subst c6
  have H1 : (gangerlaw10_ConfPaths.j0 k a1 (decide ((a1.size : Int) > 300)) a0_0 a0_1 a0_2 a0_3 a0_4 a0_5 a0_6 a0_7 a0_8 l0_9 l0_10 l0_11) = some r:=by rw [if_neg (show ¬ (false = true) by decide)] at H;exact H
  clear H
  have H:=H1
  clear H1
  have H':=Am H
  clear H
  have hcz9_0 : w4.cell? ⟨gb717,0,none⟩ = some (.int .i64 a0_0):=(bC BK717.out 0).trans rfl
  have hcz9_1 : w4.cell? ⟨gb717,1,none⟩ = some (.int .i64 a0_1):=(bC BK717.out 1).trans rfl
  have hcz9_2 : w4.cell? ⟨gb717,2,none⟩ = some (.int .i64 a0_2):=(bC BK717.out 2).trans rfl
  have hcz9_3 : w4.cell? ⟨gb717,3,none⟩ = some (.int .i64 a0_3):=(bC BK717.out 3).trans rfl
  have hcz9_4 : w4.cell? ⟨gb717,4,none⟩ = some (.int .i64 a0_4):=(bC BK717.out 4).trans rfl
  have hcz9_5 : w4.cell? ⟨gb717,5,none⟩ = some (.int .i64 a0_5):=(bC BK717.out 5).trans rfl
  have hcz9_6 : w4.cell? ⟨gb717,6,none⟩ = some (.int .i64 a0_6):=(bC BK717.out 6).trans rfl
  have hcz9_7 : w4.cell? ⟨gb717,7,none⟩ = some (.int .i64 a0_7):=(bC BK717.out 7).trans rfl
  have hcz9_8 : w4.cell? ⟨gb717,8,none⟩ = some (.int .i64 a0_8):=(bC BK717.out 8).trans rfl
  have hcz9_9 : w4.cell? ⟨gb717,9,none⟩ = some (.slice A0_9 l0_9.length c0_9):=(bC BK717.out 9).trans rfl
  have hcz9_10 : w4.cell? ⟨gb717,10,none⟩ = some (.slice A0_10 l0_10.length c0_10):=(bC BK717.out 10).trans rfl
  have hcz9_11 : w4.cell? ⟨gb717,11,none⟩ = some (.slice A0_11 l0_11.length c0_11):=(bC BK717.out 11).trans rfl
  have hfz9_0:=bF BK717.out 0
  have hfz9_1:=bF BK717.out 1
  have hfz9_2:=bF BK717.out 2
  have hfz9_3:=bF BK717.out 3
  have hfz9_4:=bF BK717.out 4
  have hfz9_5:=bF BK717.out 5
  have hfz9_6:=bF BK717.out 6
  have hfz9_7:=bF BK717.out 7
  have hfz9_8:=bF BK717.out 8
  have hfz9_9:=bF BK717.out 9
  have hfz9_10:=bF BK717.out 10
  have hfz9_11:=bF BK717.out 11
  go_wp2_with (first|((with_reducible refine gC (f:=9) rfl ?_);refine goesL_ (some 11) rfl rfl Tryd.func9 (by kernel_rfl) rfl #[.agg #[.int .i64 a0_0,.int .i64 a0_1,.int .i64 a0_2,.int .i64 a0_3,.int .i64 a0_4,.int .i64 a0_5,.int .i64 a0_6,.int .i64 a0_7,.int .i64 a0_8,.slice A0_9 l0_9.length c0_9,.slice A0_10 l0_10.length c0_10,.slice A0_11 l0_11.length c0_11]] rfl (by (try simp only [mT,mC,mN]);first|done|rfl|(simp only [lD,lT];rfl)) ?_;(with_reducible refine (gangerlaw10_long.calls k a0_0 a0_1 a0_2 a0_3 a0_4 a0_5 a0_6 a0_7 a0_8 _ _ l0_9 _ _ l0_10 _ _ l0_11 false _ ?side1 ?side2 ?side3 ?side4 ?side5 ?side6 A5.out).mono ?_);(case side1=>repeat (first|exact (Kd.C_below HR0_9.out HB.out)|(with_reducible refine Kd.C_alloc ?_ _)|(with_reducible refine Kd.C_drewN ?_ _)|(with_reducible refine Kd.C_drew ?_)));(case side2=>exact HC0_9.out);(case side3=>repeat (first|exact (Kd.C_below HR0_10.out HB.out)|(with_reducible refine Kd.C_alloc ?_ _)|(with_reducible refine Kd.C_drewN ?_ _)|(with_reducible refine Kd.C_drew ?_)));(case side4=>exact HC0_10.out);(case side5=>repeat (first|exact (Kd.C_below HR0_11.out HB.out)|(with_reducible refine Kd.C_alloc ?_ _)|(with_reducible refine Kd.C_drewN ?_ _)|(with_reducible refine Kd.C_drew ?_)));(case side6=>exact HC0_11.out);rintro e w10 ⟨rfl,hb⟩;refine ⟨_,rfl,?_⟩;have n0_:=Am (blk_below (g:=gb717) (by (with_reducible repeat (first|refine bN ?_ _|refine bD ?_|refine bA ?_ _));exact BK717.out) hb);have n1_:=Am (below_step (by repeat (first|(with_reducible first|exact HB.out|apply bL|apply pN|apply bE|refine bS ?_ GE717.out)|exact HB.out)) hb);clear BK717;clear HB;have BK717:=n0_;have HB:=n1_;clear n0_ n1_;(try clear hb);(try clear hb2);(try clear hk);(try clear hi)))
  go_meet
  case rel=>exact ⟨_,(decide ((a1.size : Int) > 300)),(by first|rfl|(simp;done)|(simp [*];done)),H',⟨by first|omega|exact Nat.le_refl _⟩,⟨by (with_reducible repeat (first|refine bN ?_ _|refine bD ?_|refine bA ?_ _));exact BK717.out⟩,⟨by repeat (first|(with_reducible first|exact HB.out|apply bL|apply pN|apply bE|refine bS ?_ GE717.out)|exact HB.out)⟩⟩
 case rest =>
  clear HC3
  obtain ⟨kq,x16_2,rfl,HA,HJ2,BK717,HB⟩:=hcut
  cases kq with
  | zero=>exact absurd HA.out (by simp [gangerlaw10_ConfPaths.j0])
  | succ kj2 =>
   have H:=HA.out
   clear HA
   simp only [gangerlaw10_ConfPaths.j0] at H
   by_cases c11 : x16_2 = true
   ·subst c11
    have H1 : ((gangerlaw10_known.f kj2).bind fun t719=>(some t719)) = some r:=by rw [if_pos rfl] at H;exact H
    clear H
    have H:=H1
    clear H1
    replace H:=oB H
    obtain ⟨t719,A120,H⟩:=H
    replace H : (some t719) = some r:=H
    have A12:=Am A120
    clear A120
    obtain rfl:=Option.some.inj H
    go_wp2_with (first|((with_reducible refine gC (f:=10) rfl ?_);refine goesL_ (some 17) rfl rfl Tryd.func10 (by kernel_rfl) rfl #[] rfl (by (try simp only [mT,mC,mN]);first|done|rfl|(simp only [lD,lT];rfl)) ?_;(with_reducible refine (gangerlaw10_known.calls kj2  t719 _ ?side1 A12.out).mono ?_);(case side1=>exact Glob.below HG.out (by repeat (first|(with_reducible first|exact HB.out|apply bL|apply pN|apply bE|refine bS ?_ GE717.out)|exact HB.out)));rintro e w13 ⟨rfl,hb⟩;refine ⟨_,rfl,?_⟩;have n0_:=Am (blk_below (g:=gb717) (by (with_reducible repeat (first|refine bN ?_ _|refine bD ?_|refine bA ?_ _));exact BK717.out) hb);have n1_:=Am (below_step (by repeat (first|(with_reducible first|exact HB.out|apply bL|apply pN|apply bE|refine bS ?_ GE717.out)|exact HB.out)) hb);clear BK717;clear HB;have BK717:=n0_;have HB:=n1_;clear n0_ n1_;(try clear hb);(try clear hb2);(try clear hk);(try clear hi)))
    go_ret
    exact ⟨by first|rfl|(simp [errW_none,errW_some] <;> rfl)|(simp [*,errW_none,errW_some] <;> rfl),by repeat (first|(with_reducible first|exact HB.out|apply bL|apply pN|apply bE|refine bS ?_ GE717.out)|exact HB.out)⟩
   replace c11:=Bool.eq_false_iff.mpr c11
   subst c11
   have H1 : ((conf_Path.f kj2 a0_0 a0_1 a0_2 a0_3 a0_4 a0_5 a0_6 a0_7 a0_8 l0_9 l0_10 l0_11 a1).bind fun t720=>((gangerref10_Path.f kj2 a0_0 a0_1 a0_2 a0_3 a0_4 a0_5 a0_6 a0_7 a0_8 l0_9 l0_10 l0_11 a1).bind fun t723=>(if (t720.length : Int) = (t723.length : Int) then (gangerlaw10_ConfPaths.l0 kj2 t720 t723 0 a0_0 a0_1 a0_2 a0_3 a0_4 a0_5 a0_6 a0_7 a0_8 l0_9 l0_10 l0_11) else (none)))) = some r:=by rw [if_neg (show ¬ (false = true) by decide)] at H;exact H
   clear H
   have H:=H1
   clear H1
   replace H:=oB H
   obtain ⟨t720,A140,H⟩:=H
   replace H : ((gangerref10_Path.f kj2 a0_0 a0_1 a0_2 a0_3 a0_4 a0_5 a0_6 a0_7 a0_8 l0_9 l0_10 l0_11 a1).bind fun t723=>(if (t720.length : Int) = (t723.length : Int) then (gangerlaw10_ConfPaths.l0 kj2 t720 t723 0 a0_0 a0_1 a0_2 a0_3 a0_4 a0_5 a0_6 a0_7 a0_8 l0_9 l0_10 l0_11) else (none))) = some r:=H
   have A14:=Am A140
   clear A140
   replace H:=oB H
   obtain ⟨t723,A150,H⟩:=H
   replace H : (if (t720.length : Int) = (t723.length : Int) then (gangerlaw10_ConfPaths.l0 kj2 t720 t723 0 a0_0 a0_1 a0_2 a0_3 a0_4 a0_5 a0_6 a0_7 a0_8 l0_9 l0_10 l0_11) else (none)) = some r:=H
   have A15:=Am A150
   clear A150
   by_cases c16 : (t720.length : Int) = (t723.length : Int)
   rotate_left
   ·rw [if_neg c16] at H
    exact absurd H (by simp)
   rw [if_pos c16] at H
   have c16b0 : ((t720.length : Int) == (t723.length : Int)) = true:=beq_iff_eq.mpr c16
   have c16b1 : ((t720.length : Int) != (t723.length : Int)) = false:=bne_eq_false_iff_eq.mpr c16
   have c16b2 : (t720.length == t723.length) = true:=by first|simpa using c16|(simp at c16 ⊢;omega)
   clear c16
   have H':=Am H
   clear H
   have hcz17_0 : wc.cell? ⟨gb717,0,none⟩ = some (.int .i64 a0_0):=(bC BK717.out 0).trans rfl
   have hcz17_1 : wc.cell? ⟨gb717,1,none⟩ = some (.int .i64 a0_1):=(bC BK717.out 1).trans rfl
   have hcz17_2 : wc.cell? ⟨gb717,2,none⟩ = some (.int .i64 a0_2):=(bC BK717.out 2).trans rfl
   have hcz17_3 : wc.cell? ⟨gb717,3,none⟩ = some (.int .i64 a0_3):=(bC BK717.out 3).trans rfl
   have hcz17_4 : wc.cell? ⟨gb717,4,none⟩ = some (.int .i64 a0_4):=(bC BK717.out 4).trans rfl
   have hcz17_5 : wc.cell? ⟨gb717,5,none⟩ = some (.int .i64 a0_5):=(bC BK717.out 5).trans rfl
   have hcz17_6 : wc.cell? ⟨gb717,6,none⟩ = some (.int .i64 a0_6):=(bC BK717.out 6).trans rfl
   have hcz17_7 : wc.cell? ⟨gb717,7,none⟩ = some (.int .i64 a0_7):=(bC BK717.out 7).trans rfl
   have hcz17_8 : wc.cell? ⟨gb717,8,none⟩ = some (.int .i64 a0_8):=(bC BK717.out 8).trans rfl
   have hcz17_9 : wc.cell? ⟨gb717,9,none⟩ = some (.slice A0_9 l0_9.length c0_9):=(bC BK717.out 9).trans rfl
   have hcz17_10 : wc.cell? ⟨gb717,10,none⟩ = some (.slice A0_10 l0_10.length c0_10):=(bC BK717.out 10).trans rfl
   have hcz17_11 : wc.cell? ⟨gb717,11,none⟩ = some (.slice A0_11 l0_11.length c0_11):=(bC BK717.out 11).trans rfl
   have hfz17_0:=bF BK717.out 0
   have hfz17_1:=bF BK717.out 1
   have hfz17_2:=bF BK717.out 2
   have hfz17_3:=bF BK717.out 3
   have hfz17_4:=bF BK717.out 4
   have hfz17_5:=bF BK717.out 5
   have hfz17_6:=bF BK717.out 6
   have hfz17_7:=bF BK717.out 7
   have hfz17_8:=bF BK717.out 8
   have hfz17_9:=bF BK717.out 9
   have hfz17_10:=bF BK717.out 10
   have hfz17_11:=bF BK717.out 11
   go_wp2_with (first|((with_reducible refine gC (f:=21) rfl ?_);refine goesL_ (some 20) rfl rfl Tryd.func21 (by kernel_rfl) rfl #[.agg #[.int .i64 a0_0,.int .i64 a0_1,.int .i64 a0_2,.int .i64 a0_3,.int .i64 a0_4,.int .i64 a0_5,.int .i64 a0_6,.int .i64 a0_7,.int .i64 a0_8,.slice A0_9 l0_9.length c0_9,.slice A0_10 l0_10.length c0_10,.slice A0_11 l0_11.length c0_11],.string a1] rfl (by (try simp only [mT,mC,mN]);first|done|rfl|(simp only [lD,lT];rfl)) ?_;(with_reducible refine (conf_Path.calls kj2 a0_0 a0_1 a0_2 a0_3 a0_4 a0_5 a0_6 a0_7 a0_8 _ _ l0_9 _ _ l0_10 _ _ l0_11 a1 t720 _ ?side1 ?side2 ?side3 ?side4 ?side5 ?side6 ?side7 A14.out).mono ?_);(case side1=>exact Glob.below HG.out (by repeat (first|(with_reducible first|exact HB.out|apply bL|apply pN|apply bE|refine bS ?_ GE717.out)|exact HB.out)));(case side2=>repeat (first|exact (Kd.C_below HR0_9.out HB.out)|(with_reducible refine Kd.C_alloc ?_ _)|(with_reducible refine Kd.C_drewN ?_ _)|(with_reducible refine Kd.C_drew ?_)));(case side3=>exact HC0_9.out);(case side4=>repeat (first|exact (Kd.C_below HR0_10.out HB.out)|(with_reducible refine Kd.C_alloc ?_ _)|(with_reducible refine Kd.C_drewN ?_ _)|(with_reducible refine Kd.C_drew ?_)));(case side5=>exact HC0_10.out);(case side6=>repeat (first|exact (Kd.C_below HR0_11.out HB.out)|(with_reducible refine Kd.C_alloc ?_ _)|(with_reducible refine Kd.C_drewN ?_ _)|(with_reducible refine Kd.C_drew ?_)));(case side7=>exact HC0_11.out);rintro e w18 ⟨v721,rfl,ho0,hb⟩;refine ⟨_,rfl,?_⟩;have n0_:=Am (Kd.R_lower ho0 (bZ (by repeat (first|(with_reducible first|exact HB.out|apply bL|apply pN|apply bE|refine bS ?_ GE717.out)|exact HB.out))));have n1_:=Am (blk_below (g:=gb717) (by (with_reducible repeat (first|refine bN ?_ _|refine bD ?_|refine bA ?_ _));exact BK717.out) hb);have n2_:=Am (below_step (by repeat (first|(with_reducible first|exact HB.out|apply bL|apply pN|apply bE|refine bS ?_ GE717.out)|exact HB.out)) hb);clear BK717;clear HB;have HO722:=n0_;have BK717:=n1_;have HB:=n2_;clear n0_ n1_ n2_;(try clear hb);(try clear hb2);(try clear hk);(try clear hi);(try clear ho0);have hcz19_0 : w18.cell? ⟨gb717,0,none⟩ = some (.int .i64 a0_0):=(bC BK717.out 0).trans rfl;have hcz19_1 : w18.cell? ⟨gb717,1,none⟩ = some (.int .i64 a0_1):=(bC BK717.out 1).trans rfl;have hcz19_2 : w18.cell? ⟨gb717,2,none⟩ = some (.int .i64 a0_2):=(bC BK717.out 2).trans rfl;have hcz19_3 : w18.cell? ⟨gb717,3,none⟩ = some (.int .i64 a0_3):=(bC BK717.out 3).trans rfl;have hcz19_4 : w18.cell? ⟨gb717,4,none⟩ = some (.int .i64 a0_4):=(bC BK717.out 4).trans rfl;have hcz19_5 : w18.cell? ⟨gb717,5,none⟩ = some (.int .i64 a0_5):=(bC BK717.out 5).trans rfl;have hcz19_6 : w18.cell? ⟨gb717,6,none⟩ = some (.int .i64 a0_6):=(bC BK717.out 6).trans rfl;have hcz19_7 : w18.cell? ⟨gb717,7,none⟩ = some (.int .i64 a0_7):=(bC BK717.out 7).trans rfl;have hcz19_8 : w18.cell? ⟨gb717,8,none⟩ = some (.int .i64 a0_8):=(bC BK717.out 8).trans rfl;have hcz19_9 : w18.cell? ⟨gb717,9,none⟩ = some (.slice A0_9 l0_9.length c0_9):=(bC BK717.out 9).trans rfl;have hcz19_10 : w18.cell? ⟨gb717,10,none⟩ = some (.slice A0_10 l0_10.length c0_10):=(bC BK717.out 10).trans rfl;have hcz19_11 : w18.cell? ⟨gb717,11,none⟩ = some (.slice A0_11 l0_11.length c0_11):=(bC BK717.out 11).trans rfl;have hfz19_0:=bF BK717.out 0;have hfz19_1:=bF BK717.out 1;have hfz19_2:=bF BK717.out 2;have hfz19_3:=bF BK717.out 3;have hfz19_4:=bF BK717.out 4;have hfz19_5:=bF BK717.out 5;have hfz19_6:=bF BK717.out 6;have hfz19_7:=bF BK717.out 7;have hfz19_8:=bF BK717.out 8;have hfz19_9:=bF BK717.out 9;have hfz19_10:=bF BK717.out 10;have hfz19_11:=bF BK717.out 11)|((with_reducible refine gC (f:=22) rfl ?_);refine goesL_ (some 23) rfl rfl Tryd.func22 (by kernel_rfl) rfl #[.agg #[.int .i64 a0_0,.int .i64 a0_1,.int .i64 a0_2,.int .i64 a0_3,.int .i64 a0_4,.int .i64 a0_5,.int .i64 a0_6,.int .i64 a0_7,.int .i64 a0_8,.slice A0_9 l0_9.length c0_9,.slice A0_10 l0_10.length c0_10,.slice A0_11 l0_11.length c0_11],.string a1] rfl (by (try simp only [mT,mC,mN]);first|done|rfl|(simp only [lD,lT];rfl)) ?_;(with_reducible refine (gangerref10_Path.calls kj2 a0_0 a0_1 a0_2 a0_3 a0_4 a0_5 a0_6 a0_7 a0_8 _ _ l0_9 _ _ l0_10 _ _ l0_11 a1 t723 _ ?side1 ?side2 ?side3 ?side4 ?side5 ?side6 A15.out).mono ?_);(case side1=>repeat (first|exact (Kd.C_below HR0_9.out HB.out)|(with_reducible refine Kd.C_alloc ?_ _)|(with_reducible refine Kd.C_drewN ?_ _)|(with_reducible refine Kd.C_drew ?_)));(case side2=>exact HC0_9.out);(case side3=>repeat (first|exact (Kd.C_below HR0_10.out HB.out)|(with_reducible refine Kd.C_alloc ?_ _)|(with_reducible refine Kd.C_drewN ?_ _)|(with_reducible refine Kd.C_drew ?_)));(case side4=>exact HC0_10.out);(case side5=>repeat (first|exact (Kd.C_below HR0_11.out HB.out)|(with_reducible refine Kd.C_alloc ?_ _)|(with_reducible refine Kd.C_drewN ?_ _)|(with_reducible refine Kd.C_drew ?_)));(case side6=>exact HC0_11.out);rintro e w20 ⟨v724,rfl,ho0,hb⟩;refine ⟨_,rfl,?_⟩;have n0_:=Am (Kd.R_elder' (by (with_reducible repeat (first|apply Kd.R_alloc|apply Kd.R_drewN|apply Kd.R_drew));exact HO722.out) (Kd.R_base ho0) hb);have n1_:=Am (Kd.R_lower (Kd.R_new' ho0 (Kd.R_lt (by (with_reducible repeat (first|apply Kd.R_alloc|apply Kd.R_drewN|apply Kd.R_drew));exact HO722.out))) (bZ (by repeat (first|(with_reducible first|exact HB.out|apply bL|apply pN|apply bE|refine bS ?_ GE717.out)|exact HB.out))));have n2_:=Am (blk_below (g:=gb717) (by (with_reducible repeat (first|refine bN ?_ _|refine bD ?_|refine bA ?_ _));exact BK717.out) hb);have n3_:=Am (below_step (by repeat (first|(with_reducible first|exact HB.out|apply bL|apply pN|apply bE|refine bS ?_ GE717.out)|exact HB.out)) hb);clear HO722;clear BK717;clear HB;have HO722:=n0_;have HO725:=n1_;have BK717:=n2_;have HB:=n3_;clear n0_ n1_ n2_ n3_;(try clear hb);(try clear hb2);(try clear hk);(try clear hi);(try clear ho0);obtain ⟨Ao21,co21,eo21⟩:=Kd.R_slice HO722.out;subst eo21;obtain ⟨Ao22,co22,eo22⟩:=Kd.R_slice HO725.out;subst eo22))
   go_loopg [7] kj2 (fun kq v7 w'=>∃ (x7_2 : Int),v7 = .int .i64 x7_2∧Aside0 (gangerlaw10_ConfPaths.l0 kq t720 t723 x7_2 a0_0 a0_1 a0_2 a0_3 a0_4 a0_5 a0_6 a0_7 a0_8 l0_9 l0_10 l0_11 = some r)∧Aside0 (kq≤kj2)∧Aside0 (Kd.R Kd.string 9 w' w.heap.size (fun k_=>some k_ ≠ ((.slice Ao22 t723.length co22) : Value).ownBlock) (.slice Ao21 t720.length co21) t720)∧Aside0 (Kd.R Kd.string 9 w' w.heap.size (fun k_=>some k_ ≠ ((.slice Ao21 t720.length co21) : Value).ownBlock) (.slice Ao22 t723.length co22) t723)∧Aside0 (w'.heap[gb717]? = some (.cells #[.int .i64 a0_0,.int .i64 a0_1,.int .i64 a0_2,.int .i64 a0_3,.int .i64 a0_4,.int .i64 a0_5,.int .i64 a0_6,.int .i64 a0_7,.int .i64 a0_8,(.slice A0_9 l0_9.length c0_9),(.slice A0_10 l0_10.length c0_10),(.slice A0_11 l0_11.length c0_11)] 28 (0,0)))∧Aside0 (Below w.heap.size w w'))
   case atStart=>exact ⟨(0),(by first|rfl|(simp;done)|(simp [*];done)),H',⟨Nat.le_refl _⟩,⟨by (with_reducible repeat (first|apply Kd.R_alloc|apply Kd.R_drewN|apply Kd.R_drew));exact Kd.R_mono HO722.out (fun _ hk=>hk.2)⟩,⟨by (with_reducible repeat (first|apply Kd.R_alloc|apply Kd.R_drewN|apply Kd.R_drew));exact Kd.R_mono HO725.out (fun _ hk=>hk.2)⟩,⟨by (with_reducible repeat (first|refine bN ?_ _|refine bD ?_|refine bA ?_ _));exact BK717.out⟩,⟨by repeat (first|(with_reducible first|exact HB.out|apply bL|apply pN|apply bE|refine bS ?_ GE717.out)|exact HB.out)⟩⟩
   case round =>
    clear H'
    obtain ⟨x7_2,rfl,HA,HK2,HO_5,HO_6,BK717,HB⟩:=hrel
    cases gk with
    | zero=>exact absurd HA.out (by simp [gangerlaw10_ConfPaths.l0])
    | succ k2 =>
     have H:=HA.out
     clear HA
     simp only [gangerlaw10_ConfPaths.l0] at H
     by_cases c23 : x7_2 < (t720.length : Int)
     ·rw [if_pos c23] at H
      have c23b0 : decide (x7_2 < (t720.length : Int)) = true:=decide_eq_true c23
      clear c23
      by_cases c24 : 0≤x7_2
      rotate_left
      ·rw [if_neg c24] at H
       exact absurd H (by simp)
      rw [if_pos c24] at H
      have c24b0 : decide (0≤x7_2) = true:=decide_eq_true c24
      clear c24
      by_cases c25 : x7_2 < (t723.length : Int)
      rotate_left
      ·rw [if_neg c25] at H
       exact absurd H (by simp)
      rw [if_pos c25] at H
      have c25b0 : decide (x7_2 < (t723.length : Int)) = true:=decide_eq_true c25
      clear c25
      by_cases c26 : (rdOf ByteArray.empty t720 x7_2).toList = (rdOf ByteArray.empty t723 x7_2).toList
      rotate_left
      ·rw [if_neg c26] at H
       exact absurd H (by simp)
      rw [if_pos c26] at H
      have c26b0 : ((rdOf ByteArray.empty t720 x7_2).toList == (rdOf ByteArray.empty t723 x7_2).toList) = true:=beq_iff_eq.mpr c26
      have c26b1 : ((rdOf ByteArray.empty t720 x7_2).toList != (rdOf ByteArray.empty t723 x7_2).toList) = false:=bne_eq_false_iff_eq.mpr c26
      clear c26
      have H':=Am H
      clear H
      try go_wp2
      have n0_:=Am (Kd.R_drew HO_5.out)
      have n1_:=Am (Kd.R_drew HO_6.out)
      have n2_:=Am (bD BK717.out)
      have n3_:=Am (bE HB.out)
      clear HO_5
      clear HO_6
      clear BK717
      clear HB
      have HO_5:=n0_
      have HO_6:=n1_
      have BK717:=n2_
      have HB:=n3_
      clear n0_ n1_ n2_ n3_
      have p726 : 0≤(x7_2 : Int):=of_decide_eq_true (by first|(with_reducible assumption)|assumption)
      have q726 : x7_2 < (t720.length : Int):=of_decide_eq_true (by first|(with_reducible assumption)|assumption)
      obtain ⟨ad726,e726,hx726_0⟩:=Kd.at_string (Kd.R_reads' HO_5.out).2.2 x7_2 p726 q726
      cases e726
      replace p726:=eq_true p726
      replace q726:=eq_true q726
      have p727 : 0≤(x7_2 : Int):=of_decide_eq_true (by first|(with_reducible assumption)|assumption)
      have q727 : x7_2 < (t723.length : Int):=of_decide_eq_true (by first|(with_reducible assumption)|assumption)
      obtain ⟨ad727,e727,hx727_0⟩:=Kd.at_string (Kd.R_reads' HO_6.out).2.2 x7_2 p727 q727
      cases e727
      replace p727:=eq_true p727
      replace q727:=eq_true q727
      refine start_ (n:=9) (S:=fun w'=>w'.cell? (ad726.add (x7_2).toNat) = some (.string (rdOf ByteArray.empty t720 x7_2))∧w'.cell? (ad727.add (x7_2).toNat) = some (.string (rdOf ByteArray.empty t723 x7_2))) (ds:=[]) #[Ff,Ff,Ff,Ff,Ff,Ff,Ff,Ff,Ff] (by kernel_rfl) rfl rfl ⟨hx726_0,hx727_0⟩ (fun hHeld=>?_);refine with_tabW gangerlaw10_ConfPaths.tab10 gangerlaw10_ConfPaths.bits10 (fun HT_ HW_=>?_)
      generalize wr.drew = w27 at HO_5 HO_6 BK717 HB hx726_0 hx727_0 hHeld ⊢
      refine pure_ (i:=0) (N:=some 35) (v:=?_) (a':=?_) #[Tt,Ff,Ff,Ff,Ff,Ff,Ff,Ff,Ff] rfl rfl (any_of HT_.out (by kernel_rfl)) (fun _ _ _ h=>h) (Or.inl ⟨by rfl,?_⟩) ?_ ?_
      rotate_left
      ·intro w'
       go_simp
       with_reducible rfl
      rotate_left
      ·simp only [Act.put,sT,sZ,sS,iW,iV]
       rfl
      refine pure_ (i:=1) (N:=some 36) (v:=?_) (a':=?_) #[Tt,Tt,Ff,Ff,Ff,Ff,Ff,Ff,Ff] rfl rfl (any_of HT_.out (by kernel_rfl)) (fun _ _ _ h=>h) (Or.inl ⟨by rfl,?_⟩) ?_ ?_
      rotate_left
      ·intro w'
       go_simp
       with_reducible rfl
      rotate_left
      ·simp only [Act.put,sT,sZ,sS,iW,iV]
       rfl
      refine pure_ (i:=2) (N:=some 37) (v:=?_) (a':=?_) #[Tt,Tt,Tt,Ff,Ff,Ff,Ff,Ff,Ff] rfl rfl (any_of HT_.out (by kernel_rfl)) (fun _ _ _ h=>h) (Or.inl ⟨by rfl,?_⟩) ?_ ?_
      rotate_left
      ·intro w'
       go_simp
       with_reducible rfl
      rotate_left
      ·simp only [Act.put,sT,sZ,sS,iW,iV]
       rfl
      refine pure_ (i:=4) (N:=some 39) (v:=?_) (a':=?_) #[Tt,Tt,Tt,Ff,Tt,Ff,Ff,Ff,Ff] rfl rfl (any_of HT_.out (by kernel_rfl)) (fun _ _ _ h=>h) (Or.inl ⟨by rfl,?_⟩) ?_ ?_
      rotate_left
      ·intro w'
       go_simp
       with_reducible rfl
      rotate_left
      ·simp only [Act.put,sT,sZ,sS,iW,iV]
       rfl
      refine pure_ (i:=5) (N:=some 40) (v:=?_) (a':=?_) #[Tt,Tt,Tt,Ff,Tt,Tt,Ff,Ff,Ff] rfl rfl (any_of HT_.out (by kernel_rfl)) (fun _ _ _ h=>h) (Or.inl ⟨by rfl,?_⟩) ?_ ?_
      rotate_left
      ·intro w'
       go_simp
       with_reducible rfl
      rotate_left
      ·simp only [Act.put,sT,sZ,sS,iW,iV]
       rfl
      refine pure_ (i:=6) (N:=some 41) (v:=?_) (a':=?_) #[Tt,Tt,Tt,Ff,Tt,Tt,Tt,Ff,Ff] rfl rfl (any_of HT_.out (by kernel_rfl)) (fun _ _ _ h=>h) (Or.inl ⟨by rfl,?_⟩) ?_ ?_
      rotate_left
      ·intro w'
       go_simp
       with_reducible rfl
      rotate_left
      ·simp only [Act.put,sT,sZ,sS,iW,iV]
       rfl
      refine take_ (i:=3) (N:=some 38) (v:=?_) (a':=?_) #[Tt,Tt,Tt,Tt,Tt,Tt,Tt,Ff,Ff] rfl rfl (take_ofW HT_.out HW_.out (by kernel_rfl)) (fun _ _ _ h=>h) (Or.inl ⟨by rfl,?_⟩) hHeld ?_ ?_
      rotate_left
      ·rintro w' ⟨s0,s1⟩
       go_simp
       with_reducible rfl
      rotate_left
      ·simp only [Act.put,sT,sZ,sS,iW,iV]
       rfl
      refine take_ (i:=7) (N:=some 42) (v:=?_) (a':=?_) #[Tt,Tt,Tt,Tt,Tt,Tt,Tt,Tt,Ff] rfl rfl (take_ofW HT_.out HW_.out (by kernel_rfl)) (fun _ _ _ h=>h) (Or.inl ⟨by rfl,?_⟩) hHeld ?_ ?_
      rotate_left
      ·rintro w' ⟨s0,s1⟩
       go_simp
       with_reducible rfl
      rotate_left
      ·simp only [Act.put,sT,sZ,sS,iW,iV]
       rfl
      refine pure_ (i:=8) (N:=some 43) (v:=?_) (a':=?_) #[Tt,Tt,Tt,Tt,Tt,Tt,Tt,Tt,Tt] rfl rfl (any_of HT_.out (by kernel_rfl)) (fun _ _ _ h=>h) (Or.inl ⟨by rfl,?_⟩) ?_ ?_
      rotate_left
      ·intro w'
       go_simp
       with_reducible rfl
      rotate_left
      ·simp only [Act.put,sT,sZ,sS,iW,iV]
       rfl
      refine done_ (done_of HT_.out (by kernel_rfl)) ?_
      try go_wp2
      go_roundg k2
      case measure=>have:=HJ2.out;have:=HK2.out;omega
      case rel=>exact ⟨(wrap64 (x7_2 + 1)),(by first|rfl|(simp;done)|(simp [*];done)),H',⟨by have:=HJ2.out;have:=HK2.out;omega⟩,⟨by (with_reducible repeat (first|apply Kd.R_alloc|apply Kd.R_drewN|apply Kd.R_drew));exact HO_5.out⟩,⟨by (with_reducible repeat (first|apply Kd.R_alloc|apply Kd.R_drewN|apply Kd.R_drew));exact HO_6.out⟩,⟨by (with_reducible repeat (first|refine bN ?_ _|refine bD ?_|refine bA ?_ _));exact BK717.out⟩,⟨by repeat (first|(with_reducible first|exact HB.out|apply bL|apply pN|apply bE|refine bS ?_ GE717.out)|exact HB.out)⟩⟩
     rw [if_neg c23] at H
     have c23b0 : decide (x7_2 < (t720.length : Int)) = false:=decide_eq_false c23
     clear c23
     replace H:=oB H
     obtain ⟨t728,A280,H⟩:=H
     replace H : (if t728 = 0 then (gangerlaw10_ConfPaths.l1 k2 0 a0_0 a0_1 a0_2 a0_3 a0_4 a0_5 a0_6 a0_7 a0_8 l0_9 l0_10 l0_11) else (if (t720.length : Int) = 0 then ((gangerlaw10_known.f k2).bind fun t729=>(some t729)) else (none))) = some r:=H
     have A28:=Am A280
     clear A280
     by_cases c29 : t728 = 0
     rotate_left
     ·rw [if_neg c29] at H
      have c29b0 : (t728 == 0) = false:=beq_eq_false_iff_ne.mpr c29
      have c29b1 : (t728 != 0) = true:=bne_iff_ne.mpr c29
      by_cases c67 : (t720.length : Int) = 0
      rotate_left
      ·rw [if_neg c67] at H
       exact absurd H (by simp)
      rw [if_pos c67] at H
      have c67b0 : ((t720.length : Int) == 0) = true:=beq_iff_eq.mpr c67
      have c67b1 : ((t720.length : Int) != 0) = false:=bne_eq_false_iff_eq.mpr c67
      clear c67
      replace H:=oB H
      obtain ⟨t729,A680,H⟩:=H
      replace H : (some t729) = some r:=H
      have A68:=Am A680
      clear A680
      obtain rfl:=Option.some.inj H
      have hcz69_0 : wr.cell? ⟨gb717,0,none⟩ = some (.int .i64 a0_0):=(bC BK717.out 0).trans rfl
      have hcz69_1 : wr.cell? ⟨gb717,1,none⟩ = some (.int .i64 a0_1):=(bC BK717.out 1).trans rfl
      have hcz69_2 : wr.cell? ⟨gb717,2,none⟩ = some (.int .i64 a0_2):=(bC BK717.out 2).trans rfl
      have hcz69_3 : wr.cell? ⟨gb717,3,none⟩ = some (.int .i64 a0_3):=(bC BK717.out 3).trans rfl
      have hcz69_4 : wr.cell? ⟨gb717,4,none⟩ = some (.int .i64 a0_4):=(bC BK717.out 4).trans rfl
      have hcz69_5 : wr.cell? ⟨gb717,5,none⟩ = some (.int .i64 a0_5):=(bC BK717.out 5).trans rfl
      have hcz69_6 : wr.cell? ⟨gb717,6,none⟩ = some (.int .i64 a0_6):=(bC BK717.out 6).trans rfl
      have hcz69_7 : wr.cell? ⟨gb717,7,none⟩ = some (.int .i64 a0_7):=(bC BK717.out 7).trans rfl
      have hcz69_8 : wr.cell? ⟨gb717,8,none⟩ = some (.int .i64 a0_8):=(bC BK717.out 8).trans rfl
      have hcz69_9 : wr.cell? ⟨gb717,9,none⟩ = some (.slice A0_9 l0_9.length c0_9):=(bC BK717.out 9).trans rfl
      have hcz69_10 : wr.cell? ⟨gb717,10,none⟩ = some (.slice A0_10 l0_10.length c0_10):=(bC BK717.out 10).trans rfl
      have hcz69_11 : wr.cell? ⟨gb717,11,none⟩ = some (.slice A0_11 l0_11.length c0_11):=(bC BK717.out 11).trans rfl
      have hfz69_0:=bF BK717.out 0
      have hfz69_1:=bF BK717.out 1
      have hfz69_2:=bF BK717.out 2
      have hfz69_3:=bF BK717.out 3
      have hfz69_4:=bF BK717.out 4
      have hfz69_5:=bF BK717.out 5
      have hfz69_6:=bF BK717.out 6
      have hfz69_7:=bF BK717.out 7
      have hfz69_8:=bF BK717.out 8
      have hfz69_9:=bF BK717.out 9
      have hfz69_10:=bF BK717.out 10
      have hfz69_11:=bF BK717.out 11
      go_wp2_with (first|((with_reducible refine gC (f:=12) rfl ?_);refine goesL_ (some 45) rfl rfl Tryd.func12 (by kernel_rfl) rfl #[.agg #[.int .i64 a0_0,.int .i64 a0_1,.int .i64 a0_2,.int .i64 a0_3,.int .i64 a0_4,.int .i64 a0_5,.int .i64 a0_6,.int .i64 a0_7,.int .i64 a0_8,.slice A0_9 l0_9.length c0_9,.slice A0_10 l0_10.length c0_10,.slice A0_11 l0_11.length c0_11]] rfl (by (try simp only [mT,mC,mN]);first|done|rfl|(simp only [lD,lT];rfl)) ?_;(with_reducible refine (conf_Check.calls k2 a0_0 a0_1 a0_2 a0_3 a0_4 a0_5 a0_6 a0_7 a0_8 _ _ l0_9 _ _ l0_10 _ _ l0_11 t728 _ ?side1 ?side2 ?side3 ?side4 ?side5 ?side6 ?side7 A28.out).mono ?_);(case side1=>exact Glob.below HG.out (by repeat (first|(with_reducible first|exact HB.out|apply bL|apply pN|apply bE|refine bS ?_ GE717.out)|exact HB.out)));(case side2=>repeat (first|exact (Kd.C_below HR0_9.out HB.out)|(with_reducible refine Kd.C_alloc ?_ _)|(with_reducible refine Kd.C_drewN ?_ _)|(with_reducible refine Kd.C_drew ?_)));(case side3=>exact HC0_9.out);(case side4=>repeat (first|exact (Kd.C_below HR0_10.out HB.out)|(with_reducible refine Kd.C_alloc ?_ _)|(with_reducible refine Kd.C_drewN ?_ _)|(with_reducible refine Kd.C_drew ?_)));(case side5=>exact HC0_10.out);(case side6=>repeat (first|exact (Kd.C_below HR0_11.out HB.out)|(with_reducible refine Kd.C_alloc ?_ _)|(with_reducible refine Kd.C_drewN ?_ _)|(with_reducible refine Kd.C_drew ?_)));(case side7=>exact HC0_11.out);rintro e w70 ⟨rfl,hb⟩;refine ⟨_,rfl,?_⟩;have n0_:=Am (Kd.R_below (by (with_reducible repeat (first|apply Kd.R_alloc|apply Kd.R_drewN|apply Kd.R_drew));exact HO_5.out) hb);have n1_:=Am (Kd.R_below (by (with_reducible repeat (first|apply Kd.R_alloc|apply Kd.R_drewN|apply Kd.R_drew));exact HO_6.out) hb);have n2_:=Am (blk_below (g:=gb717) (by (with_reducible repeat (first|refine bN ?_ _|refine bD ?_|refine bA ?_ _));exact BK717.out) hb);have n3_:=Am (below_step (by repeat (first|(with_reducible first|exact HB.out|apply bL|apply pN|apply bE|refine bS ?_ GE717.out)|exact HB.out)) hb);clear HO_5;clear HO_6;clear BK717;clear HB;have HO_5:=n0_;have HO_6:=n1_;have BK717:=n2_;have HB:=n3_;clear n0_ n1_ n2_ n3_;(try clear hb);(try clear hb2);(try clear hk);(try clear hi))|(go_at_call 10;(with_reducible refine (gangerlaw10_known.calls k2  t729 _ ?side1 A68.out).mono ?_);(case side1=>exact Glob.below HG.out (by repeat (first|(with_reducible first|exact HB.out|apply bL|apply pN|apply bE|refine bS ?_ GE717.out)|exact HB.out)));rintro e w71 ⟨rfl,hb⟩;have n0_:=Am (Kd.R_below (by (with_reducible repeat (first|apply Kd.R_alloc|apply Kd.R_drewN|apply Kd.R_drew));exact HO_5.out) hb);have n1_:=Am (Kd.R_below (by (with_reducible repeat (first|apply Kd.R_alloc|apply Kd.R_drewN|apply Kd.R_drew));exact HO_6.out) hb);have n2_:=Am (blk_below (g:=gb717) (by (with_reducible repeat (first|refine bN ?_ _|refine bD ?_|refine bA ?_ _));exact BK717.out) hb);have n3_:=Am (below_step (by repeat (first|(with_reducible first|exact HB.out|apply bL|apply pN|apply bE|refine bS ?_ GE717.out)|exact HB.out)) hb);clear HO_5;clear HO_6;clear BK717;clear HB;have HO_5:=n0_;have HO_6:=n1_;have BK717:=n2_;have HB:=n3_;clear n0_ n1_ n2_ n3_;(try clear hb);(try clear hb2);(try clear hk);(try clear hi)))
      go_ret
      exact ⟨by first|rfl|(simp [errW_none,errW_some] <;> rfl)|(simp [*,errW_none,errW_some] <;> rfl),by repeat (first|(with_reducible first|exact HB.out|apply bL|apply pN|apply bE|refine bS ?_ GE717.out)|exact HB.out)⟩
     rw [if_pos c29] at H
     have c29b0 : (t728 == 0) = true:=beq_iff_eq.mpr c29
     have c29b1 : (t728 != 0) = false:=bne_eq_false_iff_eq.mpr c29
     clear c29
     have H':=Am H
     clear H
     have hcz30_0 : wr.cell? ⟨gb717,0,none⟩ = some (.int .i64 a0_0):=(bC BK717.out 0).trans rfl
     have hcz30_1 : wr.cell? ⟨gb717,1,none⟩ = some (.int .i64 a0_1):=(bC BK717.out 1).trans rfl
     have hcz30_2 : wr.cell? ⟨gb717,2,none⟩ = some (.int .i64 a0_2):=(bC BK717.out 2).trans rfl
     have hcz30_3 : wr.cell? ⟨gb717,3,none⟩ = some (.int .i64 a0_3):=(bC BK717.out 3).trans rfl
     have hcz30_4 : wr.cell? ⟨gb717,4,none⟩ = some (.int .i64 a0_4):=(bC BK717.out 4).trans rfl
     have hcz30_5 : wr.cell? ⟨gb717,5,none⟩ = some (.int .i64 a0_5):=(bC BK717.out 5).trans rfl
     have hcz30_6 : wr.cell? ⟨gb717,6,none⟩ = some (.int .i64 a0_6):=(bC BK717.out 6).trans rfl
     have hcz30_7 : wr.cell? ⟨gb717,7,none⟩ = some (.int .i64 a0_7):=(bC BK717.out 7).trans rfl
     have hcz30_8 : wr.cell? ⟨gb717,8,none⟩ = some (.int .i64 a0_8):=(bC BK717.out 8).trans rfl
     have hcz30_9 : wr.cell? ⟨gb717,9,none⟩ = some (.slice A0_9 l0_9.length c0_9):=(bC BK717.out 9).trans rfl
     have hcz30_10 : wr.cell? ⟨gb717,10,none⟩ = some (.slice A0_10 l0_10.length c0_10):=(bC BK717.out 10).trans rfl
     have hcz30_11 : wr.cell? ⟨gb717,11,none⟩ = some (.slice A0_11 l0_11.length c0_11):=(bC BK717.out 11).trans rfl
     have hfz30_0:=bF BK717.out 0
     have hfz30_1:=bF BK717.out 1
     have hfz30_2:=bF BK717.out 2
     have hfz30_3:=bF BK717.out 3
     have hfz30_4:=bF BK717.out 4
     have hfz30_5:=bF BK717.out 5
     have hfz30_6:=bF BK717.out 6
     have hfz30_7:=bF BK717.out 7
     have hfz30_8:=bF BK717.out 8
     have hfz30_9:=bF BK717.out 9
     have hfz30_10:=bF BK717.out 10
     have hfz30_11:=bF BK717.out 11
     go_wp2_with (first|((with_reducible refine gC (f:=12) rfl ?_);refine goesL_ (some 45) rfl rfl Tryd.func12 (by kernel_rfl) rfl #[.agg #[.int .i64 a0_0,.int .i64 a0_1,.int .i64 a0_2,.int .i64 a0_3,.int .i64 a0_4,.int .i64 a0_5,.int .i64 a0_6,.int .i64 a0_7,.int .i64 a0_8,.slice A0_9 l0_9.length c0_9,.slice A0_10 l0_10.length c0_10,.slice A0_11 l0_11.length c0_11]] rfl (by (try simp only [mT,mC,mN]);first|done|rfl|(simp only [lD,lT];rfl)) ?_;(with_reducible refine (conf_Check.calls k2 a0_0 a0_1 a0_2 a0_3 a0_4 a0_5 a0_6 a0_7 a0_8 _ _ l0_9 _ _ l0_10 _ _ l0_11 t728 _ ?side1 ?side2 ?side3 ?side4 ?side5 ?side6 ?side7 A28.out).mono ?_);(case side1=>exact Glob.below HG.out (by repeat (first|(with_reducible first|exact HB.out|apply bL|apply pN|apply bE|refine bS ?_ GE717.out)|exact HB.out)));(case side2=>repeat (first|exact (Kd.C_below HR0_9.out HB.out)|(with_reducible refine Kd.C_alloc ?_ _)|(with_reducible refine Kd.C_drewN ?_ _)|(with_reducible refine Kd.C_drew ?_)));(case side3=>exact HC0_9.out);(case side4=>repeat (first|exact (Kd.C_below HR0_10.out HB.out)|(with_reducible refine Kd.C_alloc ?_ _)|(with_reducible refine Kd.C_drewN ?_ _)|(with_reducible refine Kd.C_drew ?_)));(case side5=>exact HC0_10.out);(case side6=>repeat (first|exact (Kd.C_below HR0_11.out HB.out)|(with_reducible refine Kd.C_alloc ?_ _)|(with_reducible refine Kd.C_drewN ?_ _)|(with_reducible refine Kd.C_drew ?_)));(case side7=>exact HC0_11.out);rintro e w31 ⟨rfl,hb⟩;refine ⟨_,rfl,?_⟩;have n0_:=Am (Kd.R_below (by (with_reducible repeat (first|apply Kd.R_alloc|apply Kd.R_drewN|apply Kd.R_drew));exact HO_5.out) hb);have n1_:=Am (Kd.R_below (by (with_reducible repeat (first|apply Kd.R_alloc|apply Kd.R_drewN|apply Kd.R_drew));exact HO_6.out) hb);have n2_:=Am (blk_below (g:=gb717) (by (with_reducible repeat (first|refine bN ?_ _|refine bD ?_|refine bA ?_ _));exact BK717.out) hb);have n3_:=Am (below_step (by repeat (first|(with_reducible first|exact HB.out|apply bL|apply pN|apply bE|refine bS ?_ GE717.out)|exact HB.out)) hb);clear HO_5;clear HO_6;clear BK717;clear HB;have HO_5:=n0_;have HO_6:=n1_;have BK717:=n2_;have HB:=n3_;clear n0_ n1_ n2_ n3_;(try clear hb);(try clear hb2);(try clear hk);(try clear hi)))
     go_loopg [8] k2 (fun kq v8 w'=>∃ (x8_3 : Int),v8 = .int .i64 x8_3∧Aside0 (gangerlaw10_ConfPaths.l1 kq x8_3 a0_0 a0_1 a0_2 a0_3 a0_4 a0_5 a0_6 a0_7 a0_8 l0_9 l0_10 l0_11 = some r)∧Aside0 (kq≤k2)∧Aside0 (w'.heap[gb717]? = some (.cells #[.int .i64 a0_0,.int .i64 a0_1,.int .i64 a0_2,.int .i64 a0_3,.int .i64 a0_4,.int .i64 a0_5,.int .i64 a0_6,.int .i64 a0_7,.int .i64 a0_8,(.slice A0_9 l0_9.length c0_9),(.slice A0_10 l0_10.length c0_10),(.slice A0_11 l0_11.length c0_11)] 28 (0,0)))∧Aside0 (Below w.heap.size w w'))
     case atStart=>exact ⟨(0),(by first|rfl|(simp;done)|(simp [*];done)),H',⟨Nat.le_refl _⟩,⟨by (with_reducible repeat (first|refine bN ?_ _|refine bD ?_|refine bA ?_ _));exact BK717.out⟩,⟨by repeat (first|(with_reducible first|exact HB.out|apply bL|apply pN|apply bE|refine bS ?_ GE717.out)|exact HB.out)⟩⟩
     case round =>
      clear H'
      obtain ⟨x8_3,rfl,HA,HK3,BK717,HB⟩:=hrel
      cases gk with
      | zero=>exact absurd HA.out (by simp [gangerlaw10_ConfPaths.l1])
      | succ k3 =>
       have H:=HA.out
       clear HA
       simp only [gangerlaw10_ConfPaths.l1] at H
       by_cases c32 : x8_3 < (l0_11.length : Int)
       rotate_left
       ·rw [if_neg c32] at H
        have c32b0 : decide (x8_3 < (l0_11.length : Int)) = false:=decide_eq_false c32
        clear c32
        replace H:=oB H
        obtain ⟨t730,A640,H⟩:=H
        replace H : (some t730) = some r:=H
        have A64:=Am A640
        clear A640
        obtain rfl:=Option.some.inj H
        have hcz65_0 : wr.cell? ⟨gb717,0,none⟩ = some (.int .i64 a0_0):=(bC BK717.out 0).trans rfl
        have hcz65_1 : wr.cell? ⟨gb717,1,none⟩ = some (.int .i64 a0_1):=(bC BK717.out 1).trans rfl
        have hcz65_2 : wr.cell? ⟨gb717,2,none⟩ = some (.int .i64 a0_2):=(bC BK717.out 2).trans rfl
        have hcz65_3 : wr.cell? ⟨gb717,3,none⟩ = some (.int .i64 a0_3):=(bC BK717.out 3).trans rfl
        have hcz65_4 : wr.cell? ⟨gb717,4,none⟩ = some (.int .i64 a0_4):=(bC BK717.out 4).trans rfl
        have hcz65_5 : wr.cell? ⟨gb717,5,none⟩ = some (.int .i64 a0_5):=(bC BK717.out 5).trans rfl
        have hcz65_6 : wr.cell? ⟨gb717,6,none⟩ = some (.int .i64 a0_6):=(bC BK717.out 6).trans rfl
        have hcz65_7 : wr.cell? ⟨gb717,7,none⟩ = some (.int .i64 a0_7):=(bC BK717.out 7).trans rfl
        have hcz65_8 : wr.cell? ⟨gb717,8,none⟩ = some (.int .i64 a0_8):=(bC BK717.out 8).trans rfl
        have hcz65_9 : wr.cell? ⟨gb717,9,none⟩ = some (.slice A0_9 l0_9.length c0_9):=(bC BK717.out 9).trans rfl
        have hcz65_10 : wr.cell? ⟨gb717,10,none⟩ = some (.slice A0_10 l0_10.length c0_10):=(bC BK717.out 10).trans rfl
        have hcz65_11 : wr.cell? ⟨gb717,11,none⟩ = some (.slice A0_11 l0_11.length c0_11):=(bC BK717.out 11).trans rfl
        have hfz65_0:=bF BK717.out 0
        have hfz65_1:=bF BK717.out 1
        have hfz65_2:=bF BK717.out 2
        have hfz65_3:=bF BK717.out 3
        have hfz65_4:=bF BK717.out 4
        have hfz65_5:=bF BK717.out 5
        have hfz65_6:=bF BK717.out 6
        have hfz65_7:=bF BK717.out 7
        have hfz65_8:=bF BK717.out 8
        have hfz65_9:=bF BK717.out 9
        have hfz65_10:=bF BK717.out 10
        have hfz65_11:=bF BK717.out 11
        go_wp2_with (first|((with_reducible refine gC (f:=10) rfl ?_);refine goesL_ (some 118) rfl rfl Tryd.func10 (by kernel_rfl) rfl #[] rfl (by (try simp only [mT,mC,mN]);first|done|rfl|(simp only [lD,lT];rfl)) ?_;(with_reducible refine (gangerlaw10_known.calls k3  t730 _ ?side1 A64.out).mono ?_);(case side1=>exact Glob.below HG.out (by repeat (first|(with_reducible first|exact HB.out|apply bL|apply pN|apply bE|refine bS ?_ GE717.out)|exact HB.out)));rintro e w66 ⟨rfl,hb⟩;refine ⟨_,rfl,?_⟩;have n0_:=Am (blk_below (g:=gb717) (by (with_reducible repeat (first|refine bN ?_ _|refine bD ?_|refine bA ?_ _));exact BK717.out) hb);have n1_:=Am (below_step (by repeat (first|(with_reducible first|exact HB.out|apply bL|apply pN|apply bE|refine bS ?_ GE717.out)|exact HB.out)) hb);clear BK717;clear HB;have BK717:=n0_;have HB:=n1_;clear n0_ n1_;(try clear hb);(try clear hb2);(try clear hk);(try clear hi)))
        go_ret
        exact ⟨by first|rfl|(simp [errW_none,errW_some] <;> rfl)|(simp [*,errW_none,errW_some] <;> rfl),by repeat (first|(with_reducible first|exact HB.out|apply bL|apply pN|apply bE|refine bS ?_ GE717.out)|exact HB.out)⟩
       rw [if_pos c32] at H
       have c32b0 : decide (x8_3 < (l0_11.length : Int)) = true:=decide_eq_true c32
       clear c32
       by_cases c33 : 0≤x8_3
       rotate_left
       ·rw [if_neg c33] at H
        exact absurd H (by simp)
       rw [if_pos c33] at H
       have c33b0 : decide (0≤x8_3) = true:=decide_eq_true c33
       clear c33
       replace H:=oB H
       obtain ⟨t732,A340,H⟩:=H
       replace H : (if (t732.length : Int) < 1 then (gangerlaw10_ConfPaths.j3 k3 x8_3 t732 true a0_0 a0_1 a0_2 a0_3 a0_4 a0_5 a0_6 a0_7 a0_8 l0_9 l0_10 l0_11) else (if (t732.length : Int) > (wrap64 (x8_3 + 1)) then (gangerlaw10_ConfPaths.j3 k3 x8_3 t732 true a0_0 a0_1 a0_2 a0_3 a0_4 a0_5 a0_6 a0_7 a0_8 l0_9 l0_10 l0_11) else (if 0 < (t732.length : Int) then (if (rdOf ByteArray.empty t732 0).toList = ((rd_T48 l0_11 x8_3).f0).toList then (if 0≤(wrap64 ((t732.length : Int) - 1)) then (if (wrap64 ((t732.length : Int) - 1)) < (t732.length : Int) then (if 0 < (l0_11.length : Int) then (gangerlaw10_ConfPaths.j3 k3 x8_3 t732 ((rdOf ByteArray.empty t732 (wrap64 ((t732.length : Int) - 1))).toList != ((rd_T48 l0_11 0).f0).toList) a0_0 a0_1 a0_2 a0_3 a0_4 a0_5 a0_6 a0_7 a0_8 l0_9 l0_10 l0_11) else (none)) else (none)) else (none)) else (gangerlaw10_ConfPaths.j3 k3 x8_3 t732 true a0_0 a0_1 a0_2 a0_3 a0_4 a0_5 a0_6 a0_7 a0_8 l0_9 l0_10 l0_11)) else (none)))) = some r:=H
       have A34:=Am A340
       clear A340
       have HC35:=Am H
       clear H
       have hcz36_0 : wr.cell? ⟨gb717,0,none⟩ = some (.int .i64 a0_0):=(bC BK717.out 0).trans rfl
       have hcz36_1 : wr.cell? ⟨gb717,1,none⟩ = some (.int .i64 a0_1):=(bC BK717.out 1).trans rfl
       have hcz36_2 : wr.cell? ⟨gb717,2,none⟩ = some (.int .i64 a0_2):=(bC BK717.out 2).trans rfl
       have hcz36_3 : wr.cell? ⟨gb717,3,none⟩ = some (.int .i64 a0_3):=(bC BK717.out 3).trans rfl
       have hcz36_4 : wr.cell? ⟨gb717,4,none⟩ = some (.int .i64 a0_4):=(bC BK717.out 4).trans rfl
       have hcz36_5 : wr.cell? ⟨gb717,5,none⟩ = some (.int .i64 a0_5):=(bC BK717.out 5).trans rfl
       have hcz36_6 : wr.cell? ⟨gb717,6,none⟩ = some (.int .i64 a0_6):=(bC BK717.out 6).trans rfl
       have hcz36_7 : wr.cell? ⟨gb717,7,none⟩ = some (.int .i64 a0_7):=(bC BK717.out 7).trans rfl
       have hcz36_8 : wr.cell? ⟨gb717,8,none⟩ = some (.int .i64 a0_8):=(bC BK717.out 8).trans rfl
       have hcz36_9 : wr.cell? ⟨gb717,9,none⟩ = some (.slice A0_9 l0_9.length c0_9):=(bC BK717.out 9).trans rfl
       have hcz36_10 : wr.cell? ⟨gb717,10,none⟩ = some (.slice A0_10 l0_10.length c0_10):=(bC BK717.out 10).trans rfl
       have hcz36_11 : wr.cell? ⟨gb717,11,none⟩ = some (.slice A0_11 l0_11.length c0_11):=(bC BK717.out 11).trans rfl
       have hfz36_0:=bF BK717.out 0
       have hfz36_1:=bF BK717.out 1
       have hfz36_2:=bF BK717.out 2
       have hfz36_3:=bF BK717.out 3
       have hfz36_4:=bF BK717.out 4
       have hfz36_5:=bF BK717.out 5
       have hfz36_6:=bF BK717.out 6
       have hfz36_7:=bF BK717.out 7
       have hfz36_8:=bF BK717.out 8
       have hfz36_9:=bF BK717.out 9
       have hfz36_10:=bF BK717.out 10
       have hfz36_11:=bF BK717.out 11
       try go_wp2
       have n0_:=Am (bD BK717.out)
       have n1_:=Am (bE HB.out)
       clear BK717
       clear HB
       have BK717:=n0_
       have HB:=n1_
       clear n0_ n1_
       have p731 : 0≤(x8_3 : Int):=of_decide_eq_true (by first|(with_reducible assumption)|assumption)
       have q731 : x8_3 < (l0_11.length : Int):=of_decide_eq_true (by first|(with_reducible assumption)|assumption)
       obtain ⟨ad731,e731,hx731_0,hx731_1,hx731_2⟩:=at_T48 HR0_11.out x8_3 p731 q731
       have hw731_2:=hx731_2
       have hw731_1:=hx731_1
       have hw731_0:=hx731_0
       cases e731
       replace hx731_0:=(HB.out.cell (wB w _ hx731_0)).trans hx731_0
       replace hx731_1:=(HB.out.cell (wB w _ hx731_1)).trans hx731_1
       replace hx731_2:=(HB.out.cell (wB w _ hx731_2)).trans hx731_2
       replace p731:=eq_true p731
       replace q731:=eq_true q731
       refine start_ (n:=9) (S:=fun w'=>w'.cell? ⟨gb717,0,none⟩ = some (.int .i64 a0_0)∧w'.cell? ⟨gb717,1,none⟩ = some (.int .i64 a0_1)∧w'.cell? ⟨gb717,2,none⟩ = some (.int .i64 a0_2)∧w'.cell? ⟨gb717,3,none⟩ = some (.int .i64 a0_3)∧w'.cell? ⟨gb717,4,none⟩ = some (.int .i64 a0_4)∧w'.cell? ⟨gb717,5,none⟩ = some (.int .i64 a0_5)∧w'.cell? ⟨gb717,6,none⟩ = some (.int .i64 a0_6)∧w'.cell? ⟨gb717,7,none⟩ = some (.int .i64 a0_7)∧w'.cell? ⟨gb717,8,none⟩ = some (.int .i64 a0_8)∧w'.cell? ⟨gb717,9,none⟩ = some (.slice A0_9 l0_9.length c0_9)∧w'.cell? ⟨gb717,10,none⟩ = some (.slice A0_10 l0_10.length c0_10)∧w'.cell? ⟨gb717,11,none⟩ = some (.slice (some ad731) l0_11.length c0_11)∧w'.cell? (ad731.add ((x8_3).toNat * 3)) = some (.string ((rd_T48 l0_11 x8_3).f0))∧w'.cell? ⟨(ad731.add ((x8_3).toNat * 3)).block,(ad731.add ((x8_3).toNat * 3)).off + 1,none⟩ = some (.string ((rd_T48 l0_11 x8_3).f1))∧w'.cell? ⟨(ad731.add ((x8_3).toNat * 3)).block,(ad731.add ((x8_3).toNat * 3)).off + 2,none⟩ = some (.int .i64 ((rd_T48 l0_11 x8_3).f2))) (ds:=[]) #[Ff,Ff,Ff,Ff,Ff,Ff,Ff,Ff,Ff] (by kernel_rfl) rfl rfl ⟨(bC BK717.out 0).trans rfl,(bC BK717.out 1).trans rfl,(bC BK717.out 2).trans rfl,(bC BK717.out 3).trans rfl,(bC BK717.out 4).trans rfl,(bC BK717.out 5).trans rfl,(bC BK717.out 6).trans rfl,(bC BK717.out 7).trans rfl,(bC BK717.out 8).trans rfl,(bC BK717.out 9).trans rfl,(bC BK717.out 10).trans rfl,(bC BK717.out 11).trans rfl,((HB.out.cell (wB w _ hw731_0)).trans hw731_0),((HB.out.cell (wB w _ hw731_1)).trans hw731_1),((HB.out.cell (wB w _ hw731_2)).trans hw731_2)⟩ (fun hHeld=>?_);refine with_tabW gangerlaw10_ConfPaths.tab17 gangerlaw10_ConfPaths.bits17 (fun HT_ HW_=>?_)
       generalize wr.drew = w37 at BK717 HB hx731_0 hx731_1 hx731_2 hHeld ⊢
       refine pure_ (i:=1) (N:=some 61) (v:=?_) (a':=?_) #[Ff,Tt,Ff,Ff,Ff,Ff,Ff,Ff,Ff] rfl rfl (any_of HT_.out (by kernel_rfl)) (fun _ _ _ h=>h) (Or.inl ⟨by rfl,?_⟩) ?_ ?_
       rotate_left
       ·intro w'
        go_simp
        with_reducible rfl
       rotate_left
       ·simp only [Act.put,sT,sZ,sS,iW,iV]
        rfl
       refine pure_ (i:=3) (N:=some 63) (v:=?_) (a':=?_) #[Ff,Tt,Ff,Tt,Ff,Ff,Ff,Ff,Ff] rfl rfl (any_of HT_.out (by kernel_rfl)) (fun _ _ _ h=>h) (Or.inl ⟨by rfl,?_⟩) ?_ ?_
       rotate_left
       ·intro w'
        go_simp
        with_reducible rfl
       rotate_left
       ·simp only [Act.put,sT,sZ,sS,iW,iV]
        rfl
       refine take_ (i:=0) (N:=some 60) (v:=?_) (a':=?_) #[Tt,Tt,Ff,Tt,Ff,Ff,Ff,Ff,Ff] rfl rfl (take_ofW HT_.out HW_.out (by kernel_rfl)) (fun _ _ _ h=>h) (Or.inl ⟨by rfl,?_⟩) hHeld ?_ ?_
       rotate_left
       ·rintro w' ⟨s0,s1,s2,s3,s4,s5,s6,s7,s8,s9,s10,s11,s12,s13,s14⟩
        go_simp
        with_reducible rfl
       rotate_left
       ·simp only [Act.put,sT,sZ,sS,iW,iV]
        rfl
       refine take_ (i:=2) (N:=some 62) (v:=?_) (a':=?_) #[Tt,Tt,Tt,Tt,Ff,Ff,Ff,Ff,Ff] rfl rfl (take_ofW HT_.out HW_.out (by kernel_rfl)) (fun _ _ _ h=>h) (Or.inl ⟨by rfl,?_⟩) hHeld ?_ ?_
       rotate_left
       ·rintro w' ⟨s0,s1,s2,s3,s4,s5,s6,s7,s8,s9,s10,s11,s12,s13,s14⟩
        go_simp
        with_reducible rfl
       rotate_left
       ·simp only [Act.put,sT,sZ,sS,iW,iV]
        rfl
       refine pure_ (i:=4) (N:=some 64) (v:=?_) (a':=?_) #[Tt,Tt,Tt,Tt,Tt,Ff,Ff,Ff,Ff] rfl rfl (any_of HT_.out (by kernel_rfl)) (fun _ _ _ h=>h) (Or.inl ⟨by rfl,?_⟩) ?_ ?_
       rotate_left
       ·intro w'
        go_simp
        with_reducible rfl
       rotate_left
       ·simp only [Act.put,sT,sZ,sS,iW,iV]
        rfl
       refine pure_ (i:=5) (N:=some 65) (v:=?_) (a':=?_) #[Tt,Tt,Tt,Tt,Tt,Tt,Ff,Ff,Ff] rfl rfl (any_of HT_.out (by kernel_rfl)) (fun _ _ _ h=>h) (Or.inl ⟨by rfl,?_⟩) ?_ ?_
       rotate_left
       ·intro w'
        go_simp
        with_reducible rfl
       rotate_left
       ·simp only [Act.put,sT,sZ,sS,iW,iV]
        rfl
       refine take_ (i:=6) (N:=some 66) (v:=?_) (a':=?_) #[Tt,Tt,Tt,Tt,Tt,Tt,Tt,Ff,Ff] rfl rfl (take_ofW HT_.out HW_.out (by kernel_rfl)) (fun _ _ _ h=>h) (Or.inl ⟨by rfl,?_⟩) hHeld ?_ ?_
       rotate_left
       ·rintro w' ⟨s0,s1,s2,s3,s4,s5,s6,s7,s8,s9,s10,s11,s12,s13,s14⟩
        go_simp
        with_reducible rfl
       rotate_left
       ·simp only [Act.put,sT,sZ,sS,iW,iV]
        rfl
       refine one_ (i:=7) (N:=some 67) #[Tt,Tt,Tt,Tt,Tt,Tt,Tt,Tt,Ff] rfl rfl (one_of HT_.out (by kernel_rfl)) (by decide) (fun K hK=>?_)
       refine goes_ Tryd.func21 (by kernel_rfl) rfl #[.agg #[.int .i64 a0_0,.int .i64 a0_1,.int .i64 a0_2,.int .i64 a0_3,.int .i64 a0_4,.int .i64 a0_5,.int .i64 a0_6,.int .i64 a0_7,.int .i64 a0_8,.slice A0_9 l0_9.length c0_9,.slice A0_10 l0_10.length c0_10,.slice (some ad731) l0_11.length c0_11],.string ((rd_T48 l0_11 x8_3).f0)] (by rfl) rfl rfl (by (try simp only [mT,mC,mN]);first|done|rfl|(simp only [lD,lT];rfl)) ?_
       with_reducible refine (conf_Path.calls k3 a0_0 a0_1 a0_2 a0_3 a0_4 a0_5 a0_6 a0_7 a0_8 _ _ l0_9 _ _ l0_10 _ _ l0_11 ((rd_T48 l0_11 x8_3).f0) t732 _ ?side1 ?side2 ?side3 ?side4 ?side5 ?side6 ?side7 A34.out).mono ?_
       (case side1=>exact Glob.below HG.out (by repeat (first|(with_reducible first|exact HB.out|apply bL|apply pN|apply bE|refine bS ?_ GE717.out)|exact HB.out)))
       (case side2=>repeat (first|exact (Kd.C_below HR0_9.out HB.out)|(with_reducible refine Kd.C_alloc ?_ _)|(with_reducible refine Kd.C_drewN ?_ _)|(with_reducible refine Kd.C_drew ?_)))
       (case side3=>exact HC0_9.out)
       (case side4=>repeat (first|exact (Kd.C_below HR0_10.out HB.out)|(with_reducible refine Kd.C_alloc ?_ _)|(with_reducible refine Kd.C_drewN ?_ _)|(with_reducible refine Kd.C_drew ?_)))
       (case side5=>exact HC0_10.out)
       (case side6=>repeat (first|exact (Kd.C_below HR0_11.out HB.out)|(with_reducible refine Kd.C_alloc ?_ _)|(with_reducible refine Kd.C_drewN ?_ _)|(with_reducible refine Kd.C_drew ?_)))
       (case side7=>exact HC0_11.out)
       rintro e w38 ⟨v733,rfl,ho0,hb⟩
       refine ⟨_,rfl,?_⟩
       have n0_:=Am (Kd.R_lower ho0 (bZ (by repeat (first|(with_reducible first|exact HB.out|apply bL|apply pN|apply bE|refine bS ?_ GE717.out)|exact HB.out))))
       have n1_:=Am (blk_below (g:=gb717) (by (with_reducible repeat (first|refine bN ?_ _|refine bD ?_|refine bA ?_ _));exact BK717.out) hb)
       have n2_:=Am (below_step (by repeat (first|(with_reducible first|exact HB.out|apply bL|apply pN|apply bE|refine bS ?_ GE717.out)|exact HB.out)) hb)
       clear BK717
       clear HB
       have HO734:=n0_
       have BK717:=n1_
       have HB:=n2_
       clear n0_ n1_ n2_
       refine hK.out _ _ ⟨(bC BK717.out 0).trans rfl,(bC BK717.out 1).trans rfl,(bC BK717.out 2).trans rfl,(bC BK717.out 3).trans rfl,(bC BK717.out 4).trans rfl,(bC BK717.out 5).trans rfl,(bC BK717.out 6).trans rfl,(bC BK717.out 7).trans rfl,(bC BK717.out 8).trans rfl,(bC BK717.out 9).trans rfl,(bC BK717.out 10).trans rfl,(bC BK717.out 11).trans rfl,((HB.out.cell (wB w _ hw731_0)).trans hw731_0),((HB.out.cell (wB w _ hw731_1)).trans hw731_1),((HB.out.cell (wB w _ hw731_2)).trans hw731_2)⟩ (fun hHeld=>?_)
       clear hK K
       refine norm_ (a':=?_) ?_ ?_
       rotate_left
       ·show Act.put _ (some 67) _ = _
        simp only [Act.put,sT,sZ,sS,iW,iV]
        rfl
       refine pure_ (i:=8) (N:=some 9) (v:=?_) (a':=?_) #[Tt,Tt,Tt,Tt,Tt,Tt,Tt,Tt,Tt] rfl rfl (any_of HT_.out (by kernel_rfl)) (fun _ _ _ h=>h) (Or.inl ⟨by rfl,?_⟩) ?_ ?_
       rotate_left
       ·intro w'
        go_simp
        with_reducible rfl
       rotate_left
       ·simp only [Act.put,sT,sZ,sS,iW,iV]
        rfl
       refine done_ (done_of HT_.out (by kernel_rfl)) ?_
       go_upto_region 18 with (fail)
       go_cut [103] (fun v103 wc=>∃ (kq : Nat) (x103_34 : Bool),v103 = .bool x103_34∧Aside0 (gangerlaw10_ConfPaths.j3 kq x8_3 t732 x103_34 a0_0 a0_1 a0_2 a0_3 a0_4 a0_5 a0_6 a0_7 a0_8 l0_9 l0_10 l0_11 = some r)∧Aside0 (kq≤k3)∧Aside0 (Kd.R Kd.string 9 wc w.heap.size (fun _=>True) v733 t732)∧Aside0 (wc.heap[gb717]? = some (.cells #[.int .i64 a0_0,.int .i64 a0_1,.int .i64 a0_2,.int .i64 a0_3,.int .i64 a0_4,.int .i64 a0_5,.int .i64 a0_6,.int .i64 a0_7,.int .i64 a0_8,(.slice A0_9 l0_9.length c0_9),(.slice A0_10 l0_10.length c0_10),(.slice (some ad731) l0_11.length c0_11)] 28 (0,0)))∧Aside0 (Below w.heap.size w wc))
       case first =>
        have H:=HC35.out
        clear HC35
        by_cases c39 : (t732.length : Int) < 1
        ·rw [if_pos c39] at H
         have c39b0 : decide ((t732.length : Int) < 1) = true:=decide_eq_true c39
         have c39b1 : decide (t732.length < 1) = true:=decide_eq_true (by omega)
         clear c39
         (first|rw [c39b0]|(simp only [iW,iV];rw [c39b0])|skip)
         have H':=Am H
         clear H
         try go_wp2
         have n0_:=Am (Kd.R_drew HO734.out)
         have n1_:=Am (bD BK717.out)
         have n2_:=Am (bE HB.out)
         clear HO734
         clear BK717
         clear HB
         have HO734:=n0_
         have BK717:=n1_
         have HB:=n2_
         clear n0_ n1_ n2_
         obtain ⟨Ao41,co41,eo41⟩:=Kd.R_slice HO734.out
         (first|subst eo41|(injection eo41 with f1_ f2_ f3_;have f4_:=f1_.symm;have f5_:=f3_.symm;clear f1_ f2_ f3_;subst f4_;subst f5_))
         refine start_ (n:=36) (S:=fun w'=>True) (ds:=[]) #[Ff,Ff,Ff,Ff,Ff,Ff,Ff,Ff,Ff,Ff,Ff,Ff,Ff,Ff,Ff,Ff,Ff,Ff,Ff,Ff,Ff,Ff,Ff,Ff,Ff,Ff,Ff,Ff,Ff,Ff,Ff,Ff,Ff,Ff,Ff,Ff] (by kernel_rfl) rfl rfl trivial (fun hHeld=>?_);refine with_tabW gangerlaw10_ConfPaths.tab18 gangerlaw10_ConfPaths.bits18 (fun HT_ HW_=>?_)
         generalize w38.drew = w40 at HO734 BK717 HB hHeld ⊢
         refine pure_ (i:=0) (N:=some 68) (v:=?_) (a':=?_) #[Tt,Ff,Ff,Ff,Ff,Ff,Ff,Ff,Ff,Ff,Ff,Ff,Ff,Ff,Ff,Ff,Ff,Ff,Ff,Ff,Ff,Ff,Ff,Ff,Ff,Ff,Ff,Ff,Ff,Ff,Ff,Ff,Ff,Ff,Ff,Ff] rfl rfl (any_of HT_.out (by kernel_rfl)) (fun _ _ _ h=>h) (Or.inl ⟨by rfl,?_⟩) ?_ ?_
         rotate_left
         ·intro w'
          go_simp
          with_reducible rfl
         rotate_left
         ·simp only [Act.put,sT,sZ,sS,iW,iV]
          rfl
         refine pure_ (i:=1) (N:=some 69) (v:=?_) (a':=?_) #[Tt,Tt,Ff,Ff,Ff,Ff,Ff,Ff,Ff,Ff,Ff,Ff,Ff,Ff,Ff,Ff,Ff,Ff,Ff,Ff,Ff,Ff,Ff,Ff,Ff,Ff,Ff,Ff,Ff,Ff,Ff,Ff,Ff,Ff,Ff,Ff] rfl rfl (any_of HT_.out (by kernel_rfl)) (fun _ _ _ h=>h) (Or.inl ⟨by rfl,?_⟩) ?_ ?_
         rotate_left
         ·intro w'
          go_simp
          with_reducible rfl
         rotate_left
         ·simp only [Act.put,sT,sZ,sS,iW,iV]
          rfl
         refine pure_ (i:=2) (N:=some 70) (v:=?_) (a':=?_) #[Tt,Tt,Tt,Ff,Ff,Ff,Ff,Ff,Ff,Ff,Ff,Ff,Ff,Ff,Ff,Ff,Ff,Ff,Ff,Ff,Ff,Ff,Ff,Ff,Ff,Ff,Ff,Ff,Ff,Ff,Ff,Ff,Ff,Ff,Ff,Ff] rfl rfl (any_of HT_.out (by kernel_rfl)) (fun _ _ _ h=>h) (Or.inl ⟨by rfl,?_⟩) ?_ ?_
         rotate_left
         ·intro w'
          go_simp
          with_reducible rfl
         rotate_left
         ·simp only [Act.put,sT,sZ,sS,iW,iV]
          rfl
         refine pure_ (i:=3) (N:=some 71) (v:=?_) (a':=?_) #[Tt,Tt,Tt,Tt,Ff,Ff,Ff,Ff,Ff,Ff,Ff,Ff,Ff,Ff,Ff,Ff,Ff,Ff,Ff,Ff,Ff,Ff,Ff,Ff,Ff,Ff,Ff,Ff,Ff,Ff,Ff,Ff,Ff,Ff,Ff,Ff] rfl rfl (any_of HT_.out (by kernel_rfl)) (fun _ _ _ h=>h) (Or.inl ⟨by rfl,?_⟩) ?_ ?_
         rotate_left
         ·intro w'
          go_simp
          with_reducible rfl
         rotate_left
         ·simp only [Act.put,sT,sZ,sS,iW,iV]
          rfl
         refine pure_ (i:=4) (N:=some 72) (v:=undef) (a':=?_) #[Tt,Tt,Tt,Tt,Tt,Ff,Ff,Ff,Ff,Ff,Ff,Ff,Ff,Ff,Ff,Ff,Ff,Ff,Ff,Ff,Ff,Ff,Ff,Ff,Ff,Ff,Ff,Ff,Ff,Ff,Ff,Ff,Ff,Ff,Ff,Ff] rfl rfl (any_of HT_.out (by kernel_rfl)) (fun _ _ _ h=>h) (Or.inr ⟨by rfl,rfl⟩) ?_ ?_
         rotate_left
         ·simp only [Act.put,sT,sZ,sS,iW,iV]
          rfl
         refine pure_ (i:=5) (N:=some 73) (v:=undef) (a':=?_) #[Tt,Tt,Tt,Tt,Tt,Tt,Ff,Ff,Ff,Ff,Ff,Ff,Ff,Ff,Ff,Ff,Ff,Ff,Ff,Ff,Ff,Ff,Ff,Ff,Ff,Ff,Ff,Ff,Ff,Ff,Ff,Ff,Ff,Ff,Ff,Ff] rfl rfl (any_of HT_.out (by kernel_rfl)) (fun _ _ _ h=>h) (Or.inr ⟨by rfl,rfl⟩) ?_ ?_
         rotate_left
         ·simp only [Act.put,sT,sZ,sS,iW,iV]
          rfl
         refine pure_ (i:=6) (N:=some 74) (v:=undef) (a':=?_) #[Tt,Tt,Tt,Tt,Tt,Tt,Tt,Ff,Ff,Ff,Ff,Ff,Ff,Ff,Ff,Ff,Ff,Ff,Ff,Ff,Ff,Ff,Ff,Ff,Ff,Ff,Ff,Ff,Ff,Ff,Ff,Ff,Ff,Ff,Ff,Ff] rfl rfl (any_of HT_.out (by kernel_rfl)) (fun _ _ _ h=>h) (Or.inr ⟨by rfl,rfl⟩) ?_ ?_
         rotate_left
         ·simp only [Act.put,sT,sZ,sS,iW,iV]
          rfl
         refine pure_ (i:=7) (N:=some 75) (v:=undef) (a':=?_) #[Tt,Tt,Tt,Tt,Tt,Tt,Tt,Tt,Ff,Ff,Ff,Ff,Ff,Ff,Ff,Ff,Ff,Ff,Ff,Ff,Ff,Ff,Ff,Ff,Ff,Ff,Ff,Ff,Ff,Ff,Ff,Ff,Ff,Ff,Ff,Ff] rfl rfl (any_of HT_.out (by kernel_rfl)) (fun _ _ _ h=>h) (Or.inr ⟨by rfl,rfl⟩) ?_ ?_
         rotate_left
         ·simp only [Act.put,sT,sZ,sS,iW,iV]
          rfl
         refine pure_ (i:=8) (N:=some 76) (v:=undef) (a':=?_) #[Tt,Tt,Tt,Tt,Tt,Tt,Tt,Tt,Tt,Ff,Ff,Ff,Ff,Ff,Ff,Ff,Ff,Ff,Ff,Ff,Ff,Ff,Ff,Ff,Ff,Ff,Ff,Ff,Ff,Ff,Ff,Ff,Ff,Ff,Ff,Ff] rfl rfl (any_of HT_.out (by kernel_rfl)) (fun _ _ _ h=>h) (Or.inr ⟨by rfl,rfl⟩) ?_ ?_
         rotate_left
         ·simp only [Act.put,sT,sZ,sS,iW,iV]
          rfl
         refine pure_ (i:=9) (N:=some 77) (v:=?_) (a':=?_) #[Tt,Tt,Tt,Tt,Tt,Tt,Tt,Tt,Tt,Tt,Ff,Ff,Ff,Ff,Ff,Ff,Ff,Ff,Ff,Ff,Ff,Ff,Ff,Ff,Ff,Ff,Ff,Ff,Ff,Ff,Ff,Ff,Ff,Ff,Ff,Ff] rfl rfl (any_of HT_.out (by kernel_rfl)) (fun _ _ _ h=>h) (Or.inl ⟨by rfl,?_⟩) ?_ ?_
         rotate_left
         ·intro w'
          go_simp
          with_reducible rfl
         rotate_left
         ·simp only [Act.put,sT,sZ,sS,iW,iV]
          rfl
         refine pure_ (i:=10) (N:=some 78) (v:=?_) (a':=?_) #[Tt,Tt,Tt,Tt,Tt,Tt,Tt,Tt,Tt,Tt,Tt,Ff,Ff,Ff,Ff,Ff,Ff,Ff,Ff,Ff,Ff,Ff,Ff,Ff,Ff,Ff,Ff,Ff,Ff,Ff,Ff,Ff,Ff,Ff,Ff,Ff] rfl rfl (any_of HT_.out (by kernel_rfl)) (fun _ _ _ h=>h) (Or.inl ⟨by rfl,?_⟩) ?_ ?_
         rotate_left
         ·intro w'
          go_simp
          with_reducible rfl
         rotate_left
         ·simp only [Act.put,sT,sZ,sS,iW,iV]
          rfl
         refine pure_ (i:=11) (N:=some 79) (v:=undef) (a':=?_) #[Tt,Tt,Tt,Tt,Tt,Tt,Tt,Tt,Tt,Tt,Tt,Tt,Ff,Ff,Ff,Ff,Ff,Ff,Ff,Ff,Ff,Ff,Ff,Ff,Ff,Ff,Ff,Ff,Ff,Ff,Ff,Ff,Ff,Ff,Ff,Ff] rfl rfl (any_of HT_.out (by kernel_rfl)) (fun _ _ _ h=>h) (Or.inr ⟨by rfl,rfl⟩) ?_ ?_
         rotate_left
         ·simp only [Act.put,sT,sZ,sS,iW,iV]
          rfl
         refine pure_ (i:=12) (N:=some 80) (v:=undef) (a':=?_) #[Tt,Tt,Tt,Tt,Tt,Tt,Tt,Tt,Tt,Tt,Tt,Tt,Tt,Ff,Ff,Ff,Ff,Ff,Ff,Ff,Ff,Ff,Ff,Ff,Ff,Ff,Ff,Ff,Ff,Ff,Ff,Ff,Ff,Ff,Ff,Ff] rfl rfl (any_of HT_.out (by kernel_rfl)) (fun _ _ _ h=>h) (Or.inr ⟨by rfl,rfl⟩) ?_ ?_
         rotate_left
         ·simp only [Act.put,sT,sZ,sS,iW,iV]
          rfl
         refine pure_ (i:=13) (N:=some 81) (v:=undef) (a':=?_) #[Tt,Tt,Tt,Tt,Tt,Tt,Tt,Tt,Tt,Tt,Tt,Tt,Tt,Tt,Ff,Ff,Ff,Ff,Ff,Ff,Ff,Ff,Ff,Ff,Ff,Ff,Ff,Ff,Ff,Ff,Ff,Ff,Ff,Ff,Ff,Ff] rfl rfl (any_of HT_.out (by kernel_rfl)) (fun _ _ _ h=>h) (Or.inr ⟨by rfl,rfl⟩) ?_ ?_
         rotate_left
         ·simp only [Act.put,sT,sZ,sS,iW,iV]
          rfl
         refine pure_ (i:=14) (N:=some 82) (v:=undef) (a':=?_) #[Tt,Tt,Tt,Tt,Tt,Tt,Tt,Tt,Tt,Tt,Tt,Tt,Tt,Tt,Tt,Ff,Ff,Ff,Ff,Ff,Ff,Ff,Ff,Ff,Ff,Ff,Ff,Ff,Ff,Ff,Ff,Ff,Ff,Ff,Ff,Ff] rfl rfl (any_of HT_.out (by kernel_rfl)) (fun _ _ _ h=>h) (Or.inr ⟨by rfl,rfl⟩) ?_ ?_
         rotate_left
         ·simp only [Act.put,sT,sZ,sS,iW,iV]
          rfl
         refine pure_ (i:=15) (N:=some 83) (v:=undef) (a':=?_) #[Tt,Tt,Tt,Tt,Tt,Tt,Tt,Tt,Tt,Tt,Tt,Tt,Tt,Tt,Tt,Tt,Ff,Ff,Ff,Ff,Ff,Ff,Ff,Ff,Ff,Ff,Ff,Ff,Ff,Ff,Ff,Ff,Ff,Ff,Ff,Ff] rfl rfl (any_of HT_.out (by kernel_rfl)) (fun _ _ _ h=>h) (Or.inr ⟨by rfl,rfl⟩) ?_ ?_
         rotate_left
         ·simp only [Act.put,sT,sZ,sS,iW,iV]
          rfl
         refine pure_ (i:=16) (N:=some 84) (v:=undef) (a':=?_) #[Tt,Tt,Tt,Tt,Tt,Tt,Tt,Tt,Tt,Tt,Tt,Tt,Tt,Tt,Tt,Tt,Tt,Ff,Ff,Ff,Ff,Ff,Ff,Ff,Ff,Ff,Ff,Ff,Ff,Ff,Ff,Ff,Ff,Ff,Ff,Ff] rfl rfl (any_of HT_.out (by kernel_rfl)) (fun _ _ _ h=>h) (Or.inr ⟨by rfl,rfl⟩) ?_ ?_
         rotate_left
         ·simp only [Act.put,sT,sZ,sS,iW,iV]
          rfl
         refine pure_ (i:=17) (N:=some 85) (v:=undef) (a':=?_) #[Tt,Tt,Tt,Tt,Tt,Tt,Tt,Tt,Tt,Tt,Tt,Tt,Tt,Tt,Tt,Tt,Tt,Tt,Ff,Ff,Ff,Ff,Ff,Ff,Ff,Ff,Ff,Ff,Ff,Ff,Ff,Ff,Ff,Ff,Ff,Ff] rfl rfl (any_of HT_.out (by kernel_rfl)) (fun _ _ _ h=>h) (Or.inr ⟨by rfl,rfl⟩) ?_ ?_
         rotate_left
         ·simp only [Act.put,sT,sZ,sS,iW,iV]
          rfl
         refine pure_ (i:=18) (N:=some 86) (v:=undef) (a':=?_) #[Tt,Tt,Tt,Tt,Tt,Tt,Tt,Tt,Tt,Tt,Tt,Tt,Tt,Tt,Tt,Tt,Tt,Tt,Tt,Ff,Ff,Ff,Ff,Ff,Ff,Ff,Ff,Ff,Ff,Ff,Ff,Ff,Ff,Ff,Ff,Ff] rfl rfl (any_of HT_.out (by kernel_rfl)) (fun _ _ _ h=>h) (Or.inr ⟨by rfl,rfl⟩) ?_ ?_
         rotate_left
         ·simp only [Act.put,sT,sZ,sS,iW,iV]
          rfl
         refine pure_ (i:=19) (N:=some 87) (v:=undef) (a':=?_) #[Tt,Tt,Tt,Tt,Tt,Tt,Tt,Tt,Tt,Tt,Tt,Tt,Tt,Tt,Tt,Tt,Tt,Tt,Tt,Tt,Ff,Ff,Ff,Ff,Ff,Ff,Ff,Ff,Ff,Ff,Ff,Ff,Ff,Ff,Ff,Ff] rfl rfl (any_of HT_.out (by kernel_rfl)) (fun _ _ _ h=>h) (Or.inr ⟨by rfl,rfl⟩) ?_ ?_
         rotate_left
         ·simp only [Act.put,sT,sZ,sS,iW,iV]
          rfl
         refine pure_ (i:=20) (N:=some 88) (v:=undef) (a':=?_) #[Tt,Tt,Tt,Tt,Tt,Tt,Tt,Tt,Tt,Tt,Tt,Tt,Tt,Tt,Tt,Tt,Tt,Tt,Tt,Tt,Tt,Ff,Ff,Ff,Ff,Ff,Ff,Ff,Ff,Ff,Ff,Ff,Ff,Ff,Ff,Ff] rfl rfl (any_of HT_.out (by kernel_rfl)) (fun _ _ _ h=>h) (Or.inr ⟨by rfl,rfl⟩) ?_ ?_
         rotate_left
         ·simp only [Act.put,sT,sZ,sS,iW,iV]
          rfl
         refine pure_ (i:=21) (N:=some 89) (v:=?_) (a':=?_) #[Tt,Tt,Tt,Tt,Tt,Tt,Tt,Tt,Tt,Tt,Tt,Tt,Tt,Tt,Tt,Tt,Tt,Tt,Tt,Tt,Tt,Tt,Ff,Ff,Ff,Ff,Ff,Ff,Ff,Ff,Ff,Ff,Ff,Ff,Ff,Ff] rfl rfl (any_of HT_.out (by kernel_rfl)) (fun _ _ _ h=>h) (Or.inl ⟨by rfl,?_⟩) ?_ ?_
         rotate_left
         ·intro w'
          go_simp
          with_reducible rfl
         rotate_left
         ·simp only [Act.put,sT,sZ,sS,iW,iV]
          rfl
         refine pure_ (i:=22) (N:=some 90) (v:=?_) (a':=?_) #[Tt,Tt,Tt,Tt,Tt,Tt,Tt,Tt,Tt,Tt,Tt,Tt,Tt,Tt,Tt,Tt,Tt,Tt,Tt,Tt,Tt,Tt,Tt,Ff,Ff,Ff,Ff,Ff,Ff,Ff,Ff,Ff,Ff,Ff,Ff,Ff] rfl rfl (any_of HT_.out (by kernel_rfl)) (fun _ _ _ h=>h) (Or.inl ⟨by rfl,?_⟩) ?_ ?_
         rotate_left
         ·intro w'
          go_simp
          with_reducible rfl
         rotate_left
         ·simp only [Act.put,sT,sZ,sS,iW,iV]
          rfl
         refine pure_ (i:=23) (N:=some 91) (v:=undef) (a':=?_) #[Tt,Tt,Tt,Tt,Tt,Tt,Tt,Tt,Tt,Tt,Tt,Tt,Tt,Tt,Tt,Tt,Tt,Tt,Tt,Tt,Tt,Tt,Tt,Tt,Ff,Ff,Ff,Ff,Ff,Ff,Ff,Ff,Ff,Ff,Ff,Ff] rfl rfl (any_of HT_.out (by kernel_rfl)) (fun _ _ _ h=>h) (Or.inr ⟨by rfl,rfl⟩) ?_ ?_
         rotate_left
         ·simp only [Act.put,sT,sZ,sS,iW,iV]
          rfl
         refine pure_ (i:=24) (N:=some 92) (v:=undef) (a':=?_) #[Tt,Tt,Tt,Tt,Tt,Tt,Tt,Tt,Tt,Tt,Tt,Tt,Tt,Tt,Tt,Tt,Tt,Tt,Tt,Tt,Tt,Tt,Tt,Tt,Tt,Ff,Ff,Ff,Ff,Ff,Ff,Ff,Ff,Ff,Ff,Ff] rfl rfl (any_of HT_.out (by kernel_rfl)) (fun _ _ _ h=>h) (Or.inr ⟨by rfl,rfl⟩) ?_ ?_
         rotate_left
         ·simp only [Act.put,sT,sZ,sS,iW,iV]
          rfl
         refine pure_ (i:=25) (N:=some 93) (v:=undef) (a':=?_) #[Tt,Tt,Tt,Tt,Tt,Tt,Tt,Tt,Tt,Tt,Tt,Tt,Tt,Tt,Tt,Tt,Tt,Tt,Tt,Tt,Tt,Tt,Tt,Tt,Tt,Tt,Ff,Ff,Ff,Ff,Ff,Ff,Ff,Ff,Ff,Ff] rfl rfl (any_of HT_.out (by kernel_rfl)) (fun _ _ _ h=>h) (Or.inr ⟨by rfl,rfl⟩) ?_ ?_
         rotate_left
         ·simp only [Act.put,sT,sZ,sS,iW,iV]
          rfl
         refine pure_ (i:=26) (N:=some 94) (v:=undef) (a':=?_) #[Tt,Tt,Tt,Tt,Tt,Tt,Tt,Tt,Tt,Tt,Tt,Tt,Tt,Tt,Tt,Tt,Tt,Tt,Tt,Tt,Tt,Tt,Tt,Tt,Tt,Tt,Tt,Ff,Ff,Ff,Ff,Ff,Ff,Ff,Ff,Ff] rfl rfl (any_of HT_.out (by kernel_rfl)) (fun _ _ _ h=>h) (Or.inr ⟨by rfl,rfl⟩) ?_ ?_
         rotate_left
         ·simp only [Act.put,sT,sZ,sS,iW,iV]
          rfl
         refine pure_ (i:=27) (N:=some 95) (v:=undef) (a':=?_) #[Tt,Tt,Tt,Tt,Tt,Tt,Tt,Tt,Tt,Tt,Tt,Tt,Tt,Tt,Tt,Tt,Tt,Tt,Tt,Tt,Tt,Tt,Tt,Tt,Tt,Tt,Tt,Tt,Ff,Ff,Ff,Ff,Ff,Ff,Ff,Ff] rfl rfl (any_of HT_.out (by kernel_rfl)) (fun _ _ _ h=>h) (Or.inr ⟨by rfl,rfl⟩) ?_ ?_
         rotate_left
         ·simp only [Act.put,sT,sZ,sS,iW,iV]
          rfl
         refine pure_ (i:=28) (N:=some 96) (v:=undef) (a':=?_) #[Tt,Tt,Tt,Tt,Tt,Tt,Tt,Tt,Tt,Tt,Tt,Tt,Tt,Tt,Tt,Tt,Tt,Tt,Tt,Tt,Tt,Tt,Tt,Tt,Tt,Tt,Tt,Tt,Tt,Ff,Ff,Ff,Ff,Ff,Ff,Ff] rfl rfl (any_of HT_.out (by kernel_rfl)) (fun _ _ _ h=>h) (Or.inr ⟨by rfl,rfl⟩) ?_ ?_
         rotate_left
         ·simp only [Act.put,sT,sZ,sS,iW,iV]
          rfl
         refine pure_ (i:=29) (N:=some 97) (v:=undef) (a':=?_) #[Tt,Tt,Tt,Tt,Tt,Tt,Tt,Tt,Tt,Tt,Tt,Tt,Tt,Tt,Tt,Tt,Tt,Tt,Tt,Tt,Tt,Tt,Tt,Tt,Tt,Tt,Tt,Tt,Tt,Tt,Ff,Ff,Ff,Ff,Ff,Ff] rfl rfl (any_of HT_.out (by kernel_rfl)) (fun _ _ _ h=>h) (Or.inr ⟨by rfl,rfl⟩) ?_ ?_
         rotate_left
         ·simp only [Act.put,sT,sZ,sS,iW,iV]
          rfl
         refine pure_ (i:=30) (N:=some 98) (v:=undef) (a':=?_) #[Tt,Tt,Tt,Tt,Tt,Tt,Tt,Tt,Tt,Tt,Tt,Tt,Tt,Tt,Tt,Tt,Tt,Tt,Tt,Tt,Tt,Tt,Tt,Tt,Tt,Tt,Tt,Tt,Tt,Tt,Tt,Ff,Ff,Ff,Ff,Ff] rfl rfl (any_of HT_.out (by kernel_rfl)) (fun _ _ _ h=>h) (Or.inr ⟨by rfl,rfl⟩) ?_ ?_
         rotate_left
         ·simp only [Act.put,sT,sZ,sS,iW,iV]
          rfl
         refine pure_ (i:=31) (N:=some 99) (v:=undef) (a':=?_) #[Tt,Tt,Tt,Tt,Tt,Tt,Tt,Tt,Tt,Tt,Tt,Tt,Tt,Tt,Tt,Tt,Tt,Tt,Tt,Tt,Tt,Tt,Tt,Tt,Tt,Tt,Tt,Tt,Tt,Tt,Tt,Tt,Ff,Ff,Ff,Ff] rfl rfl (any_of HT_.out (by kernel_rfl)) (fun _ _ _ h=>h) (Or.inr ⟨by rfl,rfl⟩) ?_ ?_
         rotate_left
         ·simp only [Act.put,sT,sZ,sS,iW,iV]
          rfl
         refine pure_ (i:=32) (N:=some 100) (v:=undef) (a':=?_) #[Tt,Tt,Tt,Tt,Tt,Tt,Tt,Tt,Tt,Tt,Tt,Tt,Tt,Tt,Tt,Tt,Tt,Tt,Tt,Tt,Tt,Tt,Tt,Tt,Tt,Tt,Tt,Tt,Tt,Tt,Tt,Tt,Tt,Ff,Ff,Ff] rfl rfl (any_of HT_.out (by kernel_rfl)) (fun _ _ _ h=>h) (Or.inr ⟨by rfl,rfl⟩) ?_ ?_
         rotate_left
         ·simp only [Act.put,sT,sZ,sS,iW,iV]
          rfl
         refine pure_ (i:=33) (N:=some 101) (v:=undef) (a':=?_) #[Tt,Tt,Tt,Tt,Tt,Tt,Tt,Tt,Tt,Tt,Tt,Tt,Tt,Tt,Tt,Tt,Tt,Tt,Tt,Tt,Tt,Tt,Tt,Tt,Tt,Tt,Tt,Tt,Tt,Tt,Tt,Tt,Tt,Tt,Ff,Ff] rfl rfl (any_of HT_.out (by kernel_rfl)) (fun _ _ _ h=>h) (Or.inr ⟨by rfl,rfl⟩) ?_ ?_
         rotate_left
         ·simp only [Act.put,sT,sZ,sS,iW,iV]
          rfl
         refine pure_ (i:=34) (N:=some 102) (v:=undef) (a':=?_) #[Tt,Tt,Tt,Tt,Tt,Tt,Tt,Tt,Tt,Tt,Tt,Tt,Tt,Tt,Tt,Tt,Tt,Tt,Tt,Tt,Tt,Tt,Tt,Tt,Tt,Tt,Tt,Tt,Tt,Tt,Tt,Tt,Tt,Tt,Tt,Ff] rfl rfl (any_of HT_.out (by kernel_rfl)) (fun _ _ _ h=>h) (Or.inr ⟨by rfl,rfl⟩) ?_ ?_
         rotate_left
         ·simp only [Act.put,sT,sZ,sS,iW,iV]
          rfl
         refine pure_ (i:=35) (N:=some 103) (v:=?_) (a':=?_) #[Tt,Tt,Tt,Tt,Tt,Tt,Tt,Tt,Tt,Tt,Tt,Tt,Tt,Tt,Tt,Tt,Tt,Tt,Tt,Tt,Tt,Tt,Tt,Tt,Tt,Tt,Tt,Tt,Tt,Tt,Tt,Tt,Tt,Tt,Tt,Tt] rfl rfl (any_of HT_.out (by kernel_rfl)) (fun _ _ _ h=>h) (Or.inl ⟨by rfl,?_⟩) ?_ ?_
         rotate_left
         ·intro w'
          go_simp
          with_reducible rfl
         rotate_left
         ·simp only [Act.put,sT,sZ,sS,iW,iV]
          rfl
         refine done_ (done_of HT_.out (by kernel_rfl)) ?_
         try go_wp2
         go_meet
         case rel=>exact ⟨_,(true),(by first|rfl|(simp;done)|(simp [*];done)),H',⟨by have:=HJ2.out;have:=HK2.out;have:=HK3.out;first|omega|exact Nat.le_refl _⟩,⟨by (with_reducible repeat (first|apply Kd.R_alloc|apply Kd.R_drewN|apply Kd.R_drew));exact HO734.out⟩,⟨by (with_reducible repeat (first|refine bN ?_ _|refine bD ?_|refine bA ?_ _));exact BK717.out⟩,⟨by repeat (first|(with_reducible first|exact HB.out|apply bL|apply pN|apply bE|refine bS ?_ GE717.out)|exact HB.out)⟩⟩
        rw [if_neg c39] at H
        have c39b0 : decide ((t732.length : Int) < 1) = false:=decide_eq_false c39
        have c39b1 : decide (t732.length < 1) = false:=decide_eq_false (by omega)
        clear c39
        (first|rw [c39b0]|(simp only [iW,iV];rw [c39b0])|skip)
        by_cases c42 : (t732.length : Int) > (wrap64 (x8_3 + 1))
        ·rw [if_pos c42] at H
         have c42b0 : decide ((wrap64 (x8_3 + 1)) < (t732.length : Int)) = true:=decide_eq_true c42
         clear c42
         have H':=Am H
         clear H
         try go_wp2
         have n0_:=Am (Kd.R_drew HO734.out)
         have n1_:=Am (bD BK717.out)
         have n2_:=Am (bE HB.out)
         clear HO734
         clear BK717
         clear HB
         have HO734:=n0_
         have BK717:=n1_
         have HB:=n2_
         clear n0_ n1_ n2_
         obtain ⟨Ao44,co44,eo44⟩:=Kd.R_slice HO734.out
         (first|subst eo44|(injection eo44 with f1_ f2_ f3_;have f4_:=f1_.symm;have f5_:=f3_.symm;clear f1_ f2_ f3_;subst f4_;subst f5_))
         refine start_ (n:=36) (S:=fun w'=>True) (ds:=[]) #[Ff,Ff,Ff,Ff,Ff,Ff,Ff,Ff,Ff,Ff,Ff,Ff,Ff,Ff,Ff,Ff,Ff,Ff,Ff,Ff,Ff,Ff,Ff,Ff,Ff,Ff,Ff,Ff,Ff,Ff,Ff,Ff,Ff,Ff,Ff,Ff] (by kernel_rfl) rfl rfl trivial (fun hHeld=>?_);refine with_tabW gangerlaw10_ConfPaths.tab18 gangerlaw10_ConfPaths.bits18 (fun HT_ HW_=>?_)
         generalize w38.drew = w43 at HO734 BK717 HB hHeld ⊢
         refine pure_ (i:=0) (N:=some 68) (v:=?_) (a':=?_) #[Tt,Ff,Ff,Ff,Ff,Ff,Ff,Ff,Ff,Ff,Ff,Ff,Ff,Ff,Ff,Ff,Ff,Ff,Ff,Ff,Ff,Ff,Ff,Ff,Ff,Ff,Ff,Ff,Ff,Ff,Ff,Ff,Ff,Ff,Ff,Ff] rfl rfl (any_of HT_.out (by kernel_rfl)) (fun _ _ _ h=>h) (Or.inl ⟨by rfl,?_⟩) ?_ ?_
         rotate_left
         ·intro w'
          go_simp
          with_reducible rfl
         rotate_left
         ·simp only [Act.put,sT,sZ,sS,iW,iV]
          rfl
         refine pure_ (i:=1) (N:=some 69) (v:=?_) (a':=?_) #[Tt,Tt,Ff,Ff,Ff,Ff,Ff,Ff,Ff,Ff,Ff,Ff,Ff,Ff,Ff,Ff,Ff,Ff,Ff,Ff,Ff,Ff,Ff,Ff,Ff,Ff,Ff,Ff,Ff,Ff,Ff,Ff,Ff,Ff,Ff,Ff] rfl rfl (any_of HT_.out (by kernel_rfl)) (fun _ _ _ h=>h) (Or.inl ⟨by rfl,?_⟩) ?_ ?_
         rotate_left
         ·intro w'
          go_simp
          with_reducible rfl
         rotate_left
         ·simp only [Act.put,sT,sZ,sS,iW,iV]
          rfl
         refine pure_ (i:=2) (N:=some 70) (v:=?_) (a':=?_) #[Tt,Tt,Tt,Ff,Ff,Ff,Ff,Ff,Ff,Ff,Ff,Ff,Ff,Ff,Ff,Ff,Ff,Ff,Ff,Ff,Ff,Ff,Ff,Ff,Ff,Ff,Ff,Ff,Ff,Ff,Ff,Ff,Ff,Ff,Ff,Ff] rfl rfl (any_of HT_.out (by kernel_rfl)) (fun _ _ _ h=>h) (Or.inl ⟨by rfl,?_⟩) ?_ ?_
         rotate_left
         ·intro w'
          go_simp
          with_reducible rfl
         rotate_left
         ·simp only [Act.put,sT,sZ,sS,iW,iV]
          rfl
         refine pure_ (i:=3) (N:=some 71) (v:=?_) (a':=?_) #[Tt,Tt,Tt,Tt,Ff,Ff,Ff,Ff,Ff,Ff,Ff,Ff,Ff,Ff,Ff,Ff,Ff,Ff,Ff,Ff,Ff,Ff,Ff,Ff,Ff,Ff,Ff,Ff,Ff,Ff,Ff,Ff,Ff,Ff,Ff,Ff] rfl rfl (any_of HT_.out (by kernel_rfl)) (fun _ _ _ h=>h) (Or.inl ⟨by rfl,?_⟩) ?_ ?_
         rotate_left
         ·intro w'
          go_simp
          with_reducible rfl
         rotate_left
         ·simp only [Act.put,sT,sZ,sS,iW,iV]
          rfl
         refine pure_ (i:=4) (N:=some 72) (v:=?_) (a':=?_) #[Tt,Tt,Tt,Tt,Tt,Ff,Ff,Ff,Ff,Ff,Ff,Ff,Ff,Ff,Ff,Ff,Ff,Ff,Ff,Ff,Ff,Ff,Ff,Ff,Ff,Ff,Ff,Ff,Ff,Ff,Ff,Ff,Ff,Ff,Ff,Ff] rfl rfl (any_of HT_.out (by kernel_rfl)) (fun _ _ _ h=>h) (Or.inl ⟨by rfl,?_⟩) ?_ ?_
         rotate_left
         ·intro w'
          go_simp
          with_reducible rfl
         rotate_left
         ·simp only [Act.put,sT,sZ,sS,iW,iV]
          rfl
         refine pure_ (i:=5) (N:=some 73) (v:=?_) (a':=?_) #[Tt,Tt,Tt,Tt,Tt,Tt,Ff,Ff,Ff,Ff,Ff,Ff,Ff,Ff,Ff,Ff,Ff,Ff,Ff,Ff,Ff,Ff,Ff,Ff,Ff,Ff,Ff,Ff,Ff,Ff,Ff,Ff,Ff,Ff,Ff,Ff] rfl rfl (any_of HT_.out (by kernel_rfl)) (fun _ _ _ h=>h) (Or.inl ⟨by rfl,?_⟩) ?_ ?_
         rotate_left
         ·intro w'
          go_simp
          with_reducible rfl
         rotate_left
         ·simp only [Act.put,sT,sZ,sS,iW,iV]
          rfl
         refine pure_ (i:=6) (N:=some 74) (v:=?_) (a':=?_) #[Tt,Tt,Tt,Tt,Tt,Tt,Tt,Ff,Ff,Ff,Ff,Ff,Ff,Ff,Ff,Ff,Ff,Ff,Ff,Ff,Ff,Ff,Ff,Ff,Ff,Ff,Ff,Ff,Ff,Ff,Ff,Ff,Ff,Ff,Ff,Ff] rfl rfl (any_of HT_.out (by kernel_rfl)) (fun _ _ _ h=>h) (Or.inl ⟨by rfl,?_⟩) ?_ ?_
         rotate_left
         ·intro w'
          go_simp
          with_reducible rfl
         rotate_left
         ·simp only [Act.put,sT,sZ,sS,iW,iV]
          rfl
         refine pure_ (i:=7) (N:=some 75) (v:=?_) (a':=?_) #[Tt,Tt,Tt,Tt,Tt,Tt,Tt,Tt,Ff,Ff,Ff,Ff,Ff,Ff,Ff,Ff,Ff,Ff,Ff,Ff,Ff,Ff,Ff,Ff,Ff,Ff,Ff,Ff,Ff,Ff,Ff,Ff,Ff,Ff,Ff,Ff] rfl rfl (any_of HT_.out (by kernel_rfl)) (fun _ _ _ h=>h) (Or.inl ⟨by rfl,?_⟩) ?_ ?_
         rotate_left
         ·intro w'
          go_simp
          with_reducible rfl
         rotate_left
         ·simp only [Act.put,sT,sZ,sS,iW,iV]
          rfl
         refine pure_ (i:=8) (N:=some 76) (v:=?_) (a':=?_) #[Tt,Tt,Tt,Tt,Tt,Tt,Tt,Tt,Tt,Ff,Ff,Ff,Ff,Ff,Ff,Ff,Ff,Ff,Ff,Ff,Ff,Ff,Ff,Ff,Ff,Ff,Ff,Ff,Ff,Ff,Ff,Ff,Ff,Ff,Ff,Ff] rfl rfl (any_of HT_.out (by kernel_rfl)) (fun _ _ _ h=>h) (Or.inl ⟨by rfl,?_⟩) ?_ ?_
         rotate_left
         ·intro w'
          go_simp
          with_reducible rfl
         rotate_left
         ·simp only [Act.put,sT,sZ,sS,iW,iV]
          rfl
         refine pure_ (i:=9) (N:=some 77) (v:=?_) (a':=?_) #[Tt,Tt,Tt,Tt,Tt,Tt,Tt,Tt,Tt,Tt,Ff,Ff,Ff,Ff,Ff,Ff,Ff,Ff,Ff,Ff,Ff,Ff,Ff,Ff,Ff,Ff,Ff,Ff,Ff,Ff,Ff,Ff,Ff,Ff,Ff,Ff] rfl rfl (any_of HT_.out (by kernel_rfl)) (fun _ _ _ h=>h) (Or.inl ⟨by rfl,?_⟩) ?_ ?_
         rotate_left
         ·intro w'
          go_simp
          with_reducible rfl
         rotate_left
         ·simp only [Act.put,sT,sZ,sS,iW,iV]
          rfl
         refine pure_ (i:=10) (N:=some 78) (v:=?_) (a':=?_) #[Tt,Tt,Tt,Tt,Tt,Tt,Tt,Tt,Tt,Tt,Tt,Ff,Ff,Ff,Ff,Ff,Ff,Ff,Ff,Ff,Ff,Ff,Ff,Ff,Ff,Ff,Ff,Ff,Ff,Ff,Ff,Ff,Ff,Ff,Ff,Ff] rfl rfl (any_of HT_.out (by kernel_rfl)) (fun _ _ _ h=>h) (Or.inl ⟨by rfl,?_⟩) ?_ ?_
         rotate_left
         ·intro w'
          go_simp
          with_reducible rfl
         rotate_left
         ·simp only [Act.put,sT,sZ,sS,iW,iV]
          rfl
         refine pure_ (i:=11) (N:=some 79) (v:=undef) (a':=?_) #[Tt,Tt,Tt,Tt,Tt,Tt,Tt,Tt,Tt,Tt,Tt,Tt,Ff,Ff,Ff,Ff,Ff,Ff,Ff,Ff,Ff,Ff,Ff,Ff,Ff,Ff,Ff,Ff,Ff,Ff,Ff,Ff,Ff,Ff,Ff,Ff] rfl rfl (any_of HT_.out (by kernel_rfl)) (fun _ _ _ h=>h) (Or.inr ⟨by rfl,rfl⟩) ?_ ?_
         rotate_left
         ·simp only [Act.put,sT,sZ,sS,iW,iV]
          rfl
         refine pure_ (i:=12) (N:=some 80) (v:=undef) (a':=?_) #[Tt,Tt,Tt,Tt,Tt,Tt,Tt,Tt,Tt,Tt,Tt,Tt,Tt,Ff,Ff,Ff,Ff,Ff,Ff,Ff,Ff,Ff,Ff,Ff,Ff,Ff,Ff,Ff,Ff,Ff,Ff,Ff,Ff,Ff,Ff,Ff] rfl rfl (any_of HT_.out (by kernel_rfl)) (fun _ _ _ h=>h) (Or.inr ⟨by rfl,rfl⟩) ?_ ?_
         rotate_left
         ·simp only [Act.put,sT,sZ,sS,iW,iV]
          rfl
         refine pure_ (i:=13) (N:=some 81) (v:=undef) (a':=?_) #[Tt,Tt,Tt,Tt,Tt,Tt,Tt,Tt,Tt,Tt,Tt,Tt,Tt,Tt,Ff,Ff,Ff,Ff,Ff,Ff,Ff,Ff,Ff,Ff,Ff,Ff,Ff,Ff,Ff,Ff,Ff,Ff,Ff,Ff,Ff,Ff] rfl rfl (any_of HT_.out (by kernel_rfl)) (fun _ _ _ h=>h) (Or.inr ⟨by rfl,rfl⟩) ?_ ?_
         rotate_left
         ·simp only [Act.put,sT,sZ,sS,iW,iV]
          rfl
         refine pure_ (i:=14) (N:=some 82) (v:=undef) (a':=?_) #[Tt,Tt,Tt,Tt,Tt,Tt,Tt,Tt,Tt,Tt,Tt,Tt,Tt,Tt,Tt,Ff,Ff,Ff,Ff,Ff,Ff,Ff,Ff,Ff,Ff,Ff,Ff,Ff,Ff,Ff,Ff,Ff,Ff,Ff,Ff,Ff] rfl rfl (any_of HT_.out (by kernel_rfl)) (fun _ _ _ h=>h) (Or.inr ⟨by rfl,rfl⟩) ?_ ?_
         rotate_left
         ·simp only [Act.put,sT,sZ,sS,iW,iV]
          rfl
         refine pure_ (i:=15) (N:=some 83) (v:=undef) (a':=?_) #[Tt,Tt,Tt,Tt,Tt,Tt,Tt,Tt,Tt,Tt,Tt,Tt,Tt,Tt,Tt,Tt,Ff,Ff,Ff,Ff,Ff,Ff,Ff,Ff,Ff,Ff,Ff,Ff,Ff,Ff,Ff,Ff,Ff,Ff,Ff,Ff] rfl rfl (any_of HT_.out (by kernel_rfl)) (fun _ _ _ h=>h) (Or.inr ⟨by rfl,rfl⟩) ?_ ?_
         rotate_left
         ·simp only [Act.put,sT,sZ,sS,iW,iV]
          rfl
         refine pure_ (i:=16) (N:=some 84) (v:=undef) (a':=?_) #[Tt,Tt,Tt,Tt,Tt,Tt,Tt,Tt,Tt,Tt,Tt,Tt,Tt,Tt,Tt,Tt,Tt,Ff,Ff,Ff,Ff,Ff,Ff,Ff,Ff,Ff,Ff,Ff,Ff,Ff,Ff,Ff,Ff,Ff,Ff,Ff] rfl rfl (any_of HT_.out (by kernel_rfl)) (fun _ _ _ h=>h) (Or.inr ⟨by rfl,rfl⟩) ?_ ?_
         rotate_left
         ·simp only [Act.put,sT,sZ,sS,iW,iV]
          rfl
         refine pure_ (i:=17) (N:=some 85) (v:=undef) (a':=?_) #[Tt,Tt,Tt,Tt,Tt,Tt,Tt,Tt,Tt,Tt,Tt,Tt,Tt,Tt,Tt,Tt,Tt,Tt,Ff,Ff,Ff,Ff,Ff,Ff,Ff,Ff,Ff,Ff,Ff,Ff,Ff,Ff,Ff,Ff,Ff,Ff] rfl rfl (any_of HT_.out (by kernel_rfl)) (fun _ _ _ h=>h) (Or.inr ⟨by rfl,rfl⟩) ?_ ?_
         rotate_left
         ·simp only [Act.put,sT,sZ,sS,iW,iV]
          rfl
         refine pure_ (i:=18) (N:=some 86) (v:=undef) (a':=?_) #[Tt,Tt,Tt,Tt,Tt,Tt,Tt,Tt,Tt,Tt,Tt,Tt,Tt,Tt,Tt,Tt,Tt,Tt,Tt,Ff,Ff,Ff,Ff,Ff,Ff,Ff,Ff,Ff,Ff,Ff,Ff,Ff,Ff,Ff,Ff,Ff] rfl rfl (any_of HT_.out (by kernel_rfl)) (fun _ _ _ h=>h) (Or.inr ⟨by rfl,rfl⟩) ?_ ?_
         rotate_left
         ·simp only [Act.put,sT,sZ,sS,iW,iV]
          rfl
         refine pure_ (i:=19) (N:=some 87) (v:=undef) (a':=?_) #[Tt,Tt,Tt,Tt,Tt,Tt,Tt,Tt,Tt,Tt,Tt,Tt,Tt,Tt,Tt,Tt,Tt,Tt,Tt,Tt,Ff,Ff,Ff,Ff,Ff,Ff,Ff,Ff,Ff,Ff,Ff,Ff,Ff,Ff,Ff,Ff] rfl rfl (any_of HT_.out (by kernel_rfl)) (fun _ _ _ h=>h) (Or.inr ⟨by rfl,rfl⟩) ?_ ?_
         rotate_left
         ·simp only [Act.put,sT,sZ,sS,iW,iV]
          rfl
         refine pure_ (i:=20) (N:=some 88) (v:=undef) (a':=?_) #[Tt,Tt,Tt,Tt,Tt,Tt,Tt,Tt,Tt,Tt,Tt,Tt,Tt,Tt,Tt,Tt,Tt,Tt,Tt,Tt,Tt,Ff,Ff,Ff,Ff,Ff,Ff,Ff,Ff,Ff,Ff,Ff,Ff,Ff,Ff,Ff] rfl rfl (any_of HT_.out (by kernel_rfl)) (fun _ _ _ h=>h) (Or.inr ⟨by rfl,rfl⟩) ?_ ?_
         rotate_left
         ·simp only [Act.put,sT,sZ,sS,iW,iV]
          rfl
         refine pure_ (i:=21) (N:=some 89) (v:=?_) (a':=?_) #[Tt,Tt,Tt,Tt,Tt,Tt,Tt,Tt,Tt,Tt,Tt,Tt,Tt,Tt,Tt,Tt,Tt,Tt,Tt,Tt,Tt,Tt,Ff,Ff,Ff,Ff,Ff,Ff,Ff,Ff,Ff,Ff,Ff,Ff,Ff,Ff] rfl rfl (any_of HT_.out (by kernel_rfl)) (fun _ _ _ h=>h) (Or.inl ⟨by rfl,?_⟩) ?_ ?_
         rotate_left
         ·intro w'
          go_simp
          with_reducible rfl
         rotate_left
         ·simp only [Act.put,sT,sZ,sS,iW,iV]
          rfl
         refine pure_ (i:=22) (N:=some 90) (v:=?_) (a':=?_) #[Tt,Tt,Tt,Tt,Tt,Tt,Tt,Tt,Tt,Tt,Tt,Tt,Tt,Tt,Tt,Tt,Tt,Tt,Tt,Tt,Tt,Tt,Tt,Ff,Ff,Ff,Ff,Ff,Ff,Ff,Ff,Ff,Ff,Ff,Ff,Ff] rfl rfl (any_of HT_.out (by kernel_rfl)) (fun _ _ _ h=>h) (Or.inl ⟨by rfl,?_⟩) ?_ ?_
         rotate_left
         ·intro w'
          go_simp
          with_reducible rfl
         rotate_left
         ·simp only [Act.put,sT,sZ,sS,iW,iV]
          rfl
         refine pure_ (i:=23) (N:=some 91) (v:=undef) (a':=?_) #[Tt,Tt,Tt,Tt,Tt,Tt,Tt,Tt,Tt,Tt,Tt,Tt,Tt,Tt,Tt,Tt,Tt,Tt,Tt,Tt,Tt,Tt,Tt,Tt,Ff,Ff,Ff,Ff,Ff,Ff,Ff,Ff,Ff,Ff,Ff,Ff] rfl rfl (any_of HT_.out (by kernel_rfl)) (fun _ _ _ h=>h) (Or.inr ⟨by rfl,rfl⟩) ?_ ?_
         rotate_left
         ·simp only [Act.put,sT,sZ,sS,iW,iV]
          rfl
         refine pure_ (i:=24) (N:=some 92) (v:=undef) (a':=?_) #[Tt,Tt,Tt,Tt,Tt,Tt,Tt,Tt,Tt,Tt,Tt,Tt,Tt,Tt,Tt,Tt,Tt,Tt,Tt,Tt,Tt,Tt,Tt,Tt,Tt,Ff,Ff,Ff,Ff,Ff,Ff,Ff,Ff,Ff,Ff,Ff] rfl rfl (any_of HT_.out (by kernel_rfl)) (fun _ _ _ h=>h) (Or.inr ⟨by rfl,rfl⟩) ?_ ?_
         rotate_left
         ·simp only [Act.put,sT,sZ,sS,iW,iV]
          rfl
         refine pure_ (i:=25) (N:=some 93) (v:=undef) (a':=?_) #[Tt,Tt,Tt,Tt,Tt,Tt,Tt,Tt,Tt,Tt,Tt,Tt,Tt,Tt,Tt,Tt,Tt,Tt,Tt,Tt,Tt,Tt,Tt,Tt,Tt,Tt,Ff,Ff,Ff,Ff,Ff,Ff,Ff,Ff,Ff,Ff] rfl rfl (any_of HT_.out (by kernel_rfl)) (fun _ _ _ h=>h) (Or.inr ⟨by rfl,rfl⟩) ?_ ?_
         rotate_left
         ·simp only [Act.put,sT,sZ,sS,iW,iV]
          rfl
         refine pure_ (i:=26) (N:=some 94) (v:=undef) (a':=?_) #[Tt,Tt,Tt,Tt,Tt,Tt,Tt,Tt,Tt,Tt,Tt,Tt,Tt,Tt,Tt,Tt,Tt,Tt,Tt,Tt,Tt,Tt,Tt,Tt,Tt,Tt,Tt,Ff,Ff,Ff,Ff,Ff,Ff,Ff,Ff,Ff] rfl rfl (any_of HT_.out (by kernel_rfl)) (fun _ _ _ h=>h) (Or.inr ⟨by rfl,rfl⟩) ?_ ?_
         rotate_left
         ·simp only [Act.put,sT,sZ,sS,iW,iV]
          rfl
         refine pure_ (i:=27) (N:=some 95) (v:=undef) (a':=?_) #[Tt,Tt,Tt,Tt,Tt,Tt,Tt,Tt,Tt,Tt,Tt,Tt,Tt,Tt,Tt,Tt,Tt,Tt,Tt,Tt,Tt,Tt,Tt,Tt,Tt,Tt,Tt,Tt,Ff,Ff,Ff,Ff,Ff,Ff,Ff,Ff] rfl rfl (any_of HT_.out (by kernel_rfl)) (fun _ _ _ h=>h) (Or.inr ⟨by rfl,rfl⟩) ?_ ?_
         rotate_left
         ·simp only [Act.put,sT,sZ,sS,iW,iV]
          rfl
         refine pure_ (i:=28) (N:=some 96) (v:=undef) (a':=?_) #[Tt,Tt,Tt,Tt,Tt,Tt,Tt,Tt,Tt,Tt,Tt,Tt,Tt,Tt,Tt,Tt,Tt,Tt,Tt,Tt,Tt,Tt,Tt,Tt,Tt,Tt,Tt,Tt,Tt,Ff,Ff,Ff,Ff,Ff,Ff,Ff] rfl rfl (any_of HT_.out (by kernel_rfl)) (fun _ _ _ h=>h) (Or.inr ⟨by rfl,rfl⟩) ?_ ?_
         rotate_left
         ·simp only [Act.put,sT,sZ,sS,iW,iV]
          rfl
         refine pure_ (i:=29) (N:=some 97) (v:=undef) (a':=?_) #[Tt,Tt,Tt,Tt,Tt,Tt,Tt,Tt,Tt,Tt,Tt,Tt,Tt,Tt,Tt,Tt,Tt,Tt,Tt,Tt,Tt,Tt,Tt,Tt,Tt,Tt,Tt,Tt,Tt,Tt,Ff,Ff,Ff,Ff,Ff,Ff] rfl rfl (any_of HT_.out (by kernel_rfl)) (fun _ _ _ h=>h) (Or.inr ⟨by rfl,rfl⟩) ?_ ?_
         rotate_left
         ·simp only [Act.put,sT,sZ,sS,iW,iV]
          rfl
         refine pure_ (i:=30) (N:=some 98) (v:=undef) (a':=?_) #[Tt,Tt,Tt,Tt,Tt,Tt,Tt,Tt,Tt,Tt,Tt,Tt,Tt,Tt,Tt,Tt,Tt,Tt,Tt,Tt,Tt,Tt,Tt,Tt,Tt,Tt,Tt,Tt,Tt,Tt,Tt,Ff,Ff,Ff,Ff,Ff] rfl rfl (any_of HT_.out (by kernel_rfl)) (fun _ _ _ h=>h) (Or.inr ⟨by rfl,rfl⟩) ?_ ?_
         rotate_left
         ·simp only [Act.put,sT,sZ,sS,iW,iV]
          rfl
         refine pure_ (i:=31) (N:=some 99) (v:=undef) (a':=?_) #[Tt,Tt,Tt,Tt,Tt,Tt,Tt,Tt,Tt,Tt,Tt,Tt,Tt,Tt,Tt,Tt,Tt,Tt,Tt,Tt,Tt,Tt,Tt,Tt,Tt,Tt,Tt,Tt,Tt,Tt,Tt,Tt,Ff,Ff,Ff,Ff] rfl rfl (any_of HT_.out (by kernel_rfl)) (fun _ _ _ h=>h) (Or.inr ⟨by rfl,rfl⟩) ?_ ?_
         rotate_left
         ·simp only [Act.put,sT,sZ,sS,iW,iV]
          rfl
         refine pure_ (i:=32) (N:=some 100) (v:=undef) (a':=?_) #[Tt,Tt,Tt,Tt,Tt,Tt,Tt,Tt,Tt,Tt,Tt,Tt,Tt,Tt,Tt,Tt,Tt,Tt,Tt,Tt,Tt,Tt,Tt,Tt,Tt,Tt,Tt,Tt,Tt,Tt,Tt,Tt,Tt,Ff,Ff,Ff] rfl rfl (any_of HT_.out (by kernel_rfl)) (fun _ _ _ h=>h) (Or.inr ⟨by rfl,rfl⟩) ?_ ?_
         rotate_left
         ·simp only [Act.put,sT,sZ,sS,iW,iV]
          rfl
         refine pure_ (i:=33) (N:=some 101) (v:=undef) (a':=?_) #[Tt,Tt,Tt,Tt,Tt,Tt,Tt,Tt,Tt,Tt,Tt,Tt,Tt,Tt,Tt,Tt,Tt,Tt,Tt,Tt,Tt,Tt,Tt,Tt,Tt,Tt,Tt,Tt,Tt,Tt,Tt,Tt,Tt,Tt,Ff,Ff] rfl rfl (any_of HT_.out (by kernel_rfl)) (fun _ _ _ h=>h) (Or.inr ⟨by rfl,rfl⟩) ?_ ?_
         rotate_left
         ·simp only [Act.put,sT,sZ,sS,iW,iV]
          rfl
         refine pure_ (i:=34) (N:=some 102) (v:=undef) (a':=?_) #[Tt,Tt,Tt,Tt,Tt,Tt,Tt,Tt,Tt,Tt,Tt,Tt,Tt,Tt,Tt,Tt,Tt,Tt,Tt,Tt,Tt,Tt,Tt,Tt,Tt,Tt,Tt,Tt,Tt,Tt,Tt,Tt,Tt,Tt,Tt,Ff] rfl rfl (any_of HT_.out (by kernel_rfl)) (fun _ _ _ h=>h) (Or.inr ⟨by rfl,rfl⟩) ?_ ?_
         rotate_left
         ·simp only [Act.put,sT,sZ,sS,iW,iV]
          rfl
         refine pure_ (i:=35) (N:=some 103) (v:=?_) (a':=?_) #[Tt,Tt,Tt,Tt,Tt,Tt,Tt,Tt,Tt,Tt,Tt,Tt,Tt,Tt,Tt,Tt,Tt,Tt,Tt,Tt,Tt,Tt,Tt,Tt,Tt,Tt,Tt,Tt,Tt,Tt,Tt,Tt,Tt,Tt,Tt,Tt] rfl rfl (any_of HT_.out (by kernel_rfl)) (fun _ _ _ h=>h) (Or.inl ⟨by rfl,?_⟩) ?_ ?_
         rotate_left
         ·intro w'
          go_simp
          with_reducible rfl
         rotate_left
         ·simp only [Act.put,sT,sZ,sS,iW,iV]
          rfl
         refine done_ (done_of HT_.out (by kernel_rfl)) ?_
         try go_wp2
         go_meet
         case rel=>exact ⟨_,(true),(by first|rfl|(simp;done)|(simp [*];done)),H',⟨by have:=HJ2.out;have:=HK2.out;have:=HK3.out;first|omega|exact Nat.le_refl _⟩,⟨by (with_reducible repeat (first|apply Kd.R_alloc|apply Kd.R_drewN|apply Kd.R_drew));exact HO734.out⟩,⟨by (with_reducible repeat (first|refine bN ?_ _|refine bD ?_|refine bA ?_ _));exact BK717.out⟩,⟨by repeat (first|(with_reducible first|exact HB.out|apply bL|apply pN|apply bE|refine bS ?_ GE717.out)|exact HB.out)⟩⟩
        rw [if_neg c42] at H
        have c42b0 : decide ((wrap64 (x8_3 + 1)) < (t732.length : Int)) = false:=decide_eq_false c42
        clear c42
        by_cases c45 : 0 < (t732.length : Int)
        rotate_left
        ·rw [if_neg c45] at H
         exact absurd H (by simp)
        rw [if_pos c45] at H
        have c45b0 : decide (0 < (t732.length : Int)) = true:=decide_eq_true c45
        have c45b1 : decide (0 < t732.length) = true:=decide_eq_true (by omega)
        clear c45
        by_cases c46 : (rdOf ByteArray.empty t732 0).toList = ((rd_T48 l0_11 x8_3).f0).toList
        rotate_left
        ·rw [if_neg c46] at H
         have c46b0 : ((rdOf ByteArray.empty t732 0).toList == ((rd_T48 l0_11 x8_3).f0).toList) = false:=beq_eq_false_iff_ne.mpr c46
         have c46b1 : ((rdOf ByteArray.empty t732 0).toList != ((rd_T48 l0_11 x8_3).f0).toList) = true:=bne_iff_ne.mpr c46
         have H':=Am H
         clear H
         try go_wp2
         have n0_:=Am (Kd.R_drew HO734.out)
         have n1_:=Am (bD BK717.out)
         have n2_:=Am (bE HB.out)
         clear HO734
         clear BK717
         clear HB
         have HO734:=n0_
         have BK717:=n1_
         have HB:=n2_
         clear n0_ n1_ n2_
         obtain ⟨Ao54,co54,eo54⟩:=Kd.R_slice HO734.out
         (first|subst eo54|(injection eo54 with f1_ f2_ f3_;have f4_:=f1_.symm;have f5_:=f3_.symm;clear f1_ f2_ f3_;subst f4_;subst f5_))
         have p735 : 0≤(0 : Int):=(by omega)
         have q735 : 0 < (t732.length : Int):=of_decide_eq_true (by first|(with_reducible assumption)|assumption)
         obtain ⟨ad735,e735,hx735_0⟩:=Kd.at_string (Kd.R_reads' HO734.out).2.2 0 p735 q735
         cases e735
         have qi735 : (0 < t732.length) = True:=eq_true (by omega)
         (try rw [show ((0 : Int)).toNat = 0 from rfl] at hx735_0)
         (try rw [Addr.add_zero'] at hx735_0)
         replace p735:=eq_true p735
         replace q735:=eq_true q735
         have p736 : 0≤(x8_3 : Int):=of_decide_eq_true (by first|(with_reducible assumption)|assumption)
         have q736 : x8_3 < (l0_11.length : Int):=of_decide_eq_true (by first|(with_reducible assumption)|assumption)
         obtain ⟨ad736,e736,hx736_0,hx736_1,hx736_2⟩:=at_T48 HR0_11.out x8_3 p736 q736
         have hw736_2:=hx736_2
         have hw736_1:=hx736_1
         have hw736_0:=hx736_0
         obtain rfl : ad731 = ad736:=(by injection e736)
         replace hx736_0:=(HB.out.cell (wB w _ hx736_0)).trans hx736_0
         replace hx736_1:=(HB.out.cell (wB w _ hx736_1)).trans hx736_1
         replace hx736_2:=(HB.out.cell (wB w _ hx736_2)).trans hx736_2
         replace p736:=eq_true p736
         replace q736:=eq_true q736
         refine start_ (n:=36) (S:=fun w'=>w'.cell? ⟨gb717,0,none⟩ = some (.int .i64 a0_0)∧w'.cell? ⟨gb717,1,none⟩ = some (.int .i64 a0_1)∧w'.cell? ⟨gb717,2,none⟩ = some (.int .i64 a0_2)∧w'.cell? ⟨gb717,3,none⟩ = some (.int .i64 a0_3)∧w'.cell? ⟨gb717,4,none⟩ = some (.int .i64 a0_4)∧w'.cell? ⟨gb717,5,none⟩ = some (.int .i64 a0_5)∧w'.cell? ⟨gb717,6,none⟩ = some (.int .i64 a0_6)∧w'.cell? ⟨gb717,7,none⟩ = some (.int .i64 a0_7)∧w'.cell? ⟨gb717,8,none⟩ = some (.int .i64 a0_8)∧w'.cell? ⟨gb717,9,none⟩ = some (.slice A0_9 l0_9.length c0_9)∧w'.cell? ⟨gb717,10,none⟩ = some (.slice A0_10 l0_10.length c0_10)∧w'.cell? ⟨gb717,11,none⟩ = some (.slice (some ad731) l0_11.length c0_11)∧w'.cell? ad735 = some (.string (rdOf ByteArray.empty t732 0))∧w'.cell? (ad731.add ((x8_3).toNat * 3)) = some (.string ((rd_T48 l0_11 x8_3).f0))∧w'.cell? ⟨(ad731.add ((x8_3).toNat * 3)).block,(ad731.add ((x8_3).toNat * 3)).off + 1,none⟩ = some (.string ((rd_T48 l0_11 x8_3).f1))∧w'.cell? ⟨(ad731.add ((x8_3).toNat * 3)).block,(ad731.add ((x8_3).toNat * 3)).off + 2,none⟩ = some (.int .i64 ((rd_T48 l0_11 x8_3).f2))) (ds:=[]) #[Ff,Ff,Ff,Ff,Ff,Ff,Ff,Ff,Ff,Ff,Ff,Ff,Ff,Ff,Ff,Ff,Ff,Ff,Ff,Ff,Ff,Ff,Ff,Ff,Ff,Ff,Ff,Ff,Ff,Ff,Ff,Ff,Ff,Ff,Ff,Ff] (by kernel_rfl) rfl rfl ⟨(bC BK717.out 0).trans rfl,(bC BK717.out 1).trans rfl,(bC BK717.out 2).trans rfl,(bC BK717.out 3).trans rfl,(bC BK717.out 4).trans rfl,(bC BK717.out 5).trans rfl,(bC BK717.out 6).trans rfl,(bC BK717.out 7).trans rfl,(bC BK717.out 8).trans rfl,(bC BK717.out 9).trans rfl,(bC BK717.out 10).trans rfl,(bC BK717.out 11).trans rfl,hx735_0,((HB.out.cell (wB w _ hw736_0)).trans hw736_0),((HB.out.cell (wB w _ hw736_1)).trans hw736_1),((HB.out.cell (wB w _ hw736_2)).trans hw736_2)⟩ (fun hHeld=>?_);refine with_tabW gangerlaw10_ConfPaths.tab18 gangerlaw10_ConfPaths.bits18 (fun HT_ HW_=>?_)
         generalize w38.drew = w53 at HO734 BK717 HB hx735_0 hx736_0 hx736_1 hx736_2 hHeld ⊢
         refine pure_ (i:=0) (N:=some 68) (v:=?_) (a':=?_) #[Tt,Ff,Ff,Ff,Ff,Ff,Ff,Ff,Ff,Ff,Ff,Ff,Ff,Ff,Ff,Ff,Ff,Ff,Ff,Ff,Ff,Ff,Ff,Ff,Ff,Ff,Ff,Ff,Ff,Ff,Ff,Ff,Ff,Ff,Ff,Ff] rfl rfl (any_of HT_.out (by kernel_rfl)) (fun _ _ _ h=>h) (Or.inl ⟨by rfl,?_⟩) ?_ ?_
         rotate_left
         ·intro w'
          go_simp
          with_reducible rfl
         rotate_left
         ·simp only [Act.put,sT,sZ,sS,iW,iV]
          rfl
         refine pure_ (i:=1) (N:=some 69) (v:=?_) (a':=?_) #[Tt,Tt,Ff,Ff,Ff,Ff,Ff,Ff,Ff,Ff,Ff,Ff,Ff,Ff,Ff,Ff,Ff,Ff,Ff,Ff,Ff,Ff,Ff,Ff,Ff,Ff,Ff,Ff,Ff,Ff,Ff,Ff,Ff,Ff,Ff,Ff] rfl rfl (any_of HT_.out (by kernel_rfl)) (fun _ _ _ h=>h) (Or.inl ⟨by rfl,?_⟩) ?_ ?_
         rotate_left
         ·intro w'
          go_simp
          with_reducible rfl
         rotate_left
         ·simp only [Act.put,sT,sZ,sS,iW,iV]
          rfl
         refine pure_ (i:=2) (N:=some 70) (v:=?_) (a':=?_) #[Tt,Tt,Tt,Ff,Ff,Ff,Ff,Ff,Ff,Ff,Ff,Ff,Ff,Ff,Ff,Ff,Ff,Ff,Ff,Ff,Ff,Ff,Ff,Ff,Ff,Ff,Ff,Ff,Ff,Ff,Ff,Ff,Ff,Ff,Ff,Ff] rfl rfl (any_of HT_.out (by kernel_rfl)) (fun _ _ _ h=>h) (Or.inl ⟨by rfl,?_⟩) ?_ ?_
         rotate_left
         ·intro w'
          go_simp
          with_reducible rfl
         rotate_left
         ·simp only [Act.put,sT,sZ,sS,iW,iV]
          rfl
         refine pure_ (i:=3) (N:=some 71) (v:=?_) (a':=?_) #[Tt,Tt,Tt,Tt,Ff,Ff,Ff,Ff,Ff,Ff,Ff,Ff,Ff,Ff,Ff,Ff,Ff,Ff,Ff,Ff,Ff,Ff,Ff,Ff,Ff,Ff,Ff,Ff,Ff,Ff,Ff,Ff,Ff,Ff,Ff,Ff] rfl rfl (any_of HT_.out (by kernel_rfl)) (fun _ _ _ h=>h) (Or.inl ⟨by rfl,?_⟩) ?_ ?_
         rotate_left
         ·intro w'
          go_simp
          with_reducible rfl
         rotate_left
         ·simp only [Act.put,sT,sZ,sS,iW,iV]
          rfl
         refine pure_ (i:=4) (N:=some 72) (v:=?_) (a':=?_) #[Tt,Tt,Tt,Tt,Tt,Ff,Ff,Ff,Ff,Ff,Ff,Ff,Ff,Ff,Ff,Ff,Ff,Ff,Ff,Ff,Ff,Ff,Ff,Ff,Ff,Ff,Ff,Ff,Ff,Ff,Ff,Ff,Ff,Ff,Ff,Ff] rfl rfl (any_of HT_.out (by kernel_rfl)) (fun _ _ _ h=>h) (Or.inl ⟨by rfl,?_⟩) ?_ ?_
         rotate_left
         ·intro w'
          go_simp
          with_reducible rfl
         rotate_left
         ·simp only [Act.put,sT,sZ,sS,iW,iV]
          rfl
         refine pure_ (i:=5) (N:=some 73) (v:=?_) (a':=?_) #[Tt,Tt,Tt,Tt,Tt,Tt,Ff,Ff,Ff,Ff,Ff,Ff,Ff,Ff,Ff,Ff,Ff,Ff,Ff,Ff,Ff,Ff,Ff,Ff,Ff,Ff,Ff,Ff,Ff,Ff,Ff,Ff,Ff,Ff,Ff,Ff] rfl rfl (any_of HT_.out (by kernel_rfl)) (fun _ _ _ h=>h) (Or.inl ⟨by rfl,?_⟩) ?_ ?_
         rotate_left
         ·intro w'
          go_simp
          with_reducible rfl
         rotate_left
         ·simp only [Act.put,sT,sZ,sS,iW,iV]
          rfl
         refine pure_ (i:=6) (N:=some 74) (v:=?_) (a':=?_) #[Tt,Tt,Tt,Tt,Tt,Tt,Tt,Ff,Ff,Ff,Ff,Ff,Ff,Ff,Ff,Ff,Ff,Ff,Ff,Ff,Ff,Ff,Ff,Ff,Ff,Ff,Ff,Ff,Ff,Ff,Ff,Ff,Ff,Ff,Ff,Ff] rfl rfl (any_of HT_.out (by kernel_rfl)) (fun _ _ _ h=>h) (Or.inl ⟨by rfl,?_⟩) ?_ ?_
         rotate_left
         ·intro w'
          go_simp
          with_reducible rfl
         rotate_left
         ·simp only [Act.put,sT,sZ,sS,iW,iV]
          rfl
         refine pure_ (i:=7) (N:=some 75) (v:=?_) (a':=?_) #[Tt,Tt,Tt,Tt,Tt,Tt,Tt,Tt,Ff,Ff,Ff,Ff,Ff,Ff,Ff,Ff,Ff,Ff,Ff,Ff,Ff,Ff,Ff,Ff,Ff,Ff,Ff,Ff,Ff,Ff,Ff,Ff,Ff,Ff,Ff,Ff] rfl rfl (any_of HT_.out (by kernel_rfl)) (fun _ _ _ h=>h) (Or.inl ⟨by rfl,?_⟩) ?_ ?_
         rotate_left
         ·intro w'
          go_simp
          with_reducible rfl
         rotate_left
         ·simp only [Act.put,sT,sZ,sS,iW,iV]
          rfl
         refine pure_ (i:=8) (N:=some 76) (v:=?_) (a':=?_) #[Tt,Tt,Tt,Tt,Tt,Tt,Tt,Tt,Tt,Ff,Ff,Ff,Ff,Ff,Ff,Ff,Ff,Ff,Ff,Ff,Ff,Ff,Ff,Ff,Ff,Ff,Ff,Ff,Ff,Ff,Ff,Ff,Ff,Ff,Ff,Ff] rfl rfl (any_of HT_.out (by kernel_rfl)) (fun _ _ _ h=>h) (Or.inl ⟨by rfl,?_⟩) ?_ ?_
         rotate_left
         ·intro w'
          go_simp
          with_reducible rfl
         rotate_left
         ·simp only [Act.put,sT,sZ,sS,iW,iV]
          rfl
         refine pure_ (i:=9) (N:=some 77) (v:=?_) (a':=?_) #[Tt,Tt,Tt,Tt,Tt,Tt,Tt,Tt,Tt,Tt,Ff,Ff,Ff,Ff,Ff,Ff,Ff,Ff,Ff,Ff,Ff,Ff,Ff,Ff,Ff,Ff,Ff,Ff,Ff,Ff,Ff,Ff,Ff,Ff,Ff,Ff] rfl rfl (any_of HT_.out (by kernel_rfl)) (fun _ _ _ h=>h) (Or.inl ⟨by rfl,?_⟩) ?_ ?_
         rotate_left
         ·intro w'
          go_simp
          with_reducible rfl
         rotate_left
         ·simp only [Act.put,sT,sZ,sS,iW,iV]
          rfl
         refine pure_ (i:=10) (N:=some 78) (v:=?_) (a':=?_) #[Tt,Tt,Tt,Tt,Tt,Tt,Tt,Tt,Tt,Tt,Tt,Ff,Ff,Ff,Ff,Ff,Ff,Ff,Ff,Ff,Ff,Ff,Ff,Ff,Ff,Ff,Ff,Ff,Ff,Ff,Ff,Ff,Ff,Ff,Ff,Ff] rfl rfl (any_of HT_.out (by kernel_rfl)) (fun _ _ _ h=>h) (Or.inl ⟨by rfl,?_⟩) ?_ ?_
         rotate_left
         ·intro w'
          go_simp
          with_reducible rfl
         rotate_left
         ·simp only [Act.put,sT,sZ,sS,iW,iV]
          rfl
         refine pure_ (i:=11) (N:=some 79) (v:=?_) (a':=?_) #[Tt,Tt,Tt,Tt,Tt,Tt,Tt,Tt,Tt,Tt,Tt,Tt,Ff,Ff,Ff,Ff,Ff,Ff,Ff,Ff,Ff,Ff,Ff,Ff,Ff,Ff,Ff,Ff,Ff,Ff,Ff,Ff,Ff,Ff,Ff,Ff] rfl rfl (any_of HT_.out (by kernel_rfl)) (fun _ _ _ h=>h) (Or.inl ⟨by rfl,?_⟩) ?_ ?_
         rotate_left
         ·intro w'
          go_simp
          with_reducible rfl
         rotate_left
         ·simp only [Act.put,sT,sZ,sS,iW,iV]
          rfl
         refine pure_ (i:=12) (N:=some 80) (v:=?_) (a':=?_) #[Tt,Tt,Tt,Tt,Tt,Tt,Tt,Tt,Tt,Tt,Tt,Tt,Tt,Ff,Ff,Ff,Ff,Ff,Ff,Ff,Ff,Ff,Ff,Ff,Ff,Ff,Ff,Ff,Ff,Ff,Ff,Ff,Ff,Ff,Ff,Ff] rfl rfl (any_of HT_.out (by kernel_rfl)) (fun _ _ _ h=>h) (Or.inl ⟨by rfl,?_⟩) ?_ ?_
         rotate_left
         ·intro w'
          go_simp
          with_reducible rfl
         rotate_left
         ·simp only [Act.put,sT,sZ,sS,iW,iV]
          rfl
         refine pure_ (i:=14) (N:=some 82) (v:=?_) (a':=?_) #[Tt,Tt,Tt,Tt,Tt,Tt,Tt,Tt,Tt,Tt,Tt,Tt,Tt,Ff,Tt,Ff,Ff,Ff,Ff,Ff,Ff,Ff,Ff,Ff,Ff,Ff,Ff,Ff,Ff,Ff,Ff,Ff,Ff,Ff,Ff,Ff] rfl rfl (any_of HT_.out (by kernel_rfl)) (fun _ _ _ h=>h) (Or.inl ⟨by rfl,?_⟩) ?_ ?_
         rotate_left
         ·intro w'
          go_simp
          with_reducible rfl
         rotate_left
         ·simp only [Act.put,sT,sZ,sS,iW,iV]
          rfl
         refine pure_ (i:=16) (N:=some 84) (v:=?_) (a':=?_) #[Tt,Tt,Tt,Tt,Tt,Tt,Tt,Tt,Tt,Tt,Tt,Tt,Tt,Ff,Tt,Ff,Tt,Ff,Ff,Ff,Ff,Ff,Ff,Ff,Ff,Ff,Ff,Ff,Ff,Ff,Ff,Ff,Ff,Ff,Ff,Ff] rfl rfl (any_of HT_.out (by kernel_rfl)) (fun _ _ _ h=>h) (Or.inl ⟨by rfl,?_⟩) ?_ ?_
         rotate_left
         ·intro w'
          go_simp
          with_reducible rfl
         rotate_left
         ·simp only [Act.put,sT,sZ,sS,iW,iV]
          rfl
         refine take_ (i:=13) (N:=some 81) (v:=?_) (a':=?_) #[Tt,Tt,Tt,Tt,Tt,Tt,Tt,Tt,Tt,Tt,Tt,Tt,Tt,Tt,Tt,Ff,Tt,Ff,Ff,Ff,Ff,Ff,Ff,Ff,Ff,Ff,Ff,Ff,Ff,Ff,Ff,Ff,Ff,Ff,Ff,Ff] rfl rfl (take_ofW HT_.out HW_.out (by kernel_rfl)) (fun _ _ _ h=>h) (Or.inl ⟨by rfl,?_⟩) hHeld ?_ ?_
         rotate_left
         ·rintro w' ⟨s0,s1,s2,s3,s4,s5,s6,s7,s8,s9,s10,s11,s12,s13,s14,s15⟩
          go_simp
          with_reducible rfl
         rotate_left
         ·simp only [Act.put,sT,sZ,sS,iW,iV]
          rfl
         refine take_ (i:=15) (N:=some 83) (v:=?_) (a':=?_) #[Tt,Tt,Tt,Tt,Tt,Tt,Tt,Tt,Tt,Tt,Tt,Tt,Tt,Tt,Tt,Tt,Tt,Ff,Ff,Ff,Ff,Ff,Ff,Ff,Ff,Ff,Ff,Ff,Ff,Ff,Ff,Ff,Ff,Ff,Ff,Ff] rfl rfl (take_ofW HT_.out HW_.out (by kernel_rfl)) (fun _ _ _ h=>h) (Or.inl ⟨by rfl,?_⟩) hHeld ?_ ?_
         rotate_left
         ·rintro w' ⟨s0,s1,s2,s3,s4,s5,s6,s7,s8,s9,s10,s11,s12,s13,s14,s15⟩
          go_simp
          with_reducible rfl
         rotate_left
         ·simp only [Act.put,sT,sZ,sS,iW,iV]
          rfl
         refine pure_ (i:=17) (N:=some 85) (v:=?_) (a':=?_) #[Tt,Tt,Tt,Tt,Tt,Tt,Tt,Tt,Tt,Tt,Tt,Tt,Tt,Tt,Tt,Tt,Tt,Tt,Ff,Ff,Ff,Ff,Ff,Ff,Ff,Ff,Ff,Ff,Ff,Ff,Ff,Ff,Ff,Ff,Ff,Ff] rfl rfl (any_of HT_.out (by kernel_rfl)) (fun _ _ _ h=>h) (Or.inl ⟨by rfl,?_⟩) ?_ ?_
         rotate_left
         ·intro w'
          go_simp
          with_reducible rfl
         rotate_left
         ·simp only [Act.put,sT,sZ,sS,iW,iV]
          rfl
         refine pure_ (i:=18) (N:=some 86) (v:=?_) (a':=?_) #[Tt,Tt,Tt,Tt,Tt,Tt,Tt,Tt,Tt,Tt,Tt,Tt,Tt,Tt,Tt,Tt,Tt,Tt,Tt,Ff,Ff,Ff,Ff,Ff,Ff,Ff,Ff,Ff,Ff,Ff,Ff,Ff,Ff,Ff,Ff,Ff] rfl rfl (any_of HT_.out (by kernel_rfl)) (fun _ _ _ h=>h) (Or.inl ⟨by rfl,?_⟩) ?_ ?_
         rotate_left
         ·intro w'
          go_simp
          with_reducible rfl
         rotate_left
         ·simp only [Act.put,sT,sZ,sS,iW,iV]
          rfl
         refine take_ (i:=19) (N:=some 87) (v:=?_) (a':=?_) #[Tt,Tt,Tt,Tt,Tt,Tt,Tt,Tt,Tt,Tt,Tt,Tt,Tt,Tt,Tt,Tt,Tt,Tt,Tt,Tt,Ff,Ff,Ff,Ff,Ff,Ff,Ff,Ff,Ff,Ff,Ff,Ff,Ff,Ff,Ff,Ff] rfl rfl (take_ofW HT_.out HW_.out (by kernel_rfl)) (fun _ _ _ h=>h) (Or.inl ⟨by rfl,?_⟩) hHeld ?_ ?_
         rotate_left
         ·rintro w' ⟨s0,s1,s2,s3,s4,s5,s6,s7,s8,s9,s10,s11,s12,s13,s14,s15⟩
          go_simp
          with_reducible rfl
         rotate_left
         ·simp only [Act.put,sT,sZ,sS,iW,iV]
          rfl
         refine pure_ (i:=20) (N:=some 88) (v:=?_) (a':=?_) #[Tt,Tt,Tt,Tt,Tt,Tt,Tt,Tt,Tt,Tt,Tt,Tt,Tt,Tt,Tt,Tt,Tt,Tt,Tt,Tt,Tt,Ff,Ff,Ff,Ff,Ff,Ff,Ff,Ff,Ff,Ff,Ff,Ff,Ff,Ff,Ff] rfl rfl (any_of HT_.out (by kernel_rfl)) (fun _ _ _ h=>h) (Or.inl ⟨by rfl,?_⟩) ?_ ?_
         rotate_left
         ·intro w'
          go_simp
          with_reducible rfl
         rotate_left
         ·simp only [Act.put,sT,sZ,sS,iW,iV]
          rfl
         refine pure_ (i:=21) (N:=some 89) (v:=?_) (a':=?_) #[Tt,Tt,Tt,Tt,Tt,Tt,Tt,Tt,Tt,Tt,Tt,Tt,Tt,Tt,Tt,Tt,Tt,Tt,Tt,Tt,Tt,Tt,Ff,Ff,Ff,Ff,Ff,Ff,Ff,Ff,Ff,Ff,Ff,Ff,Ff,Ff] rfl rfl (any_of HT_.out (by kernel_rfl)) (fun _ _ _ h=>h) (Or.inl ⟨by rfl,?_⟩) ?_ ?_
         rotate_left
         ·intro w'
          go_simp
          with_reducible rfl
         rotate_left
         ·simp only [Act.put,sT,sZ,sS,iW,iV]
          rfl
         refine pure_ (i:=22) (N:=some 90) (v:=?_) (a':=?_) #[Tt,Tt,Tt,Tt,Tt,Tt,Tt,Tt,Tt,Tt,Tt,Tt,Tt,Tt,Tt,Tt,Tt,Tt,Tt,Tt,Tt,Tt,Tt,Ff,Ff,Ff,Ff,Ff,Ff,Ff,Ff,Ff,Ff,Ff,Ff,Ff] rfl rfl (any_of HT_.out (by kernel_rfl)) (fun _ _ _ h=>h) (Or.inl ⟨by rfl,?_⟩) ?_ ?_
         rotate_left
         ·intro w'
          go_simp
          with_reducible rfl
         rotate_left
         ·simp only [Act.put,sT,sZ,sS,iW,iV]
          rfl
         refine pure_ (i:=23) (N:=some 91) (v:=undef) (a':=?_) #[Tt,Tt,Tt,Tt,Tt,Tt,Tt,Tt,Tt,Tt,Tt,Tt,Tt,Tt,Tt,Tt,Tt,Tt,Tt,Tt,Tt,Tt,Tt,Tt,Ff,Ff,Ff,Ff,Ff,Ff,Ff,Ff,Ff,Ff,Ff,Ff] rfl rfl (any_of HT_.out (by kernel_rfl)) (fun _ _ _ h=>h) (Or.inr ⟨by rfl,rfl⟩) ?_ ?_
         rotate_left
         ·simp only [Act.put,sT,sZ,sS,iW,iV]
          rfl
         refine pure_ (i:=24) (N:=some 92) (v:=undef) (a':=?_) #[Tt,Tt,Tt,Tt,Tt,Tt,Tt,Tt,Tt,Tt,Tt,Tt,Tt,Tt,Tt,Tt,Tt,Tt,Tt,Tt,Tt,Tt,Tt,Tt,Tt,Ff,Ff,Ff,Ff,Ff,Ff,Ff,Ff,Ff,Ff,Ff] rfl rfl (any_of HT_.out (by kernel_rfl)) (fun _ _ _ h=>h) (Or.inr ⟨by rfl,rfl⟩) ?_ ?_
         rotate_left
         ·simp only [Act.put,sT,sZ,sS,iW,iV]
          rfl
         refine pure_ (i:=25) (N:=some 93) (v:=undef) (a':=?_) #[Tt,Tt,Tt,Tt,Tt,Tt,Tt,Tt,Tt,Tt,Tt,Tt,Tt,Tt,Tt,Tt,Tt,Tt,Tt,Tt,Tt,Tt,Tt,Tt,Tt,Tt,Ff,Ff,Ff,Ff,Ff,Ff,Ff,Ff,Ff,Ff] rfl rfl (any_of HT_.out (by kernel_rfl)) (fun _ _ _ h=>h) (Or.inr ⟨by rfl,rfl⟩) ?_ ?_
         rotate_left
         ·simp only [Act.put,sT,sZ,sS,iW,iV]
          rfl
         refine pure_ (i:=26) (N:=some 94) (v:=undef) (a':=?_) #[Tt,Tt,Tt,Tt,Tt,Tt,Tt,Tt,Tt,Tt,Tt,Tt,Tt,Tt,Tt,Tt,Tt,Tt,Tt,Tt,Tt,Tt,Tt,Tt,Tt,Tt,Tt,Ff,Ff,Ff,Ff,Ff,Ff,Ff,Ff,Ff] rfl rfl (any_of HT_.out (by kernel_rfl)) (fun _ _ _ h=>h) (Or.inr ⟨by rfl,rfl⟩) ?_ ?_
         rotate_left
         ·simp only [Act.put,sT,sZ,sS,iW,iV]
          rfl
         refine pure_ (i:=27) (N:=some 95) (v:=undef) (a':=?_) #[Tt,Tt,Tt,Tt,Tt,Tt,Tt,Tt,Tt,Tt,Tt,Tt,Tt,Tt,Tt,Tt,Tt,Tt,Tt,Tt,Tt,Tt,Tt,Tt,Tt,Tt,Tt,Tt,Ff,Ff,Ff,Ff,Ff,Ff,Ff,Ff] rfl rfl (any_of HT_.out (by kernel_rfl)) (fun _ _ _ h=>h) (Or.inr ⟨by rfl,rfl⟩) ?_ ?_
         rotate_left
         ·simp only [Act.put,sT,sZ,sS,iW,iV]
          rfl
         refine pure_ (i:=28) (N:=some 96) (v:=undef) (a':=?_) #[Tt,Tt,Tt,Tt,Tt,Tt,Tt,Tt,Tt,Tt,Tt,Tt,Tt,Tt,Tt,Tt,Tt,Tt,Tt,Tt,Tt,Tt,Tt,Tt,Tt,Tt,Tt,Tt,Tt,Ff,Ff,Ff,Ff,Ff,Ff,Ff] rfl rfl (any_of HT_.out (by kernel_rfl)) (fun _ _ _ h=>h) (Or.inr ⟨by rfl,rfl⟩) ?_ ?_
         rotate_left
         ·simp only [Act.put,sT,sZ,sS,iW,iV]
          rfl
         refine pure_ (i:=29) (N:=some 97) (v:=undef) (a':=?_) #[Tt,Tt,Tt,Tt,Tt,Tt,Tt,Tt,Tt,Tt,Tt,Tt,Tt,Tt,Tt,Tt,Tt,Tt,Tt,Tt,Tt,Tt,Tt,Tt,Tt,Tt,Tt,Tt,Tt,Tt,Ff,Ff,Ff,Ff,Ff,Ff] rfl rfl (any_of HT_.out (by kernel_rfl)) (fun _ _ _ h=>h) (Or.inr ⟨by rfl,rfl⟩) ?_ ?_
         rotate_left
         ·simp only [Act.put,sT,sZ,sS,iW,iV]
          rfl
         refine pure_ (i:=30) (N:=some 98) (v:=undef) (a':=?_) #[Tt,Tt,Tt,Tt,Tt,Tt,Tt,Tt,Tt,Tt,Tt,Tt,Tt,Tt,Tt,Tt,Tt,Tt,Tt,Tt,Tt,Tt,Tt,Tt,Tt,Tt,Tt,Tt,Tt,Tt,Tt,Ff,Ff,Ff,Ff,Ff] rfl rfl (any_of HT_.out (by kernel_rfl)) (fun _ _ _ h=>h) (Or.inr ⟨by rfl,rfl⟩) ?_ ?_
         rotate_left
         ·simp only [Act.put,sT,sZ,sS,iW,iV]
          rfl
         refine pure_ (i:=31) (N:=some 99) (v:=undef) (a':=?_) #[Tt,Tt,Tt,Tt,Tt,Tt,Tt,Tt,Tt,Tt,Tt,Tt,Tt,Tt,Tt,Tt,Tt,Tt,Tt,Tt,Tt,Tt,Tt,Tt,Tt,Tt,Tt,Tt,Tt,Tt,Tt,Tt,Ff,Ff,Ff,Ff] rfl rfl (any_of HT_.out (by kernel_rfl)) (fun _ _ _ h=>h) (Or.inr ⟨by rfl,rfl⟩) ?_ ?_
         rotate_left
         ·simp only [Act.put,sT,sZ,sS,iW,iV]
          rfl
         refine pure_ (i:=32) (N:=some 100) (v:=undef) (a':=?_) #[Tt,Tt,Tt,Tt,Tt,Tt,Tt,Tt,Tt,Tt,Tt,Tt,Tt,Tt,Tt,Tt,Tt,Tt,Tt,Tt,Tt,Tt,Tt,Tt,Tt,Tt,Tt,Tt,Tt,Tt,Tt,Tt,Tt,Ff,Ff,Ff] rfl rfl (any_of HT_.out (by kernel_rfl)) (fun _ _ _ h=>h) (Or.inr ⟨by rfl,rfl⟩) ?_ ?_
         rotate_left
         ·simp only [Act.put,sT,sZ,sS,iW,iV]
          rfl
         refine pure_ (i:=33) (N:=some 101) (v:=undef) (a':=?_) #[Tt,Tt,Tt,Tt,Tt,Tt,Tt,Tt,Tt,Tt,Tt,Tt,Tt,Tt,Tt,Tt,Tt,Tt,Tt,Tt,Tt,Tt,Tt,Tt,Tt,Tt,Tt,Tt,Tt,Tt,Tt,Tt,Tt,Tt,Ff,Ff] rfl rfl (any_of HT_.out (by kernel_rfl)) (fun _ _ _ h=>h) (Or.inr ⟨by rfl,rfl⟩) ?_ ?_
         rotate_left
         ·simp only [Act.put,sT,sZ,sS,iW,iV]
          rfl
         refine pure_ (i:=34) (N:=some 102) (v:=undef) (a':=?_) #[Tt,Tt,Tt,Tt,Tt,Tt,Tt,Tt,Tt,Tt,Tt,Tt,Tt,Tt,Tt,Tt,Tt,Tt,Tt,Tt,Tt,Tt,Tt,Tt,Tt,Tt,Tt,Tt,Tt,Tt,Tt,Tt,Tt,Tt,Tt,Ff] rfl rfl (any_of HT_.out (by kernel_rfl)) (fun _ _ _ h=>h) (Or.inr ⟨by rfl,rfl⟩) ?_ ?_
         rotate_left
         ·simp only [Act.put,sT,sZ,sS,iW,iV]
          rfl
         refine pure_ (i:=35) (N:=some 103) (v:=?_) (a':=?_) #[Tt,Tt,Tt,Tt,Tt,Tt,Tt,Tt,Tt,Tt,Tt,Tt,Tt,Tt,Tt,Tt,Tt,Tt,Tt,Tt,Tt,Tt,Tt,Tt,Tt,Tt,Tt,Tt,Tt,Tt,Tt,Tt,Tt,Tt,Tt,Tt] rfl rfl (any_of HT_.out (by kernel_rfl)) (fun _ _ _ h=>h) (Or.inl ⟨by rfl,?_⟩) ?_ ?_
         rotate_left
         ·intro w'
          go_simp
          with_reducible rfl
         rotate_left
         ·simp only [Act.put,sT,sZ,sS,iW,iV]
          rfl
         refine done_ (done_of HT_.out (by kernel_rfl)) ?_
         try go_wp2
         go_meet
         case rel=>exact ⟨_,(true),(by first|rfl|(simp;done)|(simp [*];done)),H',⟨by have:=HJ2.out;have:=HK2.out;have:=HK3.out;first|omega|exact Nat.le_refl _⟩,⟨by (with_reducible repeat (first|apply Kd.R_alloc|apply Kd.R_drewN|apply Kd.R_drew));exact HO734.out⟩,⟨by (with_reducible repeat (first|refine bN ?_ _|refine bD ?_|refine bA ?_ _));exact BK717.out⟩,⟨by repeat (first|(with_reducible first|exact HB.out|apply bL|apply pN|apply bE|refine bS ?_ GE717.out)|exact HB.out)⟩⟩
        rw [if_pos c46] at H
        have c46b0 : ((rdOf ByteArray.empty t732 0).toList == ((rd_T48 l0_11 x8_3).f0).toList) = true:=beq_iff_eq.mpr c46
        have c46b1 : ((rdOf ByteArray.empty t732 0).toList != ((rd_T48 l0_11 x8_3).f0).toList) = false:=bne_eq_false_iff_eq.mpr c46
        clear c46
        obtain ⟨ji47,hji47⟩ : ∃ j_ : Int,(wrap64 ((t732.length : Int) - 1)) = j_:=⟨_,rfl⟩
        replace H : (if 0≤(ji47) then (if (ji47) < (t732.length : Int) then (if 0 < (l0_11.length : Int) then (gangerlaw10_ConfPaths.j3 k3 x8_3 t732 ((rdOf ByteArray.empty t732 (ji47)).toList != ((rd_T48 l0_11 0).f0).toList) a0_0 a0_1 a0_2 a0_3 a0_4 a0_5 a0_6 a0_7 a0_8 l0_9 l0_10 l0_11) else (none)) else (none)) else (none)) = some r:=by first|(rw [hji47] at H;exact H)|(simp only [hji47] at H ⊢;exact H)
        have hji47w : (IntKind.i64.wrap ((t732.length : Int) - 1)) = ji47:=(iW _).trans hji47
        by_cases c48 : 0≤(ji47)
        rotate_left
        ·rw [if_neg c48] at H
         exact absurd H (by simp)
        rw [if_pos c48] at H
        have c48b0 : decide (0≤(ji47)) = true:=decide_eq_true c48
        clear c48
        by_cases c49 : (ji47) < (t732.length : Int)
        rotate_left
        ·rw [if_neg c49] at H
         exact absurd H (by simp)
        rw [if_pos c49] at H
        have c49b0 : decide ((ji47) < (t732.length : Int)) = true:=decide_eq_true c49
        clear c49
        by_cases c50 : 0 < (l0_11.length : Int)
        rotate_left
        ·rw [if_neg c50] at H
         exact absurd H (by simp)
        rw [if_pos c50] at H
        have c50b0 : decide (0 < (l0_11.length : Int)) = true:=decide_eq_true c50
        have c50b1 : decide (0 < l0_11.length) = true:=decide_eq_true (by omega)
        clear c50
        have H':=Am H
        clear H
        try go_wp2
        have n0_:=Am (Kd.R_drew HO734.out)
        have n1_:=Am (bD BK717.out)
        have n2_:=Am (bE HB.out)
        clear HO734
        clear BK717
        clear HB
        have HO734:=n0_
        have BK717:=n1_
        have HB:=n2_
        clear n0_ n1_ n2_
        obtain ⟨Ao52,co52,eo52⟩:=Kd.R_slice HO734.out
        (first|subst eo52|(injection eo52 with f1_ f2_ f3_;have f4_:=f1_.symm;have f5_:=f3_.symm;clear f1_ f2_ f3_;subst f4_;subst f5_))
        have p735 : 0≤(0 : Int):=(by omega)
        have q735 : 0 < (t732.length : Int):=of_decide_eq_true (by first|(with_reducible assumption)|assumption)
        obtain ⟨ad735,e735,hx735_0⟩:=Kd.at_string (Kd.R_reads' HO734.out).2.2 0 p735 q735
        cases e735
        have qi735 : (0 < t732.length) = True:=eq_true (by omega)
        (try rw [show ((0 : Int)).toNat = 0 from rfl] at hx735_0)
        (try rw [Addr.add_zero'] at hx735_0)
        replace p735:=eq_true p735
        replace q735:=eq_true q735
        have p736 : 0≤(x8_3 : Int):=of_decide_eq_true (by first|(with_reducible assumption)|assumption)
        have q736 : x8_3 < (l0_11.length : Int):=of_decide_eq_true (by first|(with_reducible assumption)|assumption)
        obtain ⟨ad736,e736,hx736_0,hx736_1,hx736_2⟩:=at_T48 HR0_11.out x8_3 p736 q736
        have hw736_2:=hx736_2
        have hw736_1:=hx736_1
        have hw736_0:=hx736_0
        obtain rfl : ad731 = ad736:=(by injection e736)
        replace hx736_0:=(HB.out.cell (wB w _ hx736_0)).trans hx736_0
        replace hx736_1:=(HB.out.cell (wB w _ hx736_1)).trans hx736_1
        replace hx736_2:=(HB.out.cell (wB w _ hx736_2)).trans hx736_2
        replace p736:=eq_true p736
        replace q736:=eq_true q736
        have p737 : 0≤((ji47) : Int):=of_decide_eq_true (by first|(with_reducible assumption)|assumption)
        have q737 : (ji47) < (t732.length : Int):=of_decide_eq_true (by first|(with_reducible assumption)|assumption)
        obtain ⟨ad737,e737,hx737_0⟩:=Kd.at_string (Kd.R_reads' HO734.out).2.2 (ji47) p737 q737
        obtain rfl : ad735 = ad737:=(by injection e737)
        replace p737:=eq_true p737
        replace q737:=eq_true q737
        have p738 : 0≤(0 : Int):=(by omega)
        have q738 : 0 < (l0_11.length : Int):=of_decide_eq_true (by first|(with_reducible assumption)|assumption)
        obtain ⟨ad738,e738,hx738_0,hx738_1,hx738_2⟩:=at_T48 HR0_11.out 0 p738 q738
        have hw738_2:=hx738_2
        (try rw [show ((0 : Int)).toNat = 0 from rfl] at hw738_2)
        (try rw [show 0 * 3 = 0 from rfl] at hw738_2)
        (try rw [Addr.add_zero'] at hw738_2)
        have hw738_1:=hx738_1
        (try rw [show ((0 : Int)).toNat = 0 from rfl] at hw738_1)
        (try rw [show 0 * 3 = 0 from rfl] at hw738_1)
        (try rw [Addr.add_zero'] at hw738_1)
        have hw738_0:=hx738_0
        (try rw [show ((0 : Int)).toNat = 0 from rfl] at hw738_0)
        (try rw [show 0 * 3 = 0 from rfl] at hw738_0)
        (try rw [Addr.add_zero'] at hw738_0)
        obtain rfl : ad731 = ad738:=(by injection e738)
        have qi738 : (0 < l0_11.length) = True:=eq_true (by omega)
        (try rw [show ((0 : Int)).toNat = 0 from rfl] at hx738_0)
        (try rw [show 0 * 3 = 0 from rfl] at hx738_0)
        (try rw [Addr.add_zero'] at hx738_0)
        (try rw [show ((0 : Int)).toNat = 0 from rfl] at hx738_1)
        (try rw [show 0 * 3 = 0 from rfl] at hx738_1)
        (try rw [Addr.add_zero'] at hx738_1)
        (try rw [show ((0 : Int)).toNat = 0 from rfl] at hx738_2)
        (try rw [show 0 * 3 = 0 from rfl] at hx738_2)
        (try rw [Addr.add_zero'] at hx738_2)
        replace hx738_0:=(HB.out.cell (wB w _ hx738_0)).trans hx738_0
        replace hx738_1:=(HB.out.cell (wB w _ hx738_1)).trans hx738_1
        replace hx738_2:=(HB.out.cell (wB w _ hx738_2)).trans hx738_2
        replace p738:=eq_true p738
        replace q738:=eq_true q738
        refine start_ (n:=36) (S:=fun w'=>w'.cell? ⟨gb717,0,none⟩ = some (.int .i64 a0_0)∧w'.cell? ⟨gb717,1,none⟩ = some (.int .i64 a0_1)∧w'.cell? ⟨gb717,2,none⟩ = some (.int .i64 a0_2)∧w'.cell? ⟨gb717,3,none⟩ = some (.int .i64 a0_3)∧w'.cell? ⟨gb717,4,none⟩ = some (.int .i64 a0_4)∧w'.cell? ⟨gb717,5,none⟩ = some (.int .i64 a0_5)∧w'.cell? ⟨gb717,6,none⟩ = some (.int .i64 a0_6)∧w'.cell? ⟨gb717,7,none⟩ = some (.int .i64 a0_7)∧w'.cell? ⟨gb717,8,none⟩ = some (.int .i64 a0_8)∧w'.cell? ⟨gb717,9,none⟩ = some (.slice A0_9 l0_9.length c0_9)∧w'.cell? ⟨gb717,10,none⟩ = some (.slice A0_10 l0_10.length c0_10)∧w'.cell? ⟨gb717,11,none⟩ = some (.slice (some ad731) l0_11.length c0_11)∧w'.cell? ad735 = some (.string (rdOf ByteArray.empty t732 0))∧w'.cell? (ad731.add ((x8_3).toNat * 3)) = some (.string ((rd_T48 l0_11 x8_3).f0))∧w'.cell? ⟨(ad731.add ((x8_3).toNat * 3)).block,(ad731.add ((x8_3).toNat * 3)).off + 1,none⟩ = some (.string ((rd_T48 l0_11 x8_3).f1))∧w'.cell? ⟨(ad731.add ((x8_3).toNat * 3)).block,(ad731.add ((x8_3).toNat * 3)).off + 2,none⟩ = some (.int .i64 ((rd_T48 l0_11 x8_3).f2))∧w'.cell? (ad735.add ((ji47)).toNat) = some (.string (rdOf ByteArray.empty t732 (ji47)))∧w'.cell? ad731 = some (.string ((rd_T48 l0_11 0).f0))∧w'.cell? ⟨ad731.block,ad731.off + 1,none⟩ = some (.string ((rd_T48 l0_11 0).f1))∧w'.cell? ⟨ad731.block,ad731.off + 2,none⟩ = some (.int .i64 ((rd_T48 l0_11 0).f2))) (ds:=[]) #[Ff,Ff,Ff,Ff,Ff,Ff,Ff,Ff,Ff,Ff,Ff,Ff,Ff,Ff,Ff,Ff,Ff,Ff,Ff,Ff,Ff,Ff,Ff,Ff,Ff,Ff,Ff,Ff,Ff,Ff,Ff,Ff,Ff,Ff,Ff,Ff] (by kernel_rfl) rfl rfl ⟨(bC BK717.out 0).trans rfl,(bC BK717.out 1).trans rfl,(bC BK717.out 2).trans rfl,(bC BK717.out 3).trans rfl,(bC BK717.out 4).trans rfl,(bC BK717.out 5).trans rfl,(bC BK717.out 6).trans rfl,(bC BK717.out 7).trans rfl,(bC BK717.out 8).trans rfl,(bC BK717.out 9).trans rfl,(bC BK717.out 10).trans rfl,(bC BK717.out 11).trans rfl,hx735_0,((HB.out.cell (wB w _ hw736_0)).trans hw736_0),((HB.out.cell (wB w _ hw736_1)).trans hw736_1),((HB.out.cell (wB w _ hw736_2)).trans hw736_2),hx737_0,((HB.out.cell (wB w _ hw738_0)).trans hw738_0),((HB.out.cell (wB w _ hw738_1)).trans hw738_1),((HB.out.cell (wB w _ hw738_2)).trans hw738_2)⟩ (fun hHeld=>?_);refine with_tabW gangerlaw10_ConfPaths.tab18 gangerlaw10_ConfPaths.bits18 (fun HT_ HW_=>?_)
        generalize w38.drew = w51 at HO734 BK717 HB hx735_0 hx736_0 hx736_1 hx736_2 hx737_0 hx738_0 hx738_1 hx738_2 hHeld ⊢
        refine pure_ (i:=0) (N:=some 68) (v:=?_) (a':=?_) #[Tt,Ff,Ff,Ff,Ff,Ff,Ff,Ff,Ff,Ff,Ff,Ff,Ff,Ff,Ff,Ff,Ff,Ff,Ff,Ff,Ff,Ff,Ff,Ff,Ff,Ff,Ff,Ff,Ff,Ff,Ff,Ff,Ff,Ff,Ff,Ff] rfl rfl (any_of HT_.out (by kernel_rfl)) (fun _ _ _ h=>h) (Or.inl ⟨by rfl,?_⟩) ?_ ?_
        rotate_left
        ·intro w'
         go_simp
         with_reducible rfl
        rotate_left
        ·simp only [Act.put,sT,sZ,sS,iW,iV]
         rfl
        refine pure_ (i:=1) (N:=some 69) (v:=?_) (a':=?_) #[Tt,Tt,Ff,Ff,Ff,Ff,Ff,Ff,Ff,Ff,Ff,Ff,Ff,Ff,Ff,Ff,Ff,Ff,Ff,Ff,Ff,Ff,Ff,Ff,Ff,Ff,Ff,Ff,Ff,Ff,Ff,Ff,Ff,Ff,Ff,Ff] rfl rfl (any_of HT_.out (by kernel_rfl)) (fun _ _ _ h=>h) (Or.inl ⟨by rfl,?_⟩) ?_ ?_
        rotate_left
        ·intro w'
         go_simp
         with_reducible rfl
        rotate_left
        ·simp only [Act.put,sT,sZ,sS,iW,iV]
         rfl
        refine pure_ (i:=2) (N:=some 70) (v:=?_) (a':=?_) #[Tt,Tt,Tt,Ff,Ff,Ff,Ff,Ff,Ff,Ff,Ff,Ff,Ff,Ff,Ff,Ff,Ff,Ff,Ff,Ff,Ff,Ff,Ff,Ff,Ff,Ff,Ff,Ff,Ff,Ff,Ff,Ff,Ff,Ff,Ff,Ff] rfl rfl (any_of HT_.out (by kernel_rfl)) (fun _ _ _ h=>h) (Or.inl ⟨by rfl,?_⟩) ?_ ?_
        rotate_left
        ·intro w'
         go_simp
         with_reducible rfl
        rotate_left
        ·simp only [Act.put,sT,sZ,sS,iW,iV]
         rfl
        refine pure_ (i:=3) (N:=some 71) (v:=?_) (a':=?_) #[Tt,Tt,Tt,Tt,Ff,Ff,Ff,Ff,Ff,Ff,Ff,Ff,Ff,Ff,Ff,Ff,Ff,Ff,Ff,Ff,Ff,Ff,Ff,Ff,Ff,Ff,Ff,Ff,Ff,Ff,Ff,Ff,Ff,Ff,Ff,Ff] rfl rfl (any_of HT_.out (by kernel_rfl)) (fun _ _ _ h=>h) (Or.inl ⟨by rfl,?_⟩) ?_ ?_
        rotate_left
        ·intro w'
         go_simp
         with_reducible rfl
        rotate_left
        ·simp only [Act.put,sT,sZ,sS,iW,iV]
         rfl
        refine pure_ (i:=4) (N:=some 72) (v:=?_) (a':=?_) #[Tt,Tt,Tt,Tt,Tt,Ff,Ff,Ff,Ff,Ff,Ff,Ff,Ff,Ff,Ff,Ff,Ff,Ff,Ff,Ff,Ff,Ff,Ff,Ff,Ff,Ff,Ff,Ff,Ff,Ff,Ff,Ff,Ff,Ff,Ff,Ff] rfl rfl (any_of HT_.out (by kernel_rfl)) (fun _ _ _ h=>h) (Or.inl ⟨by rfl,?_⟩) ?_ ?_
        rotate_left
        ·intro w'
         go_simp
         with_reducible rfl
        rotate_left
        ·simp only [Act.put,sT,sZ,sS,iW,iV]
         rfl
        refine pure_ (i:=5) (N:=some 73) (v:=?_) (a':=?_) #[Tt,Tt,Tt,Tt,Tt,Tt,Ff,Ff,Ff,Ff,Ff,Ff,Ff,Ff,Ff,Ff,Ff,Ff,Ff,Ff,Ff,Ff,Ff,Ff,Ff,Ff,Ff,Ff,Ff,Ff,Ff,Ff,Ff,Ff,Ff,Ff] rfl rfl (any_of HT_.out (by kernel_rfl)) (fun _ _ _ h=>h) (Or.inl ⟨by rfl,?_⟩) ?_ ?_
        rotate_left
        ·intro w'
         go_simp
         with_reducible rfl
        rotate_left
        ·simp only [Act.put,sT,sZ,sS,iW,iV]
         rfl
        refine pure_ (i:=6) (N:=some 74) (v:=?_) (a':=?_) #[Tt,Tt,Tt,Tt,Tt,Tt,Tt,Ff,Ff,Ff,Ff,Ff,Ff,Ff,Ff,Ff,Ff,Ff,Ff,Ff,Ff,Ff,Ff,Ff,Ff,Ff,Ff,Ff,Ff,Ff,Ff,Ff,Ff,Ff,Ff,Ff] rfl rfl (any_of HT_.out (by kernel_rfl)) (fun _ _ _ h=>h) (Or.inl ⟨by rfl,?_⟩) ?_ ?_
        rotate_left
        ·intro w'
         go_simp
         with_reducible rfl
        rotate_left
        ·simp only [Act.put,sT,sZ,sS,iW,iV]
         rfl
        refine pure_ (i:=7) (N:=some 75) (v:=?_) (a':=?_) #[Tt,Tt,Tt,Tt,Tt,Tt,Tt,Tt,Ff,Ff,Ff,Ff,Ff,Ff,Ff,Ff,Ff,Ff,Ff,Ff,Ff,Ff,Ff,Ff,Ff,Ff,Ff,Ff,Ff,Ff,Ff,Ff,Ff,Ff,Ff,Ff] rfl rfl (any_of HT_.out (by kernel_rfl)) (fun _ _ _ h=>h) (Or.inl ⟨by rfl,?_⟩) ?_ ?_
        rotate_left
        ·intro w'
         go_simp
         with_reducible rfl
        rotate_left
        ·simp only [Act.put,sT,sZ,sS,iW,iV]
         rfl
        refine pure_ (i:=8) (N:=some 76) (v:=?_) (a':=?_) #[Tt,Tt,Tt,Tt,Tt,Tt,Tt,Tt,Tt,Ff,Ff,Ff,Ff,Ff,Ff,Ff,Ff,Ff,Ff,Ff,Ff,Ff,Ff,Ff,Ff,Ff,Ff,Ff,Ff,Ff,Ff,Ff,Ff,Ff,Ff,Ff] rfl rfl (any_of HT_.out (by kernel_rfl)) (fun _ _ _ h=>h) (Or.inl ⟨by rfl,?_⟩) ?_ ?_
        rotate_left
        ·intro w'
         go_simp
         with_reducible rfl
        rotate_left
        ·simp only [Act.put,sT,sZ,sS,iW,iV]
         rfl
        refine pure_ (i:=9) (N:=some 77) (v:=?_) (a':=?_) #[Tt,Tt,Tt,Tt,Tt,Tt,Tt,Tt,Tt,Tt,Ff,Ff,Ff,Ff,Ff,Ff,Ff,Ff,Ff,Ff,Ff,Ff,Ff,Ff,Ff,Ff,Ff,Ff,Ff,Ff,Ff,Ff,Ff,Ff,Ff,Ff] rfl rfl (any_of HT_.out (by kernel_rfl)) (fun _ _ _ h=>h) (Or.inl ⟨by rfl,?_⟩) ?_ ?_
        rotate_left
        ·intro w'
         go_simp
         with_reducible rfl
        rotate_left
        ·simp only [Act.put,sT,sZ,sS,iW,iV]
         rfl
        refine pure_ (i:=10) (N:=some 78) (v:=?_) (a':=?_) #[Tt,Tt,Tt,Tt,Tt,Tt,Tt,Tt,Tt,Tt,Tt,Ff,Ff,Ff,Ff,Ff,Ff,Ff,Ff,Ff,Ff,Ff,Ff,Ff,Ff,Ff,Ff,Ff,Ff,Ff,Ff,Ff,Ff,Ff,Ff,Ff] rfl rfl (any_of HT_.out (by kernel_rfl)) (fun _ _ _ h=>h) (Or.inl ⟨by rfl,?_⟩) ?_ ?_
        rotate_left
        ·intro w'
         go_simp
         with_reducible rfl
        rotate_left
        ·simp only [Act.put,sT,sZ,sS,iW,iV]
         rfl
        refine pure_ (i:=11) (N:=some 79) (v:=?_) (a':=?_) #[Tt,Tt,Tt,Tt,Tt,Tt,Tt,Tt,Tt,Tt,Tt,Tt,Ff,Ff,Ff,Ff,Ff,Ff,Ff,Ff,Ff,Ff,Ff,Ff,Ff,Ff,Ff,Ff,Ff,Ff,Ff,Ff,Ff,Ff,Ff,Ff] rfl rfl (any_of HT_.out (by kernel_rfl)) (fun _ _ _ h=>h) (Or.inl ⟨by rfl,?_⟩) ?_ ?_
        rotate_left
        ·intro w'
         go_simp
         with_reducible rfl
        rotate_left
        ·simp only [Act.put,sT,sZ,sS,iW,iV]
         rfl
        refine pure_ (i:=12) (N:=some 80) (v:=?_) (a':=?_) #[Tt,Tt,Tt,Tt,Tt,Tt,Tt,Tt,Tt,Tt,Tt,Tt,Tt,Ff,Ff,Ff,Ff,Ff,Ff,Ff,Ff,Ff,Ff,Ff,Ff,Ff,Ff,Ff,Ff,Ff,Ff,Ff,Ff,Ff,Ff,Ff] rfl rfl (any_of HT_.out (by kernel_rfl)) (fun _ _ _ h=>h) (Or.inl ⟨by rfl,?_⟩) ?_ ?_
        rotate_left
        ·intro w'
         go_simp
         with_reducible rfl
        rotate_left
        ·simp only [Act.put,sT,sZ,sS,iW,iV]
         rfl
        refine pure_ (i:=14) (N:=some 82) (v:=?_) (a':=?_) #[Tt,Tt,Tt,Tt,Tt,Tt,Tt,Tt,Tt,Tt,Tt,Tt,Tt,Ff,Tt,Ff,Ff,Ff,Ff,Ff,Ff,Ff,Ff,Ff,Ff,Ff,Ff,Ff,Ff,Ff,Ff,Ff,Ff,Ff,Ff,Ff] rfl rfl (any_of HT_.out (by kernel_rfl)) (fun _ _ _ h=>h) (Or.inl ⟨by rfl,?_⟩) ?_ ?_
        rotate_left
        ·intro w'
         go_simp
         with_reducible rfl
        rotate_left
        ·simp only [Act.put,sT,sZ,sS,iW,iV]
         rfl
        refine pure_ (i:=16) (N:=some 84) (v:=?_) (a':=?_) #[Tt,Tt,Tt,Tt,Tt,Tt,Tt,Tt,Tt,Tt,Tt,Tt,Tt,Ff,Tt,Ff,Tt,Ff,Ff,Ff,Ff,Ff,Ff,Ff,Ff,Ff,Ff,Ff,Ff,Ff,Ff,Ff,Ff,Ff,Ff,Ff] rfl rfl (any_of HT_.out (by kernel_rfl)) (fun _ _ _ h=>h) (Or.inl ⟨by rfl,?_⟩) ?_ ?_
        rotate_left
        ·intro w'
         go_simp
         with_reducible rfl
        rotate_left
        ·simp only [Act.put,sT,sZ,sS,iW,iV]
         rfl
        refine take_ (i:=13) (N:=some 81) (v:=?_) (a':=?_) #[Tt,Tt,Tt,Tt,Tt,Tt,Tt,Tt,Tt,Tt,Tt,Tt,Tt,Tt,Tt,Ff,Tt,Ff,Ff,Ff,Ff,Ff,Ff,Ff,Ff,Ff,Ff,Ff,Ff,Ff,Ff,Ff,Ff,Ff,Ff,Ff] rfl rfl (take_ofW HT_.out HW_.out (by kernel_rfl)) (fun _ _ _ h=>h) (Or.inl ⟨by rfl,?_⟩) hHeld ?_ ?_
        rotate_left
        ·rintro w' ⟨s0,s1,s2,s3,s4,s5,s6,s7,s8,s9,s10,s11,s12,s13,s14,s15,s16,s17,s18,s19⟩
         go_simp
         with_reducible rfl
        rotate_left
        ·simp only [Act.put,sT,sZ,sS,iW,iV]
         rfl
        refine take_ (i:=15) (N:=some 83) (v:=?_) (a':=?_) #[Tt,Tt,Tt,Tt,Tt,Tt,Tt,Tt,Tt,Tt,Tt,Tt,Tt,Tt,Tt,Tt,Tt,Ff,Ff,Ff,Ff,Ff,Ff,Ff,Ff,Ff,Ff,Ff,Ff,Ff,Ff,Ff,Ff,Ff,Ff,Ff] rfl rfl (take_ofW HT_.out HW_.out (by kernel_rfl)) (fun _ _ _ h=>h) (Or.inl ⟨by rfl,?_⟩) hHeld ?_ ?_
        rotate_left
        ·rintro w' ⟨s0,s1,s2,s3,s4,s5,s6,s7,s8,s9,s10,s11,s12,s13,s14,s15,s16,s17,s18,s19⟩
         go_simp
         with_reducible rfl
        rotate_left
        ·simp only [Act.put,sT,sZ,sS,iW,iV]
         rfl
        refine pure_ (i:=17) (N:=some 85) (v:=?_) (a':=?_) #[Tt,Tt,Tt,Tt,Tt,Tt,Tt,Tt,Tt,Tt,Tt,Tt,Tt,Tt,Tt,Tt,Tt,Tt,Ff,Ff,Ff,Ff,Ff,Ff,Ff,Ff,Ff,Ff,Ff,Ff,Ff,Ff,Ff,Ff,Ff,Ff] rfl rfl (any_of HT_.out (by kernel_rfl)) (fun _ _ _ h=>h) (Or.inl ⟨by rfl,?_⟩) ?_ ?_
        rotate_left
        ·intro w'
         go_simp
         with_reducible rfl
        rotate_left
        ·simp only [Act.put,sT,sZ,sS,iW,iV]
         rfl
        refine pure_ (i:=18) (N:=some 86) (v:=?_) (a':=?_) #[Tt,Tt,Tt,Tt,Tt,Tt,Tt,Tt,Tt,Tt,Tt,Tt,Tt,Tt,Tt,Tt,Tt,Tt,Tt,Ff,Ff,Ff,Ff,Ff,Ff,Ff,Ff,Ff,Ff,Ff,Ff,Ff,Ff,Ff,Ff,Ff] rfl rfl (any_of HT_.out (by kernel_rfl)) (fun _ _ _ h=>h) (Or.inl ⟨by rfl,?_⟩) ?_ ?_
        rotate_left
        ·intro w'
         go_simp
         with_reducible rfl
        rotate_left
        ·simp only [Act.put,sT,sZ,sS,iW,iV]
         rfl
        refine take_ (i:=19) (N:=some 87) (v:=?_) (a':=?_) #[Tt,Tt,Tt,Tt,Tt,Tt,Tt,Tt,Tt,Tt,Tt,Tt,Tt,Tt,Tt,Tt,Tt,Tt,Tt,Tt,Ff,Ff,Ff,Ff,Ff,Ff,Ff,Ff,Ff,Ff,Ff,Ff,Ff,Ff,Ff,Ff] rfl rfl (take_ofW HT_.out HW_.out (by kernel_rfl)) (fun _ _ _ h=>h) (Or.inl ⟨by rfl,?_⟩) hHeld ?_ ?_
        rotate_left
        ·rintro w' ⟨s0,s1,s2,s3,s4,s5,s6,s7,s8,s9,s10,s11,s12,s13,s14,s15,s16,s17,s18,s19⟩
         go_simp
         with_reducible rfl
        rotate_left
        ·simp only [Act.put,sT,sZ,sS,iW,iV]
         rfl
        refine pure_ (i:=20) (N:=some 88) (v:=?_) (a':=?_) #[Tt,Tt,Tt,Tt,Tt,Tt,Tt,Tt,Tt,Tt,Tt,Tt,Tt,Tt,Tt,Tt,Tt,Tt,Tt,Tt,Tt,Ff,Ff,Ff,Ff,Ff,Ff,Ff,Ff,Ff,Ff,Ff,Ff,Ff,Ff,Ff] rfl rfl (any_of HT_.out (by kernel_rfl)) (fun _ _ _ h=>h) (Or.inl ⟨by rfl,?_⟩) ?_ ?_
        rotate_left
        ·intro w'
         go_simp
         with_reducible rfl
        rotate_left
        ·simp only [Act.put,sT,sZ,sS,iW,iV]
         rfl
        refine pure_ (i:=21) (N:=some 89) (v:=?_) (a':=?_) #[Tt,Tt,Tt,Tt,Tt,Tt,Tt,Tt,Tt,Tt,Tt,Tt,Tt,Tt,Tt,Tt,Tt,Tt,Tt,Tt,Tt,Tt,Ff,Ff,Ff,Ff,Ff,Ff,Ff,Ff,Ff,Ff,Ff,Ff,Ff,Ff] rfl rfl (any_of HT_.out (by kernel_rfl)) (fun _ _ _ h=>h) (Or.inl ⟨by rfl,?_⟩) ?_ ?_
        rotate_left
        ·intro w'
         go_simp
         with_reducible rfl
        rotate_left
        ·simp only [Act.put,sT,sZ,sS,iW,iV]
         rfl
        refine pure_ (i:=22) (N:=some 90) (v:=?_) (a':=?_) #[Tt,Tt,Tt,Tt,Tt,Tt,Tt,Tt,Tt,Tt,Tt,Tt,Tt,Tt,Tt,Tt,Tt,Tt,Tt,Tt,Tt,Tt,Tt,Ff,Ff,Ff,Ff,Ff,Ff,Ff,Ff,Ff,Ff,Ff,Ff,Ff] rfl rfl (any_of HT_.out (by kernel_rfl)) (fun _ _ _ h=>h) (Or.inl ⟨by rfl,?_⟩) ?_ ?_
        rotate_left
        ·intro w'
         go_simp
         with_reducible rfl
        rotate_left
        ·simp only [Act.put,sT,sZ,sS,iW,iV]
         rfl
        refine pure_ (i:=23) (N:=some 91) (v:=?_) (a':=?_) #[Tt,Tt,Tt,Tt,Tt,Tt,Tt,Tt,Tt,Tt,Tt,Tt,Tt,Tt,Tt,Tt,Tt,Tt,Tt,Tt,Tt,Tt,Tt,Tt,Ff,Ff,Ff,Ff,Ff,Ff,Ff,Ff,Ff,Ff,Ff,Ff] rfl rfl (any_of HT_.out (by kernel_rfl)) (fun _ _ _ h=>h) (Or.inl ⟨by rfl,?_⟩) ?_ ?_
        rotate_left
        ·intro w'
         go_simp
         with_reducible rfl
        rotate_left
        ·simp only [Act.put,sT,sZ,sS,iW,iV]
         rfl
        refine pure_ (i:=24) (N:=some 92) (v:=?_) (a':=?_) #[Tt,Tt,Tt,Tt,Tt,Tt,Tt,Tt,Tt,Tt,Tt,Tt,Tt,Tt,Tt,Tt,Tt,Tt,Tt,Tt,Tt,Tt,Tt,Tt,Tt,Ff,Ff,Ff,Ff,Ff,Ff,Ff,Ff,Ff,Ff,Ff] rfl rfl (any_of HT_.out (by kernel_rfl)) (fun _ _ _ h=>h) (Or.inl ⟨by rfl,?_⟩) ?_ ?_
        rotate_left
        ·intro w'
         go_simp
         with_reducible rfl
        rotate_left
        ·simp only [Act.put,sT,sZ,sS,iW,iV]
         rfl
        refine pure_ (i:=25) (N:=some 93) (v:=?_) (a':=?_) #[Tt,Tt,Tt,Tt,Tt,Tt,Tt,Tt,Tt,Tt,Tt,Tt,Tt,Tt,Tt,Tt,Tt,Tt,Tt,Tt,Tt,Tt,Tt,Tt,Tt,Tt,Ff,Ff,Ff,Ff,Ff,Ff,Ff,Ff,Ff,Ff] rfl rfl (any_of HT_.out (by kernel_rfl)) (fun _ _ _ h=>h) (Or.inl ⟨by rfl,?_⟩) ?_ ?_
        rotate_left
        ·intro w'
         go_simp
         with_reducible rfl
        rotate_left
        ·simp only [Act.put,sT,sZ,sS,iW,iV]
         rfl
        refine pure_ (i:=26) (N:=some 94) (v:=?_) (a':=?_) #[Tt,Tt,Tt,Tt,Tt,Tt,Tt,Tt,Tt,Tt,Tt,Tt,Tt,Tt,Tt,Tt,Tt,Tt,Tt,Tt,Tt,Tt,Tt,Tt,Tt,Tt,Tt,Ff,Ff,Ff,Ff,Ff,Ff,Ff,Ff,Ff] rfl rfl (any_of HT_.out (by kernel_rfl)) (fun _ _ _ h=>h) (Or.inl ⟨by rfl,?_⟩) ?_ ?_
        rotate_left
        ·intro w'
         go_simp
         with_reducible rfl
        rotate_left
        ·simp only [Act.put,sT,sZ,sS,iW,iV]
         rfl
        refine pure_ (i:=27) (N:=some 95) (v:=?_) (a':=?_) #[Tt,Tt,Tt,Tt,Tt,Tt,Tt,Tt,Tt,Tt,Tt,Tt,Tt,Tt,Tt,Tt,Tt,Tt,Tt,Tt,Tt,Tt,Tt,Tt,Tt,Tt,Tt,Tt,Ff,Ff,Ff,Ff,Ff,Ff,Ff,Ff] rfl rfl (any_of HT_.out (by kernel_rfl)) (fun _ _ _ h=>h) (Or.inl ⟨by rfl,?_⟩) ?_ ?_
        rotate_left
        ·intro w'
         go_simp
         with_reducible rfl
        rotate_left
        ·simp only [Act.put,sT,sZ,sS,iW,iV]
         rfl
        refine pure_ (i:=29) (N:=some 97) (v:=?_) (a':=?_) #[Tt,Tt,Tt,Tt,Tt,Tt,Tt,Tt,Tt,Tt,Tt,Tt,Tt,Tt,Tt,Tt,Tt,Tt,Tt,Tt,Tt,Tt,Tt,Tt,Tt,Tt,Tt,Tt,Ff,Tt,Ff,Ff,Ff,Ff,Ff,Ff] rfl rfl (any_of HT_.out (by kernel_rfl)) (fun _ _ _ h=>h) (Or.inl ⟨by rfl,?_⟩) ?_ ?_
        rotate_left
        ·intro w'
         go_simp
         with_reducible rfl
        rotate_left
        ·simp only [Act.put,sT,sZ,sS,iW,iV]
         rfl
        refine take_ (i:=28) (N:=some 96) (v:=?_) (a':=?_) #[Tt,Tt,Tt,Tt,Tt,Tt,Tt,Tt,Tt,Tt,Tt,Tt,Tt,Tt,Tt,Tt,Tt,Tt,Tt,Tt,Tt,Tt,Tt,Tt,Tt,Tt,Tt,Tt,Tt,Tt,Ff,Ff,Ff,Ff,Ff,Ff] rfl rfl (take_ofW HT_.out HW_.out (by kernel_rfl)) (fun _ _ _ h=>h) (Or.inl ⟨by rfl,?_⟩) hHeld ?_ ?_
        rotate_left
        ·rintro w' ⟨s0,s1,s2,s3,s4,s5,s6,s7,s8,s9,s10,s11,s12,s13,s14,s15,s16,s17,s18,s19⟩
         go_simp
         with_reducible rfl
        rotate_left
        ·simp only [Act.put,sT,sZ,sS,iW,iV]
         rfl
        refine take_ (i:=30) (N:=some 98) (v:=?_) (a':=?_) #[Tt,Tt,Tt,Tt,Tt,Tt,Tt,Tt,Tt,Tt,Tt,Tt,Tt,Tt,Tt,Tt,Tt,Tt,Tt,Tt,Tt,Tt,Tt,Tt,Tt,Tt,Tt,Tt,Tt,Tt,Tt,Ff,Ff,Ff,Ff,Ff] rfl rfl (take_ofW HT_.out HW_.out (by kernel_rfl)) (fun _ _ _ h=>h) (Or.inl ⟨by rfl,?_⟩) hHeld ?_ ?_
        rotate_left
        ·rintro w' ⟨s0,s1,s2,s3,s4,s5,s6,s7,s8,s9,s10,s11,s12,s13,s14,s15,s16,s17,s18,s19⟩
         go_simp
         with_reducible rfl
        rotate_left
        ·simp only [Act.put,sT,sZ,sS,iW,iV]
         rfl
        refine pure_ (i:=31) (N:=some 99) (v:=?_) (a':=?_) #[Tt,Tt,Tt,Tt,Tt,Tt,Tt,Tt,Tt,Tt,Tt,Tt,Tt,Tt,Tt,Tt,Tt,Tt,Tt,Tt,Tt,Tt,Tt,Tt,Tt,Tt,Tt,Tt,Tt,Tt,Tt,Tt,Ff,Ff,Ff,Ff] rfl rfl (any_of HT_.out (by kernel_rfl)) (fun _ _ _ h=>h) (Or.inl ⟨by rfl,?_⟩) ?_ ?_
        rotate_left
        ·intro w'
         go_simp
         with_reducible rfl
        rotate_left
        ·simp only [Act.put,sT,sZ,sS,iW,iV]
         rfl
        refine pure_ (i:=32) (N:=some 100) (v:=?_) (a':=?_) #[Tt,Tt,Tt,Tt,Tt,Tt,Tt,Tt,Tt,Tt,Tt,Tt,Tt,Tt,Tt,Tt,Tt,Tt,Tt,Tt,Tt,Tt,Tt,Tt,Tt,Tt,Tt,Tt,Tt,Tt,Tt,Tt,Tt,Ff,Ff,Ff] rfl rfl (any_of HT_.out (by kernel_rfl)) (fun _ _ _ h=>h) (Or.inl ⟨by rfl,?_⟩) ?_ ?_
        rotate_left
        ·intro w'
         go_simp
         with_reducible rfl
        rotate_left
        ·simp only [Act.put,sT,sZ,sS,iW,iV]
         rfl
        refine take_ (i:=33) (N:=some 101) (v:=?_) (a':=?_) #[Tt,Tt,Tt,Tt,Tt,Tt,Tt,Tt,Tt,Tt,Tt,Tt,Tt,Tt,Tt,Tt,Tt,Tt,Tt,Tt,Tt,Tt,Tt,Tt,Tt,Tt,Tt,Tt,Tt,Tt,Tt,Tt,Tt,Tt,Ff,Ff] rfl rfl (take_ofW HT_.out HW_.out (by kernel_rfl)) (fun _ _ _ h=>h) (Or.inl ⟨by rfl,?_⟩) hHeld ?_ ?_
        rotate_left
        ·rintro w' ⟨s0,s1,s2,s3,s4,s5,s6,s7,s8,s9,s10,s11,s12,s13,s14,s15,s16,s17,s18,s19⟩
         go_simp
         with_reducible rfl
        rotate_left
        ·simp only [Act.put,sT,sZ,sS,iW,iV]
         rfl
        refine pure_ (i:=34) (N:=some 102) (v:=?_) (a':=?_) #[Tt,Tt,Tt,Tt,Tt,Tt,Tt,Tt,Tt,Tt,Tt,Tt,Tt,Tt,Tt,Tt,Tt,Tt,Tt,Tt,Tt,Tt,Tt,Tt,Tt,Tt,Tt,Tt,Tt,Tt,Tt,Tt,Tt,Tt,Tt,Ff] rfl rfl (any_of HT_.out (by kernel_rfl)) (fun _ _ _ h=>h) (Or.inl ⟨by rfl,?_⟩) ?_ ?_
        rotate_left
        ·intro w'
         go_simp
         with_reducible rfl
        rotate_left
        ·simp only [Act.put,sT,sZ,sS,iW,iV]
         rfl
        refine pure_ (i:=35) (N:=some 103) (v:=?_) (a':=?_) #[Tt,Tt,Tt,Tt,Tt,Tt,Tt,Tt,Tt,Tt,Tt,Tt,Tt,Tt,Tt,Tt,Tt,Tt,Tt,Tt,Tt,Tt,Tt,Tt,Tt,Tt,Tt,Tt,Tt,Tt,Tt,Tt,Tt,Tt,Tt,Tt] rfl rfl (any_of HT_.out (by kernel_rfl)) (fun _ _ _ h=>h) (Or.inl ⟨by rfl,?_⟩) ?_ ?_
        rotate_left
        ·intro w'
         go_simp
         with_reducible rfl
        rotate_left
        ·simp only [Act.put,sT,sZ,sS,iW,iV]
         rfl
        refine done_ (done_of HT_.out (by kernel_rfl)) ?_
        try go_wp2
        go_meet
        case rel=>exact ⟨_,(((rdOf ByteArray.empty t732 (ji47)).toList != ((rd_T48 l0_11 0).f0).toList)),(by first|rfl|(simp;done)|(simp only [← hji47] <;> (first|rfl|simp))|(simp [*];done)),H',⟨by have:=HJ2.out;have:=HK2.out;have:=HK3.out;first|omega|exact Nat.le_refl _⟩,⟨by (with_reducible repeat (first|apply Kd.R_alloc|apply Kd.R_drewN|apply Kd.R_drew));exact HO734.out⟩,⟨by (with_reducible repeat (first|refine bN ?_ _|refine bD ?_|refine bA ?_ _));exact BK717.out⟩,⟨by repeat (first|(with_reducible first|exact HB.out|apply bL|apply pN|apply bE|refine bS ?_ GE717.out)|exact HB.out)⟩⟩
       case rest =>
        clear HC35
        obtain ⟨kq,x103_34,rfl,HA,HJ34,HO_9,BK717,HB⟩:=hcut
        cases kq with
        | zero=>exact absurd HA.out (by simp [gangerlaw10_ConfPaths.j3])
        | succ kj34 =>
         have H:=HA.out
         clear HA
         simp only [gangerlaw10_ConfPaths.j3] at H
         by_cases c55 : x103_34 = true
         ·subst c55
          have H1 : (none) = some r:=by rw [if_pos rfl] at H;exact H
          clear H
          have H:=H1
          clear H1
          exact absurd H (by simp)
         replace c55:=Bool.eq_false_iff.mpr c55
         subst c55
         have H1 : (if x8_3 > 0 then (if 1 < (t732.length : Int) then (if 0≤x8_3 then (if x8_3 < (l0_11.length : Int) then (if (rdOf ByteArray.empty t732 1).toList = ((rd_T48 l0_11 x8_3).f1).toList then (gangerlaw10_ConfPaths.l1 kj34 (wrap64 (x8_3 + 1)) a0_0 a0_1 a0_2 a0_3 a0_4 a0_5 a0_6 a0_7 a0_8 l0_9 l0_10 l0_11) else (none)) else (none)) else (none)) else (none)) else (gangerlaw10_ConfPaths.l1 kj34 (wrap64 (x8_3 + 1)) a0_0 a0_1 a0_2 a0_3 a0_4 a0_5 a0_6 a0_7 a0_8 l0_9 l0_10 l0_11)) = some r:=by rw [if_neg (show ¬ (false = true) by decide)] at H;exact H
         clear H
         have H:=H1
         clear H1
         by_cases c56 : x8_3 > 0
         rotate_left
         ·rw [if_neg c56] at H
          have c56b0 : decide (0 < x8_3) = false:=decide_eq_false c56
          clear c56
          have H':=Am H
          clear H
          try go_wp2
          have n0_:=Am (Kd.R_drew HO_9.out)
          have n1_:=Am (bD BK717.out)
          have n2_:=Am (bE HB.out)
          clear HO_9
          clear BK717
          clear HB
          have HO_9:=n0_
          have BK717:=n1_
          have HB:=n2_
          clear n0_ n1_ n2_
          refine start_ (n:=14) (S:=fun w'=>True) (ds:=[]) #[Ff,Ff,Ff,Ff,Ff,Ff,Ff,Ff,Ff,Ff,Ff,Ff,Ff,Ff] (by kernel_rfl) rfl rfl trivial (fun hHeld=>?_);refine with_tabW gangerlaw10_ConfPaths.tab20 gangerlaw10_ConfPaths.bits20 (fun HT_ HW_=>?_)
          generalize wc.drew = w63 at HO_9 BK717 HB hHeld ⊢
          refine pure_ (i:=0) (N:=some 104) (v:=?_) (a':=?_) #[Tt,Ff,Ff,Ff,Ff,Ff,Ff,Ff,Ff,Ff,Ff,Ff,Ff,Ff] rfl rfl (any_of HT_.out (by kernel_rfl)) (fun _ _ _ h=>h) (Or.inl ⟨by rfl,?_⟩) ?_ ?_
          rotate_left
          ·intro w'
           go_simp
           with_reducible rfl
          rotate_left
          ·simp only [Act.put,sT,sZ,sS,iW,iV]
           rfl
          refine pure_ (i:=1) (N:=some 105) (v:=?_) (a':=?_) #[Tt,Tt,Ff,Ff,Ff,Ff,Ff,Ff,Ff,Ff,Ff,Ff,Ff,Ff] rfl rfl (any_of HT_.out (by kernel_rfl)) (fun _ _ _ h=>h) (Or.inl ⟨by rfl,?_⟩) ?_ ?_
          rotate_left
          ·intro w'
           go_simp
           with_reducible rfl
          rotate_left
          ·simp only [Act.put,sT,sZ,sS,iW,iV]
           rfl
          refine pure_ (i:=2) (N:=some 106) (v:=?_) (a':=?_) #[Tt,Tt,Tt,Ff,Ff,Ff,Ff,Ff,Ff,Ff,Ff,Ff,Ff,Ff] rfl rfl (any_of HT_.out (by kernel_rfl)) (fun _ _ _ h=>h) (Or.inl ⟨by rfl,?_⟩) ?_ ?_
          rotate_left
          ·intro w'
           go_simp
           with_reducible rfl
          rotate_left
          ·simp only [Act.put,sT,sZ,sS,iW,iV]
           rfl
          refine pure_ (i:=3) (N:=some 107) (v:=undef) (a':=?_) #[Tt,Tt,Tt,Tt,Ff,Ff,Ff,Ff,Ff,Ff,Ff,Ff,Ff,Ff] rfl rfl (any_of HT_.out (by kernel_rfl)) (fun _ _ _ h=>h) (Or.inr ⟨by rfl,rfl⟩) ?_ ?_
          rotate_left
          ·simp only [Act.put,sT,sZ,sS,iW,iV]
           rfl
          refine pure_ (i:=4) (N:=some 108) (v:=undef) (a':=?_) #[Tt,Tt,Tt,Tt,Tt,Ff,Ff,Ff,Ff,Ff,Ff,Ff,Ff,Ff] rfl rfl (any_of HT_.out (by kernel_rfl)) (fun _ _ _ h=>h) (Or.inr ⟨by rfl,rfl⟩) ?_ ?_
          rotate_left
          ·simp only [Act.put,sT,sZ,sS,iW,iV]
           rfl
          refine pure_ (i:=5) (N:=some 109) (v:=undef) (a':=?_) #[Tt,Tt,Tt,Tt,Tt,Tt,Ff,Ff,Ff,Ff,Ff,Ff,Ff,Ff] rfl rfl (any_of HT_.out (by kernel_rfl)) (fun _ _ _ h=>h) (Or.inr ⟨by rfl,rfl⟩) ?_ ?_
          rotate_left
          ·simp only [Act.put,sT,sZ,sS,iW,iV]
           rfl
          refine pure_ (i:=6) (N:=some 110) (v:=undef) (a':=?_) #[Tt,Tt,Tt,Tt,Tt,Tt,Tt,Ff,Ff,Ff,Ff,Ff,Ff,Ff] rfl rfl (any_of HT_.out (by kernel_rfl)) (fun _ _ _ h=>h) (Or.inr ⟨by rfl,rfl⟩) ?_ ?_
          rotate_left
          ·simp only [Act.put,sT,sZ,sS,iW,iV]
           rfl
          refine pure_ (i:=7) (N:=some 111) (v:=undef) (a':=?_) #[Tt,Tt,Tt,Tt,Tt,Tt,Tt,Tt,Ff,Ff,Ff,Ff,Ff,Ff] rfl rfl (any_of HT_.out (by kernel_rfl)) (fun _ _ _ h=>h) (Or.inr ⟨by rfl,rfl⟩) ?_ ?_
          rotate_left
          ·simp only [Act.put,sT,sZ,sS,iW,iV]
           rfl
          refine pure_ (i:=8) (N:=some 112) (v:=undef) (a':=?_) #[Tt,Tt,Tt,Tt,Tt,Tt,Tt,Tt,Tt,Ff,Ff,Ff,Ff,Ff] rfl rfl (any_of HT_.out (by kernel_rfl)) (fun _ _ _ h=>h) (Or.inr ⟨by rfl,rfl⟩) ?_ ?_
          rotate_left
          ·simp only [Act.put,sT,sZ,sS,iW,iV]
           rfl
          refine pure_ (i:=9) (N:=some 113) (v:=undef) (a':=?_) #[Tt,Tt,Tt,Tt,Tt,Tt,Tt,Tt,Tt,Tt,Ff,Ff,Ff,Ff] rfl rfl (any_of HT_.out (by kernel_rfl)) (fun _ _ _ h=>h) (Or.inr ⟨by rfl,rfl⟩) ?_ ?_
          rotate_left
          ·simp only [Act.put,sT,sZ,sS,iW,iV]
           rfl
          refine pure_ (i:=10) (N:=some 114) (v:=undef) (a':=?_) #[Tt,Tt,Tt,Tt,Tt,Tt,Tt,Tt,Tt,Tt,Tt,Ff,Ff,Ff] rfl rfl (any_of HT_.out (by kernel_rfl)) (fun _ _ _ h=>h) (Or.inr ⟨by rfl,rfl⟩) ?_ ?_
          rotate_left
          ·simp only [Act.put,sT,sZ,sS,iW,iV]
           rfl
          refine pure_ (i:=11) (N:=some 115) (v:=undef) (a':=?_) #[Tt,Tt,Tt,Tt,Tt,Tt,Tt,Tt,Tt,Tt,Tt,Tt,Ff,Ff] rfl rfl (any_of HT_.out (by kernel_rfl)) (fun _ _ _ h=>h) (Or.inr ⟨by rfl,rfl⟩) ?_ ?_
          rotate_left
          ·simp only [Act.put,sT,sZ,sS,iW,iV]
           rfl
          refine pure_ (i:=12) (N:=some 116) (v:=undef) (a':=?_) #[Tt,Tt,Tt,Tt,Tt,Tt,Tt,Tt,Tt,Tt,Tt,Tt,Tt,Ff] rfl rfl (any_of HT_.out (by kernel_rfl)) (fun _ _ _ h=>h) (Or.inr ⟨by rfl,rfl⟩) ?_ ?_
          rotate_left
          ·simp only [Act.put,sT,sZ,sS,iW,iV]
           rfl
          refine pure_ (i:=13) (N:=some 117) (v:=?_) (a':=?_) #[Tt,Tt,Tt,Tt,Tt,Tt,Tt,Tt,Tt,Tt,Tt,Tt,Tt,Tt] rfl rfl (any_of HT_.out (by kernel_rfl)) (fun _ _ _ h=>h) (Or.inl ⟨by rfl,?_⟩) ?_ ?_
          rotate_left
          ·intro w'
           go_simp
           with_reducible rfl
          rotate_left
          ·simp only [Act.put,sT,sZ,sS,iW,iV]
           rfl
          refine done_ (done_of HT_.out (by kernel_rfl)) ?_
          try go_wp2
          go_roundg kj34
          case measure=>have:=HJ2.out;have:=HK2.out;have:=HK3.out;have:=HJ34.out;omega
          case rel=>exact ⟨(wrap64 (x8_3 + 1)),(by first|rfl|(simp;done)|(simp [*];done)),H',⟨by have:=HJ2.out;have:=HK2.out;have:=HK3.out;have:=HJ34.out;omega⟩,⟨by (with_reducible repeat (first|refine bN ?_ _|refine bD ?_|refine bA ?_ _));exact BK717.out⟩,⟨by repeat (first|(with_reducible first|exact HB.out|apply bL|apply pN|apply bE|refine bS ?_ GE717.out)|exact HB.out)⟩⟩
         rw [if_pos c56] at H
         have c56b0 : decide (0 < x8_3) = true:=decide_eq_true c56
         clear c56
         by_cases c57 : 1 < (t732.length : Int)
         rotate_left
         ·rw [if_neg c57] at H
          exact absurd H (by simp)
         rw [if_pos c57] at H
         have c57b0 : decide (1 < (t732.length : Int)) = true:=decide_eq_true c57
         have c57b1 : decide (1 < t732.length) = true:=decide_eq_true (by omega)
         clear c57
         by_cases c58 : 0≤x8_3
         rotate_left
         ·rw [if_neg c58] at H
          exact absurd H (by simp)
         rw [if_pos c58] at H
         have c58b0 : decide (0≤x8_3) = true:=decide_eq_true c58
         clear c58
         by_cases c59 : x8_3 < (l0_11.length : Int)
         rotate_left
         ·rw [if_neg c59] at H
          exact absurd H (by simp)
         rw [if_pos c59] at H
         have c59b0 : decide (x8_3 < (l0_11.length : Int)) = true:=decide_eq_true c59
         clear c59
         by_cases c60 : (rdOf ByteArray.empty t732 1).toList = ((rd_T48 l0_11 x8_3).f1).toList
         rotate_left
         ·rw [if_neg c60] at H
          exact absurd H (by simp)
         rw [if_pos c60] at H
         have c60b0 : ((rdOf ByteArray.empty t732 1).toList == ((rd_T48 l0_11 x8_3).f1).toList) = true:=beq_iff_eq.mpr c60
         have c60b1 : ((rdOf ByteArray.empty t732 1).toList != ((rd_T48 l0_11 x8_3).f1).toList) = false:=bne_eq_false_iff_eq.mpr c60
         clear c60
         have H':=Am H
         clear H
         try go_wp2
         have n0_:=Am (Kd.R_drew HO_9.out)
         have n1_:=Am (bD BK717.out)
         have n2_:=Am (bE HB.out)
         clear HO_9
         clear BK717
         clear HB
         have HO_9:=n0_
         have BK717:=n1_
         have HB:=n2_
         clear n0_ n1_ n2_
         obtain ⟨Ao62,co62,eo62⟩:=Kd.R_slice HO_9.out
         (first|subst eo62|(injection eo62 with f1_ f2_ f3_;have f4_:=f1_.symm;have f5_:=f3_.symm;clear f1_ f2_ f3_;subst f4_;subst f5_))
         have p739 : 0≤(1 : Int):=(by omega)
         have q739 : 1 < (t732.length : Int):=of_decide_eq_true (by first|(with_reducible assumption)|assumption)
         obtain ⟨ad739,e739,hx739_0⟩:=Kd.at_string (Kd.R_reads' HO_9.out).2.2 1 p739 q739
         cases e739
         (try simp only [show (1 : Int).toNat = 1 from rfl,Nat.reduceMul,Nat.reduceEqDiff,Go.Addr.add,↓reduceIte] at hx739_0)
         have qi739 : (1 < t732.length) = True:=eq_true (by omega)
         (try rw [show ((1 : Int)).toNat = 1 from rfl] at hx739_0)
         replace p739:=eq_true p739
         replace q739:=eq_true q739
         have p740 : 0≤(x8_3 : Int):=of_decide_eq_true (by first|(with_reducible assumption)|assumption)
         have q740 : x8_3 < (l0_11.length : Int):=of_decide_eq_true (by first|(with_reducible assumption)|assumption)
         obtain ⟨ad740,e740,hx740_0,hx740_1,hx740_2⟩:=at_T48 HR0_11.out x8_3 p740 q740
         have hw740_2:=hx740_2
         have hw740_1:=hx740_1
         have hw740_0:=hx740_0
         obtain rfl : ad731 = ad740:=(by injection e740)
         replace hx740_0:=(HB.out.cell (wB w _ hx740_0)).trans hx740_0
         replace hx740_1:=(HB.out.cell (wB w _ hx740_1)).trans hx740_1
         replace hx740_2:=(HB.out.cell (wB w _ hx740_2)).trans hx740_2
         replace p740:=eq_true p740
         replace q740:=eq_true q740
         refine start_ (n:=14) (S:=fun w'=>w'.cell? ⟨gb717,0,none⟩ = some (.int .i64 a0_0)∧w'.cell? ⟨gb717,1,none⟩ = some (.int .i64 a0_1)∧w'.cell? ⟨gb717,2,none⟩ = some (.int .i64 a0_2)∧w'.cell? ⟨gb717,3,none⟩ = some (.int .i64 a0_3)∧w'.cell? ⟨gb717,4,none⟩ = some (.int .i64 a0_4)∧w'.cell? ⟨gb717,5,none⟩ = some (.int .i64 a0_5)∧w'.cell? ⟨gb717,6,none⟩ = some (.int .i64 a0_6)∧w'.cell? ⟨gb717,7,none⟩ = some (.int .i64 a0_7)∧w'.cell? ⟨gb717,8,none⟩ = some (.int .i64 a0_8)∧w'.cell? ⟨gb717,9,none⟩ = some (.slice A0_9 l0_9.length c0_9)∧w'.cell? ⟨gb717,10,none⟩ = some (.slice A0_10 l0_10.length c0_10)∧w'.cell? ⟨gb717,11,none⟩ = some (.slice (some ad731) l0_11.length c0_11)∧w'.cell? ⟨ad739.block,ad739.off + 1,none⟩ = some (.string (rdOf ByteArray.empty t732 1))∧w'.cell? (ad731.add ((x8_3).toNat * 3)) = some (.string ((rd_T48 l0_11 x8_3).f0))∧w'.cell? ⟨(ad731.add ((x8_3).toNat * 3)).block,(ad731.add ((x8_3).toNat * 3)).off + 1,none⟩ = some (.string ((rd_T48 l0_11 x8_3).f1))∧w'.cell? ⟨(ad731.add ((x8_3).toNat * 3)).block,(ad731.add ((x8_3).toNat * 3)).off + 2,none⟩ = some (.int .i64 ((rd_T48 l0_11 x8_3).f2))) (ds:=[]) #[Ff,Ff,Ff,Ff,Ff,Ff,Ff,Ff,Ff,Ff,Ff,Ff,Ff,Ff] (by kernel_rfl) rfl rfl ⟨(bC BK717.out 0).trans rfl,(bC BK717.out 1).trans rfl,(bC BK717.out 2).trans rfl,(bC BK717.out 3).trans rfl,(bC BK717.out 4).trans rfl,(bC BK717.out 5).trans rfl,(bC BK717.out 6).trans rfl,(bC BK717.out 7).trans rfl,(bC BK717.out 8).trans rfl,(bC BK717.out 9).trans rfl,(bC BK717.out 10).trans rfl,(bC BK717.out 11).trans rfl,hx739_0,((HB.out.cell (wB w _ hw740_0)).trans hw740_0),((HB.out.cell (wB w _ hw740_1)).trans hw740_1),((HB.out.cell (wB w _ hw740_2)).trans hw740_2)⟩ (fun hHeld=>?_);refine with_tabW gangerlaw10_ConfPaths.tab20 gangerlaw10_ConfPaths.bits20 (fun HT_ HW_=>?_)
         generalize wc.drew = w61 at HO_9 BK717 HB hx739_0 hx740_0 hx740_1 hx740_2 hHeld ⊢
         refine pure_ (i:=0) (N:=some 104) (v:=?_) (a':=?_) #[Tt,Ff,Ff,Ff,Ff,Ff,Ff,Ff,Ff,Ff,Ff,Ff,Ff,Ff] rfl rfl (any_of HT_.out (by kernel_rfl)) (fun _ _ _ h=>h) (Or.inl ⟨by rfl,?_⟩) ?_ ?_
         rotate_left
         ·intro w'
          go_simp
          with_reducible rfl
         rotate_left
         ·simp only [Act.put,sT,sZ,sS,iW,iV]
          rfl
         refine pure_ (i:=1) (N:=some 105) (v:=?_) (a':=?_) #[Tt,Tt,Ff,Ff,Ff,Ff,Ff,Ff,Ff,Ff,Ff,Ff,Ff,Ff] rfl rfl (any_of HT_.out (by kernel_rfl)) (fun _ _ _ h=>h) (Or.inl ⟨by rfl,?_⟩) ?_ ?_
         rotate_left
         ·intro w'
          go_simp
          with_reducible rfl
         rotate_left
         ·simp only [Act.put,sT,sZ,sS,iW,iV]
          rfl
         refine pure_ (i:=2) (N:=some 106) (v:=?_) (a':=?_) #[Tt,Tt,Tt,Ff,Ff,Ff,Ff,Ff,Ff,Ff,Ff,Ff,Ff,Ff] rfl rfl (any_of HT_.out (by kernel_rfl)) (fun _ _ _ h=>h) (Or.inl ⟨by rfl,?_⟩) ?_ ?_
         rotate_left
         ·intro w'
          go_simp
          with_reducible rfl
         rotate_left
         ·simp only [Act.put,sT,sZ,sS,iW,iV]
          rfl
         refine pure_ (i:=3) (N:=some 107) (v:=?_) (a':=?_) #[Tt,Tt,Tt,Tt,Ff,Ff,Ff,Ff,Ff,Ff,Ff,Ff,Ff,Ff] rfl rfl (any_of HT_.out (by kernel_rfl)) (fun _ _ _ h=>h) (Or.inl ⟨by rfl,?_⟩) ?_ ?_
         rotate_left
         ·intro w'
          go_simp
          with_reducible rfl
         rotate_left
         ·simp only [Act.put,sT,sZ,sS,iW,iV]
          rfl
         refine pure_ (i:=4) (N:=some 108) (v:=?_) (a':=?_) #[Tt,Tt,Tt,Tt,Tt,Ff,Ff,Ff,Ff,Ff,Ff,Ff,Ff,Ff] rfl rfl (any_of HT_.out (by kernel_rfl)) (fun _ _ _ h=>h) (Or.inl ⟨by rfl,?_⟩) ?_ ?_
         rotate_left
         ·intro w'
          go_simp
          with_reducible rfl
         rotate_left
         ·simp only [Act.put,sT,sZ,sS,iW,iV]
          rfl
         refine pure_ (i:=6) (N:=some 110) (v:=?_) (a':=?_) #[Tt,Tt,Tt,Tt,Tt,Ff,Tt,Ff,Ff,Ff,Ff,Ff,Ff,Ff] rfl rfl (any_of HT_.out (by kernel_rfl)) (fun _ _ _ h=>h) (Or.inl ⟨by rfl,?_⟩) ?_ ?_
         rotate_left
         ·intro w'
          go_simp
          with_reducible rfl
         rotate_left
         ·simp only [Act.put,sT,sZ,sS,iW,iV]
          rfl
         refine pure_ (i:=8) (N:=some 112) (v:=?_) (a':=?_) #[Tt,Tt,Tt,Tt,Tt,Ff,Tt,Ff,Tt,Ff,Ff,Ff,Ff,Ff] rfl rfl (any_of HT_.out (by kernel_rfl)) (fun _ _ _ h=>h) (Or.inl ⟨by rfl,?_⟩) ?_ ?_
         rotate_left
         ·intro w'
          go_simp
          with_reducible rfl
         rotate_left
         ·simp only [Act.put,sT,sZ,sS,iW,iV]
          rfl
         refine take_ (i:=5) (N:=some 109) (v:=?_) (a':=?_) #[Tt,Tt,Tt,Tt,Tt,Tt,Tt,Ff,Tt,Ff,Ff,Ff,Ff,Ff] rfl rfl (take_ofW HT_.out HW_.out (by kernel_rfl)) (fun _ _ _ h=>h) (Or.inl ⟨by rfl,?_⟩) hHeld ?_ ?_
         rotate_left
         ·rintro w' ⟨s0,s1,s2,s3,s4,s5,s6,s7,s8,s9,s10,s11,s12,s13,s14,s15⟩
          go_simp
          with_reducible rfl
         rotate_left
         ·simp only [Act.put,sT,sZ,sS,iW,iV]
          rfl
         refine take_ (i:=7) (N:=some 111) (v:=?_) (a':=?_) #[Tt,Tt,Tt,Tt,Tt,Tt,Tt,Tt,Tt,Ff,Ff,Ff,Ff,Ff] rfl rfl (take_ofW HT_.out HW_.out (by kernel_rfl)) (fun _ _ _ h=>h) (Or.inl ⟨by rfl,?_⟩) hHeld ?_ ?_
         rotate_left
         ·rintro w' ⟨s0,s1,s2,s3,s4,s5,s6,s7,s8,s9,s10,s11,s12,s13,s14,s15⟩
          go_simp
          with_reducible rfl
         rotate_left
         ·simp only [Act.put,sT,sZ,sS,iW,iV]
          rfl
         refine pure_ (i:=9) (N:=some 113) (v:=?_) (a':=?_) #[Tt,Tt,Tt,Tt,Tt,Tt,Tt,Tt,Tt,Tt,Ff,Ff,Ff,Ff] rfl rfl (any_of HT_.out (by kernel_rfl)) (fun _ _ _ h=>h) (Or.inl ⟨by rfl,?_⟩) ?_ ?_
         rotate_left
         ·intro w'
          go_simp
          with_reducible rfl
         rotate_left
         ·simp only [Act.put,sT,sZ,sS,iW,iV]
          rfl
         refine pure_ (i:=10) (N:=some 114) (v:=?_) (a':=?_) #[Tt,Tt,Tt,Tt,Tt,Tt,Tt,Tt,Tt,Tt,Tt,Ff,Ff,Ff] rfl rfl (any_of HT_.out (by kernel_rfl)) (fun _ _ _ h=>h) (Or.inl ⟨by rfl,?_⟩) ?_ ?_
         rotate_left
         ·intro w'
          go_simp
          with_reducible rfl
         rotate_left
         ·simp only [Act.put,sT,sZ,sS,iW,iV]
          rfl
         refine take_ (i:=11) (N:=some 115) (v:=?_) (a':=?_) #[Tt,Tt,Tt,Tt,Tt,Tt,Tt,Tt,Tt,Tt,Tt,Tt,Ff,Ff] rfl rfl (take_ofW HT_.out HW_.out (by kernel_rfl)) (fun _ _ _ h=>h) (Or.inl ⟨by rfl,?_⟩) hHeld ?_ ?_
         rotate_left
         ·rintro w' ⟨s0,s1,s2,s3,s4,s5,s6,s7,s8,s9,s10,s11,s12,s13,s14,s15⟩
          go_simp
          with_reducible rfl
         rotate_left
         ·simp only [Act.put,sT,sZ,sS,iW,iV]
          rfl
         refine pure_ (i:=12) (N:=some 116) (v:=?_) (a':=?_) #[Tt,Tt,Tt,Tt,Tt,Tt,Tt,Tt,Tt,Tt,Tt,Tt,Tt,Ff] rfl rfl (any_of HT_.out (by kernel_rfl)) (fun _ _ _ h=>h) (Or.inl ⟨by rfl,?_⟩) ?_ ?_
         rotate_left
         ·intro w'
          go_simp
          with_reducible rfl
         rotate_left
         ·simp only [Act.put,sT,sZ,sS,iW,iV]
          rfl
         refine pure_ (i:=13) (N:=some 117) (v:=?_) (a':=?_) #[Tt,Tt,Tt,Tt,Tt,Tt,Tt,Tt,Tt,Tt,Tt,Tt,Tt,Tt] rfl rfl (any_of HT_.out (by kernel_rfl)) (fun _ _ _ h=>h) (Or.inl ⟨by rfl,?_⟩) ?_ ?_
         rotate_left
         ·intro w'
          go_simp
          with_reducible rfl
         rotate_left
         ·simp only [Act.put,sT,sZ,sS,iW,iV]
          rfl
         refine done_ (done_of HT_.out (by kernel_rfl)) ?_
         try go_wp2
         go_roundg kj34
         case measure=>have:=HJ2.out;have:=HK2.out;have:=HK3.out;have:=HJ34.out;omega
         case rel=>exact ⟨(wrap64 (x8_3 + 1)),(by first|rfl|(simp;done)|(simp [*];done)),H',⟨by have:=HJ2.out;have:=HK2.out;have:=HK3.out;have:=HJ34.out;omega⟩,⟨by (with_reducible repeat (first|refine bN ?_ _|refine bD ?_|refine bA ?_ _));exact BK717.out⟩,⟨by repeat (first|(with_reducible first|exact HB.out|apply bL|apply pN|apply bE|refine bS ?_ GE717.out)|exact HB.out)⟩⟩
def gangerlaw10_ConfPaths.Pure : Prop:=∀ (a0_0 : Int) (a0_1 : Int) (a0_2 : Int) (a0_3 : Int) (a0_4 : Int) (a0_5 : Int) (a0_6 : Int) (a0_7 : Int) (a0_8 : Int) (l0_9 : List (S50)) (l0_10 : List (S52)) (l0_11 : List (S48)) (a1 : ByteArray),(((Lit.int .i64 a0_0).wf = true)∧(((Lit.int .i64 a0_1).wf = true)∧(((Lit.int .i64 a0_2).wf = true)∧(((Lit.int .i64 a0_3).wf = true)∧((((Lit.int .i64 a0_4).wf = true)∧(((Lit.int .i64 a0_5).wf = true)∧(((Lit.int .i64 a0_6).wf = true)∧(((Lit.int .i64 a0_7).wf = true)∧((Lit.int .i64 a0_8).wf = true)))))∧((l0_9.length≤maxLen∧∀ x4 ∈ l0_9,((x4.f0.size≤maxLen)∧(((Lit.int .i64 x4.f1).wf = true)∧(((Lit.int .i64 x4.f2).wf = true)∧((Lit.int .i64 x4.f3).wf = true)))))∧((l0_10.length≤maxLen∧∀ x5 ∈ l0_10,((x5.f0.size≤maxLen)∧(((Lit.int .i64 x5.f1).wf = true)∧((Lit.int .i64 x5.f2).wf = true))))∧(l0_11.length≤maxLen∧∀ x5 ∈ l0_11,((x5.f0.size≤maxLen)∧((x5.f1.size≤maxLen)∧((Lit.int .i64 x5.f2).wf = true)))))))))))→a1.size≤140737488351232→∃ k,gangerlaw10_ConfPaths.f k a0_0 a0_1 a0_2 a0_3 a0_4 a0_5 a0_6 a0_7 a0_8 l0_9 l0_10 l0_11 a1 = some true
end Go.Proofs.YtgidipomfbikiaaDoor.P
