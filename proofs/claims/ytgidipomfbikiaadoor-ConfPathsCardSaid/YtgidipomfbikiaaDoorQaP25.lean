/- cut to what one law reaches -/
import Derived.Test.YtgidipomfbikiaaDoorQaShort
import Derived.Test.YtgidipomfbikiaaDoorQaP0
import Derived.Test.YtgidipomfbikiaaDoorQaP7
import Derived.Test.YtgidipomfbikiaaDoorQaP16
namespace Go.Proofs.YtgidipomfbikiaaDoor.P
open Go.RowKit Go.Proofs.YtgidipomfbikiaaDoorW.PrintWords Go.Proofs.YtgidipomfbikiaaDoorW.PrintLast Go.Proofs.YtgidipomfbikiaaDoorW.PrintMore
attribute [local go_sem] max2_int min2_int max_two min_two max_three min_three max_four min_four   -- for this text's walks alone
set_option linter.unusedVariables false
set_option linter.unusedSimpArgs false
attribute [local go_sem] isSome_setCell
def conf_Path.l0 : Nat→ByteArray→List ByteArray→Int→Int→Int→Int→Int→Int→Int→Int→Int→Int→List (S50)→List (S52)→List (S48)→Option (List ByteArray)
 | 0,_,_,_,_,_,_,_,_,_,_,_,_,_,_,_=>none
 | k + 1,x1,x5,x6,u_0,u_1,u_2,u_3,u_4,u_5,u_6,u_7,u_8,u_9,u_10,u_11=>if x6 ≥ 0 then (if 0≤x6 then (if x6 < (u_11.length : Int) then (if ((rd_T48 u_11 x6).f0).toList = x1.toList then (if x5.length < 8796093022208 then (conf_Path.l0 k ((rd_T48 u_11 x6).f1) (x5 ++ [(rd_T48 u_11 x6).f0]) (wrap64 (x6 - 1)) u_0 u_1 u_2 u_3 u_4 u_5 u_6 u_7 u_8 u_9 u_10 u_11) else (none)) else (conf_Path.l0 k x1 x5 (wrap64 (x6 - 1)) u_0 u_1 u_2 u_3 u_4 u_5 u_6 u_7 u_8 u_9 u_10 u_11)) else (none)) else (none)) else (some x5)
def conf_Path.f (k : Nat) (a0_0 : Int) (a0_1 : Int) (a0_2 : Int) (a0_3 : Int) (a0_4 : Int) (a0_5 : Int) (a0_6 : Int) (a0_7 : Int) (a0_8 : Int) (l0_9 : List (S50)) (l0_10 : List (S52)) (l0_11 : List (S48)) (a1 : ByteArray) : Option (List ByteArray):=(conf_Check.f k a0_0 a0_1 a0_2 a0_3 a0_4 a0_5 a0_6 a0_7 a0_8 l0_9 l0_10 l0_11).bind fun t704=>(if t704 = 0 then (conf_Path.l0 k a1 ([] : List ByteArray) (wrap64 ((l0_11.length : Int) - 1)) a0_0 a0_1 a0_2 a0_3 a0_4 a0_5 a0_6 a0_7 a0_8 l0_9 l0_10 l0_11) else (some ([] : List ByteArray)))
set_option maxHeartbeats 8000000 in
set_option maxRecDepth 100000 in
theorem conf_Path.calls (k : Nat) (a0_0 : Int) (a0_1 : Int) (a0_2 : Int) (a0_3 : Int) (a0_4 : Int) (a0_5 : Int) (a0_6 : Int) (a0_7 : Int) (a0_8 : Int) (A0_9 : Option Addr) (c0_9 : Nat) (l0_9 : List (S50)) (A0_10 : Option Addr) (c0_10 : Nat) (l0_10 : List (S52)) (A0_11 : Option Addr) (c0_11 : Nat) (l0_11 : List (S48)) (a1 : ByteArray) (r : List ByteArray) (w : World) (hG : Glob w) (hr0_9 : Kd.C k50 w A0_9 l0_9.length l0_9) (hc0_9 : l0_9.length≤c0_9) (hr0_10 : Kd.C k52 w A0_10 l0_10.length l0_10) (hc0_10 : l0_10.length≤c0_10) (hr0_11 : Kd.C k48 w A0_11 l0_11.length l0_11) (hc0_11 : l0_11.length≤c0_11) (h : conf_Path.f k a0_0 a0_1 a0_2 a0_3 a0_4 a0_5 a0_6 a0_7 a0_8 l0_9 l0_10 l0_11 a1 = some r) :
  Calls Tryd.prog 21 #[.agg #[.int .i64 a0_0,.int .i64 a0_1,.int .i64 a0_2,.int .i64 a0_3,.int .i64 a0_4,.int .i64 a0_5,.int .i64 a0_6,.int .i64 a0_7,.int .i64 a0_8,.slice A0_9 l0_9.length c0_9,.slice A0_10 l0_10.length c0_10,.slice A0_11 l0_11.length c0_11],.string a1] w fun e w'=>∃ v0_ : Value,e = .returned (v0_)∧Kd.R Kd.string 9 w' w.heap.size (fun _=>True) v0_ r∧Below w.heap.size w w':=by
 have hu28:=Tryd.underlying28
 have hu48:=Tryd.underlying48
 have HG:=Am hG
 clear hG
 have HR0_9:=Am hr0_9
 have HC0_9:=Am hc0_9
 clear hr0_9 hc0_9
 have HR0_10:=Am hr0_10
 have HC0_10:=Am hc0_10
 clear hr0_10 hc0_10
 have HR0_11:=Am hr0_11
 have HC0_11:=Am hc0_11
 clear hr0_11 hc0_11
 have HB:=Am (Below.refl w.heap.size w)
 have H : ((conf_Check.f k a0_0 a0_1 a0_2 a0_3 a0_4 a0_5 a0_6 a0_7 a0_8 l0_9 l0_10 l0_11).bind fun t704=>(if t704 = 0 then (conf_Path.l0 k a1 ([] : List ByteArray) (wrap64 ((l0_11.length : Int) - 1)) a0_0 a0_1 a0_2 a0_3 a0_4 a0_5 a0_6 a0_7 a0_8 l0_9 l0_10 l0_11) else (some ([] : List ByteArray)))) = some r:=h
 clear h
 replace H:=oB H
 obtain ⟨t704,A30,H⟩:=H
 replace H : (if t704 = 0 then (conf_Path.l0 k a1 ([] : List ByteArray) (wrap64 ((l0_11.length : Int) - 1)) a0_0 a0_1 a0_2 a0_3 a0_4 a0_5 a0_6 a0_7 a0_8 l0_9 l0_10 l0_11) else (some ([] : List ByteArray))) = some r:=H
 have A3:=Am A30
 clear A30
 by_cases c4 : t704 = 0
 rotate_left
 ·rw [if_neg c4] at H
  have c4b0 : (t704 == 0) = false:=beq_eq_false_iff_ne.mpr c4
  have c4b1 : (t704 != 0) = true:=bne_iff_ne.mpr c4
  obtain rfl:=Option.some.inj H
  go_enter Tryd.func21,Tryd.ntmps21
  go_wp2_with (first|((with_reducible refine gD (N:=2) rfl ?_);refine box_event ?hg (N:=2) ?hd (cs:=#[.int .i64 a0_0,.int .i64 a0_1,.int .i64 a0_2,.int .i64 a0_3,.int .i64 a0_4,.int .i64 a0_5,.int .i64 a0_6,.int .i64 a0_7,.int .i64 a0_8,.slice A0_9 l0_9.length c0_9,.slice A0_10 l0_10.length c0_10,.slice A0_11 l0_11.length c0_11]) (t:=28) ?hr ?_;(case hd=>rfl);(case hg=>rfl);(case hr=>first|(go_simp;done)|(go_simp;rfl));intro gb703 hg w24 hbox hb;have n0_:=Am (below_step (by repeat (first|(with_reducible first|exact HB.out|apply bL|apply pN|apply bE)|exact HB.out)) hb);have n1_:=Am (hbox);have n2_:=Am ((by rw [hg];exact (bZ (by repeat (first|(with_reducible first|exact HB.out|apply bL|apply pN|apply bE)|exact HB.out))) : w.heap.size≤gb703));have n3_:=Am ((by rw [hg];exact (bZ (by repeat (first|(with_reducible first|exact HB.out|apply bL|apply pN|apply bE)|exact HB.out))) : w.heap.size≤gb703));clear HB;have HB:=n0_;have BK703:=n1_;have GW703:=n2_;have GE703:=n3_;clear n0_ n1_ n2_ n3_;clear hb hbox hg;have hcz25_0 : w24.cell? ⟨gb703,0,none⟩ = some (.int .i64 a0_0):=(bC BK703.out 0).trans rfl;have hcz25_1 : w24.cell? ⟨gb703,1,none⟩ = some (.int .i64 a0_1):=(bC BK703.out 1).trans rfl;have hcz25_2 : w24.cell? ⟨gb703,2,none⟩ = some (.int .i64 a0_2):=(bC BK703.out 2).trans rfl;have hcz25_3 : w24.cell? ⟨gb703,3,none⟩ = some (.int .i64 a0_3):=(bC BK703.out 3).trans rfl;have hcz25_4 : w24.cell? ⟨gb703,4,none⟩ = some (.int .i64 a0_4):=(bC BK703.out 4).trans rfl;have hcz25_5 : w24.cell? ⟨gb703,5,none⟩ = some (.int .i64 a0_5):=(bC BK703.out 5).trans rfl;have hcz25_6 : w24.cell? ⟨gb703,6,none⟩ = some (.int .i64 a0_6):=(bC BK703.out 6).trans rfl;have hcz25_7 : w24.cell? ⟨gb703,7,none⟩ = some (.int .i64 a0_7):=(bC BK703.out 7).trans rfl;have hcz25_8 : w24.cell? ⟨gb703,8,none⟩ = some (.int .i64 a0_8):=(bC BK703.out 8).trans rfl;have hcz25_9 : w24.cell? ⟨gb703,9,none⟩ = some (.slice A0_9 l0_9.length c0_9):=(bC BK703.out 9).trans rfl;have hcz25_10 : w24.cell? ⟨gb703,10,none⟩ = some (.slice A0_10 l0_10.length c0_10):=(bC BK703.out 10).trans rfl;have hcz25_11 : w24.cell? ⟨gb703,11,none⟩ = some (.slice A0_11 l0_11.length c0_11):=(bC BK703.out 11).trans rfl;have hfz25_0:=bF BK703.out 0;have hfz25_1:=bF BK703.out 1;have hfz25_2:=bF BK703.out 2;have hfz25_3:=bF BK703.out 3;have hfz25_4:=bF BK703.out 4;have hfz25_5:=bF BK703.out 5;have hfz25_6:=bF BK703.out 6;have hfz25_7:=bF BK703.out 7;have hfz25_8:=bF BK703.out 8;have hfz25_9:=bF BK703.out 9;have hfz25_10:=bF BK703.out 10;have hfz25_11:=bF BK703.out 11)|((with_reducible refine gC (f:=12) rfl ?_);refine goesL_ (some 9) rfl rfl Tryd.func12 (by kernel_rfl) rfl #[.agg #[.int .i64 a0_0,.int .i64 a0_1,.int .i64 a0_2,.int .i64 a0_3,.int .i64 a0_4,.int .i64 a0_5,.int .i64 a0_6,.int .i64 a0_7,.int .i64 a0_8,.slice A0_9 l0_9.length c0_9,.slice A0_10 l0_10.length c0_10,.slice A0_11 l0_11.length c0_11]] rfl (by (try simp only [mT,mC,mN]);first|done|rfl|(simp only [lD,lT];rfl)) ?_;(with_reducible refine (conf_Check.calls k a0_0 a0_1 a0_2 a0_3 a0_4 a0_5 a0_6 a0_7 a0_8 _ _ l0_9 _ _ l0_10 _ _ l0_11 t704 _ ?side1 ?side2 ?side3 ?side4 ?side5 ?side6 ?side7 A3.out).mono ?_);(case side1=>exact Glob.below HG.out (by repeat (first|(with_reducible first|exact HB.out|apply bL|apply pN|apply bE|refine bS ?_ GE703.out)|exact HB.out)));(case side2=>repeat (first|exact (Kd.C_below HR0_9.out HB.out)|(with_reducible refine Kd.C_alloc ?_ _)|(with_reducible refine Kd.C_drewN ?_ _)|(with_reducible refine Kd.C_drew ?_)));(case side3=>exact HC0_9.out);(case side4=>repeat (first|exact (Kd.C_below HR0_10.out HB.out)|(with_reducible refine Kd.C_alloc ?_ _)|(with_reducible refine Kd.C_drewN ?_ _)|(with_reducible refine Kd.C_drew ?_)));(case side5=>exact HC0_10.out);(case side6=>repeat (first|exact (Kd.C_below HR0_11.out HB.out)|(with_reducible refine Kd.C_alloc ?_ _)|(with_reducible refine Kd.C_drewN ?_ _)|(with_reducible refine Kd.C_drew ?_)));(case side7=>exact HC0_11.out);rintro e w26 ⟨rfl,hb⟩;refine ⟨_,rfl,?_⟩;have n0_:=Am (blk_below (g:=gb703) (by (with_reducible repeat (first|refine bN ?_ _|refine bD ?_|refine bA ?_ _));exact BK703.out) hb);have n1_:=Am (below_step (by repeat (first|(with_reducible first|exact HB.out|apply bL|apply pN|apply bE|refine bS ?_ GE703.out)|exact HB.out)) hb);clear BK703;clear HB;have BK703:=n0_;have HB:=n1_;clear n0_ n1_;(try clear hb);(try clear hb2);(try clear hk);(try clear hi)))
  go_ret
  exact ⟨_,by first|rfl|(simp [errW_none,errW_some] <;> rfl)|(simp [*,errW_none,errW_some] <;> rfl),by first|exact Kd.R_nil _ _ _ _ _|exact Kd.N_nil _ _ _ _ _|exact Kd.V_nil _ _ _ _ _|exact Kd.Q_nil _ _ _ _ _|exact Kd.S_nil _ _ _ _ _,by repeat (first|(with_reducible first|exact HB.out|apply bL|apply pN|apply bE|refine bS ?_ GE703.out)|exact HB.out)⟩
 rw [if_pos c4] at H
 have c4b0 : (t704 == 0) = true:=beq_iff_eq.mpr c4
 have c4b1 : (t704 != 0) = false:=bne_eq_false_iff_eq.mpr c4
 clear c4
 have H':=Am H
 clear H
 go_enter Tryd.func21,Tryd.ntmps21
 go_wp2_with (first|((with_reducible refine gD (N:=2) rfl ?_);refine box_event ?hg (N:=2) ?hd (cs:=#[.int .i64 a0_0,.int .i64 a0_1,.int .i64 a0_2,.int .i64 a0_3,.int .i64 a0_4,.int .i64 a0_5,.int .i64 a0_6,.int .i64 a0_7,.int .i64 a0_8,.slice A0_9 l0_9.length c0_9,.slice A0_10 l0_10.length c0_10,.slice A0_11 l0_11.length c0_11]) (t:=28) ?hr ?_;(case hd=>rfl);(case hg=>rfl);(case hr=>first|(go_simp;done)|(go_simp;rfl));intro gb703 hg w5 hbox hb;have n0_:=Am (below_step (by repeat (first|(with_reducible first|exact HB.out|apply bL|apply pN|apply bE)|exact HB.out)) hb);have n1_:=Am (hbox);have n2_:=Am ((by rw [hg];exact (bZ (by repeat (first|(with_reducible first|exact HB.out|apply bL|apply pN|apply bE)|exact HB.out))) : w.heap.size≤gb703));have n3_:=Am ((by rw [hg];exact (bZ (by repeat (first|(with_reducible first|exact HB.out|apply bL|apply pN|apply bE)|exact HB.out))) : w.heap.size≤gb703));clear HB;have HB:=n0_;have BK703:=n1_;have GW703:=n2_;have GE703:=n3_;clear n0_ n1_ n2_ n3_;clear hb hbox hg;have hcz6_0 : w5.cell? ⟨gb703,0,none⟩ = some (.int .i64 a0_0):=(bC BK703.out 0).trans rfl;have hcz6_1 : w5.cell? ⟨gb703,1,none⟩ = some (.int .i64 a0_1):=(bC BK703.out 1).trans rfl;have hcz6_2 : w5.cell? ⟨gb703,2,none⟩ = some (.int .i64 a0_2):=(bC BK703.out 2).trans rfl;have hcz6_3 : w5.cell? ⟨gb703,3,none⟩ = some (.int .i64 a0_3):=(bC BK703.out 3).trans rfl;have hcz6_4 : w5.cell? ⟨gb703,4,none⟩ = some (.int .i64 a0_4):=(bC BK703.out 4).trans rfl;have hcz6_5 : w5.cell? ⟨gb703,5,none⟩ = some (.int .i64 a0_5):=(bC BK703.out 5).trans rfl;have hcz6_6 : w5.cell? ⟨gb703,6,none⟩ = some (.int .i64 a0_6):=(bC BK703.out 6).trans rfl;have hcz6_7 : w5.cell? ⟨gb703,7,none⟩ = some (.int .i64 a0_7):=(bC BK703.out 7).trans rfl;have hcz6_8 : w5.cell? ⟨gb703,8,none⟩ = some (.int .i64 a0_8):=(bC BK703.out 8).trans rfl;have hcz6_9 : w5.cell? ⟨gb703,9,none⟩ = some (.slice A0_9 l0_9.length c0_9):=(bC BK703.out 9).trans rfl;have hcz6_10 : w5.cell? ⟨gb703,10,none⟩ = some (.slice A0_10 l0_10.length c0_10):=(bC BK703.out 10).trans rfl;have hcz6_11 : w5.cell? ⟨gb703,11,none⟩ = some (.slice A0_11 l0_11.length c0_11):=(bC BK703.out 11).trans rfl;have hfz6_0:=bF BK703.out 0;have hfz6_1:=bF BK703.out 1;have hfz6_2:=bF BK703.out 2;have hfz6_3:=bF BK703.out 3;have hfz6_4:=bF BK703.out 4;have hfz6_5:=bF BK703.out 5;have hfz6_6:=bF BK703.out 6;have hfz6_7:=bF BK703.out 7;have hfz6_8:=bF BK703.out 8;have hfz6_9:=bF BK703.out 9;have hfz6_10:=bF BK703.out 10;have hfz6_11:=bF BK703.out 11)|((with_reducible refine gC (f:=12) rfl ?_);refine goesL_ (some 9) rfl rfl Tryd.func12 (by kernel_rfl) rfl #[.agg #[.int .i64 a0_0,.int .i64 a0_1,.int .i64 a0_2,.int .i64 a0_3,.int .i64 a0_4,.int .i64 a0_5,.int .i64 a0_6,.int .i64 a0_7,.int .i64 a0_8,.slice A0_9 l0_9.length c0_9,.slice A0_10 l0_10.length c0_10,.slice A0_11 l0_11.length c0_11]] rfl (by (try simp only [mT,mC,mN]);first|done|rfl|(simp only [lD,lT];rfl)) ?_;(with_reducible refine (conf_Check.calls k a0_0 a0_1 a0_2 a0_3 a0_4 a0_5 a0_6 a0_7 a0_8 _ _ l0_9 _ _ l0_10 _ _ l0_11 t704 _ ?side1 ?side2 ?side3 ?side4 ?side5 ?side6 ?side7 A3.out).mono ?_);(case side1=>exact Glob.below HG.out (by repeat (first|(with_reducible first|exact HB.out|apply bL|apply pN|apply bE|refine bS ?_ GE703.out)|exact HB.out)));(case side2=>repeat (first|exact (Kd.C_below HR0_9.out HB.out)|(with_reducible refine Kd.C_alloc ?_ _)|(with_reducible refine Kd.C_drewN ?_ _)|(with_reducible refine Kd.C_drew ?_)));(case side3=>exact HC0_9.out);(case side4=>repeat (first|exact (Kd.C_below HR0_10.out HB.out)|(with_reducible refine Kd.C_alloc ?_ _)|(with_reducible refine Kd.C_drewN ?_ _)|(with_reducible refine Kd.C_drew ?_)));(case side5=>exact HC0_10.out);(case side6=>repeat (first|exact (Kd.C_below HR0_11.out HB.out)|(with_reducible refine Kd.C_alloc ?_ _)|(with_reducible refine Kd.C_drewN ?_ _)|(with_reducible refine Kd.C_drew ?_)));(case side7=>exact HC0_11.out);rintro e w7 ⟨rfl,hb⟩;refine ⟨_,rfl,?_⟩;have n0_:=Am (blk_below (g:=gb703) (by (with_reducible repeat (first|refine bN ?_ _|refine bD ?_|refine bA ?_ _));exact BK703.out) hb);have n1_:=Am (below_step (by repeat (first|(with_reducible first|exact HB.out|apply bL|apply pN|apply bE|refine bS ?_ GE703.out)|exact HB.out)) hb);clear BK703;clear HB;have BK703:=n0_;have HB:=n1_;clear n0_ n1_;(try clear hb);(try clear hb2);(try clear hk);(try clear hi);have hcz8_0 : w7.cell? ⟨gb703,0,none⟩ = some (.int .i64 a0_0):=(bC BK703.out 0).trans rfl;have hcz8_1 : w7.cell? ⟨gb703,1,none⟩ = some (.int .i64 a0_1):=(bC BK703.out 1).trans rfl;have hcz8_2 : w7.cell? ⟨gb703,2,none⟩ = some (.int .i64 a0_2):=(bC BK703.out 2).trans rfl;have hcz8_3 : w7.cell? ⟨gb703,3,none⟩ = some (.int .i64 a0_3):=(bC BK703.out 3).trans rfl;have hcz8_4 : w7.cell? ⟨gb703,4,none⟩ = some (.int .i64 a0_4):=(bC BK703.out 4).trans rfl;have hcz8_5 : w7.cell? ⟨gb703,5,none⟩ = some (.int .i64 a0_5):=(bC BK703.out 5).trans rfl;have hcz8_6 : w7.cell? ⟨gb703,6,none⟩ = some (.int .i64 a0_6):=(bC BK703.out 6).trans rfl;have hcz8_7 : w7.cell? ⟨gb703,7,none⟩ = some (.int .i64 a0_7):=(bC BK703.out 7).trans rfl;have hcz8_8 : w7.cell? ⟨gb703,8,none⟩ = some (.int .i64 a0_8):=(bC BK703.out 8).trans rfl;have hcz8_9 : w7.cell? ⟨gb703,9,none⟩ = some (.slice A0_9 l0_9.length c0_9):=(bC BK703.out 9).trans rfl;have hcz8_10 : w7.cell? ⟨gb703,10,none⟩ = some (.slice A0_10 l0_10.length c0_10):=(bC BK703.out 10).trans rfl;have hcz8_11 : w7.cell? ⟨gb703,11,none⟩ = some (.slice A0_11 l0_11.length c0_11):=(bC BK703.out 11).trans rfl;have hfz8_0:=bF BK703.out 0;have hfz8_1:=bF BK703.out 1;have hfz8_2:=bF BK703.out 2;have hfz8_3:=bF BK703.out 3;have hfz8_4:=bF BK703.out 4;have hfz8_5:=bF BK703.out 5;have hfz8_6:=bF BK703.out 6;have hfz8_7:=bF BK703.out 7;have hfz8_8:=bF BK703.out 8;have hfz8_9:=bF BK703.out 9;have hfz8_10:=bF BK703.out 10;have hfz8_11:=bF BK703.out 11))
 go_loopg [1,5,6] k (fun kq v1 v5 v6 w'=>∃ (x1_1 : ByteArray) (x5_1 : List ByteArray) (x6_1 : Int),v1 = .string x1_1∧v6 = .int .i64 x6_1∧Aside0 (conf_Path.l0 kq x1_1 x5_1 x6_1 a0_0 a0_1 a0_2 a0_3 a0_4 a0_5 a0_6 a0_7 a0_8 l0_9 l0_10 l0_11 = some r)∧Aside0 (kq≤k)∧Aside0 (Kd.R Kd.string 9 w' w.heap.size (fun _=>True) v5 x5_1)∧Aside0 (w'.heap[gb703]? = some (.cells #[.int .i64 a0_0,.int .i64 a0_1,.int .i64 a0_2,.int .i64 a0_3,.int .i64 a0_4,.int .i64 a0_5,.int .i64 a0_6,.int .i64 a0_7,.int .i64 a0_8,(.slice A0_9 l0_9.length c0_9),(.slice A0_10 l0_10.length c0_10),(.slice A0_11 l0_11.length c0_11)] 28 (0,0)))∧Aside0 (Below w.heap.size w w'))
 case atStart=>exact ⟨(a1),(([] : List ByteArray)),(wrap64 ((l0_11.length : Int) - 1)),(by first|rfl|(simp;done)|(simp [*];done)),(by first|rfl|(simp;done)|(simp [*];done)),H',⟨Nat.le_refl _⟩,⟨by first|exact Kd.R_nil _ _ _ _ _|exact Kd.N_nil _ _ _ _ _|exact Kd.V_nil _ _ _ _ _|exact Kd.Q_nil _ _ _ _ _|exact Kd.S_nil _ _ _ _ _⟩,⟨by (with_reducible repeat (first|refine bN ?_ _|refine bD ?_|refine bA ?_ _));exact BK703.out⟩,⟨by repeat (first|(with_reducible first|exact HB.out|apply bL|apply pN|apply bE|refine bS ?_ GE703.out)|exact HB.out)⟩⟩
 case round =>
  clear H'
  obtain ⟨x1_1,x5_1,x6_1,rfl,rfl,HA,HK1,HO_5,BK703,HB⟩:=hrel
  cases gk with
  | zero=>exact absurd HA.out (by simp [conf_Path.l0])
  | succ k1 =>
   have H:=HA.out
   clear HA
   simp only [conf_Path.l0] at H
   by_cases c9 : x6_1 ≥ 0
   rotate_left
   ·rw [if_neg c9] at H
    have c9b0 : decide (0≤x6_1) = false:=decide_eq_false c9
    clear c9
    obtain rfl:=Option.some.inj H
    go_wp2
    go_ret
    exact ⟨_,by first|rfl|(simp [errW_none,errW_some] <;> rfl)|(simp [*,errW_none,errW_some] <;> rfl),by (with_reducible repeat (first|apply Kd.R_alloc|apply Kd.R_drewN|apply Kd.R_drew));exact HO_5.out,by repeat (first|(with_reducible first|exact HB.out|apply bL|apply pN|apply bE|refine bS ?_ GE703.out)|exact HB.out)⟩
   rw [if_pos c9] at H
   have c9b0 : decide (0≤x6_1) = true:=decide_eq_true c9
   clear c9
   by_cases c10 : 0≤x6_1
   rotate_left
   ·rw [if_neg c10] at H
    exact absurd H (by simp)
   rw [if_pos c10] at H
   have c10b0 : decide (0≤x6_1) = true:=decide_eq_true c10
   clear c10
   by_cases c11 : x6_1 < (l0_11.length : Int)
   rotate_left
   ·rw [if_neg c11] at H
    exact absurd H (by simp)
   rw [if_pos c11] at H
   have c11b0 : decide (x6_1 < (l0_11.length : Int)) = true:=decide_eq_true c11
   clear c11
   by_cases c12 : ((rd_T48 l0_11 x6_1).f0).toList = x1_1.toList
   rotate_left
   ·rw [if_neg c12] at H
    have c12b0 : (((rd_T48 l0_11 x6_1).f0).toList == x1_1.toList) = false:=beq_eq_false_iff_ne.mpr c12
    have c12b1 : (((rd_T48 l0_11 x6_1).f0).toList != x1_1.toList) = true:=bne_iff_ne.mpr c12
    have H':=Am H
    clear H
    have hcz20_0 : wr.cell? ⟨gb703,0,none⟩ = some (.int .i64 a0_0):=(bC BK703.out 0).trans rfl
    have hcz20_1 : wr.cell? ⟨gb703,1,none⟩ = some (.int .i64 a0_1):=(bC BK703.out 1).trans rfl
    have hcz20_2 : wr.cell? ⟨gb703,2,none⟩ = some (.int .i64 a0_2):=(bC BK703.out 2).trans rfl
    have hcz20_3 : wr.cell? ⟨gb703,3,none⟩ = some (.int .i64 a0_3):=(bC BK703.out 3).trans rfl
    have hcz20_4 : wr.cell? ⟨gb703,4,none⟩ = some (.int .i64 a0_4):=(bC BK703.out 4).trans rfl
    have hcz20_5 : wr.cell? ⟨gb703,5,none⟩ = some (.int .i64 a0_5):=(bC BK703.out 5).trans rfl
    have hcz20_6 : wr.cell? ⟨gb703,6,none⟩ = some (.int .i64 a0_6):=(bC BK703.out 6).trans rfl
    have hcz20_7 : wr.cell? ⟨gb703,7,none⟩ = some (.int .i64 a0_7):=(bC BK703.out 7).trans rfl
    have hcz20_8 : wr.cell? ⟨gb703,8,none⟩ = some (.int .i64 a0_8):=(bC BK703.out 8).trans rfl
    have hcz20_9 : wr.cell? ⟨gb703,9,none⟩ = some (.slice A0_9 l0_9.length c0_9):=(bC BK703.out 9).trans rfl
    have hcz20_10 : wr.cell? ⟨gb703,10,none⟩ = some (.slice A0_10 l0_10.length c0_10):=(bC BK703.out 10).trans rfl
    have hcz20_11 : wr.cell? ⟨gb703,11,none⟩ = some (.slice A0_11 l0_11.length c0_11):=(bC BK703.out 11).trans rfl
    have hfz20_0:=bF BK703.out 0
    have hfz20_1:=bF BK703.out 1
    have hfz20_2:=bF BK703.out 2
    have hfz20_3:=bF BK703.out 3
    have hfz20_4:=bF BK703.out 4
    have hfz20_5:=bF BK703.out 5
    have hfz20_6:=bF BK703.out 6
    have hfz20_7:=bF BK703.out 7
    have hfz20_8:=bF BK703.out 8
    have hfz20_9:=bF BK703.out 9
    have hfz20_10:=bF BK703.out 10
    have hfz20_11:=bF BK703.out 11
    have p705 : 0≤(x6_1 : Int):=of_decide_eq_true (by first|(with_reducible assumption)|assumption)
    have q705 : x6_1 < (l0_11.length : Int):=of_decide_eq_true (by first|(with_reducible assumption)|assumption)
    obtain ⟨ad705,e705,hx705_0,hx705_1,hx705_2⟩:=at_T48 HR0_11.out x6_1 p705 q705
    cases e705
    replace hx705_0:=(HB.out.cell (wB w _ hx705_0)).trans hx705_0
    replace hx705_1:=(HB.out.cell (wB w _ hx705_1)).trans hx705_1
    replace hx705_2:=(HB.out.cell (wB w _ hx705_2)).trans hx705_2
    replace p705:=eq_true p705
    replace q705:=eq_true q705
    go_wp2_with (first|((with_reducible refine gD (N:=7) rfl ?_);refine box_event ?hg (N:=7) ?hd (cs:=#[.string (⟨#[]⟩ : ByteArray),.string (⟨#[]⟩ : ByteArray),.int .i64 0]) (t:=48) ?hr ?_;(case hd=>rfl);(case hg=>rfl);(case hr=>first|(go_simp;done)|(go_simp;rfl));intro gb706 hg w21 hbox hb;have n0_:=Am (Kd.R_below (by (with_reducible repeat (first|apply Kd.R_alloc|apply Kd.R_drewN|apply Kd.R_drew));exact HO_5.out) hb);have n1_:=Am (blk_below (g:=gb703) (by (with_reducible repeat (first|refine bN ?_ _|refine bD ?_|refine bA ?_ _));exact BK703.out) hb);have n2_:=Am (below_step (by repeat (first|(with_reducible first|exact HB.out|apply bL|apply pN|apply bE|refine bS ?_ GE703.out)|exact HB.out)) hb);have n3_:=Am (hbox);have n4_:=Am ((by rw [hg];exact (bZ (by repeat (first|(with_reducible first|exact HB.out|apply bL|apply pN|apply bE|refine bS ?_ GE703.out)|exact HB.out))) : w.heap.size≤gb706));have n5_:=Am ((by rw [hg];exact (bZ (by repeat (first|(with_reducible first|exact HB.out|apply bL|apply pN|apply bE|refine bS ?_ GE703.out)|exact HB.out))) : w.heap.size≤gb706));have n6_:=Am ((by rw [hg];exact Nat.ne_of_lt (blk_lt (g:=gb703) (by (with_reducible repeat (first|refine bN ?_ _|refine bD ?_|refine bA ?_ _));exact BK703.out)) : gb703 ≠ gb706));have n7_:=Am ((by rw [hg];exact Nat.ne_of_gt (blk_lt (g:=gb703) (by (with_reducible repeat (first|refine bN ?_ _|refine bD ?_|refine bA ?_ _));exact BK703.out)) : gb706 ≠ gb703));clear HO_5;clear BK703;clear HB;have HO_5:=n0_;have BK703:=n1_;have HB:=n2_;have BK706:=n3_;have GW706:=n4_;have GE706:=n5_;have NB703_706:=n6_;have NB706_703:=n7_;clear n0_ n1_ n2_ n3_ n4_ n5_ n6_ n7_;clear hb hbox hg;have hnb22:=NB706_703.out;have hnc22:=NB703_706.out;have hcz23_0 : w21.cell? ⟨gb706,0,none⟩ = some (.string (⟨#[]⟩ : ByteArray)):=(bC BK706.out 0).trans rfl;have hcz23_1 : w21.cell? ⟨gb706,1,none⟩ = some (.string (⟨#[]⟩ : ByteArray)):=(bC BK706.out 1).trans rfl;have hcz23_2 : w21.cell? ⟨gb706,2,none⟩ = some (.int .i64 0):=(bC BK706.out 2).trans rfl;have hfz23_0:=bF BK706.out 0;have hfz23_1:=bF BK706.out 1;have hfz23_2:=bF BK706.out 2))
    go_roundg k1
    case measure=>have:=HK1.out;omega
    case rel=>exact ⟨(x1_1),(x5_1),(wrap64 (x6_1 - 1)),(by first|rfl|(simp;done)|(simp [*];done)),(by first|rfl|(simp;done)|(simp [*];done)),H',⟨by have:=HK1.out;omega⟩,⟨by (with_reducible repeat (first|apply Kd.R_alloc|apply Kd.R_drewN|apply Kd.R_drew));exact Kd.R_mono (Kd.R_far (p:=⟨gb706,2,none⟩) (Kd.R_far (p:=⟨gb706,1,none⟩) (Kd.R_far (p:=⟨gb706,0,none⟩) (Kd.R_types HO_5.out BK706.out (by decide)) (fun _ hk=>hk.2) (.string ((rd_T48 l0_11 x6_1).f0))) (fun _ hk=>hk.2) (.string ((rd_T48 l0_11 x6_1).f1))) (fun _ hk=>hk.2) (.int .i64 ((rd_T48 l0_11 x6_1).f2))) (fun _ hk=>trivial)⟩,⟨by (with_reducible repeat (first|refine bN ?_ _|refine bD ?_|refine bA ?_ _));refine blk_far ?_ NB703_706.out _;(with_reducible repeat (first|refine bN ?_ _|refine bD ?_|refine bA ?_ _));refine blk_far ?_ NB703_706.out _;(with_reducible repeat (first|refine bN ?_ _|refine bD ?_|refine bA ?_ _));refine blk_far ?_ NB703_706.out _;(with_reducible repeat (first|refine bN ?_ _|refine bD ?_|refine bA ?_ _));exact BK703.out⟩,⟨by repeat (first|(with_reducible first|exact HB.out|apply bL|apply pN|apply bE|refine bS ?_ GE703.out|refine bS ?_ GE706.out)|exact HB.out)⟩⟩
   rw [if_pos c12] at H
   have c12b0 : (((rd_T48 l0_11 x6_1).f0).toList == x1_1.toList) = true:=beq_iff_eq.mpr c12
   have c12b1 : (((rd_T48 l0_11 x6_1).f0).toList != x1_1.toList) = false:=bne_eq_false_iff_eq.mpr c12
   clear c12
   by_cases c13 : x5_1.length < 8796093022208
   rotate_left
   ·rw [if_neg c13] at H
    exact absurd H (by simp)
   rw [if_pos c13] at H
   have LMc13:=Am c13
   clear c13
   obtain ⟨y707,hy707⟩ : ∃ y_ : List ByteArray,y_ = (x5_1 ++ [(rd_T48 l0_11 x6_1).f0]):=⟨_,rfl⟩
   replace H : (conf_Path.l0 k1 ((rd_T48 l0_11 x6_1).f1) y707 (wrap64 (x6_1 - 1)) a0_0 a0_1 a0_2 a0_3 a0_4 a0_5 a0_6 a0_7 a0_8 l0_9 l0_10 l0_11) = some r:=by first|(rw [hy707];with_reducible exact H)|(have H2_:=(Option.bind_some _ _).symm.trans H;rw [hy707];with_reducible exact H2_)|(have H2_:=(Option.bind_some _ _).symm.trans H;with_reducible exact H2_)|with_reducible exact H|(rw [hy707];exact H)|exact H
   have Ny707:=Am hy707
   clear hy707
   have H':=Am H
   clear H
   have hcz14_0 : wr.cell? ⟨gb703,0,none⟩ = some (.int .i64 a0_0):=(bC BK703.out 0).trans rfl
   have hcz14_1 : wr.cell? ⟨gb703,1,none⟩ = some (.int .i64 a0_1):=(bC BK703.out 1).trans rfl
   have hcz14_2 : wr.cell? ⟨gb703,2,none⟩ = some (.int .i64 a0_2):=(bC BK703.out 2).trans rfl
   have hcz14_3 : wr.cell? ⟨gb703,3,none⟩ = some (.int .i64 a0_3):=(bC BK703.out 3).trans rfl
   have hcz14_4 : wr.cell? ⟨gb703,4,none⟩ = some (.int .i64 a0_4):=(bC BK703.out 4).trans rfl
   have hcz14_5 : wr.cell? ⟨gb703,5,none⟩ = some (.int .i64 a0_5):=(bC BK703.out 5).trans rfl
   have hcz14_6 : wr.cell? ⟨gb703,6,none⟩ = some (.int .i64 a0_6):=(bC BK703.out 6).trans rfl
   have hcz14_7 : wr.cell? ⟨gb703,7,none⟩ = some (.int .i64 a0_7):=(bC BK703.out 7).trans rfl
   have hcz14_8 : wr.cell? ⟨gb703,8,none⟩ = some (.int .i64 a0_8):=(bC BK703.out 8).trans rfl
   have hcz14_9 : wr.cell? ⟨gb703,9,none⟩ = some (.slice A0_9 l0_9.length c0_9):=(bC BK703.out 9).trans rfl
   have hcz14_10 : wr.cell? ⟨gb703,10,none⟩ = some (.slice A0_10 l0_10.length c0_10):=(bC BK703.out 10).trans rfl
   have hcz14_11 : wr.cell? ⟨gb703,11,none⟩ = some (.slice A0_11 l0_11.length c0_11):=(bC BK703.out 11).trans rfl
   have hfz14_0:=bF BK703.out 0
   have hfz14_1:=bF BK703.out 1
   have hfz14_2:=bF BK703.out 2
   have hfz14_3:=bF BK703.out 3
   have hfz14_4:=bF BK703.out 4
   have hfz14_5:=bF BK703.out 5
   have hfz14_6:=bF BK703.out 6
   have hfz14_7:=bF BK703.out 7
   have hfz14_8:=bF BK703.out 8
   have hfz14_9:=bF BK703.out 9
   have hfz14_10:=bF BK703.out 10
   have hfz14_11:=bF BK703.out 11
   have p705 : 0≤(x6_1 : Int):=of_decide_eq_true (by first|(with_reducible assumption)|assumption)
   have q705 : x6_1 < (l0_11.length : Int):=of_decide_eq_true (by first|(with_reducible assumption)|assumption)
   obtain ⟨ad705,e705,hx705_0,hx705_1,hx705_2⟩:=at_T48 HR0_11.out x6_1 p705 q705
   cases e705
   replace hx705_0:=(HB.out.cell (wB w _ hx705_0)).trans hx705_0
   replace hx705_1:=(HB.out.cell (wB w _ hx705_1)).trans hx705_1
   replace hx705_2:=(HB.out.cell (wB w _ hx705_2)).trans hx705_2
   replace p705:=eq_true p705
   replace q705:=eq_true q705
   go_wp2_with (first|((with_reducible refine gD (N:=7) rfl ?_);refine box_event ?hg (N:=7) ?hd (cs:=#[.string (⟨#[]⟩ : ByteArray),.string (⟨#[]⟩ : ByteArray),.int .i64 0]) (t:=48) ?hr ?_;(case hd=>rfl);(case hg=>rfl);(case hr=>first|(go_simp;done)|(go_simp;rfl));intro gb706 hg w15 hbox hb;have n0_:=Am (Kd.R_below (by (with_reducible repeat (first|apply Kd.R_alloc|apply Kd.R_drewN|apply Kd.R_drew));exact HO_5.out) hb);have n1_:=Am (blk_below (g:=gb703) (by (with_reducible repeat (first|refine bN ?_ _|refine bD ?_|refine bA ?_ _));exact BK703.out) hb);have n2_:=Am (below_step (by repeat (first|(with_reducible first|exact HB.out|apply bL|apply pN|apply bE|refine bS ?_ GE703.out)|exact HB.out)) hb);have n3_:=Am (hbox);have n4_:=Am ((by rw [hg];exact (bZ (by repeat (first|(with_reducible first|exact HB.out|apply bL|apply pN|apply bE|refine bS ?_ GE703.out)|exact HB.out))) : w.heap.size≤gb706));have n5_:=Am ((by rw [hg];exact (bZ (by repeat (first|(with_reducible first|exact HB.out|apply bL|apply pN|apply bE|refine bS ?_ GE703.out)|exact HB.out))) : w.heap.size≤gb706));have n6_:=Am ((by rw [hg];exact Nat.ne_of_lt (blk_lt (g:=gb703) (by (with_reducible repeat (first|refine bN ?_ _|refine bD ?_|refine bA ?_ _));exact BK703.out)) : gb703 ≠ gb706));have n7_:=Am ((by rw [hg];exact Nat.ne_of_gt (blk_lt (g:=gb703) (by (with_reducible repeat (first|refine bN ?_ _|refine bD ?_|refine bA ?_ _));exact BK703.out)) : gb706 ≠ gb703));clear HO_5;clear BK703;clear HB;have HO_5:=n0_;have BK703:=n1_;have HB:=n2_;have BK706:=n3_;have GW706:=n4_;have GE706:=n5_;have NB703_706:=n6_;have NB706_703:=n7_;clear n0_ n1_ n2_ n3_ n4_ n5_ n6_ n7_;clear hb hbox hg;have hnb16:=NB706_703.out;have hnc16:=NB703_706.out;have hcz17_0 : w15.cell? ⟨gb706,0,none⟩ = some (.string (⟨#[]⟩ : ByteArray)):=(bC BK706.out 0).trans rfl;have hcz17_1 : w15.cell? ⟨gb706,1,none⟩ = some (.string (⟨#[]⟩ : ByteArray)):=(bC BK706.out 1).trans rfl;have hcz17_2 : w15.cell? ⟨gb706,2,none⟩ = some (.int .i64 0):=(bC BK706.out 2).trans rfl;have hfz17_0:=bF BK706.out 0;have hfz17_1:=bF BK706.out 1;have hfz17_2:=bF BK706.out 2)|((with_reducible refine gate_builtin (b:=.append) (xs:=#[.tmp 28,.tmp 31]) rfl ?_);at_builtin;refine Kd.R_append Kd.string (w0:=w) w.heap.size rfl (.tmp 28) (.tmp 31) 58 9 (.string ⟨#[]⟩) 16 rfl Tryd.underlying58 info9 rfl (by decide) (by omega) u5 x5_1 ((rd_T48 l0_11 x6_1).f0) [.string ((rd_T48 l0_11 x6_1).f0)] (fun _=>True) (fun _=>False) rfl (by first|(go_simp;done)|(go_simp;rfl)) ?aP (fun _ hk=>hk.elim) ?aF ?aO ?aB ?aS ?aL ?_;(case aP=>exact rfl);(case aB=>exact (by repeat (first|(with_reducible first|exact HB.out|apply bL|apply pN|apply bE|refine bS ?_ GE703.out|refine bS ?_ GE706.out)|exact HB.out)));(case aF=>exact (fun _ _=>trivial));(case aO=>exact (by (with_reducible repeat (first|apply Kd.R_alloc|apply Kd.R_drewN|apply Kd.R_drew));exact Kd.R_mono (Kd.R_far (p:=⟨gb706,2,none⟩) (Kd.R_far (p:=⟨gb706,1,none⟩) (Kd.R_far (p:=⟨gb706,0,none⟩) (Kd.R_types HO_5.out BK706.out (by decide)) (fun _ hk=>hk.2) (.string ((rd_T48 l0_11 x6_1).f0))) (fun _ hk=>hk.2) (.string ((rd_T48 l0_11 x6_1).f1))) (fun _ hk=>hk.2) (.int .i64 ((rd_T48 l0_11 x6_1).f2))) (fun _ hk=>trivial)));(case aS=>exact (bZ (by repeat (first|(with_reducible first|exact HB.out|apply bL|apply pN|apply bE|refine bS ?_ GE703.out|refine bS ?_ GE706.out)|exact HB.out))));(case aL=>have:=LMc13.out;omega);intro v708 w18 ho hb hg hat;rw [← Ny707.out] at ho;have n0_:=Am (blk_grown (g:=gb703) (o:=.cells #[.int .i64 a0_0,.int .i64 a0_1,.int .i64 a0_2,.int .i64 a0_3,.int .i64 a0_4,.int .i64 a0_5,.int .i64 a0_6,.int .i64 a0_7,.int .i64 a0_8,.slice A0_9 l0_9.length c0_9,.slice A0_10 l0_10.length c0_10,.slice (some ad705) l0_11.length c0_11] 28 (0,0)) (by (with_reducible repeat (first|refine bN ?_ _|refine bD ?_|refine bA ?_ _));refine blk_far ?_ NB703_706.out _;(with_reducible repeat (first|refine bN ?_ _|refine bD ?_|refine bA ?_ _));refine blk_far ?_ NB703_706.out _;(with_reducible repeat (first|refine bN ?_ _|refine bD ?_|refine bA ?_ _));refine blk_far ?_ NB703_706.out _;(with_reducible repeat (first|refine bN ?_ _|refine bD ?_|refine bA ?_ _));exact BK703.out) hg (Kd.R_ne HO_5.out BK703.out (by decide)));have n1_:=Am (blk_grown (g:=gb706) (o:=.cells #[.string ((rd_T48 l0_11 x6_1).f0),.string ((rd_T48 l0_11 x6_1).f1),.int .i64 ((rd_T48 l0_11 x6_1).f2)] 48 (0,0)) (by (with_reducible repeat (first|refine bN ?_ _|refine bD ?_|refine bA ?_ _));refine blk_put (cs:=#[.string ((rd_T48 l0_11 x6_1).f0),.string ((rd_T48 l0_11 x6_1).f1),.int .i64 0]) ?_ 2 _ rfl;(with_reducible repeat (first|refine bN ?_ _|refine bD ?_|refine bA ?_ _));refine blk_put (cs:=#[.string ((rd_T48 l0_11 x6_1).f0),.string (⟨#[]⟩ : ByteArray),.int .i64 0]) ?_ 1 _ rfl;(with_reducible repeat (first|refine bN ?_ _|refine bD ?_|refine bA ?_ _));refine blk_put (cs:=#[.string (⟨#[]⟩ : ByteArray),.string (⟨#[]⟩ : ByteArray),.int .i64 0]) ?_ 0 _ rfl;(with_reducible repeat (first|refine bN ?_ _|refine bD ?_|refine bA ?_ _));exact BK706.out) hg (Kd.R_ne HO_5.out BK706.out (by decide)));have n2_:=Am (hb);have n3_:=Am (ho);clear BK703;clear BK706;clear HB;clear HO_5;have BK703:=n0_;have BK706:=n1_;have HB:=n2_;have HO709:=n3_;clear n0_ n1_ n2_ n3_;clear ho hb hg hat;have hcz19_0 : w18.cell? ⟨gb706,0,none⟩ = some (.string ((rd_T48 l0_11 x6_1).f0)):=(bC BK706.out 0).trans rfl;have hcz19_1 : w18.cell? ⟨gb706,1,none⟩ = some (.string ((rd_T48 l0_11 x6_1).f1)):=(bC BK706.out 1).trans rfl;have hcz19_2 : w18.cell? ⟨gb706,2,none⟩ = some (.int .i64 ((rd_T48 l0_11 x6_1).f2)):=(bC BK706.out 2).trans rfl;have hfz19_0:=bF BK706.out 0;have hfz19_1:=bF BK706.out 1;have hfz19_2:=bF BK706.out 2))
   go_roundg k1
   case measure=>have:=HK1.out;omega
   case rel=>exact ⟨((rd_T48 l0_11 x6_1).f1),(y707),(wrap64 (x6_1 - 1)),(by first|rfl|(simp;done)|(simp [*];done)),(by first|rfl|(simp;done)|(simp [*];done)),H',⟨by have:=HK1.out;omega⟩,⟨by (with_reducible repeat (first|apply Kd.R_alloc|apply Kd.R_drewN|apply Kd.R_drew));exact HO709.out⟩,⟨by (with_reducible repeat (first|refine bN ?_ _|refine bD ?_|refine bA ?_ _));exact BK703.out⟩,⟨by repeat (first|(with_reducible first|exact HB.out|apply bL|apply pN|apply bE|refine bS ?_ GE703.out|refine bS ?_ GE706.out)|exact HB.out)⟩⟩
mutual
def gangerref10_Path.l0 : Nat→ByteArray→List ByteArray→Int→Int→Int→Int→Int→Int→Int→Int→Int→Int→List (S50)→List (S52)→List (S48)→Option (List ByteArray)
 | 0,_,_,_,_,_,_,_,_,_,_,_,_,_,_,_=>none
 | k + 1,x1,x5,x6,v_0,v_1,v_2,v_3,v_4,v_5,v_6,v_7,v_8,v_9,v_10,v_11=>if x6 = 0 then (gangerref10_Path.l1 k x1 x5 x6 (-1) 0 v_0 v_1 v_2 v_3 v_4 v_5 v_6 v_7 v_8 v_9 v_10 v_11) else (some ([] : List ByteArray))
def gangerref10_Path.l1 : Nat→ByteArray→List ByteArray→Int→Int→Int→Int→Int→Int→Int→Int→Int→Int→Int→Int→List (S50)→List (S52)→List (S48)→Option (List ByteArray)
 | 0,_,_,_,_,_,_,_,_,_,_,_,_,_,_,_,_,_=>none
 | k + 1,x1,x5,x6,x7,x8,v_0,v_1,v_2,v_3,v_4,v_5,v_6,v_7,v_8,v_9,v_10,v_11=>if x8 < (v_11.length : Int) then (if 0≤x8 then (if ((rd_T48 v_11 x8).f0).toList = x1.toList then (gangerref10_Path.l1 k x1 x5 x6 x8 (wrap64 (x8 + 1)) v_0 v_1 v_2 v_3 v_4 v_5 v_6 v_7 v_8 v_9 v_10 v_11) else (gangerref10_Path.l1 k x1 x5 x6 x7 (wrap64 (x8 + 1)) v_0 v_1 v_2 v_3 v_4 v_5 v_6 v_7 v_8 v_9 v_10 v_11)) else (none)) else (if x7 < 0 then (some x5) else (if x5.length < 8796093022208 then (if 0≤x7 then (if x7 < (v_11.length : Int) then (gangerref10_Path.l0 k ((rd_T48 v_11 x7).f1) (x5 ++ [x1]) x6 v_0 v_1 v_2 v_3 v_4 v_5 v_6 v_7 v_8 v_9 v_10 v_11) else (none)) else (none)) else (none)))
end
def gangerref10_Path.f (k : Nat) (a0_0 : Int) (a0_1 : Int) (a0_2 : Int) (a0_3 : Int) (a0_4 : Int) (a0_5 : Int) (a0_6 : Int) (a0_7 : Int) (a0_8 : Int) (l0_9 : List (S50)) (l0_10 : List (S52)) (l0_11 : List (S48)) (a1 : ByteArray) : Option (List ByteArray):=(gangerref10_Check.f k a0_0 a0_1 a0_2 a0_3 a0_4 a0_5 a0_6 a0_7 a0_8 l0_9 l0_10 l0_11).bind fun t711=>(gangerref10_Path.l0 k a1 ([] : List ByteArray) t711 a0_0 a0_1 a0_2 a0_3 a0_4 a0_5 a0_6 a0_7 a0_8 l0_9 l0_10 l0_11)
set_option maxHeartbeats 8000000 in
set_option maxRecDepth 100000 in
theorem gangerref10_Path.calls (k : Nat) (a0_0 : Int) (a0_1 : Int) (a0_2 : Int) (a0_3 : Int) (a0_4 : Int) (a0_5 : Int) (a0_6 : Int) (a0_7 : Int) (a0_8 : Int) (A0_9 : Option Addr) (c0_9 : Nat) (l0_9 : List (S50)) (A0_10 : Option Addr) (c0_10 : Nat) (l0_10 : List (S52)) (A0_11 : Option Addr) (c0_11 : Nat) (l0_11 : List (S48)) (a1 : ByteArray) (r : List ByteArray) (w : World) (hr0_9 : Kd.C k50 w A0_9 l0_9.length l0_9) (hc0_9 : l0_9.length≤c0_9) (hr0_10 : Kd.C k52 w A0_10 l0_10.length l0_10) (hc0_10 : l0_10.length≤c0_10) (hr0_11 : Kd.C k48 w A0_11 l0_11.length l0_11) (hc0_11 : l0_11.length≤c0_11) (h : gangerref10_Path.f k a0_0 a0_1 a0_2 a0_3 a0_4 a0_5 a0_6 a0_7 a0_8 l0_9 l0_10 l0_11 a1 = some r) :
  Calls Tryd.prog 22 #[.agg #[.int .i64 a0_0,.int .i64 a0_1,.int .i64 a0_2,.int .i64 a0_3,.int .i64 a0_4,.int .i64 a0_5,.int .i64 a0_6,.int .i64 a0_7,.int .i64 a0_8,.slice A0_9 l0_9.length c0_9,.slice A0_10 l0_10.length c0_10,.slice A0_11 l0_11.length c0_11],.string a1] w fun e w'=>∃ v0_ : Value,e = .returned (v0_)∧Kd.R Kd.string 9 w' w.heap.size (fun _=>True) v0_ r∧Below w.heap.size w w':=by
 have hu28:=Tryd.underlying28
 have HR0_9:=Am hr0_9
 have HC0_9:=Am hc0_9
 clear hr0_9 hc0_9
 have HR0_10:=Am hr0_10
 have HC0_10:=Am hc0_10
 clear hr0_10 hc0_10
 have HR0_11:=Am hr0_11
 have HC0_11:=Am hc0_11
 clear hr0_11 hc0_11
 have HB:=Am (Below.refl w.heap.size w)
 have H : ((gangerref10_Check.f k a0_0 a0_1 a0_2 a0_3 a0_4 a0_5 a0_6 a0_7 a0_8 l0_9 l0_10 l0_11).bind fun t711=>(gangerref10_Path.l0 k a1 ([] : List ByteArray) t711 a0_0 a0_1 a0_2 a0_3 a0_4 a0_5 a0_6 a0_7 a0_8 l0_9 l0_10 l0_11)) = some r:=h
 clear h
 replace H:=oB H
 obtain ⟨t711,A30,H⟩:=H
 replace H : (gangerref10_Path.l0 k a1 ([] : List ByteArray) t711 a0_0 a0_1 a0_2 a0_3 a0_4 a0_5 a0_6 a0_7 a0_8 l0_9 l0_10 l0_11) = some r:=H
 have A3:=Am A30
 clear A30
 have H':=Am H
 clear H
 go_enter Tryd.func22,Tryd.ntmps22
 go_wp2_with (first|((with_reducible refine gD (N:=2) rfl ?_);refine box_event ?hg (N:=2) ?hd (cs:=#[.int .i64 a0_0,.int .i64 a0_1,.int .i64 a0_2,.int .i64 a0_3,.int .i64 a0_4,.int .i64 a0_5,.int .i64 a0_6,.int .i64 a0_7,.int .i64 a0_8,.slice A0_9 l0_9.length c0_9,.slice A0_10 l0_10.length c0_10,.slice A0_11 l0_11.length c0_11]) (t:=28) ?hr ?_;(case hd=>rfl);(case hg=>rfl);(case hr=>first|(go_simp;done)|(go_simp;rfl));intro gb710 hg w4 hbox hb;have n0_:=Am (below_step (by repeat (first|(with_reducible first|exact HB.out|apply bL|apply pN|apply bE)|exact HB.out)) hb);have n1_:=Am (hbox);have n2_:=Am ((by rw [hg];exact (bZ (by repeat (first|(with_reducible first|exact HB.out|apply bL|apply pN|apply bE)|exact HB.out))) : w.heap.size≤gb710));have n3_:=Am ((by rw [hg];exact (bZ (by repeat (first|(with_reducible first|exact HB.out|apply bL|apply pN|apply bE)|exact HB.out))) : w.heap.size≤gb710));clear HB;have HB:=n0_;have BK710:=n1_;have GW710:=n2_;have GE710:=n3_;clear n0_ n1_ n2_ n3_;clear hb hbox hg;have hcz5_0 : w4.cell? ⟨gb710,0,none⟩ = some (.int .i64 a0_0):=(bC BK710.out 0).trans rfl;have hcz5_1 : w4.cell? ⟨gb710,1,none⟩ = some (.int .i64 a0_1):=(bC BK710.out 1).trans rfl;have hcz5_2 : w4.cell? ⟨gb710,2,none⟩ = some (.int .i64 a0_2):=(bC BK710.out 2).trans rfl;have hcz5_3 : w4.cell? ⟨gb710,3,none⟩ = some (.int .i64 a0_3):=(bC BK710.out 3).trans rfl;have hcz5_4 : w4.cell? ⟨gb710,4,none⟩ = some (.int .i64 a0_4):=(bC BK710.out 4).trans rfl;have hcz5_5 : w4.cell? ⟨gb710,5,none⟩ = some (.int .i64 a0_5):=(bC BK710.out 5).trans rfl;have hcz5_6 : w4.cell? ⟨gb710,6,none⟩ = some (.int .i64 a0_6):=(bC BK710.out 6).trans rfl;have hcz5_7 : w4.cell? ⟨gb710,7,none⟩ = some (.int .i64 a0_7):=(bC BK710.out 7).trans rfl;have hcz5_8 : w4.cell? ⟨gb710,8,none⟩ = some (.int .i64 a0_8):=(bC BK710.out 8).trans rfl;have hcz5_9 : w4.cell? ⟨gb710,9,none⟩ = some (.slice A0_9 l0_9.length c0_9):=(bC BK710.out 9).trans rfl;have hcz5_10 : w4.cell? ⟨gb710,10,none⟩ = some (.slice A0_10 l0_10.length c0_10):=(bC BK710.out 10).trans rfl;have hcz5_11 : w4.cell? ⟨gb710,11,none⟩ = some (.slice A0_11 l0_11.length c0_11):=(bC BK710.out 11).trans rfl;have hfz5_0:=bF BK710.out 0;have hfz5_1:=bF BK710.out 1;have hfz5_2:=bF BK710.out 2;have hfz5_3:=bF BK710.out 3;have hfz5_4:=bF BK710.out 4;have hfz5_5:=bF BK710.out 5;have hfz5_6:=bF BK710.out 6;have hfz5_7:=bF BK710.out 7;have hfz5_8:=bF BK710.out 8;have hfz5_9:=bF BK710.out 9;have hfz5_10:=bF BK710.out 10;have hfz5_11:=bF BK710.out 11)|((with_reducible refine gC (f:=15) rfl ?_);refine goesL_ (some 10) rfl rfl Tryd.func15 (by kernel_rfl) rfl #[.agg #[.int .i64 a0_0,.int .i64 a0_1,.int .i64 a0_2,.int .i64 a0_3,.int .i64 a0_4,.int .i64 a0_5,.int .i64 a0_6,.int .i64 a0_7,.int .i64 a0_8,.slice A0_9 l0_9.length c0_9,.slice A0_10 l0_10.length c0_10,.slice A0_11 l0_11.length c0_11]] rfl (by (try simp only [mT,mC,mN]);first|done|rfl|(simp only [lD,lT];rfl)) ?_;(with_reducible refine (gangerref10_Check.calls k a0_0 a0_1 a0_2 a0_3 a0_4 a0_5 a0_6 a0_7 a0_8 _ _ l0_9 _ _ l0_10 _ _ l0_11 t711 _ ?side1 ?side2 ?side3 ?side4 ?side5 ?side6 A3.out).mono ?_);(case side1=>repeat (first|exact (Kd.C_below HR0_9.out HB.out)|(with_reducible refine Kd.C_alloc ?_ _)|(with_reducible refine Kd.C_drewN ?_ _)|(with_reducible refine Kd.C_drew ?_)));(case side2=>exact HC0_9.out);(case side3=>repeat (first|exact (Kd.C_below HR0_10.out HB.out)|(with_reducible refine Kd.C_alloc ?_ _)|(with_reducible refine Kd.C_drewN ?_ _)|(with_reducible refine Kd.C_drew ?_)));(case side4=>exact HC0_10.out);(case side5=>repeat (first|exact (Kd.C_below HR0_11.out HB.out)|(with_reducible refine Kd.C_alloc ?_ _)|(with_reducible refine Kd.C_drewN ?_ _)|(with_reducible refine Kd.C_drew ?_)));(case side6=>exact HC0_11.out);rintro e w6 ⟨rfl,hb⟩;refine ⟨_,rfl,?_⟩;have n0_:=Am (blk_below (g:=gb710) (by (with_reducible repeat (first|refine bN ?_ _|refine bD ?_|refine bA ?_ _));exact BK710.out) hb);have n1_:=Am (below_step (by repeat (first|(with_reducible first|exact HB.out|apply bL|apply pN|apply bE|refine bS ?_ GE710.out)|exact HB.out)) hb);clear BK710;clear HB;have BK710:=n0_;have HB:=n1_;clear n0_ n1_;(try clear hb);(try clear hb2);(try clear hk);(try clear hi)))
 go_loopg [1,5] k (fun kq v1 v5 w'=>∃ (x1_1 : ByteArray) (x5_1 : List ByteArray),v1 = .string x1_1∧Aside0 (gangerref10_Path.l0 kq x1_1 x5_1 t711 a0_0 a0_1 a0_2 a0_3 a0_4 a0_5 a0_6 a0_7 a0_8 l0_9 l0_10 l0_11 = some r)∧Aside0 (kq≤k)∧Aside0 (Kd.R Kd.string 9 w' w.heap.size (fun _=>True) v5 x5_1)∧Aside0 (w'.heap[gb710]? = some (.cells #[.int .i64 a0_0,.int .i64 a0_1,.int .i64 a0_2,.int .i64 a0_3,.int .i64 a0_4,.int .i64 a0_5,.int .i64 a0_6,.int .i64 a0_7,.int .i64 a0_8,(.slice A0_9 l0_9.length c0_9),(.slice A0_10 l0_10.length c0_10),(.slice A0_11 l0_11.length c0_11)] 28 (0,0)))∧Aside0 (Below w.heap.size w w'))
 case atStart=>exact ⟨(a1),(([] : List ByteArray)),(by first|rfl|(simp;done)|(simp [*];done)),H',⟨Nat.le_refl _⟩,⟨by first|exact Kd.R_nil _ _ _ _ _|exact Kd.N_nil _ _ _ _ _|exact Kd.V_nil _ _ _ _ _|exact Kd.Q_nil _ _ _ _ _|exact Kd.S_nil _ _ _ _ _⟩,⟨by (with_reducible repeat (first|refine bN ?_ _|refine bD ?_|refine bA ?_ _));exact BK710.out⟩,⟨by repeat (first|(with_reducible first|exact HB.out|apply bL|apply pN|apply bE|refine bS ?_ GE710.out)|exact HB.out)⟩⟩
 case round =>
  clear H'
  obtain ⟨x1_1,x5_1,rfl,HA,HK1,HO_5,BK710,HB⟩:=hrel
  cases gk with
  | zero=>exact absurd HA.out (by simp [gangerref10_Path.l0])
  | succ k1 =>
   have H:=HA.out
   clear HA
   simp only [gangerref10_Path.l0] at H
   by_cases c7 : t711 = 0
   rotate_left
   ·rw [if_neg c7] at H
    have c7b0 : (t711 == 0) = false:=beq_eq_false_iff_ne.mpr c7
    have c7b1 : (t711 != 0) = true:=bne_iff_ne.mpr c7
    obtain rfl:=Option.some.inj H
    go_wp2
    go_ret
    exact ⟨_,by first|rfl|(simp [errW_none,errW_some] <;> rfl)|(simp [*,errW_none,errW_some] <;> rfl),by first|exact Kd.R_nil _ _ _ _ _|exact Kd.N_nil _ _ _ _ _|exact Kd.V_nil _ _ _ _ _|exact Kd.Q_nil _ _ _ _ _|exact Kd.S_nil _ _ _ _ _,by repeat (first|(with_reducible first|exact HB.out|apply bL|apply pN|apply bE|refine bS ?_ GE710.out)|exact HB.out)⟩
   rw [if_pos c7] at H
   have c7b0 : (t711 == 0) = true:=beq_iff_eq.mpr c7
   have c7b1 : (t711 != 0) = false:=bne_eq_false_iff_eq.mpr c7
   clear c7
   have H':=Am H
   clear H
   go_wp2
   go_loopg [7,8] k1 (fun kq v7 v8 w'=>∃ (x7_2 : Int) (x8_2 : Int),v7 = .int .i64 x7_2∧v8 = .int .i64 x8_2∧Aside0 (gangerref10_Path.l1 kq x1_1 x5_1 t711 x7_2 x8_2 a0_0 a0_1 a0_2 a0_3 a0_4 a0_5 a0_6 a0_7 a0_8 l0_9 l0_10 l0_11 = some r)∧Aside0 (kq≤k1)∧Aside0 (Kd.R Kd.string 9 w' w.heap.size (fun _=>True) u5 x5_1)∧Aside0 (w'.heap[gb710]? = some (.cells #[.int .i64 a0_0,.int .i64 a0_1,.int .i64 a0_2,.int .i64 a0_3,.int .i64 a0_4,.int .i64 a0_5,.int .i64 a0_6,.int .i64 a0_7,.int .i64 a0_8,(.slice A0_9 l0_9.length c0_9),(.slice A0_10 l0_10.length c0_10),(.slice A0_11 l0_11.length c0_11)] 28 (0,0)))∧Aside0 (Below w.heap.size w w'))
   case atStart=>exact ⟨((-1)),(0),(by first|rfl|(simp;done)|(simp [*];done)),(by first|rfl|(simp;done)|(simp [*];done)),H',⟨Nat.le_refl _⟩,⟨by (with_reducible repeat (first|apply Kd.R_alloc|apply Kd.R_drewN|apply Kd.R_drew));exact HO_5.out⟩,⟨by (with_reducible repeat (first|refine bN ?_ _|refine bD ?_|refine bA ?_ _));exact BK710.out⟩,⟨by repeat (first|(with_reducible first|exact HB.out|apply bL|apply pN|apply bE|refine bS ?_ GE710.out)|exact HB.out)⟩⟩
   case round =>
    clear H'
    obtain ⟨x7_2,x8_2,rfl,rfl,HA,HK2,HO_5,BK710,HB⟩:=hrel
    cases gk with
    | zero=>exact absurd HA.out (by simp [gangerref10_Path.l1])
    | succ k2 =>
     have H:=HA.out
     clear HA
     simp only [gangerref10_Path.l1] at H
     by_cases c8 : x8_2 < (l0_11.length : Int)
     ·rw [if_pos c8] at H
      have c8b0 : decide (x8_2 < (l0_11.length : Int)) = true:=decide_eq_true c8
      clear c8
      by_cases c9 : 0≤x8_2
      rotate_left
      ·rw [if_neg c9] at H
       exact absurd H (by simp)
      rw [if_pos c9] at H
      have c9b0 : decide (0≤x8_2) = true:=decide_eq_true c9
      clear c9
      by_cases c10 : ((rd_T48 l0_11 x8_2).f0).toList = x1_1.toList
      rotate_left
      ·rw [if_neg c10] at H
       have c10b0 : (((rd_T48 l0_11 x8_2).f0).toList == x1_1.toList) = false:=beq_eq_false_iff_ne.mpr c10
       have c10b1 : (((rd_T48 l0_11 x8_2).f0).toList != x1_1.toList) = true:=bne_iff_ne.mpr c10
       have H':=Am H
       clear H
       have hcz12_0 : wr.cell? ⟨gb710,0,none⟩ = some (.int .i64 a0_0):=(bC BK710.out 0).trans rfl
       have hcz12_1 : wr.cell? ⟨gb710,1,none⟩ = some (.int .i64 a0_1):=(bC BK710.out 1).trans rfl
       have hcz12_2 : wr.cell? ⟨gb710,2,none⟩ = some (.int .i64 a0_2):=(bC BK710.out 2).trans rfl
       have hcz12_3 : wr.cell? ⟨gb710,3,none⟩ = some (.int .i64 a0_3):=(bC BK710.out 3).trans rfl
       have hcz12_4 : wr.cell? ⟨gb710,4,none⟩ = some (.int .i64 a0_4):=(bC BK710.out 4).trans rfl
       have hcz12_5 : wr.cell? ⟨gb710,5,none⟩ = some (.int .i64 a0_5):=(bC BK710.out 5).trans rfl
       have hcz12_6 : wr.cell? ⟨gb710,6,none⟩ = some (.int .i64 a0_6):=(bC BK710.out 6).trans rfl
       have hcz12_7 : wr.cell? ⟨gb710,7,none⟩ = some (.int .i64 a0_7):=(bC BK710.out 7).trans rfl
       have hcz12_8 : wr.cell? ⟨gb710,8,none⟩ = some (.int .i64 a0_8):=(bC BK710.out 8).trans rfl
       have hcz12_9 : wr.cell? ⟨gb710,9,none⟩ = some (.slice A0_9 l0_9.length c0_9):=(bC BK710.out 9).trans rfl
       have hcz12_10 : wr.cell? ⟨gb710,10,none⟩ = some (.slice A0_10 l0_10.length c0_10):=(bC BK710.out 10).trans rfl
       have hcz12_11 : wr.cell? ⟨gb710,11,none⟩ = some (.slice A0_11 l0_11.length c0_11):=(bC BK710.out 11).trans rfl
       have hfz12_0:=bF BK710.out 0
       have hfz12_1:=bF BK710.out 1
       have hfz12_2:=bF BK710.out 2
       have hfz12_3:=bF BK710.out 3
       have hfz12_4:=bF BK710.out 4
       have hfz12_5:=bF BK710.out 5
       have hfz12_6:=bF BK710.out 6
       have hfz12_7:=bF BK710.out 7
       have hfz12_8:=bF BK710.out 8
       have hfz12_9:=bF BK710.out 9
       have hfz12_10:=bF BK710.out 10
       have hfz12_11:=bF BK710.out 11
       have p712 : 0≤(x8_2 : Int):=of_decide_eq_true (by first|(with_reducible assumption)|assumption)
       have q712 : x8_2 < (l0_11.length : Int):=of_decide_eq_true (by first|(with_reducible assumption)|assumption)
       obtain ⟨ad712,e712,hx712_0,hx712_1,hx712_2⟩:=at_T48 HR0_11.out x8_2 p712 q712
       cases e712
       replace hx712_0:=(HB.out.cell (wB w _ hx712_0)).trans hx712_0
       replace hx712_1:=(HB.out.cell (wB w _ hx712_1)).trans hx712_1
       replace hx712_2:=(HB.out.cell (wB w _ hx712_2)).trans hx712_2
       replace p712:=eq_true p712
       replace q712:=eq_true q712
       go_wp2
       go_roundg k2
       case measure=>have:=HK1.out;have:=HK2.out;omega
       case rel=>exact ⟨(x7_2),(wrap64 (x8_2 + 1)),(by first|rfl|(simp;done)|(simp [*];done)),(by first|rfl|(simp;done)|(simp [*];done)),H',⟨by have:=HK1.out;have:=HK2.out;omega⟩,⟨by (with_reducible repeat (first|apply Kd.R_alloc|apply Kd.R_drewN|apply Kd.R_drew));exact HO_5.out⟩,⟨by (with_reducible repeat (first|refine bN ?_ _|refine bD ?_|refine bA ?_ _));exact BK710.out⟩,⟨by repeat (first|(with_reducible first|exact HB.out|apply bL|apply pN|apply bE|refine bS ?_ GE710.out)|exact HB.out)⟩⟩
      rw [if_pos c10] at H
      have c10b0 : (((rd_T48 l0_11 x8_2).f0).toList == x1_1.toList) = true:=beq_iff_eq.mpr c10
      have c10b1 : (((rd_T48 l0_11 x8_2).f0).toList != x1_1.toList) = false:=bne_eq_false_iff_eq.mpr c10
      clear c10
      have H':=Am H
      clear H
      have hcz11_0 : wr.cell? ⟨gb710,0,none⟩ = some (.int .i64 a0_0):=(bC BK710.out 0).trans rfl
      have hcz11_1 : wr.cell? ⟨gb710,1,none⟩ = some (.int .i64 a0_1):=(bC BK710.out 1).trans rfl
      have hcz11_2 : wr.cell? ⟨gb710,2,none⟩ = some (.int .i64 a0_2):=(bC BK710.out 2).trans rfl
      have hcz11_3 : wr.cell? ⟨gb710,3,none⟩ = some (.int .i64 a0_3):=(bC BK710.out 3).trans rfl
      have hcz11_4 : wr.cell? ⟨gb710,4,none⟩ = some (.int .i64 a0_4):=(bC BK710.out 4).trans rfl
      have hcz11_5 : wr.cell? ⟨gb710,5,none⟩ = some (.int .i64 a0_5):=(bC BK710.out 5).trans rfl
      have hcz11_6 : wr.cell? ⟨gb710,6,none⟩ = some (.int .i64 a0_6):=(bC BK710.out 6).trans rfl
      have hcz11_7 : wr.cell? ⟨gb710,7,none⟩ = some (.int .i64 a0_7):=(bC BK710.out 7).trans rfl
      have hcz11_8 : wr.cell? ⟨gb710,8,none⟩ = some (.int .i64 a0_8):=(bC BK710.out 8).trans rfl
      have hcz11_9 : wr.cell? ⟨gb710,9,none⟩ = some (.slice A0_9 l0_9.length c0_9):=(bC BK710.out 9).trans rfl
      have hcz11_10 : wr.cell? ⟨gb710,10,none⟩ = some (.slice A0_10 l0_10.length c0_10):=(bC BK710.out 10).trans rfl
      have hcz11_11 : wr.cell? ⟨gb710,11,none⟩ = some (.slice A0_11 l0_11.length c0_11):=(bC BK710.out 11).trans rfl
      have hfz11_0:=bF BK710.out 0
      have hfz11_1:=bF BK710.out 1
      have hfz11_2:=bF BK710.out 2
      have hfz11_3:=bF BK710.out 3
      have hfz11_4:=bF BK710.out 4
      have hfz11_5:=bF BK710.out 5
      have hfz11_6:=bF BK710.out 6
      have hfz11_7:=bF BK710.out 7
      have hfz11_8:=bF BK710.out 8
      have hfz11_9:=bF BK710.out 9
      have hfz11_10:=bF BK710.out 10
      have hfz11_11:=bF BK710.out 11
      have p712 : 0≤(x8_2 : Int):=of_decide_eq_true (by first|(with_reducible assumption)|assumption)
      have q712 : x8_2 < (l0_11.length : Int):=of_decide_eq_true (by first|(with_reducible assumption)|assumption)
      obtain ⟨ad712,e712,hx712_0,hx712_1,hx712_2⟩:=at_T48 HR0_11.out x8_2 p712 q712
      cases e712
      replace hx712_0:=(HB.out.cell (wB w _ hx712_0)).trans hx712_0
      replace hx712_1:=(HB.out.cell (wB w _ hx712_1)).trans hx712_1
      replace hx712_2:=(HB.out.cell (wB w _ hx712_2)).trans hx712_2
      replace p712:=eq_true p712
      replace q712:=eq_true q712
      go_wp2
      go_roundg k2
      case measure=>have:=HK1.out;have:=HK2.out;omega
      case rel=>exact ⟨(x8_2),(wrap64 (x8_2 + 1)),(by first|rfl|(simp;done)|(simp [*];done)),(by first|rfl|(simp;done)|(simp [*];done)),H',⟨by have:=HK1.out;have:=HK2.out;omega⟩,⟨by (with_reducible repeat (first|apply Kd.R_alloc|apply Kd.R_drewN|apply Kd.R_drew));exact HO_5.out⟩,⟨by (with_reducible repeat (first|refine bN ?_ _|refine bD ?_|refine bA ?_ _));exact BK710.out⟩,⟨by repeat (first|(with_reducible first|exact HB.out|apply bL|apply pN|apply bE|refine bS ?_ GE710.out)|exact HB.out)⟩⟩
     rw [if_neg c8] at H
     have c8b0 : decide (x8_2 < (l0_11.length : Int)) = false:=decide_eq_false c8
     clear c8
     by_cases c13 : x7_2 < 0
     ·rw [if_pos c13] at H
      have c13b0 : decide (x7_2 < 0) = true:=decide_eq_true c13
      clear c13
      obtain rfl:=Option.some.inj H
      have hcz14_0 : wr.cell? ⟨gb710,0,none⟩ = some (.int .i64 a0_0):=(bC BK710.out 0).trans rfl
      have hcz14_1 : wr.cell? ⟨gb710,1,none⟩ = some (.int .i64 a0_1):=(bC BK710.out 1).trans rfl
      have hcz14_2 : wr.cell? ⟨gb710,2,none⟩ = some (.int .i64 a0_2):=(bC BK710.out 2).trans rfl
      have hcz14_3 : wr.cell? ⟨gb710,3,none⟩ = some (.int .i64 a0_3):=(bC BK710.out 3).trans rfl
      have hcz14_4 : wr.cell? ⟨gb710,4,none⟩ = some (.int .i64 a0_4):=(bC BK710.out 4).trans rfl
      have hcz14_5 : wr.cell? ⟨gb710,5,none⟩ = some (.int .i64 a0_5):=(bC BK710.out 5).trans rfl
      have hcz14_6 : wr.cell? ⟨gb710,6,none⟩ = some (.int .i64 a0_6):=(bC BK710.out 6).trans rfl
      have hcz14_7 : wr.cell? ⟨gb710,7,none⟩ = some (.int .i64 a0_7):=(bC BK710.out 7).trans rfl
      have hcz14_8 : wr.cell? ⟨gb710,8,none⟩ = some (.int .i64 a0_8):=(bC BK710.out 8).trans rfl
      have hcz14_9 : wr.cell? ⟨gb710,9,none⟩ = some (.slice A0_9 l0_9.length c0_9):=(bC BK710.out 9).trans rfl
      have hcz14_10 : wr.cell? ⟨gb710,10,none⟩ = some (.slice A0_10 l0_10.length c0_10):=(bC BK710.out 10).trans rfl
      have hcz14_11 : wr.cell? ⟨gb710,11,none⟩ = some (.slice A0_11 l0_11.length c0_11):=(bC BK710.out 11).trans rfl
      have hfz14_0:=bF BK710.out 0
      have hfz14_1:=bF BK710.out 1
      have hfz14_2:=bF BK710.out 2
      have hfz14_3:=bF BK710.out 3
      have hfz14_4:=bF BK710.out 4
      have hfz14_5:=bF BK710.out 5
      have hfz14_6:=bF BK710.out 6
      have hfz14_7:=bF BK710.out 7
      have hfz14_8:=bF BK710.out 8
      have hfz14_9:=bF BK710.out 9
      have hfz14_10:=bF BK710.out 10
      have hfz14_11:=bF BK710.out 11
      go_wp2
      go_ret
      exact ⟨_,by first|rfl|(simp [errW_none,errW_some] <;> rfl)|(simp [*,errW_none,errW_some] <;> rfl),by (with_reducible repeat (first|apply Kd.R_alloc|apply Kd.R_drewN|apply Kd.R_drew));exact HO_5.out,by repeat (first|(with_reducible first|exact HB.out|apply bL|apply pN|apply bE|refine bS ?_ GE710.out)|exact HB.out)⟩
     rw [if_neg c13] at H
     have c13b0 : decide (x7_2 < 0) = false:=decide_eq_false c13
     clear c13
     by_cases c15 : x5_1.length < 8796093022208
     rotate_left
     ·rw [if_neg c15] at H
      exact absurd H (by simp)
     rw [if_pos c15] at H
     have LMc15:=Am c15
     clear c15
     obtain ⟨y713,hy713⟩ : ∃ y_ : List ByteArray,y_ = (x5_1 ++ [x1_1]):=⟨_,rfl⟩
     replace H : (if 0≤x7_2 then (if x7_2 < (l0_11.length : Int) then (gangerref10_Path.l0 k2 ((rd_T48 l0_11 x7_2).f1) y713 t711 a0_0 a0_1 a0_2 a0_3 a0_4 a0_5 a0_6 a0_7 a0_8 l0_9 l0_10 l0_11) else (none)) else (none)) = some r:=by first|(rw [hy713];with_reducible exact H)|(have H2_:=(Option.bind_some _ _).symm.trans H;rw [hy713];with_reducible exact H2_)|(have H2_:=(Option.bind_some _ _).symm.trans H;with_reducible exact H2_)|with_reducible exact H|(rw [hy713];exact H)|exact H
     have Ny713:=Am hy713
     clear hy713
     by_cases c16 : 0≤x7_2
     rotate_left
     ·rw [if_neg c16] at H
      exact absurd H (by simp)
     rw [if_pos c16] at H
     have c16b0 : decide (0≤x7_2) = true:=decide_eq_true c16
     clear c16
     by_cases c17 : x7_2 < (l0_11.length : Int)
     rotate_left
     ·rw [if_neg c17] at H
      exact absurd H (by simp)
     rw [if_pos c17] at H
     have c17b0 : decide (x7_2 < (l0_11.length : Int)) = true:=decide_eq_true c17
     clear c17
     have H':=Am H
     clear H
     have hcz18_0 : wr.cell? ⟨gb710,0,none⟩ = some (.int .i64 a0_0):=(bC BK710.out 0).trans rfl
     have hcz18_1 : wr.cell? ⟨gb710,1,none⟩ = some (.int .i64 a0_1):=(bC BK710.out 1).trans rfl
     have hcz18_2 : wr.cell? ⟨gb710,2,none⟩ = some (.int .i64 a0_2):=(bC BK710.out 2).trans rfl
     have hcz18_3 : wr.cell? ⟨gb710,3,none⟩ = some (.int .i64 a0_3):=(bC BK710.out 3).trans rfl
     have hcz18_4 : wr.cell? ⟨gb710,4,none⟩ = some (.int .i64 a0_4):=(bC BK710.out 4).trans rfl
     have hcz18_5 : wr.cell? ⟨gb710,5,none⟩ = some (.int .i64 a0_5):=(bC BK710.out 5).trans rfl
     have hcz18_6 : wr.cell? ⟨gb710,6,none⟩ = some (.int .i64 a0_6):=(bC BK710.out 6).trans rfl
     have hcz18_7 : wr.cell? ⟨gb710,7,none⟩ = some (.int .i64 a0_7):=(bC BK710.out 7).trans rfl
     have hcz18_8 : wr.cell? ⟨gb710,8,none⟩ = some (.int .i64 a0_8):=(bC BK710.out 8).trans rfl
     have hcz18_9 : wr.cell? ⟨gb710,9,none⟩ = some (.slice A0_9 l0_9.length c0_9):=(bC BK710.out 9).trans rfl
     have hcz18_10 : wr.cell? ⟨gb710,10,none⟩ = some (.slice A0_10 l0_10.length c0_10):=(bC BK710.out 10).trans rfl
     have hcz18_11 : wr.cell? ⟨gb710,11,none⟩ = some (.slice A0_11 l0_11.length c0_11):=(bC BK710.out 11).trans rfl
     have hfz18_0:=bF BK710.out 0
     have hfz18_1:=bF BK710.out 1
     have hfz18_2:=bF BK710.out 2
     have hfz18_3:=bF BK710.out 3
     have hfz18_4:=bF BK710.out 4
     have hfz18_5:=bF BK710.out 5
     have hfz18_6:=bF BK710.out 6
     have hfz18_7:=bF BK710.out 7
     have hfz18_8:=bF BK710.out 8
     have hfz18_9:=bF BK710.out 9
     have hfz18_10:=bF BK710.out 10
     have hfz18_11:=bF BK710.out 11
     go_wp2_with (first|((with_reducible refine gate_builtin (b:=.append) (xs:=#[.tmp 32,.tmp 34]) rfl ?_);at_builtin;refine Kd.R_append Kd.string (w0:=w) w.heap.size rfl (.tmp 32) (.tmp 34) 58 9 (.string ⟨#[]⟩) 16 rfl Tryd.underlying58 info9 rfl (by decide) (by omega) u5 x5_1 x1_1 [.string x1_1] (fun _=>True) (fun _=>False) rfl rfl ?aP (fun _ hk=>hk.elim) ?aF ?aO ?aB ?aS ?aL ?_;(case aP=>exact rfl);(case aB=>exact (by repeat (first|(with_reducible first|exact HB.out|apply bL|apply pN|apply bE|refine bS ?_ GE710.out)|exact HB.out)));(case aF=>exact (fun _ _=>trivial));(case aO=>exact (by (with_reducible repeat (first|apply Kd.R_alloc|apply Kd.R_drewN|apply Kd.R_drew));exact HO_5.out));(case aS=>exact (bZ (by repeat (first|(with_reducible first|exact HB.out|apply bL|apply pN|apply bE|refine bS ?_ GE710.out)|exact HB.out))));(case aL=>have:=LMc15.out;omega);intro v714 w19 ho hb hg hat;rw [← Ny713.out] at ho;have n0_:=Am (blk_grown (g:=gb710) (by (with_reducible repeat (first|refine bN ?_ _|refine bD ?_|refine bA ?_ _));exact BK710.out) hg (Kd.R_ne HO_5.out BK710.out (by decide)));have n1_:=Am (hb);have n2_:=Am (ho);clear BK710;clear HB;clear HO_5;have BK710:=n0_;have HB:=n1_;have HO715:=n2_;clear n0_ n1_ n2_;clear ho hb hg hat;have hcz20_0 : w19.cell? ⟨gb710,0,none⟩ = some (.int .i64 a0_0):=(bC BK710.out 0).trans rfl;have hcz20_1 : w19.cell? ⟨gb710,1,none⟩ = some (.int .i64 a0_1):=(bC BK710.out 1).trans rfl;have hcz20_2 : w19.cell? ⟨gb710,2,none⟩ = some (.int .i64 a0_2):=(bC BK710.out 2).trans rfl;have hcz20_3 : w19.cell? ⟨gb710,3,none⟩ = some (.int .i64 a0_3):=(bC BK710.out 3).trans rfl;have hcz20_4 : w19.cell? ⟨gb710,4,none⟩ = some (.int .i64 a0_4):=(bC BK710.out 4).trans rfl;have hcz20_5 : w19.cell? ⟨gb710,5,none⟩ = some (.int .i64 a0_5):=(bC BK710.out 5).trans rfl;have hcz20_6 : w19.cell? ⟨gb710,6,none⟩ = some (.int .i64 a0_6):=(bC BK710.out 6).trans rfl;have hcz20_7 : w19.cell? ⟨gb710,7,none⟩ = some (.int .i64 a0_7):=(bC BK710.out 7).trans rfl;have hcz20_8 : w19.cell? ⟨gb710,8,none⟩ = some (.int .i64 a0_8):=(bC BK710.out 8).trans rfl;have hcz20_9 : w19.cell? ⟨gb710,9,none⟩ = some (.slice A0_9 l0_9.length c0_9):=(bC BK710.out 9).trans rfl;have hcz20_10 : w19.cell? ⟨gb710,10,none⟩ = some (.slice A0_10 l0_10.length c0_10):=(bC BK710.out 10).trans rfl;have hcz20_11 : w19.cell? ⟨gb710,11,none⟩ = some (.slice A0_11 l0_11.length c0_11):=(bC BK710.out 11).trans rfl;have hfz20_0:=bF BK710.out 0;have hfz20_1:=bF BK710.out 1;have hfz20_2:=bF BK710.out 2;have hfz20_3:=bF BK710.out 3;have hfz20_4:=bF BK710.out 4;have hfz20_5:=bF BK710.out 5;have hfz20_6:=bF BK710.out 6;have hfz20_7:=bF BK710.out 7;have hfz20_8:=bF BK710.out 8;have hfz20_9:=bF BK710.out 9;have hfz20_10:=bF BK710.out 10;have hfz20_11:=bF BK710.out 11;have p716 : 0≤(x7_2 : Int):=of_decide_eq_true (by first|(with_reducible assumption)|assumption);have q716 : x7_2 < (l0_11.length : Int):=of_decide_eq_true (by first|(with_reducible assumption)|assumption);obtain ⟨ad716,e716,hx716_0,hx716_1,hx716_2⟩:=at_T48 HR0_11.out x7_2 p716 q716;cases e716;replace hx716_0:=(HB.out.cell (wB w _ hx716_0)).trans hx716_0;replace hx716_1:=(HB.out.cell (wB w _ hx716_1)).trans hx716_1;replace hx716_2:=(HB.out.cell (wB w _ hx716_2)).trans hx716_2;replace p716:=eq_true p716;replace q716:=eq_true q716))
     go_roundg k2
     case measure=>have:=HK1.out;have:=HK2.out;omega
     case rel=>exact ⟨((rd_T48 l0_11 x7_2).f1),(y713),(by first|rfl|(simp;done)|(simp [*];done)),H',⟨by have:=HK1.out;have:=HK2.out;omega⟩,⟨by (with_reducible repeat (first|apply Kd.R_alloc|apply Kd.R_drewN|apply Kd.R_drew));exact HO715.out⟩,⟨by (with_reducible repeat (first|refine bN ?_ _|refine bD ?_|refine bA ?_ _));exact BK710.out⟩,⟨by repeat (first|(with_reducible first|exact HB.out|apply bL|apply pN|apply bE|refine bS ?_ GE710.out)|exact HB.out)⟩⟩
end Go.Proofs.YtgidipomfbikiaaDoor.P
