/- cut to what one law reaches -/
import Derived.Test.YtgidipomfbikiaaDoorQeShort
import Derived.Test.YtgidipomfbikiaaDoorQeP0
import Derived.Test.YtgidipomfbikiaaDoorQeP5
import Derived.Test.YtgidipomfbikiaaDoorQeP8
import Derived.Test.YtgidipomfbikiaaDoorQeP12
import Derived.Test.YtgidipomfbikiaaDoorQeP21
namespace Go.Proofs.YtgidipomfbikiaaDoor.P
open Go.RowKit Go.Proofs.YtgidipomfbikiaaDoorW.PrintWords Go.Proofs.YtgidipomfbikiaaDoorW.PrintLast Go.Proofs.YtgidipomfbikiaaDoorW.PrintMore
attribute [local go_sem] max2_int min2_int max_two min_two max_three min_three max_four min_four   -- for this text's walks alone
set_option linter.unusedVariables false
set_option linter.unusedSimpArgs false
attribute [local go_sem] isSome_setCell
mutual
def gangerlaw10_ConfLines.j0 : Nat→Int→ByteArray→Bool→Int→Int→Int→Int→Int→Int→Int→Int→Int→List (S50)→List (S52)→List (S48)→Option (Bool)
 | 0,_,_,_,_,_,_,_,_,_,_,_,_,_,_,_=>none
 | k + 1,x1,x2,x30,u_0,u_1,u_2,u_3,u_4,u_5,u_6,u_7,u_8,u_9,u_10,u_11=>if x30 = true then ((gangerlaw10_known.f k).bind fun t468=>(some t468)) else ((conf_Print.f k u_0 u_1 u_2 u_3 u_4 u_5 u_6 u_7 u_8 u_9 u_10 u_11).bind fun bt469=>(if bt469.2 = 0 then ((gangerlaw10_cuts.f k bt469.1).bind fun t472=>(if (IntKind.u64.wrap ((t472.length : Int))) = 0 then (none) else (if 0≤(wrap64 (Int.tmod (IntKind.u64.wrap (x1)) (IntKind.u64.wrap ((t472.length : Int))))) then (if (wrap64 (Int.tmod (IntKind.u64.wrap (x1)) (IntKind.u64.wrap ((t472.length : Int))))) < (t472.length : Int) then (if 0≤(rd t472 (wrap64 (Int.tmod (IntKind.u64.wrap (x1)) (IntKind.u64.wrap ((t472.length : Int)))))) then (if (rd t472 (wrap64 (Int.tmod (IntKind.u64.wrap (x1)) (IntKind.u64.wrap ((t472.length : Int))))))≤(bt469.1.size : Int) then ((conf_Parse.f k (bt469.1.extract 0 ((rd t472 (wrap64 (Int.tmod (IntKind.u64.wrap (x1)) (IntKind.u64.wrap ((t472.length : Int)))))) : Int).toNat)).bind fun bt476=>(if (wrap64 (Int.tmod (IntKind.u64.wrap (x1)) (IntKind.u64.wrap ((t472.length : Int)))))≤(wrap64 ((wrap64 (5 + (u_9.length : Int))) + (u_10.length : Int))) then (if bt476.2.2.2.2.2.2.2.2.2.2.2.2.1 = (wrap64 ((wrap64 (Int.tmod (IntKind.u64.wrap (x1)) (IntKind.u64.wrap ((t472.length : Int))))) + 1)) then (if bt476.2.2.2.2.2.2.2.2.2.2.2.2.2 = 60 then (if ((wrap64 (Int.tmod (IntKind.u64.wrap (x1)) (IntKind.u64.wrap ((t472.length : Int)))))≤(wrap64 ((wrap64 (5 + (u_9.length : Int))) + (u_10.length : Int)))) then (gangerlaw10_ConfLines.j1 k x2 bt469.1 t472 (wrap64 (Int.tmod (IntKind.u64.wrap (x1)) (IntKind.u64.wrap ((t472.length : Int))))) false) else (gangerlaw10_ConfLines.j1 k x2 bt469.1 t472 (wrap64 (Int.tmod (IntKind.u64.wrap (x1)) (IntKind.u64.wrap ((t472.length : Int))))) (bt476.2.2.2.2.2.2.2.2.2.2.2.2.2 == 60))) else (gangerlaw10_ConfLines.j1 k x2 bt469.1 t472 (wrap64 (Int.tmod (IntKind.u64.wrap (x1)) (IntKind.u64.wrap ((t472.length : Int))))) true)) else (gangerlaw10_ConfLines.j1 k x2 bt469.1 t472 (wrap64 (Int.tmod (IntKind.u64.wrap (x1)) (IntKind.u64.wrap ((t472.length : Int))))) true)) else (if ((wrap64 (Int.tmod (IntKind.u64.wrap (x1)) (IntKind.u64.wrap ((t472.length : Int)))))≤(wrap64 ((wrap64 (5 + (u_9.length : Int))) + (u_10.length : Int)))) then (gangerlaw10_ConfLines.j1 k x2 bt469.1 t472 (wrap64 (Int.tmod (IntKind.u64.wrap (x1)) (IntKind.u64.wrap ((t472.length : Int))))) false) else (gangerlaw10_ConfLines.j1 k x2 bt469.1 t472 (wrap64 (Int.tmod (IntKind.u64.wrap (x1)) (IntKind.u64.wrap ((t472.length : Int))))) (bt476.2.2.2.2.2.2.2.2.2.2.2.2.2 == 60))))) else (none)) else (none)) else (none)) else (none)))) else ((gangerlaw10_known.f k).bind fun t471=>(some t471))))
def gangerlaw10_ConfLines.j1 : Nat→ByteArray→ByteArray→List Int→Int→Bool→Option (Bool)
 | 0,_,_,_,_,_=>none
 | k + 1,x2,x7,x9,x10,x88=>if x88 = true then (none) else (if 0≤x10 then (if x10 < (x9.length : Int) then (if 0≤(rd x9 x10) then (if (rd x9 x10)≤(x7.size : Int) then (if (x7.extract 0 ((rd x9 x10) : Int).toNat).size + 2≤9223372036854775807 then (if ((x7.extract 0 ((rd x9 x10) : Int).toNat) ++ (⟨#[63,32]⟩ : ByteArray)).size + x2.size≤9223372036854775807 then (if (((x7.extract 0 ((rd x9 x10) : Int).toNat) ++ (⟨#[63,32]⟩ : ByteArray)) ++ x2).size + 1≤9223372036854775807 then (if ((((x7.extract 0 ((rd x9 x10) : Int).toNat) ++ (⟨#[63,32]⟩ : ByteArray)) ++ x2) ++ (⟨#[10]⟩ : ByteArray)).size + (x7.extract ((rd x9 x10) : Int).toNat x7.size).size≤9223372036854775807 then ((conf_Parse.f k (((((x7.extract 0 ((rd x9 x10) : Int).toNat) ++ (⟨#[63,32]⟩ : ByteArray)) ++ x2) ++ (⟨#[10]⟩ : ByteArray)) ++ (x7.extract ((rd x9 x10) : Int).toNat x7.size))).bind fun bt499=>(if bt499.2.2.2.2.2.2.2.2.2.2.2.2.1 = (wrap64 (x10 + 1)) then (if bt499.2.2.2.2.2.2.2.2.2.2.2.2.2 = 60 then ((gangerlaw10_known.f k).bind fun t520=>(some t520)) else (none)) else (none))) else (none)) else (none)) else (none)) else (none)) else (none)) else (none)) else (none)) else (none))
end
def gangerlaw10_ConfLines.f (k : Nat) (a0_0 : Int) (a0_1 : Int) (a0_2 : Int) (a0_3 : Int) (a0_4 : Int) (a0_5 : Int) (a0_6 : Int) (a0_7 : Int) (a0_8 : Int) (l0_9 : List (S50)) (l0_10 : List (S52)) (l0_11 : List (S48)) (a1 : Int) (a2 : ByteArray) : Option (Bool):=(gangerlaw10_long.f k a0_0 a0_1 a0_2 a0_3 a0_4 a0_5 a0_6 a0_7 a0_8 l0_9 l0_10 l0_11).bind fun t464=>(if t464 = true then (gangerlaw10_ConfLines.j0 k a1 a2 true a0_0 a0_1 a0_2 a0_3 a0_4 a0_5 a0_6 a0_7 a0_8 l0_9 l0_10 l0_11) else (if (a2.size : Int) > 200 then (gangerlaw10_ConfLines.j0 k a1 a2 true a0_0 a0_1 a0_2 a0_3 a0_4 a0_5 a0_6 a0_7 a0_8 l0_9 l0_10 l0_11) else ((gangerlaw10_cuts.f k a2).bind fun t465=>(gangerlaw10_ConfLines.j0 k a1 a2 (decide ((t465.length : Int) > 1)) a0_0 a0_1 a0_2 a0_3 a0_4 a0_5 a0_6 a0_7 a0_8 l0_9 l0_10 l0_11))))
def gangerlaw10_ConfLines.T12 : Bool × List (List Nat × List Nat):=(true,[([],[]),([],[]),([],[]),([1,2],[1,2]),([3],[3]),([0,4],[0,4]),([5],[5]),([],[]),([6,7],[6,7]),([8],[8]),([],[]),([],[]),([],[]),([11,12],[11,12]),([13],[13]),([10,14],[10,14]),([9,15],[9,15]),([16],[16]),([17],[17]),([18],[18]),([18],[18]),([18],[18]),([],[]),([22,19,17,0,1,2,3,4,5,6,7,8,9,10,11,12,13,14,15,16,17,18,19,22],[19,22]),([20,23,0,1,2,3,4,5,6,7,8,9,10,11,12,13,14,15,16,17,18,19,20,22,23],[20]),([21,24,0,1,2,3,4,5,6,7,8,9,10,11,12,13,14,15,16,17,18,19,20,21,22,23,24],[21])])
def gangerlaw10_ConfLines.B12 : List Nat:=[0,0,0,6,14,31,63,0,255,511,0,0,0,6144,14336,31744,65535,131071,262143,524287,524287,524287,0,5242879,14680063,33554431]
theorem gangerlaw10_ConfLines.tab12 : rtab .any (opsOf Tryd.f5 12) = gangerlaw10_ConfLines.T12:=by kernel_rfl
theorem gangerlaw10_ConfLines.bits12 : waitsOk gangerlaw10_ConfLines.T12.2 gangerlaw10_ConfLines.B12 = true:=by kernel_rfl
set_option maxHeartbeats 8000000 in
set_option maxRecDepth 100000 in
theorem gangerlaw10_ConfLines.calls (k : Nat) (a0_0 : Int) (a0_1 : Int) (a0_2 : Int) (a0_3 : Int) (a0_4 : Int) (a0_5 : Int) (a0_6 : Int) (a0_7 : Int) (a0_8 : Int) (A0_9 : Option Addr) (c0_9 : Nat) (l0_9 : List (S50)) (A0_10 : Option Addr) (c0_10 : Nat) (l0_10 : List (S52)) (A0_11 : Option Addr) (c0_11 : Nat) (l0_11 : List (S48)) (a1 : Int) (a2 : ByteArray) (r : Bool) (w : World) (hG : Glob w) (hr0_9 : Kd.C k50 w A0_9 l0_9.length l0_9) (hc0_9 : l0_9.length≤c0_9) (hr0_10 : Kd.C k52 w A0_10 l0_10.length l0_10) (hc0_10 : l0_10.length≤c0_10) (hr0_11 : Kd.C k48 w A0_11 l0_11.length l0_11) (hc0_11 : l0_11.length≤c0_11) (h : gangerlaw10_ConfLines.f k a0_0 a0_1 a0_2 a0_3 a0_4 a0_5 a0_6 a0_7 a0_8 l0_9 l0_10 l0_11 a1 a2 = some r) :
  Calls Tryd.prog 5 #[.agg #[.int .i64 a0_0,.int .i64 a0_1,.int .i64 a0_2,.int .i64 a0_3,.int .i64 a0_4,.int .i64 a0_5,.int .i64 a0_6,.int .i64 a0_7,.int .i64 a0_8,.slice A0_9 l0_9.length c0_9,.slice A0_10 l0_10.length c0_10,.slice A0_11 l0_11.length c0_11],.int .i64 a1,.string a2] w fun e w'=>e = .returned (.bool r)∧Below w.heap.size w w':=by
 have hu28:=Tryd.underlying28
 have HG:=Am hG
 clear hG
 have HR0_9:=Am hr0_9
 have HC0_9:=Am hc0_9
 clear hr0_9 hc0_9
 have HR0_10:=Am hr0_10
 have HC0_10:=Am hc0_10
 clear hr0_10 hc0_10
 have HR0_11:=Am hr0_11
 have HC0_11:=Am hc0_11
 clear hr0_11 hc0_11
 have HB:=Am (Below.refl w.heap.size w)
 have H : ((gangerlaw10_long.f k a0_0 a0_1 a0_2 a0_3 a0_4 a0_5 a0_6 a0_7 a0_8 l0_9 l0_10 l0_11).bind fun t464=>(if t464 = true then (gangerlaw10_ConfLines.j0 k a1 a2 true a0_0 a0_1 a0_2 a0_3 a0_4 a0_5 a0_6 a0_7 a0_8 l0_9 l0_10 l0_11) else (if (a2.size : Int) > 200 then (gangerlaw10_ConfLines.j0 k a1 a2 true a0_0 a0_1 a0_2 a0_3 a0_4 a0_5 a0_6 a0_7 a0_8 l0_9 l0_10 l0_11) else ((gangerlaw10_cuts.f k a2).bind fun t465=>(gangerlaw10_ConfLines.j0 k a1 a2 (decide ((t465.length : Int) > 1)) a0_0 a0_1 a0_2 a0_3 a0_4 a0_5 a0_6 a0_7 a0_8 l0_9 l0_10 l0_11))))) = some r:=h
 clear h
 have HC4:=Am H
 clear H
 go_enter Tryd.func5,Tryd.ntmps5
 go_upto_region 1 with (first|((with_reducible refine gD (N:=3) rfl ?_);(try (refine gate_guard (by rfl) ?_;dsimp only));refine box_event ?hg (N:=3) ?hd (cs:=#[.int .i64 a0_0,.int .i64 a0_1,.int .i64 a0_2,.int .i64 a0_3,.int .i64 a0_4,.int .i64 a0_5,.int .i64 a0_6,.int .i64 a0_7,.int .i64 a0_8,.slice A0_9 l0_9.length c0_9,.slice A0_10 l0_10.length c0_10,.slice A0_11 l0_11.length c0_11]) (t:=28) ?hr ?_;(case hd=>rfl);(case hg=>rfl);(case hr=>first|(go_simp;done)|(go_simp;rfl));intro gb463 hg w5 hbox hb;have n0_:=Am (below_step (by repeat (first|(with_reducible first|exact HB.out|apply bL|apply pN|apply bE)|exact HB.out)) hb);have n1_:=Am (hbox);have n2_:=Am ((by rw [hg];exact (bZ (by repeat (first|(with_reducible first|exact HB.out|apply bL|apply pN|apply bE)|exact HB.out))) : w.heap.size≤gb463));have n3_:=n2_;clear HB;have HB:=n0_;have BK463:=n1_;have GW463:=n2_;have GE463:=n3_;clear n0_ n1_ n2_ n3_;clear hb hbox hg))
 (try simp only [Act.put,sT,sZ,sS])
 go_cut [30] (fun v30 wc=>∃ (kq : Nat) (x30_3 : Bool),v30 = .bool x30_3∧Aside0 (gangerlaw10_ConfLines.j0 kq a1 a2 x30_3 a0_0 a0_1 a0_2 a0_3 a0_4 a0_5 a0_6 a0_7 a0_8 l0_9 l0_10 l0_11 = some r)∧Aside0 (kq≤k)∧Aside0 (wc.heap[gb463]? = some (.cells #[.int .i64 a0_0,.int .i64 a0_1,.int .i64 a0_2,.int .i64 a0_3,.int .i64 a0_4,.int .i64 a0_5,.int .i64 a0_6,.int .i64 a0_7,.int .i64 a0_8,(.slice A0_9 l0_9.length c0_9),(.slice A0_10 l0_10.length c0_10),(.slice A0_11 l0_11.length c0_11)] 28 (0,0)))∧Aside0 (Below w.heap.size w wc))
 case first =>
  have H:=HC4.out
  clear HC4
  replace H:=oB H
  obtain ⟨t464,A60,H⟩:=H
  try dsimp only at H
  have A6:=Am A60
  clear A60
  by_cases c7 : t464 = true
  ·subst c7
   have H1 : (gangerlaw10_ConfLines.j0 k a1 a2 true a0_0 a0_1 a0_2 a0_3 a0_4 a0_5 a0_6 a0_7 a0_8 l0_9 l0_10 l0_11) = some r:=by rw [if_pos rfl] at H;exact H
   clear H
   have H:=H1
   clear H1
   have H':=Am H
   clear H
   obtain ⟨X8_0,X8_1,X8_2,X8_3,X8_4,X8_5,X8_6,X8_7,X8_8,X8_9,X8_10,X8_11,Y8_0,Y8_1,Y8_2,Y8_3,Y8_4,Y8_5,Y8_6,Y8_7,Y8_8,Y8_9,Y8_10,Y8_11⟩:=kc12 (w:=w5) (g:=gb463) BK463.out
   go_wp2_with (first|((with_reducible refine gC (f:=9) rfl ?_);refine goesL_ (some 19) rfl rfl Tryd.func9 (by kernel_rfl) rfl #[.agg #[.int .i64 a0_0,.int .i64 a0_1,.int .i64 a0_2,.int .i64 a0_3,.int .i64 a0_4,.int .i64 a0_5,.int .i64 a0_6,.int .i64 a0_7,.int .i64 a0_8,.slice A0_9 l0_9.length c0_9,.slice A0_10 l0_10.length c0_10,.slice A0_11 l0_11.length c0_11]] rfl (by (try simp only [mT,mC,mN]);first|done|rfl|(simp only [lD,lT];rfl)) ?_;(with_reducible refine (gangerlaw10_long.calls k a0_0 a0_1 a0_2 a0_3 a0_4 a0_5 a0_6 a0_7 a0_8 _ _ l0_9 _ _ l0_10 _ _ l0_11 true _ ?side1 ?side2 ?side3 ?side4 ?side5 ?side6 A6.out).mono ?_);(case side1=>repeat (first|exact (Kd.C_below HR0_9.out HB.out)|(with_reducible refine Kd.C_alloc ?_ _)|(with_reducible refine Kd.C_drewN ?_ _)|(with_reducible refine Kd.C_drew ?_)));(case side2=>exact HC0_9.out);(case side3=>repeat (first|exact (Kd.C_below HR0_10.out HB.out)|(with_reducible refine Kd.C_alloc ?_ _)|(with_reducible refine Kd.C_drewN ?_ _)|(with_reducible refine Kd.C_drew ?_)));(case side4=>exact HC0_10.out);(case side5=>repeat (first|exact (Kd.C_below HR0_11.out HB.out)|(with_reducible refine Kd.C_alloc ?_ _)|(with_reducible refine Kd.C_drewN ?_ _)|(with_reducible refine Kd.C_drew ?_)));(case side6=>exact HC0_11.out);rintro e w9 ⟨rfl,hb⟩;refine ⟨_,rfl,?_⟩;have n0_:=Am (blk_below (g:=gb463) (by (with_reducible repeat (first|refine bN ?_ _|refine bD ?_|refine bA ?_ _));exact BK463.out) hb);have n1_:=Am (below_step (by repeat (first|(with_reducible first|exact HB.out|apply bL|apply pN|apply bE|refine bS ?_ GE463.out)|exact HB.out)) hb);clear BK463;clear HB;have BK463:=n0_;have HB:=n1_;clear n0_ n1_))
   go_meet
   case rel=>exact ⟨_,(true),(by first|rfl|(simp;done)|(simp [*];done)),H',⟨by first|omega|exact Nat.le_refl _⟩,⟨by (with_reducible repeat (first|refine bN ?_ _|refine bD ?_|refine bA ?_ _));exact BK463.out⟩,⟨by repeat (first|(with_reducible first|exact HB.out|apply bL|apply pN|apply bE|refine bS ?_ GE463.out)|exact HB.out)⟩⟩
  replace c7:=Bool.eq_false_iff.mpr c7
  subst c7
  have H1 : (if (a2.size : Int) > 200 then (gangerlaw10_ConfLines.j0 k a1 a2 true a0_0 a0_1 a0_2 a0_3 a0_4 a0_5 a0_6 a0_7 a0_8 l0_9 l0_10 l0_11) else ((gangerlaw10_cuts.f k a2).bind fun t465=>(gangerlaw10_ConfLines.j0 k a1 a2 (decide ((t465.length : Int) > 1)) a0_0 a0_1 a0_2 a0_3 a0_4 a0_5 a0_6 a0_7 a0_8 l0_9 l0_10 l0_11))) = some r:=by rw [if_neg (show ¬ (false = true) by decide)] at H;exact H
  clear H
  have H:=H1
  clear H1
  by_cases c10 : (a2.size : Int) > 200
  ·rw [if_pos c10] at H
   have c10b0 : decide (200 < (a2.size : Int)) = true:=decide_eq_true c10
   have c10b1 : decide (200 < a2.size) = true:=decide_eq_true (by omega)
   clear c10
   (first|rw [c10b0]|(simp only [iW,iV];rw [c10b0])|skip)
   have H':=Am H
   clear H
   obtain ⟨X11_0,X11_1,X11_2,X11_3,X11_4,X11_5,X11_6,X11_7,X11_8,X11_9,X11_10,X11_11,Y11_0,Y11_1,Y11_2,Y11_3,Y11_4,Y11_5,Y11_6,Y11_7,Y11_8,Y11_9,Y11_10,Y11_11⟩:=kc12 (w:=w5) (g:=gb463) BK463.out
   go_wp2_with (first|((with_reducible refine gC (f:=9) rfl ?_);refine goesL_ (some 19) rfl rfl Tryd.func9 (by kernel_rfl) rfl #[.agg #[.int .i64 a0_0,.int .i64 a0_1,.int .i64 a0_2,.int .i64 a0_3,.int .i64 a0_4,.int .i64 a0_5,.int .i64 a0_6,.int .i64 a0_7,.int .i64 a0_8,.slice A0_9 l0_9.length c0_9,.slice A0_10 l0_10.length c0_10,.slice A0_11 l0_11.length c0_11]] rfl (by (try simp only [mT,mC,mN]);first|done|rfl|(simp only [lD,lT];rfl)) ?_;(with_reducible refine (gangerlaw10_long.calls k a0_0 a0_1 a0_2 a0_3 a0_4 a0_5 a0_6 a0_7 a0_8 _ _ l0_9 _ _ l0_10 _ _ l0_11 false _ ?side1 ?side2 ?side3 ?side4 ?side5 ?side6 A6.out).mono ?_);(case side1=>repeat (first|exact (Kd.C_below HR0_9.out HB.out)|(with_reducible refine Kd.C_alloc ?_ _)|(with_reducible refine Kd.C_drewN ?_ _)|(with_reducible refine Kd.C_drew ?_)));(case side2=>exact HC0_9.out);(case side3=>repeat (first|exact (Kd.C_below HR0_10.out HB.out)|(with_reducible refine Kd.C_alloc ?_ _)|(with_reducible refine Kd.C_drewN ?_ _)|(with_reducible refine Kd.C_drew ?_)));(case side4=>exact HC0_10.out);(case side5=>repeat (first|exact (Kd.C_below HR0_11.out HB.out)|(with_reducible refine Kd.C_alloc ?_ _)|(with_reducible refine Kd.C_drewN ?_ _)|(with_reducible refine Kd.C_drew ?_)));(case side6=>exact HC0_11.out);rintro e w12 ⟨rfl,hb⟩;refine ⟨_,rfl,?_⟩;have n0_:=Am (blk_below (g:=gb463) (by (with_reducible repeat (first|refine bN ?_ _|refine bD ?_|refine bA ?_ _));exact BK463.out) hb);have n1_:=Am (below_step (by repeat (first|(with_reducible first|exact HB.out|apply bL|apply pN|apply bE|refine bS ?_ GE463.out)|exact HB.out)) hb);clear BK463;clear HB;have BK463:=n0_;have HB:=n1_;clear n0_ n1_))
   go_meet
   case rel=>exact ⟨_,(true),(by first|rfl|(simp;done)|(simp [*];done)),H',⟨by first|omega|exact Nat.le_refl _⟩,⟨by (with_reducible repeat (first|refine bN ?_ _|refine bD ?_|refine bA ?_ _));exact BK463.out⟩,⟨by repeat (first|(with_reducible first|exact HB.out|apply bL|apply pN|apply bE|refine bS ?_ GE463.out)|exact HB.out)⟩⟩
  rw [if_neg c10] at H
  have c10b0 : decide (200 < (a2.size : Int)) = false:=decide_eq_false c10
  have c10b1 : decide (200 < a2.size) = false:=decide_eq_false (by omega)
  clear c10
  (first|rw [c10b0]|(simp only [iW,iV];rw [c10b0])|skip)
  replace H:=oB H
  obtain ⟨t465,A130,H⟩:=H
  try dsimp only at H
  have A13:=Am A130
  clear A130
  have H':=Am H
  clear H
  obtain ⟨X14_0,X14_1,X14_2,X14_3,X14_4,X14_5,X14_6,X14_7,X14_8,X14_9,X14_10,X14_11,Y14_0,Y14_1,Y14_2,Y14_3,Y14_4,Y14_5,Y14_6,Y14_7,Y14_8,Y14_9,Y14_10,Y14_11⟩:=kc12 (w:=w5) (g:=gb463) BK463.out
  go_wp2_with (first|((with_reducible refine gC (f:=9) rfl ?_);refine goesL_ (some 19) rfl rfl Tryd.func9 (by kernel_rfl) rfl #[.agg #[.int .i64 a0_0,.int .i64 a0_1,.int .i64 a0_2,.int .i64 a0_3,.int .i64 a0_4,.int .i64 a0_5,.int .i64 a0_6,.int .i64 a0_7,.int .i64 a0_8,.slice A0_9 l0_9.length c0_9,.slice A0_10 l0_10.length c0_10,.slice A0_11 l0_11.length c0_11]] rfl (by (try simp only [mT,mC,mN]);first|done|rfl|(simp only [lD,lT];rfl)) ?_;(with_reducible refine (gangerlaw10_long.calls k a0_0 a0_1 a0_2 a0_3 a0_4 a0_5 a0_6 a0_7 a0_8 _ _ l0_9 _ _ l0_10 _ _ l0_11 false _ ?side1 ?side2 ?side3 ?side4 ?side5 ?side6 A6.out).mono ?_);(case side1=>repeat (first|exact (Kd.C_below HR0_9.out HB.out)|(with_reducible refine Kd.C_alloc ?_ _)|(with_reducible refine Kd.C_drewN ?_ _)|(with_reducible refine Kd.C_drew ?_)));(case side2=>exact HC0_9.out);(case side3=>repeat (first|exact (Kd.C_below HR0_10.out HB.out)|(with_reducible refine Kd.C_alloc ?_ _)|(with_reducible refine Kd.C_drewN ?_ _)|(with_reducible refine Kd.C_drew ?_)));(case side4=>exact HC0_10.out);(case side5=>repeat (first|exact (Kd.C_below HR0_11.out HB.out)|(with_reducible refine Kd.C_alloc ?_ _)|(with_reducible refine Kd.C_drewN ?_ _)|(with_reducible refine Kd.C_drew ?_)));(case side6=>exact HC0_11.out);rintro e w15 ⟨rfl,hb⟩;refine ⟨_,rfl,?_⟩;have n0_:=Am (blk_below (g:=gb463) (by (with_reducible repeat (first|refine bN ?_ _|refine bD ?_|refine bA ?_ _));exact BK463.out) hb);have n1_:=Am (below_step (by repeat (first|(with_reducible first|exact HB.out|apply bL|apply pN|apply bE|refine bS ?_ GE463.out)|exact HB.out)) hb);clear BK463;clear HB;have BK463:=n0_;have HB:=n1_;clear n0_ n1_)|(go_at_call 18;(with_reducible refine (gangerlaw10_cuts.calls k a2 t465 _ A13.out).mono ?_);rintro e w16 ⟨v466,rfl,ho0,hb⟩;have n0_:=Am (Kd.R_lower ho0 (bZ (by repeat (first|(with_reducible first|exact HB.out|apply bL|apply pN|apply bE|refine bS ?_ GE463.out)|exact HB.out))));have n1_:=Am (blk_below (g:=gb463) (by (with_reducible repeat (first|refine bN ?_ _|refine bD ?_|refine bA ?_ _));exact BK463.out) hb);have n2_:=Am (below_step (by repeat (first|(with_reducible first|exact HB.out|apply bL|apply pN|apply bE|refine bS ?_ GE463.out)|exact HB.out)) hb);clear BK463;clear HB;have HO467:=n0_;have BK463:=n1_;have HB:=n2_;clear n0_ n1_ n2_;obtain ⟨Ao17,co17,eo17⟩:=Kd.R_slice HO467.out;subst eo17))
  go_meet
  case rel=>exact ⟨_,(decide ((t465.length : Int) > 1)),(by first|rfl|(simp;done)|(simp [*];done)),H',⟨by first|omega|exact Nat.le_refl _⟩,⟨by (with_reducible repeat (first|refine bN ?_ _|refine bD ?_|refine bA ?_ _));exact BK463.out⟩,⟨by repeat (first|(with_reducible first|exact HB.out|apply bL|apply pN|apply bE|refine bS ?_ GE463.out)|exact HB.out)⟩⟩
 case rest =>
  clear HC4
  obtain ⟨kq,x30_3,rfl,HA,HJ3,BK463,HB⟩:=hcut
  cases kq with
  | zero=>exact absurd HA.out (by simp [gangerlaw10_ConfLines.j0])
  | succ kj3 =>
   have H:=HA.out
   clear HA
   simp only [gangerlaw10_ConfLines.j0] at H
   by_cases c18 : x30_3 = true
   ·subst c18
    have H1 : ((gangerlaw10_known.f kj3).bind fun t468=>(some t468)) = some r:=by rw [if_pos rfl] at H;exact H
    clear H
    have H:=H1
    clear H1
    replace H:=oB H
    obtain ⟨t468,A190,H⟩:=H
    try dsimp only at H
    have A19:=Am A190
    clear A190
    obtain rfl:=Option.some.inj H
    go_wp2_with (first|((with_reducible refine gC (f:=10) rfl ?_);refine goesL_ (some 31) rfl rfl Tryd.func10 (by kernel_rfl) rfl #[] rfl (by (try simp only [mT,mC,mN]);first|done|rfl|(simp only [lD,lT];rfl)) ?_;(with_reducible refine (gangerlaw10_known.calls kj3  t468 _ ?side1 A19.out).mono ?_);(case side1=>exact Glob.below HG.out (by repeat (first|(with_reducible first|exact HB.out|apply bL|apply pN|apply bE|refine bS ?_ GE463.out)|exact HB.out)));rintro e w20 ⟨rfl,hb⟩;refine ⟨_,rfl,?_⟩;have n0_:=Am (blk_below (g:=gb463) (by (with_reducible repeat (first|refine bN ?_ _|refine bD ?_|refine bA ?_ _));exact BK463.out) hb);have n1_:=Am (below_step (by repeat (first|(with_reducible first|exact HB.out|apply bL|apply pN|apply bE|refine bS ?_ GE463.out)|exact HB.out)) hb);clear BK463;clear HB;have BK463:=n0_;have HB:=n1_;clear n0_ n1_))
    go_ret
    exact ⟨by first|rfl|(simp [errW_none,errW_some] <;> rfl)|(simp [*,errW_none,errW_some] <;> rfl),by repeat (first|(with_reducible first|exact HB.out|apply bL|apply pN|apply bE|refine bS ?_ GE463.out)|exact HB.out)⟩
   replace c18:=Bool.eq_false_iff.mpr c18
   subst c18
   have H1 : ((conf_Print.f kj3 a0_0 a0_1 a0_2 a0_3 a0_4 a0_5 a0_6 a0_7 a0_8 l0_9 l0_10 l0_11).bind fun bt469=>(if bt469.2 = 0 then ((gangerlaw10_cuts.f kj3 bt469.1).bind fun t472=>(if (IntKind.u64.wrap ((t472.length : Int))) = 0 then (none) else (if 0≤(wrap64 (Int.tmod (IntKind.u64.wrap (a1)) (IntKind.u64.wrap ((t472.length : Int))))) then (if (wrap64 (Int.tmod (IntKind.u64.wrap (a1)) (IntKind.u64.wrap ((t472.length : Int))))) < (t472.length : Int) then (if 0≤(rd t472 (wrap64 (Int.tmod (IntKind.u64.wrap (a1)) (IntKind.u64.wrap ((t472.length : Int)))))) then (if (rd t472 (wrap64 (Int.tmod (IntKind.u64.wrap (a1)) (IntKind.u64.wrap ((t472.length : Int))))))≤(bt469.1.size : Int) then ((conf_Parse.f kj3 (bt469.1.extract 0 ((rd t472 (wrap64 (Int.tmod (IntKind.u64.wrap (a1)) (IntKind.u64.wrap ((t472.length : Int)))))) : Int).toNat)).bind fun bt476=>(if (wrap64 (Int.tmod (IntKind.u64.wrap (a1)) (IntKind.u64.wrap ((t472.length : Int)))))≤(wrap64 ((wrap64 (5 + (l0_9.length : Int))) + (l0_10.length : Int))) then (if bt476.2.2.2.2.2.2.2.2.2.2.2.2.1 = (wrap64 ((wrap64 (Int.tmod (IntKind.u64.wrap (a1)) (IntKind.u64.wrap ((t472.length : Int))))) + 1)) then (if bt476.2.2.2.2.2.2.2.2.2.2.2.2.2 = 60 then (if ((wrap64 (Int.tmod (IntKind.u64.wrap (a1)) (IntKind.u64.wrap ((t472.length : Int)))))≤(wrap64 ((wrap64 (5 + (l0_9.length : Int))) + (l0_10.length : Int)))) then (gangerlaw10_ConfLines.j1 kj3 a2 bt469.1 t472 (wrap64 (Int.tmod (IntKind.u64.wrap (a1)) (IntKind.u64.wrap ((t472.length : Int))))) false) else (gangerlaw10_ConfLines.j1 kj3 a2 bt469.1 t472 (wrap64 (Int.tmod (IntKind.u64.wrap (a1)) (IntKind.u64.wrap ((t472.length : Int))))) (bt476.2.2.2.2.2.2.2.2.2.2.2.2.2 == 60))) else (gangerlaw10_ConfLines.j1 kj3 a2 bt469.1 t472 (wrap64 (Int.tmod (IntKind.u64.wrap (a1)) (IntKind.u64.wrap ((t472.length : Int))))) true)) else (gangerlaw10_ConfLines.j1 kj3 a2 bt469.1 t472 (wrap64 (Int.tmod (IntKind.u64.wrap (a1)) (IntKind.u64.wrap ((t472.length : Int))))) true)) else (if ((wrap64 (Int.tmod (IntKind.u64.wrap (a1)) (IntKind.u64.wrap ((t472.length : Int)))))≤(wrap64 ((wrap64 (5 + (l0_9.length : Int))) + (l0_10.length : Int)))) then (gangerlaw10_ConfLines.j1 kj3 a2 bt469.1 t472 (wrap64 (Int.tmod (IntKind.u64.wrap (a1)) (IntKind.u64.wrap ((t472.length : Int))))) false) else (gangerlaw10_ConfLines.j1 kj3 a2 bt469.1 t472 (wrap64 (Int.tmod (IntKind.u64.wrap (a1)) (IntKind.u64.wrap ((t472.length : Int))))) (bt476.2.2.2.2.2.2.2.2.2.2.2.2.2 == 60))))) else (none)) else (none)) else (none)) else (none)))) else ((gangerlaw10_known.f kj3).bind fun t471=>(some t471)))) = some r:=by rw [if_neg (show ¬ (false = true) by decide)] at H;exact H
   clear H
   have H:=H1
   clear H1
   replace H:=oB H
   obtain ⟨⟨t469,t470⟩,A210,H⟩:=H
   replace H : (if t470 = 0 then ((gangerlaw10_cuts.f kj3 t469).bind fun t472=>(if (IntKind.u64.wrap ((t472.length : Int))) = 0 then (none) else (if 0≤(wrap64 (Int.tmod (IntKind.u64.wrap (a1)) (IntKind.u64.wrap ((t472.length : Int))))) then (if (wrap64 (Int.tmod (IntKind.u64.wrap (a1)) (IntKind.u64.wrap ((t472.length : Int))))) < (t472.length : Int) then (if 0≤(rd t472 (wrap64 (Int.tmod (IntKind.u64.wrap (a1)) (IntKind.u64.wrap ((t472.length : Int)))))) then (if (rd t472 (wrap64 (Int.tmod (IntKind.u64.wrap (a1)) (IntKind.u64.wrap ((t472.length : Int))))))≤(t469.size : Int) then ((conf_Parse.f kj3 (t469.extract 0 ((rd t472 (wrap64 (Int.tmod (IntKind.u64.wrap (a1)) (IntKind.u64.wrap ((t472.length : Int)))))) : Int).toNat)).bind fun bt476=>(if (wrap64 (Int.tmod (IntKind.u64.wrap (a1)) (IntKind.u64.wrap ((t472.length : Int)))))≤(wrap64 ((wrap64 (5 + (l0_9.length : Int))) + (l0_10.length : Int))) then (if bt476.2.2.2.2.2.2.2.2.2.2.2.2.1 = (wrap64 ((wrap64 (Int.tmod (IntKind.u64.wrap (a1)) (IntKind.u64.wrap ((t472.length : Int))))) + 1)) then (if bt476.2.2.2.2.2.2.2.2.2.2.2.2.2 = 60 then (if ((wrap64 (Int.tmod (IntKind.u64.wrap (a1)) (IntKind.u64.wrap ((t472.length : Int)))))≤(wrap64 ((wrap64 (5 + (l0_9.length : Int))) + (l0_10.length : Int)))) then (gangerlaw10_ConfLines.j1 kj3 a2 t469 t472 (wrap64 (Int.tmod (IntKind.u64.wrap (a1)) (IntKind.u64.wrap ((t472.length : Int))))) false) else (gangerlaw10_ConfLines.j1 kj3 a2 t469 t472 (wrap64 (Int.tmod (IntKind.u64.wrap (a1)) (IntKind.u64.wrap ((t472.length : Int))))) (bt476.2.2.2.2.2.2.2.2.2.2.2.2.2 == 60))) else (gangerlaw10_ConfLines.j1 kj3 a2 t469 t472 (wrap64 (Int.tmod (IntKind.u64.wrap (a1)) (IntKind.u64.wrap ((t472.length : Int))))) true)) else (gangerlaw10_ConfLines.j1 kj3 a2 t469 t472 (wrap64 (Int.tmod (IntKind.u64.wrap (a1)) (IntKind.u64.wrap ((t472.length : Int))))) true)) else (if ((wrap64 (Int.tmod (IntKind.u64.wrap (a1)) (IntKind.u64.wrap ((t472.length : Int)))))≤(wrap64 ((wrap64 (5 + (l0_9.length : Int))) + (l0_10.length : Int)))) then (gangerlaw10_ConfLines.j1 kj3 a2 t469 t472 (wrap64 (Int.tmod (IntKind.u64.wrap (a1)) (IntKind.u64.wrap ((t472.length : Int))))) false) else (gangerlaw10_ConfLines.j1 kj3 a2 t469 t472 (wrap64 (Int.tmod (IntKind.u64.wrap (a1)) (IntKind.u64.wrap ((t472.length : Int))))) (bt476.2.2.2.2.2.2.2.2.2.2.2.2.2 == 60))))) else (none)) else (none)) else (none)) else (none)))) else ((gangerlaw10_known.f kj3).bind fun t471=>(some t471))) = some r:=H
   have A21:=Am A210
   clear A210
   by_cases c22 : t470 = 0
   rotate_left
   ·rw [if_neg c22] at H
    have c22b0 : (t470 == 0) = false:=beq_eq_false_iff_ne.mpr c22
    have c22b1 : (t470 != 0) = true:=bne_iff_ne.mpr c22
    replace H:=oB H
    obtain ⟨t471,A840,H⟩:=H
    try dsimp only at H
    have A84:=Am A840
    clear A840
    obtain rfl:=Option.some.inj H
    obtain ⟨X85_0,X85_1,X85_2,X85_3,X85_4,X85_5,X85_6,X85_7,X85_8,X85_9,X85_10,X85_11,Y85_0,Y85_1,Y85_2,Y85_3,Y85_4,Y85_5,Y85_6,Y85_7,Y85_8,Y85_9,Y85_10,Y85_11⟩:=kc12 (w:=wc) (g:=gb463) BK463.out
    go_wp2_with (first|((with_reducible refine gC (f:=13) rfl ?_);refine goesL_ (some 34) rfl rfl Tryd.func13 (by kernel_rfl) rfl #[.agg #[.int .i64 a0_0,.int .i64 a0_1,.int .i64 a0_2,.int .i64 a0_3,.int .i64 a0_4,.int .i64 a0_5,.int .i64 a0_6,.int .i64 a0_7,.int .i64 a0_8,.slice A0_9 l0_9.length c0_9,.slice A0_10 l0_10.length c0_10,.slice A0_11 l0_11.length c0_11]] rfl (by (try simp only [mT,mC,mN]);first|done|rfl|(simp only [lD,lT];rfl)) ?_;(with_reducible refine (conf_Print.calls kj3 a0_0 a0_1 a0_2 a0_3 a0_4 a0_5 a0_6 a0_7 a0_8 _ _ l0_9 _ _ l0_10 _ _ l0_11 t469 t470 _ ?side1 ?side2 ?side3 ?side4 ?side5 ?side6 ?side7 A21.out).mono ?_);(case side1=>exact Glob.below HG.out (by repeat (first|(with_reducible first|exact HB.out|apply bL|apply pN|apply bE|refine bS ?_ GE463.out)|exact HB.out)));(case side2=>repeat (first|exact (Kd.C_below HR0_9.out HB.out)|(with_reducible refine Kd.C_alloc ?_ _)|(with_reducible refine Kd.C_drewN ?_ _)|(with_reducible refine Kd.C_drew ?_)));(case side3=>exact HC0_9.out);(case side4=>repeat (first|exact (Kd.C_below HR0_10.out HB.out)|(with_reducible refine Kd.C_alloc ?_ _)|(with_reducible refine Kd.C_drewN ?_ _)|(with_reducible refine Kd.C_drew ?_)));(case side5=>exact HC0_10.out);(case side6=>repeat (first|exact (Kd.C_below HR0_11.out HB.out)|(with_reducible refine Kd.C_alloc ?_ _)|(with_reducible refine Kd.C_drewN ?_ _)|(with_reducible refine Kd.C_drew ?_)));(case side7=>exact HC0_11.out);rintro e w86 ⟨rfl,hb⟩;refine ⟨_,rfl,?_⟩;have n0_:=Am (blk_below (g:=gb463) (by (with_reducible repeat (first|refine bN ?_ _|refine bD ?_|refine bA ?_ _));exact BK463.out) hb);have n1_:=Am (below_step (by repeat (first|(with_reducible first|exact HB.out|apply bL|apply pN|apply bE|refine bS ?_ GE463.out)|exact HB.out)) hb);clear BK463;clear HB;have BK463:=n0_;have HB:=n1_;clear n0_ n1_)|((with_reducible refine gC (f:=10) rfl ?_);refine goesL_ (some 39) rfl rfl Tryd.func10 (by kernel_rfl) rfl #[] rfl (by (try simp only [mT,mC,mN]);first|done|rfl|(simp only [lD,lT];rfl)) ?_;(with_reducible refine (gangerlaw10_known.calls kj3  t471 _ ?side1 A84.out).mono ?_);(case side1=>exact Glob.below HG.out (by repeat (first|(with_reducible first|exact HB.out|apply bL|apply pN|apply bE|refine bS ?_ GE463.out)|exact HB.out)));rintro e w87 ⟨rfl,hb⟩;refine ⟨_,rfl,?_⟩;have n0_:=Am (blk_below (g:=gb463) (by (with_reducible repeat (first|refine bN ?_ _|refine bD ?_|refine bA ?_ _));exact BK463.out) hb);have n1_:=Am (below_step (by repeat (first|(with_reducible first|exact HB.out|apply bL|apply pN|apply bE|refine bS ?_ GE463.out)|exact HB.out)) hb);clear BK463;clear HB;have BK463:=n0_;have HB:=n1_;clear n0_ n1_))
    go_ret
    exact ⟨by first|rfl|(simp [errW_none,errW_some] <;> rfl)|(simp [*,errW_none,errW_some] <;> rfl),by repeat (first|(with_reducible first|exact HB.out|apply bL|apply pN|apply bE|refine bS ?_ GE463.out)|exact HB.out)⟩
   rw [if_pos c22] at H
   have c22b0 : (t470 == 0) = true:=beq_iff_eq.mpr c22
   have c22b1 : (t470 != 0) = false:=bne_eq_false_iff_eq.mpr c22
   clear c22
   replace H:=oB H
   obtain ⟨t472,A230,H⟩:=H
   try dsimp only at H
   have A23:=Am A230
   clear A230
   by_cases c24 : (IntKind.u64.wrap ((t472.length : Int))) = 0
   ·rw [if_pos c24] at H
    exact absurd H (by simp)
   rw [if_neg c24] at H
   have c24b0 : ((IntKind.u64.wrap ((t472.length : Int))) == 0) = false:=beq_eq_false_iff_ne.mpr c24
   have c24b1 : ((IntKind.u64.wrap ((t472.length : Int))) != 0) = true:=bne_iff_ne.mpr c24
   obtain ⟨ji25,hji25⟩ : ∃ j_ : Int,(wrap64 (Int.tmod (IntKind.u64.wrap (a1)) (IntKind.u64.wrap ((t472.length : Int))))) = j_:=⟨_,rfl⟩
   replace H : (if 0≤(ji25) then (if (ji25) < (t472.length : Int) then (if 0≤(rd t472 (ji25)) then (if (rd t472 (ji25))≤(t469.size : Int) then ((conf_Parse.f kj3 (t469.extract 0 ((rd t472 (ji25)) : Int).toNat)).bind fun bt476=>(if (ji25)≤(wrap64 ((wrap64 (5 + (l0_9.length : Int))) + (l0_10.length : Int))) then (if bt476.2.2.2.2.2.2.2.2.2.2.2.2.1 = (wrap64 ((ji25) + 1)) then (if bt476.2.2.2.2.2.2.2.2.2.2.2.2.2 = 60 then (if ((ji25)≤(wrap64 ((wrap64 (5 + (l0_9.length : Int))) + (l0_10.length : Int)))) then (gangerlaw10_ConfLines.j1 kj3 a2 t469 t472 ji25 false) else (gangerlaw10_ConfLines.j1 kj3 a2 t469 t472 ji25 (bt476.2.2.2.2.2.2.2.2.2.2.2.2.2 == 60))) else (gangerlaw10_ConfLines.j1 kj3 a2 t469 t472 ji25 true)) else (gangerlaw10_ConfLines.j1 kj3 a2 t469 t472 ji25 true)) else (if ((ji25)≤(wrap64 ((wrap64 (5 + (l0_9.length : Int))) + (l0_10.length : Int)))) then (gangerlaw10_ConfLines.j1 kj3 a2 t469 t472 ji25 false) else (gangerlaw10_ConfLines.j1 kj3 a2 t469 t472 ji25 (bt476.2.2.2.2.2.2.2.2.2.2.2.2.2 == 60))))) else (none)) else (none)) else (none)) else (none)) = some r:=by first|(rw [hji25] at H;exact H)|(simp only [hji25] at H ⊢;exact H)
   (try rw [hji25] at A21)
   (try rw [hji25] at A23)
   have hji25w : (IntKind.i64.wrap (Int.tmod (IntKind.u64.wrap (a1)) (IntKind.u64.wrap ((t472.length : Int))))) = ji25:=(iW _).trans hji25
   by_cases c26 : 0≤(ji25)
   rotate_left
   ·rw [if_neg c26] at H
    exact absurd H (by simp)
   rw [if_pos c26] at H
   have c26b0 : decide (0≤(ji25)) = true:=decide_eq_true c26
   clear c26
   by_cases c27 : (ji25) < (t472.length : Int)
   rotate_left
   ·rw [if_neg c27] at H
    exact absurd H (by simp)
   rw [if_pos c27] at H
   have c27b0 : decide ((ji25) < (t472.length : Int)) = true:=decide_eq_true c27
   clear c27
   by_cases c28 : 0≤(rd t472 (ji25))
   rotate_left
   ·rw [if_neg c28] at H
    exact absurd H (by simp)
   rw [if_pos c28] at H
   have c28b0:=eq_true c28
   have c28b1 : decide (0≤(rd t472 (ji25))) = true:=decide_eq_true c28
   clear c28
   by_cases c29 : (rd t472 (ji25))≤(t469.size : Int)
   rotate_left
   ·rw [if_neg c29] at H
    exact absurd H (by simp)
   rw [if_pos c29] at H
   have c29b0:=eq_true c29
   have c29b1 : decide ((rd t472 (ji25))≤(t469.size : Int)) = true:=decide_eq_true c29
   clear c29
   replace H:=oB H
   obtain ⟨⟨t476,t477,t478,t479,t480,t481,t482,t483,t484,t485,t488,t491,t494,t495⟩,A300,H⟩:=H
   replace H : (if (ji25)≤(wrap64 ((wrap64 (5 + (l0_9.length : Int))) + (l0_10.length : Int))) then (if t494 = (wrap64 ((ji25) + 1)) then (if t495 = 60 then (if ((ji25)≤(wrap64 ((wrap64 (5 + (l0_9.length : Int))) + (l0_10.length : Int)))) then (gangerlaw10_ConfLines.j1 kj3 a2 t469 t472 ji25 false) else (gangerlaw10_ConfLines.j1 kj3 a2 t469 t472 ji25 (t495 == 60))) else (gangerlaw10_ConfLines.j1 kj3 a2 t469 t472 ji25 true)) else (gangerlaw10_ConfLines.j1 kj3 a2 t469 t472 ji25 true)) else (if ((ji25)≤(wrap64 ((wrap64 (5 + (l0_9.length : Int))) + (l0_10.length : Int)))) then (gangerlaw10_ConfLines.j1 kj3 a2 t469 t472 ji25 false) else (gangerlaw10_ConfLines.j1 kj3 a2 t469 t472 ji25 (t495 == 60)))) = some r:=H
   have A30:=Am A300
   clear A300
   have HC31:=Am H
   clear H
   obtain ⟨X32_0,X32_1,X32_2,X32_3,X32_4,X32_5,X32_6,X32_7,X32_8,X32_9,X32_10,X32_11,Y32_0,Y32_1,Y32_2,Y32_3,Y32_4,Y32_5,Y32_6,Y32_7,Y32_8,Y32_9,Y32_10,Y32_11⟩:=kc12 (w:=wc) (g:=gb463) BK463.out
   go_upto_region 10 with (first|((with_reducible refine gC (f:=13) rfl ?_);refine goesL_ (some 34) rfl rfl Tryd.func13 (by kernel_rfl) rfl #[.agg #[.int .i64 a0_0,.int .i64 a0_1,.int .i64 a0_2,.int .i64 a0_3,.int .i64 a0_4,.int .i64 a0_5,.int .i64 a0_6,.int .i64 a0_7,.int .i64 a0_8,.slice A0_9 l0_9.length c0_9,.slice A0_10 l0_10.length c0_10,.slice A0_11 l0_11.length c0_11]] rfl (by (try simp only [mT,mC,mN]);first|done|rfl|(simp only [lD,lT];rfl)) ?_;(with_reducible refine (conf_Print.calls kj3 a0_0 a0_1 a0_2 a0_3 a0_4 a0_5 a0_6 a0_7 a0_8 _ _ l0_9 _ _ l0_10 _ _ l0_11 t469 t470 _ ?side1 ?side2 ?side3 ?side4 ?side5 ?side6 ?side7 A21.out).mono ?_);(case side1=>exact Glob.below HG.out (by repeat (first|(with_reducible first|exact HB.out|apply bL|apply pN|apply bE|refine bS ?_ GE463.out)|exact HB.out)));(case side2=>repeat (first|exact (Kd.C_below HR0_9.out HB.out)|(with_reducible refine Kd.C_alloc ?_ _)|(with_reducible refine Kd.C_drewN ?_ _)|(with_reducible refine Kd.C_drew ?_)));(case side3=>exact HC0_9.out);(case side4=>repeat (first|exact (Kd.C_below HR0_10.out HB.out)|(with_reducible refine Kd.C_alloc ?_ _)|(with_reducible refine Kd.C_drewN ?_ _)|(with_reducible refine Kd.C_drew ?_)));(case side5=>exact HC0_10.out);(case side6=>repeat (first|exact (Kd.C_below HR0_11.out HB.out)|(with_reducible refine Kd.C_alloc ?_ _)|(with_reducible refine Kd.C_drewN ?_ _)|(with_reducible refine Kd.C_drew ?_)));(case side7=>exact HC0_11.out);rintro e w33 ⟨rfl,hb⟩;refine ⟨_,rfl,?_⟩;have n0_:=Am (blk_below (g:=gb463) (by (with_reducible repeat (first|refine bN ?_ _|refine bD ?_|refine bA ?_ _));exact BK463.out) hb);have n1_:=Am (below_step (by repeat (first|(with_reducible first|exact HB.out|apply bL|apply pN|apply bE|refine bS ?_ GE463.out)|exact HB.out)) hb);clear BK463;clear HB;have BK463:=n0_;have HB:=n1_;clear n0_ n1_)|((with_reducible refine gC (f:=18) rfl ?_);refine goesL_ (some 41) rfl rfl Tryd.func18 (by kernel_rfl) rfl #[.string t469] rfl (by (try simp only [mT,mC,mN]);first|done|rfl|(simp only [lD,lT];rfl)) ?_;(with_reducible refine (gangerlaw10_cuts.calls kj3 t469 t472 _ A23.out).mono ?_);rintro e w34 ⟨v473,rfl,ho0,hb⟩;refine ⟨_,rfl,?_⟩;have n0_:=Am (Kd.R_lower ho0 (bZ (by repeat (first|(with_reducible first|exact HB.out|apply bL|apply pN|apply bE|refine bS ?_ GE463.out)|exact HB.out))));have n1_:=Am (blk_below (g:=gb463) (by (with_reducible repeat (first|refine bN ?_ _|refine bD ?_|refine bA ?_ _));exact BK463.out) hb);have n2_:=Am (below_step (by repeat (first|(with_reducible first|exact HB.out|apply bL|apply pN|apply bE|refine bS ?_ GE463.out)|exact HB.out)) hb);clear BK463;clear HB;have HO474:=n0_;have BK463:=n1_;have HB:=n2_;clear n0_ n1_ n2_;obtain ⟨Ao35,co35,eo35⟩:=Kd.R_slice HO474.out;subst eo35;have p475 : 0≤((ji25) : Int):=of_decide_eq_true (by first|(with_reducible assumption)|assumption);have q475 : (ji25) < (t472.length : Int):=of_decide_eq_true (by first|(with_reducible assumption)|assumption);obtain ⟨ad475,e475,hx475_0⟩:=Kd.at_int (Kd.R_reads' HO474.out).2.2 (ji25) p475 q475;cases e475;replace p475:=eq_true p475;replace q475:=eq_true q475)|((with_reducible refine gC (f:=17) rfl ?_);refine goesL_ (some 56) rfl rfl Tryd.func17 (by kernel_rfl) rfl #[.string (t469.extract 0 ((rd t472 (ji25)) : Int).toNat)] rfl (by (try simp only [mT,mC,mN]);first|done|(simp only [hji25];rfl)|rfl|(simp only [lD,lT];rfl)) ?_;(with_reducible refine (conf_Parse.calls kj3 (t469.extract 0 ((rd t472 (ji25)) : Int).toNat) t476 t477 t478 t479 t480 t481 t482 t483 t484 t485 t488 t491 t494 t495 _ ?side1 A30.out).mono ?_);(case side1=>exact Glob.below HG.out (by repeat (first|(with_reducible first|exact HB.out|apply bL|apply pN|apply bE|refine bS ?_ GE463.out)|exact HB.out)));rintro e w36 ⟨v486,v489,v492,rfl,ho0,ho1,ho2,hb⟩;refine ⟨_,rfl,?_⟩;have n0_:=Am (Kd.R_below (by (with_reducible repeat (first|apply Kd.R_alloc|apply Kd.R_drewN|apply Kd.R_drew));exact HO474.out) hb);have n1_:=Am (Kd.R_lower ho0 (bZ (by repeat (first|(with_reducible first|exact HB.out|apply bL|apply pN|apply bE|refine bS ?_ GE463.out)|exact HB.out))));have n2_:=Am (Kd.R_lower ho1 (bZ (by repeat (first|(with_reducible first|exact HB.out|apply bL|apply pN|apply bE|refine bS ?_ GE463.out)|exact HB.out))));have n3_:=Am (Kd.R_lower ho2 (bZ (by repeat (first|(with_reducible first|exact HB.out|apply bL|apply pN|apply bE|refine bS ?_ GE463.out)|exact HB.out))));have n4_:=Am (blk_below (g:=gb463) (by (with_reducible repeat (first|refine bN ?_ _|refine bD ?_|refine bA ?_ _));exact BK463.out) hb);have n5_:=Am (below_step (by repeat (first|(with_reducible first|exact HB.out|apply bL|apply pN|apply bE|refine bS ?_ GE463.out)|exact HB.out)) hb);clear HO474;clear BK463;clear HB;have HO474:=n0_;have HO487:=n1_;have HO490:=n2_;have HO493:=n3_;have BK463:=n4_;have HB:=n5_;clear n0_ n1_ n2_ n3_ n4_ n5_)|((with_reducible refine gD (N:=11) rfl ?_);(try (refine gate_guard (by rfl) ?_;dsimp only));refine box_event ?hg (N:=11) ?hd (cs:=#[.int .i64 0,.int .i64 0,.int .i64 0,.int .i64 0,.int .i64 0,.int .i64 0,.int .i64 0,.int .i64 0,.int .i64 0,.slice none 0 0,.slice none 0 0,.slice none 0 0]) (t:=28) ?hr ?_;(case hd=>rfl);(case hg=>rfl);(case hr=>first|(go_simp;done)|(go_simp;rfl));intro gb496 hg w37 hbox hb;have n0_:=Am (Kd.R_below (by (with_reducible repeat (first|apply Kd.R_alloc|apply Kd.R_drewN|apply Kd.R_drew));exact HO474.out) hb);have n1_:=Am (Kd.R_below (by (with_reducible repeat (first|apply Kd.R_alloc|apply Kd.R_drewN|apply Kd.R_drew));exact HO487.out) hb);have n2_:=Am (Kd.R_below (by (with_reducible repeat (first|apply Kd.R_alloc|apply Kd.R_drewN|apply Kd.R_drew));exact HO490.out) hb);have n3_:=Am (Kd.R_below (by (with_reducible repeat (first|apply Kd.R_alloc|apply Kd.R_drewN|apply Kd.R_drew));exact HO493.out) hb);have n4_:=Am (blk_below (g:=gb463) (by (with_reducible repeat (first|refine bN ?_ _|refine bD ?_|refine bA ?_ _));exact BK463.out) hb);have n5_:=Am (below_step (by repeat (first|(with_reducible first|exact HB.out|apply bL|apply pN|apply bE|refine bS ?_ GE463.out)|exact HB.out)) hb);have n6_:=Am (hbox);have n7_:=Am ((by rw [hg];exact (bZ (by repeat (first|(with_reducible first|exact HB.out|apply bL|apply pN|apply bE|refine bS ?_ GE463.out)|exact HB.out))) : w.heap.size≤gb496));have n8_:=n7_;have n9_:=Am ((by rw [hg];exact Nat.ne_of_lt (blk_lt (g:=gb463) (by (with_reducible repeat (first|refine bN ?_ _|refine bD ?_|refine bA ?_ _));exact BK463.out)) : gb463 ≠ gb496));have n10_:=Am ((by rw [hg];exact Nat.ne_of_gt (blk_lt (g:=gb463) (by (with_reducible repeat (first|refine bN ?_ _|refine bD ?_|refine bA ?_ _));exact BK463.out)) : gb496 ≠ gb463));clear HO474;clear HO487;clear HO490;clear HO493;clear BK463;clear HB;have HO474:=n0_;have HO487:=n1_;have HO490:=n2_;have HO493:=n3_;have BK463:=n4_;have HB:=n5_;have BK496:=n6_;have GW496:=n7_;have GE496:=n8_;have NB463_496:=n9_;have NB496_463:=n10_;clear n0_ n1_ n2_ n3_ n4_ n5_ n6_ n7_ n8_ n9_ n10_;clear hb hbox hg;have hnb38:=NB496_463.out;have hnc38:=NB463_496.out;obtain ⟨X39_0,X39_1,X39_2,X39_3,X39_4,X39_5,X39_6,X39_7,X39_8,X39_9,X39_10,X39_11,Y39_0,Y39_1,Y39_2,Y39_3,Y39_4,Y39_5,Y39_6,Y39_7,Y39_8,Y39_9,Y39_10,Y39_11⟩:=kc12 (w:=w37) (g:=gb496) BK496.out;obtain ⟨Ao40,co40,eo40⟩:=Kd.R_slice HO487.out;subst eo40;obtain ⟨Ao41,co41,eo41⟩:=Kd.R_slice HO490.out;subst eo41;obtain ⟨Ao42,co42,eo42⟩:=Kd.R_slice HO493.out;subst eo42;obtain ⟨X43_0,X43_1,X43_2,X43_3,X43_4,X43_5,X43_6,X43_7,X43_8,X43_9,X43_10,X43_11,Y43_0,Y43_1,Y43_2,Y43_3,Y43_4,Y43_5,Y43_6,Y43_7,Y43_8,Y43_9,Y43_10,Y43_11⟩:=kc12 (w:=w37) (g:=gb463) BK463.out))
   (try simp only [Act.put,sT,sZ,sS])
   generalize hEa : decide (ji25≤wrap64 (wrap64 (5 + (l0_9.length : Int)) + (l0_10.length : Int))) = ea_
   go_cut [88] (fun v88 wc=>∃ (kq : Nat) (x88_30 : Bool),v88 = .bool x88_30∧Aside0 (gangerlaw10_ConfLines.j1 kq a2 t469 t472 ji25 x88_30 = some r)∧Aside0 (kq≤kj3)∧Aside0 (Kd.R (Kd.int .i64) 3 wc w.heap.size (fun _=>True) (.slice (some ad475) t472.length co35) t472)∧Aside0 (Kd.R k50 50 wc w.heap.size (fun _=>True) (.slice Ao40 t485.length co40) t485)∧Aside0 (Kd.R k52 52 wc w.heap.size (fun _=>True) (.slice Ao41 t488.length co41) t488)∧Aside0 (Kd.R k48 48 wc w.heap.size (fun _=>True) (.slice Ao42 t491.length co42) t491)∧Aside0 (wc.heap[gb463]? = some (.cells #[.int .i64 a0_0,.int .i64 a0_1,.int .i64 a0_2,.int .i64 a0_3,.int .i64 a0_4,.int .i64 a0_5,.int .i64 a0_6,.int .i64 a0_7,.int .i64 a0_8,(.slice A0_9 l0_9.length c0_9),(.slice A0_10 l0_10.length c0_10),(.slice A0_11 l0_11.length c0_11)] 28 (0,0)))∧Aside0 (wc.heap[gb496]? = some (.cells #[.int .i64 t476,.int .i64 t477,.int .i64 t478,.int .i64 t479,.int .i64 t480,.int .i64 t481,.int .i64 t482,.int .i64 t483,.int .i64 t484,(.slice Ao40 t485.length co40),(.slice Ao41 t488.length co41),(.slice Ao42 t491.length co42)] 28 (0,0)))∧Aside0 (Below w.heap.size w wc))
   case first =>
    have H:=HC31.out
    clear HC31
    by_cases c44 : (ji25)≤(wrap64 ((wrap64 (5 + (l0_9.length : Int))) + (l0_10.length : Int)))
    rotate_left
    ·rw [if_neg c44] at H
     have c44b0 : decide ((ji25)≤(wrap64 ((wrap64 (5 + (l0_9.length : Int))) + (l0_10.length : Int)))) = false:=decide_eq_false c44
     obtain rfl : ea_ = false:=hEa.symm.trans c44b0
     clear c44
     (first|rw [c44b0]|(simp only [iW,iV];rw [c44b0])|skip)
     by_cases c48 : ((ji25)≤(wrap64 ((wrap64 (5 + (l0_9.length : Int))) + (l0_10.length : Int))))
     rotate_left
     ·rw [if_neg c48] at H
      have c48b0 : decide ((ji25)≤(wrap64 ((wrap64 (5 + (l0_9.length : Int))) + (l0_10.length : Int)))) = false:=decide_eq_false c48
      clear c48
      have H':=Am H
      clear H
      go_wp2
      go_meet
      case rel=>exact ⟨_,((t495 == 60)),(by first|rfl|(simp;done)|(simp [*];done)),H',⟨by have:=HJ3.out;first|omega|exact Nat.le_refl _⟩,⟨by (with_reducible repeat (first|apply Kd.R_alloc|apply Kd.R_drewN|apply Kd.R_drew));exact Kd.R_mono (rf12 (g:=gb496) (Kd.R_types HO474.out BK496.out (by decide)) (fun _ hk=>hk.2)) (fun _ hk=>trivial)⟩,⟨by (with_reducible repeat (first|apply Kd.R_alloc|apply Kd.R_drewN|apply Kd.R_drew));exact Kd.R_mono (rf12 (g:=gb496) (Kd.R_types HO487.out BK496.out (by decide)) (fun _ hk=>hk.2)) (fun _ hk=>trivial)⟩,⟨by (with_reducible repeat (first|apply Kd.R_alloc|apply Kd.R_drewN|apply Kd.R_drew));exact Kd.R_mono (rf12 (g:=gb496) (Kd.R_types HO490.out BK496.out (by decide)) (fun _ hk=>hk.2)) (fun _ hk=>trivial)⟩,⟨by (with_reducible repeat (first|apply Kd.R_alloc|apply Kd.R_drewN|apply Kd.R_drew));exact Kd.R_mono (rf12 (g:=gb496) (Kd.R_types HO493.out BK496.out (by decide)) (fun _ hk=>hk.2)) (fun _ hk=>trivial)⟩,⟨by (with_reducible repeat (first|refine bN ?_ _|refine bD ?_|refine bA ?_ _));refine blk_far ?_ NB463_496.out _;(with_reducible repeat (first|refine bN ?_ _|refine bD ?_|refine bA ?_ _));refine blk_far ?_ NB463_496.out _;(with_reducible repeat (first|refine bN ?_ _|refine bD ?_|refine bA ?_ _));refine blk_far ?_ NB463_496.out _;(with_reducible repeat (first|refine bN ?_ _|refine bD ?_|refine bA ?_ _));refine blk_far ?_ NB463_496.out _;(with_reducible repeat (first|refine bN ?_ _|refine bD ?_|refine bA ?_ _));refine blk_far ?_ NB463_496.out _;(with_reducible repeat (first|refine bN ?_ _|refine bD ?_|refine bA ?_ _));refine blk_far ?_ NB463_496.out _;(with_reducible repeat (first|refine bN ?_ _|refine bD ?_|refine bA ?_ _));refine blk_far ?_ NB463_496.out _;(with_reducible repeat (first|refine bN ?_ _|refine bD ?_|refine bA ?_ _));refine blk_far ?_ NB463_496.out _;(with_reducible repeat (first|refine bN ?_ _|refine bD ?_|refine bA ?_ _));refine blk_far ?_ NB463_496.out _;(with_reducible repeat (first|refine bN ?_ _|refine bD ?_|refine bA ?_ _));refine blk_far ?_ NB463_496.out _;(with_reducible repeat (first|refine bN ?_ _|refine bD ?_|refine bA ?_ _));refine blk_far ?_ NB463_496.out _;(with_reducible repeat (first|refine bN ?_ _|refine bD ?_|refine bA ?_ _));refine blk_far ?_ NB463_496.out _;(with_reducible repeat (first|refine bN ?_ _|refine bD ?_|refine bA ?_ _));exact BK463.out⟩,⟨by (with_reducible repeat (first|refine bN ?_ _|refine bD ?_|refine bA ?_ _));refine blk_put (cs:=#[.int .i64 t476,.int .i64 t477,.int .i64 t478,.int .i64 t479,.int .i64 t480,.int .i64 t481,.int .i64 t482,.int .i64 t483,.int .i64 t484,.slice Ao40 t485.length co40,.slice Ao41 t488.length co41,.slice none 0 0]) ?_ 11 _ rfl;(with_reducible repeat (first|refine bN ?_ _|refine bD ?_|refine bA ?_ _));refine blk_put (cs:=#[.int .i64 t476,.int .i64 t477,.int .i64 t478,.int .i64 t479,.int .i64 t480,.int .i64 t481,.int .i64 t482,.int .i64 t483,.int .i64 t484,.slice Ao40 t485.length co40,.slice none 0 0,.slice none 0 0]) ?_ 10 _ rfl;(with_reducible repeat (first|refine bN ?_ _|refine bD ?_|refine bA ?_ _));refine blk_put (cs:=#[.int .i64 t476,.int .i64 t477,.int .i64 t478,.int .i64 t479,.int .i64 t480,.int .i64 t481,.int .i64 t482,.int .i64 t483,.int .i64 t484,.slice none 0 0,.slice none 0 0,.slice none 0 0]) ?_ 9 _ rfl;(with_reducible repeat (first|refine bN ?_ _|refine bD ?_|refine bA ?_ _));refine blk_put (cs:=#[.int .i64 t476,.int .i64 t477,.int .i64 t478,.int .i64 t479,.int .i64 t480,.int .i64 t481,.int .i64 t482,.int .i64 t483,.int .i64 0,.slice none 0 0,.slice none 0 0,.slice none 0 0]) ?_ 8 _ rfl;(with_reducible repeat (first|refine bN ?_ _|refine bD ?_|refine bA ?_ _));refine blk_put (cs:=#[.int .i64 t476,.int .i64 t477,.int .i64 t478,.int .i64 t479,.int .i64 t480,.int .i64 t481,.int .i64 t482,.int .i64 0,.int .i64 0,.slice none 0 0,.slice none 0 0,.slice none 0 0]) ?_ 7 _ rfl;(with_reducible repeat (first|refine bN ?_ _|refine bD ?_|refine bA ?_ _));refine blk_put (cs:=#[.int .i64 t476,.int .i64 t477,.int .i64 t478,.int .i64 t479,.int .i64 t480,.int .i64 t481,.int .i64 0,.int .i64 0,.int .i64 0,.slice none 0 0,.slice none 0 0,.slice none 0 0]) ?_ 6 _ rfl;(with_reducible repeat (first|refine bN ?_ _|refine bD ?_|refine bA ?_ _));refine blk_put (cs:=#[.int .i64 t476,.int .i64 t477,.int .i64 t478,.int .i64 t479,.int .i64 t480,.int .i64 0,.int .i64 0,.int .i64 0,.int .i64 0,.slice none 0 0,.slice none 0 0,.slice none 0 0]) ?_ 5 _ rfl;(with_reducible repeat (first|refine bN ?_ _|refine bD ?_|refine bA ?_ _));refine blk_put (cs:=#[.int .i64 t476,.int .i64 t477,.int .i64 t478,.int .i64 t479,.int .i64 0,.int .i64 0,.int .i64 0,.int .i64 0,.int .i64 0,.slice none 0 0,.slice none 0 0,.slice none 0 0]) ?_ 4 _ rfl;(with_reducible repeat (first|refine bN ?_ _|refine bD ?_|refine bA ?_ _));refine blk_put (cs:=#[.int .i64 t476,.int .i64 t477,.int .i64 t478,.int .i64 0,.int .i64 0,.int .i64 0,.int .i64 0,.int .i64 0,.int .i64 0,.slice none 0 0,.slice none 0 0,.slice none 0 0]) ?_ 3 _ rfl;(with_reducible repeat (first|refine bN ?_ _|refine bD ?_|refine bA ?_ _));refine blk_put (cs:=#[.int .i64 t476,.int .i64 t477,.int .i64 0,.int .i64 0,.int .i64 0,.int .i64 0,.int .i64 0,.int .i64 0,.int .i64 0,.slice none 0 0,.slice none 0 0,.slice none 0 0]) ?_ 2 _ rfl;(with_reducible repeat (first|refine bN ?_ _|refine bD ?_|refine bA ?_ _));refine blk_put (cs:=#[.int .i64 t476,.int .i64 0,.int .i64 0,.int .i64 0,.int .i64 0,.int .i64 0,.int .i64 0,.int .i64 0,.int .i64 0,.slice none 0 0,.slice none 0 0,.slice none 0 0]) ?_ 1 _ rfl;(with_reducible repeat (first|refine bN ?_ _|refine bD ?_|refine bA ?_ _));refine blk_put (cs:=#[.int .i64 0,.int .i64 0,.int .i64 0,.int .i64 0,.int .i64 0,.int .i64 0,.int .i64 0,.int .i64 0,.int .i64 0,.slice none 0 0,.slice none 0 0,.slice none 0 0]) ?_ 0 _ rfl;(with_reducible repeat (first|refine bN ?_ _|refine bD ?_|refine bA ?_ _));exact BK496.out⟩,⟨by repeat (first|(with_reducible first|exact HB.out|apply bL|apply pN|apply bE|refine bS ?_ GE463.out|refine bS ?_ GE496.out)|exact HB.out)⟩⟩
     rw [if_pos c48] at H
     have c48b0 : decide ((ji25)≤(wrap64 ((wrap64 (5 + (l0_9.length : Int))) + (l0_10.length : Int)))) = true:=decide_eq_true c48
     clear c48
     have H':=Am H
     clear H
     go_wp2
     go_meet
     case rel=>exact ⟨_,(false),(by first|rfl|(simp;done)|(simp [*];done)|exact absurd (c44b0.symm.trans c48b0) (by decide)),H',⟨by have:=HJ3.out;first|omega|exact Nat.le_refl _⟩,⟨by (with_reducible repeat (first|apply Kd.R_alloc|apply Kd.R_drewN|apply Kd.R_drew));exact Kd.R_mono (rf12 (g:=gb496) (Kd.R_types HO474.out BK496.out (by decide)) (fun _ hk=>hk.2)) (fun _ hk=>trivial)⟩,⟨by (with_reducible repeat (first|apply Kd.R_alloc|apply Kd.R_drewN|apply Kd.R_drew));exact Kd.R_mono (rf12 (g:=gb496) (Kd.R_types HO487.out BK496.out (by decide)) (fun _ hk=>hk.2)) (fun _ hk=>trivial)⟩,⟨by (with_reducible repeat (first|apply Kd.R_alloc|apply Kd.R_drewN|apply Kd.R_drew));exact Kd.R_mono (rf12 (g:=gb496) (Kd.R_types HO490.out BK496.out (by decide)) (fun _ hk=>hk.2)) (fun _ hk=>trivial)⟩,⟨by (with_reducible repeat (first|apply Kd.R_alloc|apply Kd.R_drewN|apply Kd.R_drew));exact Kd.R_mono (rf12 (g:=gb496) (Kd.R_types HO493.out BK496.out (by decide)) (fun _ hk=>hk.2)) (fun _ hk=>trivial)⟩,⟨by (with_reducible repeat (first|refine bN ?_ _|refine bD ?_|refine bA ?_ _));refine blk_far ?_ NB463_496.out _;(with_reducible repeat (first|refine bN ?_ _|refine bD ?_|refine bA ?_ _));refine blk_far ?_ NB463_496.out _;(with_reducible repeat (first|refine bN ?_ _|refine bD ?_|refine bA ?_ _));refine blk_far ?_ NB463_496.out _;(with_reducible repeat (first|refine bN ?_ _|refine bD ?_|refine bA ?_ _));refine blk_far ?_ NB463_496.out _;(with_reducible repeat (first|refine bN ?_ _|refine bD ?_|refine bA ?_ _));refine blk_far ?_ NB463_496.out _;(with_reducible repeat (first|refine bN ?_ _|refine bD ?_|refine bA ?_ _));refine blk_far ?_ NB463_496.out _;(with_reducible repeat (first|refine bN ?_ _|refine bD ?_|refine bA ?_ _));refine blk_far ?_ NB463_496.out _;(with_reducible repeat (first|refine bN ?_ _|refine bD ?_|refine bA ?_ _));refine blk_far ?_ NB463_496.out _;(with_reducible repeat (first|refine bN ?_ _|refine bD ?_|refine bA ?_ _));refine blk_far ?_ NB463_496.out _;(with_reducible repeat (first|refine bN ?_ _|refine bD ?_|refine bA ?_ _));refine blk_far ?_ NB463_496.out _;(with_reducible repeat (first|refine bN ?_ _|refine bD ?_|refine bA ?_ _));refine blk_far ?_ NB463_496.out _;(with_reducible repeat (first|refine bN ?_ _|refine bD ?_|refine bA ?_ _));refine blk_far ?_ NB463_496.out _;(with_reducible repeat (first|refine bN ?_ _|refine bD ?_|refine bA ?_ _));exact BK463.out⟩,⟨by (with_reducible repeat (first|refine bN ?_ _|refine bD ?_|refine bA ?_ _));refine blk_put (cs:=#[.int .i64 t476,.int .i64 t477,.int .i64 t478,.int .i64 t479,.int .i64 t480,.int .i64 t481,.int .i64 t482,.int .i64 t483,.int .i64 t484,.slice Ao40 t485.length co40,.slice Ao41 t488.length co41,.slice none 0 0]) ?_ 11 _ rfl;(with_reducible repeat (first|refine bN ?_ _|refine bD ?_|refine bA ?_ _));refine blk_put (cs:=#[.int .i64 t476,.int .i64 t477,.int .i64 t478,.int .i64 t479,.int .i64 t480,.int .i64 t481,.int .i64 t482,.int .i64 t483,.int .i64 t484,.slice Ao40 t485.length co40,.slice none 0 0,.slice none 0 0]) ?_ 10 _ rfl;(with_reducible repeat (first|refine bN ?_ _|refine bD ?_|refine bA ?_ _));refine blk_put (cs:=#[.int .i64 t476,.int .i64 t477,.int .i64 t478,.int .i64 t479,.int .i64 t480,.int .i64 t481,.int .i64 t482,.int .i64 t483,.int .i64 t484,.slice none 0 0,.slice none 0 0,.slice none 0 0]) ?_ 9 _ rfl;(with_reducible repeat (first|refine bN ?_ _|refine bD ?_|refine bA ?_ _));refine blk_put (cs:=#[.int .i64 t476,.int .i64 t477,.int .i64 t478,.int .i64 t479,.int .i64 t480,.int .i64 t481,.int .i64 t482,.int .i64 t483,.int .i64 0,.slice none 0 0,.slice none 0 0,.slice none 0 0]) ?_ 8 _ rfl;(with_reducible repeat (first|refine bN ?_ _|refine bD ?_|refine bA ?_ _));refine blk_put (cs:=#[.int .i64 t476,.int .i64 t477,.int .i64 t478,.int .i64 t479,.int .i64 t480,.int .i64 t481,.int .i64 t482,.int .i64 0,.int .i64 0,.slice none 0 0,.slice none 0 0,.slice none 0 0]) ?_ 7 _ rfl;(with_reducible repeat (first|refine bN ?_ _|refine bD ?_|refine bA ?_ _));refine blk_put (cs:=#[.int .i64 t476,.int .i64 t477,.int .i64 t478,.int .i64 t479,.int .i64 t480,.int .i64 t481,.int .i64 0,.int .i64 0,.int .i64 0,.slice none 0 0,.slice none 0 0,.slice none 0 0]) ?_ 6 _ rfl;(with_reducible repeat (first|refine bN ?_ _|refine bD ?_|refine bA ?_ _));refine blk_put (cs:=#[.int .i64 t476,.int .i64 t477,.int .i64 t478,.int .i64 t479,.int .i64 t480,.int .i64 0,.int .i64 0,.int .i64 0,.int .i64 0,.slice none 0 0,.slice none 0 0,.slice none 0 0]) ?_ 5 _ rfl;(with_reducible repeat (first|refine bN ?_ _|refine bD ?_|refine bA ?_ _));refine blk_put (cs:=#[.int .i64 t476,.int .i64 t477,.int .i64 t478,.int .i64 t479,.int .i64 0,.int .i64 0,.int .i64 0,.int .i64 0,.int .i64 0,.slice none 0 0,.slice none 0 0,.slice none 0 0]) ?_ 4 _ rfl;(with_reducible repeat (first|refine bN ?_ _|refine bD ?_|refine bA ?_ _));refine blk_put (cs:=#[.int .i64 t476,.int .i64 t477,.int .i64 t478,.int .i64 0,.int .i64 0,.int .i64 0,.int .i64 0,.int .i64 0,.int .i64 0,.slice none 0 0,.slice none 0 0,.slice none 0 0]) ?_ 3 _ rfl;(with_reducible repeat (first|refine bN ?_ _|refine bD ?_|refine bA ?_ _));refine blk_put (cs:=#[.int .i64 t476,.int .i64 t477,.int .i64 0,.int .i64 0,.int .i64 0,.int .i64 0,.int .i64 0,.int .i64 0,.int .i64 0,.slice none 0 0,.slice none 0 0,.slice none 0 0]) ?_ 2 _ rfl;(with_reducible repeat (first|refine bN ?_ _|refine bD ?_|refine bA ?_ _));refine blk_put (cs:=#[.int .i64 t476,.int .i64 0,.int .i64 0,.int .i64 0,.int .i64 0,.int .i64 0,.int .i64 0,.int .i64 0,.int .i64 0,.slice none 0 0,.slice none 0 0,.slice none 0 0]) ?_ 1 _ rfl;(with_reducible repeat (first|refine bN ?_ _|refine bD ?_|refine bA ?_ _));refine blk_put (cs:=#[.int .i64 0,.int .i64 0,.int .i64 0,.int .i64 0,.int .i64 0,.int .i64 0,.int .i64 0,.int .i64 0,.int .i64 0,.slice none 0 0,.slice none 0 0,.slice none 0 0]) ?_ 0 _ rfl;(with_reducible repeat (first|refine bN ?_ _|refine bD ?_|refine bA ?_ _));exact BK496.out⟩,⟨by repeat (first|(with_reducible first|exact HB.out|apply bL|apply pN|apply bE|refine bS ?_ GE463.out|refine bS ?_ GE496.out)|exact HB.out)⟩⟩
    rw [if_pos c44] at H
    have c44b0 : decide ((ji25)≤(wrap64 ((wrap64 (5 + (l0_9.length : Int))) + (l0_10.length : Int)))) = true:=decide_eq_true c44
    obtain rfl : ea_ = true:=hEa.symm.trans c44b0
    clear c44
    (first|rw [c44b0]|(simp only [iW,iV];rw [c44b0])|skip)
    by_cases c45 : t494 = (wrap64 ((ji25) + 1))
    rotate_left
    ·rw [if_neg c45] at H
     have c45b0 : (t494 == (wrap64 ((ji25) + 1))) = false:=beq_eq_false_iff_ne.mpr c45
     have c45b1 : (t494 != (wrap64 ((ji25) + 1))) = true:=bne_iff_ne.mpr c45
     have H':=Am H
     clear H
     go_wp2
     go_meet
     case rel=>exact ⟨_,(true),(by first|rfl|(simp;done)|(simp [*];done)),H',⟨by have:=HJ3.out;first|omega|exact Nat.le_refl _⟩,⟨by (with_reducible repeat (first|apply Kd.R_alloc|apply Kd.R_drewN|apply Kd.R_drew));exact Kd.R_mono (rf12 (g:=gb496) (Kd.R_types HO474.out BK496.out (by decide)) (fun _ hk=>hk.2)) (fun _ hk=>trivial)⟩,⟨by (with_reducible repeat (first|apply Kd.R_alloc|apply Kd.R_drewN|apply Kd.R_drew));exact Kd.R_mono (rf12 (g:=gb496) (Kd.R_types HO487.out BK496.out (by decide)) (fun _ hk=>hk.2)) (fun _ hk=>trivial)⟩,⟨by (with_reducible repeat (first|apply Kd.R_alloc|apply Kd.R_drewN|apply Kd.R_drew));exact Kd.R_mono (rf12 (g:=gb496) (Kd.R_types HO490.out BK496.out (by decide)) (fun _ hk=>hk.2)) (fun _ hk=>trivial)⟩,⟨by (with_reducible repeat (first|apply Kd.R_alloc|apply Kd.R_drewN|apply Kd.R_drew));exact Kd.R_mono (rf12 (g:=gb496) (Kd.R_types HO493.out BK496.out (by decide)) (fun _ hk=>hk.2)) (fun _ hk=>trivial)⟩,⟨by (with_reducible repeat (first|refine bN ?_ _|refine bD ?_|refine bA ?_ _));refine blk_far ?_ NB463_496.out _;(with_reducible repeat (first|refine bN ?_ _|refine bD ?_|refine bA ?_ _));refine blk_far ?_ NB463_496.out _;(with_reducible repeat (first|refine bN ?_ _|refine bD ?_|refine bA ?_ _));refine blk_far ?_ NB463_496.out _;(with_reducible repeat (first|refine bN ?_ _|refine bD ?_|refine bA ?_ _));refine blk_far ?_ NB463_496.out _;(with_reducible repeat (first|refine bN ?_ _|refine bD ?_|refine bA ?_ _));refine blk_far ?_ NB463_496.out _;(with_reducible repeat (first|refine bN ?_ _|refine bD ?_|refine bA ?_ _));refine blk_far ?_ NB463_496.out _;(with_reducible repeat (first|refine bN ?_ _|refine bD ?_|refine bA ?_ _));refine blk_far ?_ NB463_496.out _;(with_reducible repeat (first|refine bN ?_ _|refine bD ?_|refine bA ?_ _));refine blk_far ?_ NB463_496.out _;(with_reducible repeat (first|refine bN ?_ _|refine bD ?_|refine bA ?_ _));refine blk_far ?_ NB463_496.out _;(with_reducible repeat (first|refine bN ?_ _|refine bD ?_|refine bA ?_ _));refine blk_far ?_ NB463_496.out _;(with_reducible repeat (first|refine bN ?_ _|refine bD ?_|refine bA ?_ _));refine blk_far ?_ NB463_496.out _;(with_reducible repeat (first|refine bN ?_ _|refine bD ?_|refine bA ?_ _));refine blk_far ?_ NB463_496.out _;(with_reducible repeat (first|refine bN ?_ _|refine bD ?_|refine bA ?_ _));exact BK463.out⟩,⟨by (with_reducible repeat (first|refine bN ?_ _|refine bD ?_|refine bA ?_ _));refine blk_put (cs:=#[.int .i64 t476,.int .i64 t477,.int .i64 t478,.int .i64 t479,.int .i64 t480,.int .i64 t481,.int .i64 t482,.int .i64 t483,.int .i64 t484,.slice Ao40 t485.length co40,.slice Ao41 t488.length co41,.slice none 0 0]) ?_ 11 _ rfl;(with_reducible repeat (first|refine bN ?_ _|refine bD ?_|refine bA ?_ _));refine blk_put (cs:=#[.int .i64 t476,.int .i64 t477,.int .i64 t478,.int .i64 t479,.int .i64 t480,.int .i64 t481,.int .i64 t482,.int .i64 t483,.int .i64 t484,.slice Ao40 t485.length co40,.slice none 0 0,.slice none 0 0]) ?_ 10 _ rfl;(with_reducible repeat (first|refine bN ?_ _|refine bD ?_|refine bA ?_ _));refine blk_put (cs:=#[.int .i64 t476,.int .i64 t477,.int .i64 t478,.int .i64 t479,.int .i64 t480,.int .i64 t481,.int .i64 t482,.int .i64 t483,.int .i64 t484,.slice none 0 0,.slice none 0 0,.slice none 0 0]) ?_ 9 _ rfl;(with_reducible repeat (first|refine bN ?_ _|refine bD ?_|refine bA ?_ _));refine blk_put (cs:=#[.int .i64 t476,.int .i64 t477,.int .i64 t478,.int .i64 t479,.int .i64 t480,.int .i64 t481,.int .i64 t482,.int .i64 t483,.int .i64 0,.slice none 0 0,.slice none 0 0,.slice none 0 0]) ?_ 8 _ rfl;(with_reducible repeat (first|refine bN ?_ _|refine bD ?_|refine bA ?_ _));refine blk_put (cs:=#[.int .i64 t476,.int .i64 t477,.int .i64 t478,.int .i64 t479,.int .i64 t480,.int .i64 t481,.int .i64 t482,.int .i64 0,.int .i64 0,.slice none 0 0,.slice none 0 0,.slice none 0 0]) ?_ 7 _ rfl;(with_reducible repeat (first|refine bN ?_ _|refine bD ?_|refine bA ?_ _));refine blk_put (cs:=#[.int .i64 t476,.int .i64 t477,.int .i64 t478,.int .i64 t479,.int .i64 t480,.int .i64 t481,.int .i64 0,.int .i64 0,.int .i64 0,.slice none 0 0,.slice none 0 0,.slice none 0 0]) ?_ 6 _ rfl;(with_reducible repeat (first|refine bN ?_ _|refine bD ?_|refine bA ?_ _));refine blk_put (cs:=#[.int .i64 t476,.int .i64 t477,.int .i64 t478,.int .i64 t479,.int .i64 t480,.int .i64 0,.int .i64 0,.int .i64 0,.int .i64 0,.slice none 0 0,.slice none 0 0,.slice none 0 0]) ?_ 5 _ rfl;(with_reducible repeat (first|refine bN ?_ _|refine bD ?_|refine bA ?_ _));refine blk_put (cs:=#[.int .i64 t476,.int .i64 t477,.int .i64 t478,.int .i64 t479,.int .i64 0,.int .i64 0,.int .i64 0,.int .i64 0,.int .i64 0,.slice none 0 0,.slice none 0 0,.slice none 0 0]) ?_ 4 _ rfl;(with_reducible repeat (first|refine bN ?_ _|refine bD ?_|refine bA ?_ _));refine blk_put (cs:=#[.int .i64 t476,.int .i64 t477,.int .i64 t478,.int .i64 0,.int .i64 0,.int .i64 0,.int .i64 0,.int .i64 0,.int .i64 0,.slice none 0 0,.slice none 0 0,.slice none 0 0]) ?_ 3 _ rfl;(with_reducible repeat (first|refine bN ?_ _|refine bD ?_|refine bA ?_ _));refine blk_put (cs:=#[.int .i64 t476,.int .i64 t477,.int .i64 0,.int .i64 0,.int .i64 0,.int .i64 0,.int .i64 0,.int .i64 0,.int .i64 0,.slice none 0 0,.slice none 0 0,.slice none 0 0]) ?_ 2 _ rfl;(with_reducible repeat (first|refine bN ?_ _|refine bD ?_|refine bA ?_ _));refine blk_put (cs:=#[.int .i64 t476,.int .i64 0,.int .i64 0,.int .i64 0,.int .i64 0,.int .i64 0,.int .i64 0,.int .i64 0,.int .i64 0,.slice none 0 0,.slice none 0 0,.slice none 0 0]) ?_ 1 _ rfl;(with_reducible repeat (first|refine bN ?_ _|refine bD ?_|refine bA ?_ _));refine blk_put (cs:=#[.int .i64 0,.int .i64 0,.int .i64 0,.int .i64 0,.int .i64 0,.int .i64 0,.int .i64 0,.int .i64 0,.int .i64 0,.slice none 0 0,.slice none 0 0,.slice none 0 0]) ?_ 0 _ rfl;(with_reducible repeat (first|refine bN ?_ _|refine bD ?_|refine bA ?_ _));exact BK496.out⟩,⟨by repeat (first|(with_reducible first|exact HB.out|apply bL|apply pN|apply bE|refine bS ?_ GE463.out|refine bS ?_ GE496.out)|exact HB.out)⟩⟩
    rw [if_pos c45] at H
    have c45b0 : (t494 == (wrap64 ((ji25) + 1))) = true:=beq_iff_eq.mpr c45
    have c45b1 : (t494 != (wrap64 ((ji25) + 1))) = false:=bne_eq_false_iff_eq.mpr c45
    clear c45
    by_cases c46 : t495 = 60
    rotate_left
    ·rw [if_neg c46] at H
     have c46b0 : (t495 == 60) = false:=beq_eq_false_iff_ne.mpr c46
     have c46b1 : (t495 != 60) = true:=bne_iff_ne.mpr c46
     have H':=Am H
     clear H
     go_wp2
     go_meet
     case rel=>exact ⟨_,(true),(by first|rfl|(simp;done)|(simp [*];done)),H',⟨by have:=HJ3.out;first|omega|exact Nat.le_refl _⟩,⟨by (with_reducible repeat (first|apply Kd.R_alloc|apply Kd.R_drewN|apply Kd.R_drew));exact Kd.R_mono (rf12 (g:=gb496) (Kd.R_types HO474.out BK496.out (by decide)) (fun _ hk=>hk.2)) (fun _ hk=>trivial)⟩,⟨by (with_reducible repeat (first|apply Kd.R_alloc|apply Kd.R_drewN|apply Kd.R_drew));exact Kd.R_mono (rf12 (g:=gb496) (Kd.R_types HO487.out BK496.out (by decide)) (fun _ hk=>hk.2)) (fun _ hk=>trivial)⟩,⟨by (with_reducible repeat (first|apply Kd.R_alloc|apply Kd.R_drewN|apply Kd.R_drew));exact Kd.R_mono (rf12 (g:=gb496) (Kd.R_types HO490.out BK496.out (by decide)) (fun _ hk=>hk.2)) (fun _ hk=>trivial)⟩,⟨by (with_reducible repeat (first|apply Kd.R_alloc|apply Kd.R_drewN|apply Kd.R_drew));exact Kd.R_mono (rf12 (g:=gb496) (Kd.R_types HO493.out BK496.out (by decide)) (fun _ hk=>hk.2)) (fun _ hk=>trivial)⟩,⟨by (with_reducible repeat (first|refine bN ?_ _|refine bD ?_|refine bA ?_ _));refine blk_far ?_ NB463_496.out _;(with_reducible repeat (first|refine bN ?_ _|refine bD ?_|refine bA ?_ _));refine blk_far ?_ NB463_496.out _;(with_reducible repeat (first|refine bN ?_ _|refine bD ?_|refine bA ?_ _));refine blk_far ?_ NB463_496.out _;(with_reducible repeat (first|refine bN ?_ _|refine bD ?_|refine bA ?_ _));refine blk_far ?_ NB463_496.out _;(with_reducible repeat (first|refine bN ?_ _|refine bD ?_|refine bA ?_ _));refine blk_far ?_ NB463_496.out _;(with_reducible repeat (first|refine bN ?_ _|refine bD ?_|refine bA ?_ _));refine blk_far ?_ NB463_496.out _;(with_reducible repeat (first|refine bN ?_ _|refine bD ?_|refine bA ?_ _));refine blk_far ?_ NB463_496.out _;(with_reducible repeat (first|refine bN ?_ _|refine bD ?_|refine bA ?_ _));refine blk_far ?_ NB463_496.out _;(with_reducible repeat (first|refine bN ?_ _|refine bD ?_|refine bA ?_ _));refine blk_far ?_ NB463_496.out _;(with_reducible repeat (first|refine bN ?_ _|refine bD ?_|refine bA ?_ _));refine blk_far ?_ NB463_496.out _;(with_reducible repeat (first|refine bN ?_ _|refine bD ?_|refine bA ?_ _));refine blk_far ?_ NB463_496.out _;(with_reducible repeat (first|refine bN ?_ _|refine bD ?_|refine bA ?_ _));refine blk_far ?_ NB463_496.out _;(with_reducible repeat (first|refine bN ?_ _|refine bD ?_|refine bA ?_ _));exact BK463.out⟩,⟨by (with_reducible repeat (first|refine bN ?_ _|refine bD ?_|refine bA ?_ _));refine blk_put (cs:=#[.int .i64 t476,.int .i64 t477,.int .i64 t478,.int .i64 t479,.int .i64 t480,.int .i64 t481,.int .i64 t482,.int .i64 t483,.int .i64 t484,.slice Ao40 t485.length co40,.slice Ao41 t488.length co41,.slice none 0 0]) ?_ 11 _ rfl;(with_reducible repeat (first|refine bN ?_ _|refine bD ?_|refine bA ?_ _));refine blk_put (cs:=#[.int .i64 t476,.int .i64 t477,.int .i64 t478,.int .i64 t479,.int .i64 t480,.int .i64 t481,.int .i64 t482,.int .i64 t483,.int .i64 t484,.slice Ao40 t485.length co40,.slice none 0 0,.slice none 0 0]) ?_ 10 _ rfl;(with_reducible repeat (first|refine bN ?_ _|refine bD ?_|refine bA ?_ _));refine blk_put (cs:=#[.int .i64 t476,.int .i64 t477,.int .i64 t478,.int .i64 t479,.int .i64 t480,.int .i64 t481,.int .i64 t482,.int .i64 t483,.int .i64 t484,.slice none 0 0,.slice none 0 0,.slice none 0 0]) ?_ 9 _ rfl;(with_reducible repeat (first|refine bN ?_ _|refine bD ?_|refine bA ?_ _));refine blk_put (cs:=#[.int .i64 t476,.int .i64 t477,.int .i64 t478,.int .i64 t479,.int .i64 t480,.int .i64 t481,.int .i64 t482,.int .i64 t483,.int .i64 0,.slice none 0 0,.slice none 0 0,.slice none 0 0]) ?_ 8 _ rfl;(with_reducible repeat (first|refine bN ?_ _|refine bD ?_|refine bA ?_ _));refine blk_put (cs:=#[.int .i64 t476,.int .i64 t477,.int .i64 t478,.int .i64 t479,.int .i64 t480,.int .i64 t481,.int .i64 t482,.int .i64 0,.int .i64 0,.slice none 0 0,.slice none 0 0,.slice none 0 0]) ?_ 7 _ rfl;(with_reducible repeat (first|refine bN ?_ _|refine bD ?_|refine bA ?_ _));refine blk_put (cs:=#[.int .i64 t476,.int .i64 t477,.int .i64 t478,.int .i64 t479,.int .i64 t480,.int .i64 t481,.int .i64 0,.int .i64 0,.int .i64 0,.slice none 0 0,.slice none 0 0,.slice none 0 0]) ?_ 6 _ rfl;(with_reducible repeat (first|refine bN ?_ _|refine bD ?_|refine bA ?_ _));refine blk_put (cs:=#[.int .i64 t476,.int .i64 t477,.int .i64 t478,.int .i64 t479,.int .i64 t480,.int .i64 0,.int .i64 0,.int .i64 0,.int .i64 0,.slice none 0 0,.slice none 0 0,.slice none 0 0]) ?_ 5 _ rfl;(with_reducible repeat (first|refine bN ?_ _|refine bD ?_|refine bA ?_ _));refine blk_put (cs:=#[.int .i64 t476,.int .i64 t477,.int .i64 t478,.int .i64 t479,.int .i64 0,.int .i64 0,.int .i64 0,.int .i64 0,.int .i64 0,.slice none 0 0,.slice none 0 0,.slice none 0 0]) ?_ 4 _ rfl;(with_reducible repeat (first|refine bN ?_ _|refine bD ?_|refine bA ?_ _));refine blk_put (cs:=#[.int .i64 t476,.int .i64 t477,.int .i64 t478,.int .i64 0,.int .i64 0,.int .i64 0,.int .i64 0,.int .i64 0,.int .i64 0,.slice none 0 0,.slice none 0 0,.slice none 0 0]) ?_ 3 _ rfl;(with_reducible repeat (first|refine bN ?_ _|refine bD ?_|refine bA ?_ _));refine blk_put (cs:=#[.int .i64 t476,.int .i64 t477,.int .i64 0,.int .i64 0,.int .i64 0,.int .i64 0,.int .i64 0,.int .i64 0,.int .i64 0,.slice none 0 0,.slice none 0 0,.slice none 0 0]) ?_ 2 _ rfl;(with_reducible repeat (first|refine bN ?_ _|refine bD ?_|refine bA ?_ _));refine blk_put (cs:=#[.int .i64 t476,.int .i64 0,.int .i64 0,.int .i64 0,.int .i64 0,.int .i64 0,.int .i64 0,.int .i64 0,.int .i64 0,.slice none 0 0,.slice none 0 0,.slice none 0 0]) ?_ 1 _ rfl;(with_reducible repeat (first|refine bN ?_ _|refine bD ?_|refine bA ?_ _));refine blk_put (cs:=#[.int .i64 0,.int .i64 0,.int .i64 0,.int .i64 0,.int .i64 0,.int .i64 0,.int .i64 0,.int .i64 0,.int .i64 0,.slice none 0 0,.slice none 0 0,.slice none 0 0]) ?_ 0 _ rfl;(with_reducible repeat (first|refine bN ?_ _|refine bD ?_|refine bA ?_ _));exact BK496.out⟩,⟨by repeat (first|(with_reducible first|exact HB.out|apply bL|apply pN|apply bE|refine bS ?_ GE463.out|refine bS ?_ GE496.out)|exact HB.out)⟩⟩
    rw [if_pos c46] at H
    have c46b0 : (t495 == 60) = true:=beq_iff_eq.mpr c46
    have c46b1 : (t495 != 60) = false:=bne_eq_false_iff_eq.mpr c46
    clear c46
    by_cases c47 : ((ji25)≤(wrap64 ((wrap64 (5 + (l0_9.length : Int))) + (l0_10.length : Int))))
    ·rw [if_pos c47] at H
     have c47b0 : decide ((ji25)≤(wrap64 ((wrap64 (5 + (l0_9.length : Int))) + (l0_10.length : Int)))) = true:=decide_eq_true c47
     clear c47
     have H':=Am H
     clear H
     go_wp2
     go_meet
     case rel=>exact ⟨_,(false),(by first|rfl|(simp;done)|(simp [*];done)),H',⟨by have:=HJ3.out;first|omega|exact Nat.le_refl _⟩,⟨by (with_reducible repeat (first|apply Kd.R_alloc|apply Kd.R_drewN|apply Kd.R_drew));exact Kd.R_mono (rf12 (g:=gb496) (Kd.R_types HO474.out BK496.out (by decide)) (fun _ hk=>hk.2)) (fun _ hk=>trivial)⟩,⟨by (with_reducible repeat (first|apply Kd.R_alloc|apply Kd.R_drewN|apply Kd.R_drew));exact Kd.R_mono (rf12 (g:=gb496) (Kd.R_types HO487.out BK496.out (by decide)) (fun _ hk=>hk.2)) (fun _ hk=>trivial)⟩,⟨by (with_reducible repeat (first|apply Kd.R_alloc|apply Kd.R_drewN|apply Kd.R_drew));exact Kd.R_mono (rf12 (g:=gb496) (Kd.R_types HO490.out BK496.out (by decide)) (fun _ hk=>hk.2)) (fun _ hk=>trivial)⟩,⟨by (with_reducible repeat (first|apply Kd.R_alloc|apply Kd.R_drewN|apply Kd.R_drew));exact Kd.R_mono (rf12 (g:=gb496) (Kd.R_types HO493.out BK496.out (by decide)) (fun _ hk=>hk.2)) (fun _ hk=>trivial)⟩,⟨by (with_reducible repeat (first|refine bN ?_ _|refine bD ?_|refine bA ?_ _));refine blk_far ?_ NB463_496.out _;(with_reducible repeat (first|refine bN ?_ _|refine bD ?_|refine bA ?_ _));refine blk_far ?_ NB463_496.out _;(with_reducible repeat (first|refine bN ?_ _|refine bD ?_|refine bA ?_ _));refine blk_far ?_ NB463_496.out _;(with_reducible repeat (first|refine bN ?_ _|refine bD ?_|refine bA ?_ _));refine blk_far ?_ NB463_496.out _;(with_reducible repeat (first|refine bN ?_ _|refine bD ?_|refine bA ?_ _));refine blk_far ?_ NB463_496.out _;(with_reducible repeat (first|refine bN ?_ _|refine bD ?_|refine bA ?_ _));refine blk_far ?_ NB463_496.out _;(with_reducible repeat (first|refine bN ?_ _|refine bD ?_|refine bA ?_ _));refine blk_far ?_ NB463_496.out _;(with_reducible repeat (first|refine bN ?_ _|refine bD ?_|refine bA ?_ _));refine blk_far ?_ NB463_496.out _;(with_reducible repeat (first|refine bN ?_ _|refine bD ?_|refine bA ?_ _));refine blk_far ?_ NB463_496.out _;(with_reducible repeat (first|refine bN ?_ _|refine bD ?_|refine bA ?_ _));refine blk_far ?_ NB463_496.out _;(with_reducible repeat (first|refine bN ?_ _|refine bD ?_|refine bA ?_ _));refine blk_far ?_ NB463_496.out _;(with_reducible repeat (first|refine bN ?_ _|refine bD ?_|refine bA ?_ _));refine blk_far ?_ NB463_496.out _;(with_reducible repeat (first|refine bN ?_ _|refine bD ?_|refine bA ?_ _));exact BK463.out⟩,⟨by (with_reducible repeat (first|refine bN ?_ _|refine bD ?_|refine bA ?_ _));refine blk_put (cs:=#[.int .i64 t476,.int .i64 t477,.int .i64 t478,.int .i64 t479,.int .i64 t480,.int .i64 t481,.int .i64 t482,.int .i64 t483,.int .i64 t484,.slice Ao40 t485.length co40,.slice Ao41 t488.length co41,.slice none 0 0]) ?_ 11 _ rfl;(with_reducible repeat (first|refine bN ?_ _|refine bD ?_|refine bA ?_ _));refine blk_put (cs:=#[.int .i64 t476,.int .i64 t477,.int .i64 t478,.int .i64 t479,.int .i64 t480,.int .i64 t481,.int .i64 t482,.int .i64 t483,.int .i64 t484,.slice Ao40 t485.length co40,.slice none 0 0,.slice none 0 0]) ?_ 10 _ rfl;(with_reducible repeat (first|refine bN ?_ _|refine bD ?_|refine bA ?_ _));refine blk_put (cs:=#[.int .i64 t476,.int .i64 t477,.int .i64 t478,.int .i64 t479,.int .i64 t480,.int .i64 t481,.int .i64 t482,.int .i64 t483,.int .i64 t484,.slice none 0 0,.slice none 0 0,.slice none 0 0]) ?_ 9 _ rfl;(with_reducible repeat (first|refine bN ?_ _|refine bD ?_|refine bA ?_ _));refine blk_put (cs:=#[.int .i64 t476,.int .i64 t477,.int .i64 t478,.int .i64 t479,.int .i64 t480,.int .i64 t481,.int .i64 t482,.int .i64 t483,.int .i64 0,.slice none 0 0,.slice none 0 0,.slice none 0 0]) ?_ 8 _ rfl;(with_reducible repeat (first|refine bN ?_ _|refine bD ?_|refine bA ?_ _));refine blk_put (cs:=#[.int .i64 t476,.int .i64 t477,.int .i64 t478,.int .i64 t479,.int .i64 t480,.int .i64 t481,.int .i64 t482,.int .i64 0,.int .i64 0,.slice none 0 0,.slice none 0 0,.slice none 0 0]) ?_ 7 _ rfl;(with_reducible repeat (first|refine bN ?_ _|refine bD ?_|refine bA ?_ _));refine blk_put (cs:=#[.int .i64 t476,.int .i64 t477,.int .i64 t478,.int .i64 t479,.int .i64 t480,.int .i64 t481,.int .i64 0,.int .i64 0,.int .i64 0,.slice none 0 0,.slice none 0 0,.slice none 0 0]) ?_ 6 _ rfl;(with_reducible repeat (first|refine bN ?_ _|refine bD ?_|refine bA ?_ _));refine blk_put (cs:=#[.int .i64 t476,.int .i64 t477,.int .i64 t478,.int .i64 t479,.int .i64 t480,.int .i64 0,.int .i64 0,.int .i64 0,.int .i64 0,.slice none 0 0,.slice none 0 0,.slice none 0 0]) ?_ 5 _ rfl;(with_reducible repeat (first|refine bN ?_ _|refine bD ?_|refine bA ?_ _));refine blk_put (cs:=#[.int .i64 t476,.int .i64 t477,.int .i64 t478,.int .i64 t479,.int .i64 0,.int .i64 0,.int .i64 0,.int .i64 0,.int .i64 0,.slice none 0 0,.slice none 0 0,.slice none 0 0]) ?_ 4 _ rfl;(with_reducible repeat (first|refine bN ?_ _|refine bD ?_|refine bA ?_ _));refine blk_put (cs:=#[.int .i64 t476,.int .i64 t477,.int .i64 t478,.int .i64 0,.int .i64 0,.int .i64 0,.int .i64 0,.int .i64 0,.int .i64 0,.slice none 0 0,.slice none 0 0,.slice none 0 0]) ?_ 3 _ rfl;(with_reducible repeat (first|refine bN ?_ _|refine bD ?_|refine bA ?_ _));refine blk_put (cs:=#[.int .i64 t476,.int .i64 t477,.int .i64 0,.int .i64 0,.int .i64 0,.int .i64 0,.int .i64 0,.int .i64 0,.int .i64 0,.slice none 0 0,.slice none 0 0,.slice none 0 0]) ?_ 2 _ rfl;(with_reducible repeat (first|refine bN ?_ _|refine bD ?_|refine bA ?_ _));refine blk_put (cs:=#[.int .i64 t476,.int .i64 0,.int .i64 0,.int .i64 0,.int .i64 0,.int .i64 0,.int .i64 0,.int .i64 0,.int .i64 0,.slice none 0 0,.slice none 0 0,.slice none 0 0]) ?_ 1 _ rfl;(with_reducible repeat (first|refine bN ?_ _|refine bD ?_|refine bA ?_ _));refine blk_put (cs:=#[.int .i64 0,.int .i64 0,.int .i64 0,.int .i64 0,.int .i64 0,.int .i64 0,.int .i64 0,.int .i64 0,.int .i64 0,.slice none 0 0,.slice none 0 0,.slice none 0 0]) ?_ 0 _ rfl;(with_reducible repeat (first|refine bN ?_ _|refine bD ?_|refine bA ?_ _));exact BK496.out⟩,⟨by repeat (first|(with_reducible first|exact HB.out|apply bL|apply pN|apply bE|refine bS ?_ GE463.out|refine bS ?_ GE496.out)|exact HB.out)⟩⟩
    rw [if_neg c47] at H
    have c47b0 : decide ((ji25)≤(wrap64 ((wrap64 (5 + (l0_9.length : Int))) + (l0_10.length : Int)))) = false:=decide_eq_false c47
    clear c47
    have H':=Am H
    clear H
    go_wp2
    go_meet
    case rel=>exact ⟨_,((t495 == 60)),(by first|rfl|(simp;done)|(simp [*];done)|exact absurd (c44b0.symm.trans c47b0) (by decide)),H',⟨by have:=HJ3.out;first|omega|exact Nat.le_refl _⟩,⟨by (with_reducible repeat (first|apply Kd.R_alloc|apply Kd.R_drewN|apply Kd.R_drew));exact Kd.R_mono (rf12 (g:=gb496) (Kd.R_types HO474.out BK496.out (by decide)) (fun _ hk=>hk.2)) (fun _ hk=>trivial)⟩,⟨by (with_reducible repeat (first|apply Kd.R_alloc|apply Kd.R_drewN|apply Kd.R_drew));exact Kd.R_mono (rf12 (g:=gb496) (Kd.R_types HO487.out BK496.out (by decide)) (fun _ hk=>hk.2)) (fun _ hk=>trivial)⟩,⟨by (with_reducible repeat (first|apply Kd.R_alloc|apply Kd.R_drewN|apply Kd.R_drew));exact Kd.R_mono (rf12 (g:=gb496) (Kd.R_types HO490.out BK496.out (by decide)) (fun _ hk=>hk.2)) (fun _ hk=>trivial)⟩,⟨by (with_reducible repeat (first|apply Kd.R_alloc|apply Kd.R_drewN|apply Kd.R_drew));exact Kd.R_mono (rf12 (g:=gb496) (Kd.R_types HO493.out BK496.out (by decide)) (fun _ hk=>hk.2)) (fun _ hk=>trivial)⟩,⟨by (with_reducible repeat (first|refine bN ?_ _|refine bD ?_|refine bA ?_ _));refine blk_far ?_ NB463_496.out _;(with_reducible repeat (first|refine bN ?_ _|refine bD ?_|refine bA ?_ _));refine blk_far ?_ NB463_496.out _;(with_reducible repeat (first|refine bN ?_ _|refine bD ?_|refine bA ?_ _));refine blk_far ?_ NB463_496.out _;(with_reducible repeat (first|refine bN ?_ _|refine bD ?_|refine bA ?_ _));refine blk_far ?_ NB463_496.out _;(with_reducible repeat (first|refine bN ?_ _|refine bD ?_|refine bA ?_ _));refine blk_far ?_ NB463_496.out _;(with_reducible repeat (first|refine bN ?_ _|refine bD ?_|refine bA ?_ _));refine blk_far ?_ NB463_496.out _;(with_reducible repeat (first|refine bN ?_ _|refine bD ?_|refine bA ?_ _));refine blk_far ?_ NB463_496.out _;(with_reducible repeat (first|refine bN ?_ _|refine bD ?_|refine bA ?_ _));refine blk_far ?_ NB463_496.out _;(with_reducible repeat (first|refine bN ?_ _|refine bD ?_|refine bA ?_ _));refine blk_far ?_ NB463_496.out _;(with_reducible repeat (first|refine bN ?_ _|refine bD ?_|refine bA ?_ _));refine blk_far ?_ NB463_496.out _;(with_reducible repeat (first|refine bN ?_ _|refine bD ?_|refine bA ?_ _));refine blk_far ?_ NB463_496.out _;(with_reducible repeat (first|refine bN ?_ _|refine bD ?_|refine bA ?_ _));refine blk_far ?_ NB463_496.out _;(with_reducible repeat (first|refine bN ?_ _|refine bD ?_|refine bA ?_ _));exact BK463.out⟩,⟨by (with_reducible repeat (first|refine bN ?_ _|refine bD ?_|refine bA ?_ _));refine blk_put (cs:=#[.int .i64 t476,.int .i64 t477,.int .i64 t478,.int .i64 t479,.int .i64 t480,.int .i64 t481,.int .i64 t482,.int .i64 t483,.int .i64 t484,.slice Ao40 t485.length co40,.slice Ao41 t488.length co41,.slice none 0 0]) ?_ 11 _ rfl;(with_reducible repeat (first|refine bN ?_ _|refine bD ?_|refine bA ?_ _));refine blk_put (cs:=#[.int .i64 t476,.int .i64 t477,.int .i64 t478,.int .i64 t479,.int .i64 t480,.int .i64 t481,.int .i64 t482,.int .i64 t483,.int .i64 t484,.slice Ao40 t485.length co40,.slice none 0 0,.slice none 0 0]) ?_ 10 _ rfl;(with_reducible repeat (first|refine bN ?_ _|refine bD ?_|refine bA ?_ _));refine blk_put (cs:=#[.int .i64 t476,.int .i64 t477,.int .i64 t478,.int .i64 t479,.int .i64 t480,.int .i64 t481,.int .i64 t482,.int .i64 t483,.int .i64 t484,.slice none 0 0,.slice none 0 0,.slice none 0 0]) ?_ 9 _ rfl;(with_reducible repeat (first|refine bN ?_ _|refine bD ?_|refine bA ?_ _));refine blk_put (cs:=#[.int .i64 t476,.int .i64 t477,.int .i64 t478,.int .i64 t479,.int .i64 t480,.int .i64 t481,.int .i64 t482,.int .i64 t483,.int .i64 0,.slice none 0 0,.slice none 0 0,.slice none 0 0]) ?_ 8 _ rfl;(with_reducible repeat (first|refine bN ?_ _|refine bD ?_|refine bA ?_ _));refine blk_put (cs:=#[.int .i64 t476,.int .i64 t477,.int .i64 t478,.int .i64 t479,.int .i64 t480,.int .i64 t481,.int .i64 t482,.int .i64 0,.int .i64 0,.slice none 0 0,.slice none 0 0,.slice none 0 0]) ?_ 7 _ rfl;(with_reducible repeat (first|refine bN ?_ _|refine bD ?_|refine bA ?_ _));refine blk_put (cs:=#[.int .i64 t476,.int .i64 t477,.int .i64 t478,.int .i64 t479,.int .i64 t480,.int .i64 t481,.int .i64 0,.int .i64 0,.int .i64 0,.slice none 0 0,.slice none 0 0,.slice none 0 0]) ?_ 6 _ rfl;(with_reducible repeat (first|refine bN ?_ _|refine bD ?_|refine bA ?_ _));refine blk_put (cs:=#[.int .i64 t476,.int .i64 t477,.int .i64 t478,.int .i64 t479,.int .i64 t480,.int .i64 0,.int .i64 0,.int .i64 0,.int .i64 0,.slice none 0 0,.slice none 0 0,.slice none 0 0]) ?_ 5 _ rfl;(with_reducible repeat (first|refine bN ?_ _|refine bD ?_|refine bA ?_ _));refine blk_put (cs:=#[.int .i64 t476,.int .i64 t477,.int .i64 t478,.int .i64 t479,.int .i64 0,.int .i64 0,.int .i64 0,.int .i64 0,.int .i64 0,.slice none 0 0,.slice none 0 0,.slice none 0 0]) ?_ 4 _ rfl;(with_reducible repeat (first|refine bN ?_ _|refine bD ?_|refine bA ?_ _));refine blk_put (cs:=#[.int .i64 t476,.int .i64 t477,.int .i64 t478,.int .i64 0,.int .i64 0,.int .i64 0,.int .i64 0,.int .i64 0,.int .i64 0,.slice none 0 0,.slice none 0 0,.slice none 0 0]) ?_ 3 _ rfl;(with_reducible repeat (first|refine bN ?_ _|refine bD ?_|refine bA ?_ _));refine blk_put (cs:=#[.int .i64 t476,.int .i64 t477,.int .i64 0,.int .i64 0,.int .i64 0,.int .i64 0,.int .i64 0,.int .i64 0,.int .i64 0,.slice none 0 0,.slice none 0 0,.slice none 0 0]) ?_ 2 _ rfl;(with_reducible repeat (first|refine bN ?_ _|refine bD ?_|refine bA ?_ _));refine blk_put (cs:=#[.int .i64 t476,.int .i64 0,.int .i64 0,.int .i64 0,.int .i64 0,.int .i64 0,.int .i64 0,.int .i64 0,.int .i64 0,.slice none 0 0,.slice none 0 0,.slice none 0 0]) ?_ 1 _ rfl;(with_reducible repeat (first|refine bN ?_ _|refine bD ?_|refine bA ?_ _));refine blk_put (cs:=#[.int .i64 0,.int .i64 0,.int .i64 0,.int .i64 0,.int .i64 0,.int .i64 0,.int .i64 0,.int .i64 0,.int .i64 0,.slice none 0 0,.slice none 0 0,.slice none 0 0]) ?_ 0 _ rfl;(with_reducible repeat (first|refine bN ?_ _|refine bD ?_|refine bA ?_ _));exact BK496.out⟩,⟨by repeat (first|(with_reducible first|exact HB.out|apply bL|apply pN|apply bE|refine bS ?_ GE463.out|refine bS ?_ GE496.out)|exact HB.out)⟩⟩
   case rest =>
    clear HC31
    obtain ⟨kq,x88_30,rfl,HA,HJ30,HO_9,HO_497009,HO_497010,HO_497011,BK463,BK496,HB⟩:=hcut
    cases kq with
    | zero=>exact absurd HA.out (by simp [gangerlaw10_ConfLines.j1])
    | succ kj30 =>
     have H:=HA.out
     clear HA
     simp only [gangerlaw10_ConfLines.j1] at H
     by_cases c49 : x88_30 = true
     ·subst c49
      have H1 : (none) = some r:=by rw [if_pos rfl] at H;exact H
      clear H
      have H:=H1
      clear H1
      exact absurd H (by simp)
     replace c49:=Bool.eq_false_iff.mpr c49
     subst c49
     have H1 : (if 0≤ji25 then (if ji25 < (t472.length : Int) then (if 0≤(rd t472 ji25) then (if (rd t472 ji25)≤(t469.size : Int) then (if (t469.extract 0 ((rd t472 ji25) : Int).toNat).size + 2≤9223372036854775807 then (if ((t469.extract 0 ((rd t472 ji25) : Int).toNat) ++ (⟨#[63,32]⟩ : ByteArray)).size + a2.size≤9223372036854775807 then (if (((t469.extract 0 ((rd t472 ji25) : Int).toNat) ++ (⟨#[63,32]⟩ : ByteArray)) ++ a2).size + 1≤9223372036854775807 then (if ((((t469.extract 0 ((rd t472 ji25) : Int).toNat) ++ (⟨#[63,32]⟩ : ByteArray)) ++ a2) ++ (⟨#[10]⟩ : ByteArray)).size + (t469.extract ((rd t472 ji25) : Int).toNat t469.size).size≤9223372036854775807 then ((conf_Parse.f kj30 (((((t469.extract 0 ((rd t472 ji25) : Int).toNat) ++ (⟨#[63,32]⟩ : ByteArray)) ++ a2) ++ (⟨#[10]⟩ : ByteArray)) ++ (t469.extract ((rd t472 ji25) : Int).toNat t469.size))).bind fun bt499=>(if bt499.2.2.2.2.2.2.2.2.2.2.2.2.1 = (wrap64 (ji25 + 1)) then (if bt499.2.2.2.2.2.2.2.2.2.2.2.2.2 = 60 then ((gangerlaw10_known.f kj30).bind fun t520=>(some t520)) else (none)) else (none))) else (none)) else (none)) else (none)) else (none)) else (none)) else (none)) else (none)) else (none)) = some r:=by rw [if_neg (show ¬ (false = true) by decide)] at H;exact H
     clear H
     have H:=H1
     clear H1
     by_cases c50 : 0≤ji25
     rotate_left
     ·rw [if_neg c50] at H
      exact absurd H (by simp)
     rw [if_pos c50] at H
     have c50b0 : decide (0≤ji25) = true:=decide_eq_true c50
     clear c50
     by_cases c51 : ji25 < (t472.length : Int)
     rotate_left
     ·rw [if_neg c51] at H
      exact absurd H (by simp)
     rw [if_pos c51] at H
     have c51b0 : decide (ji25 < (t472.length : Int)) = true:=decide_eq_true c51
     clear c51
     by_cases c52 : 0≤(rd t472 ji25)
     rotate_left
     ·rw [if_neg c52] at H
      exact absurd H (by simp)
     rw [if_pos c52] at H
     have c52b0:=eq_true c52
     have c52b1 : decide (0≤(rd t472 ji25)) = true:=decide_eq_true c52
     clear c52
     by_cases c53 : (rd t472 ji25)≤(t469.size : Int)
     rotate_left
     ·rw [if_neg c53] at H
      exact absurd H (by simp)
     rw [if_pos c53] at H
     have c53b0:=eq_true c53
     have c53b1 : decide ((rd t472 ji25)≤(t469.size : Int)) = true:=decide_eq_true c53
     clear c53
     by_cases c54 : (t469.extract 0 ((rd t472 ji25) : Int).toNat).size + 2≤9223372036854775807
     rotate_left
     ·rw [if_neg c54] at H
      exact absurd H (by simp)
     rw [if_pos c54] at H
     have c54b0:=eq_true c54
     have c54b1 : decide ((t469.extract 0 ((rd t472 ji25) : Int).toNat).size + 2≤9223372036854775807) = true:=decide_eq_true c54
     try have c54b2 : (9223372036854775807 < (t469.extract 0 ((rd t472 ji25) : Int).toNat).size + 2) = False:=eq_false (Nat.not_lt.2 c54)
     try (have c54b3:=c54b2;simp only [ByteArray.size_append,size_lit1,size_lit0,Nat.add_zero] at c54b3)
     try (have c54b5:=c54b2;simp only [ByteArray.size_append,size_litA,List.size_toArray,List.length_cons,List.length_nil,Nat.zero_add,Nat.reduceAdd] at c54b5)
     try (have c54q : ((rd t472 ji25) : Int).toNat≤t469.size:=(by have h_ : ((rd t472 ji25)≤(t469.size : Int)) = True:=(by assumption);have h2_:=of_eq_true h_;omega);have c54b4:=c54b2;simp only [ByteArray.size_append,ByteArray.size_extract,Nat.min_self,Nat.sub_zero,Nat.min_eq_left c54q,size_litA,List.size_toArray,List.length_cons,List.length_nil,Nat.zero_add,Nat.reduceAdd] at c54b4)
     by_cases c55 : ((t469.extract 0 ((rd t472 ji25) : Int).toNat) ++ (⟨#[63,32]⟩ : ByteArray)).size + a2.size≤9223372036854775807
     rotate_left
     ·rw [if_neg c55] at H
      exact absurd H (by simp)
     rw [if_pos c55] at H
     have c55b0:=eq_true c55
     have c55b1 : decide (((t469.extract 0 ((rd t472 ji25) : Int).toNat) ++ (⟨#[63,32]⟩ : ByteArray)).size + a2.size≤9223372036854775807) = true:=decide_eq_true c55
     try have c55b2 : (9223372036854775807 < ((t469.extract 0 ((rd t472 ji25) : Int).toNat) ++ (⟨#[63,32]⟩ : ByteArray)).size + a2.size) = False:=eq_false (Nat.not_lt.2 c55)
     try (have c55b3:=c55b2;simp only [ByteArray.size_append,size_lit1,size_lit0,Nat.add_zero] at c55b3)
     try (have c55b5:=c55b2;simp only [ByteArray.size_append,size_litA,List.size_toArray,List.length_cons,List.length_nil,Nat.zero_add,Nat.reduceAdd] at c55b5)
     try (have c55q : ((rd t472 ji25) : Int).toNat≤t469.size:=(by have h_ : ((rd t472 ji25)≤(t469.size : Int)) = True:=(by assumption);have h2_:=of_eq_true h_;omega);have c55b4:=c55b2;simp only [ByteArray.size_append,ByteArray.size_extract,Nat.min_self,Nat.sub_zero,Nat.min_eq_left c55q,size_litA,List.size_toArray,List.length_cons,List.length_nil,Nat.zero_add,Nat.reduceAdd] at c55b4)
     by_cases c56 : (((t469.extract 0 ((rd t472 ji25) : Int).toNat) ++ (⟨#[63,32]⟩ : ByteArray)) ++ a2).size + 1≤9223372036854775807
     rotate_left
     ·rw [if_neg c56] at H
      exact absurd H (by simp)
     rw [if_pos c56] at H
     have c56b0:=eq_true c56
     have c56b1 : decide ((((t469.extract 0 ((rd t472 ji25) : Int).toNat) ++ (⟨#[63,32]⟩ : ByteArray)) ++ a2).size + 1≤9223372036854775807) = true:=decide_eq_true c56
     try have c56b2 : (9223372036854775807 < (((t469.extract 0 ((rd t472 ji25) : Int).toNat) ++ (⟨#[63,32]⟩ : ByteArray)) ++ a2).size + 1) = False:=eq_false (Nat.not_lt.2 c56)
     try (have c56b3:=c56b2;simp only [ByteArray.size_append,size_lit1,size_lit0,Nat.add_zero] at c56b3)
     try (have c56b5:=c56b2;simp only [ByteArray.size_append,size_litA,List.size_toArray,List.length_cons,List.length_nil,Nat.zero_add,Nat.reduceAdd] at c56b5)
     try (have c56q : ((rd t472 ji25) : Int).toNat≤t469.size:=(by have h_ : ((rd t472 ji25)≤(t469.size : Int)) = True:=(by assumption);have h2_:=of_eq_true h_;omega);have c56b4:=c56b2;simp only [ByteArray.size_append,ByteArray.size_extract,Nat.min_self,Nat.sub_zero,Nat.min_eq_left c56q,size_litA,List.size_toArray,List.length_cons,List.length_nil,Nat.zero_add,Nat.reduceAdd] at c56b4)
     have c57b0:=eq_true (of_decide_eq_true (by first|(with_reducible assumption)|assumption) : 0≤(rd t472 ji25))
     have c58b0:=eq_true (of_decide_eq_true (by first|(with_reducible assumption)|assumption) : (rd t472 ji25)≤(t469.size : Int))
     by_cases c59 : ((((t469.extract 0 ((rd t472 ji25) : Int).toNat) ++ (⟨#[63,32]⟩ : ByteArray)) ++ a2) ++ (⟨#[10]⟩ : ByteArray)).size + (t469.extract ((rd t472 ji25) : Int).toNat t469.size).size≤9223372036854775807
     rotate_left
     ·rw [if_neg c59] at H
      exact absurd H (by simp)
     rw [if_pos c59] at H
     have c59b0:=eq_true c59
     have c59b1 : decide (((((t469.extract 0 ((rd t472 ji25) : Int).toNat) ++ (⟨#[63,32]⟩ : ByteArray)) ++ a2) ++ (⟨#[10]⟩ : ByteArray)).size + (t469.extract ((rd t472 ji25) : Int).toNat t469.size).size≤9223372036854775807) = true:=decide_eq_true c59
     try have c59b2 : (9223372036854775807 < ((((t469.extract 0 ((rd t472 ji25) : Int).toNat) ++ (⟨#[63,32]⟩ : ByteArray)) ++ a2) ++ (⟨#[10]⟩ : ByteArray)).size + (t469.extract ((rd t472 ji25) : Int).toNat t469.size).size) = False:=eq_false (Nat.not_lt.2 c59)
     try (have c59b3:=c59b2;simp only [ByteArray.size_append,size_lit1,size_lit0,Nat.add_zero] at c59b3)
     try (have c59b5:=c59b2;simp only [ByteArray.size_append,size_litA,List.size_toArray,List.length_cons,List.length_nil,Nat.zero_add,Nat.reduceAdd] at c59b5)
     try (have c59q : ((rd t472 ji25) : Int).toNat≤t469.size:=(by have h_ : ((rd t472 ji25)≤(t469.size : Int)) = True:=(by assumption);have h2_:=of_eq_true h_;omega);have c59b4:=c59b2;simp only [ByteArray.size_append,ByteArray.size_extract,Nat.min_self,Nat.sub_zero,Nat.min_eq_left c59q,size_litA,List.size_toArray,List.length_cons,List.length_nil,Nat.zero_add,Nat.reduceAdd] at c59b4)
     replace H:=oB H
     obtain ⟨⟨t499,t500,t501,t502,t503,t504,t505,t506,t507,t508,t511,t514,t517,t518⟩,A600,H⟩:=H
     replace H : (if t517 = (wrap64 (ji25 + 1)) then (if t518 = 60 then ((gangerlaw10_known.f kj30).bind fun t520=>(some t520)) else (none)) else (none)) = some r:=H
     have A60:=Am A600
     clear A600
     by_cases c61 : t517 = (wrap64 (ji25 + 1))
     rotate_left
     ·rw [if_neg c61] at H
      exact absurd H (by simp)
     rw [if_pos c61] at H
     have c61b0 : (t517 == (wrap64 (ji25 + 1))) = true:=beq_iff_eq.mpr c61
     have c61b1 : (t517 != (wrap64 (ji25 + 1))) = false:=bne_eq_false_iff_eq.mpr c61
     clear c61
     by_cases c62 : t518 = 60
     rotate_left
     ·rw [if_neg c62] at H
      exact absurd H (by simp)
     rw [if_pos c62] at H
     have c62b0 : (t518 == 60) = true:=beq_iff_eq.mpr c62
     have c62b1 : (t518 != 60) = false:=bne_eq_false_iff_eq.mpr c62
     clear c62
     replace H:=oB H
     obtain ⟨t520,A630,H⟩:=H
     try dsimp only at H
     have A63:=Am A630
     clear A630
     obtain rfl:=Option.some.inj H
     try go_wp2
     have n0_:=Am (Kd.R_drew HO_9.out)
     have n1_:=Am (Kd.R_drew HO_497009.out)
     have n2_:=Am (Kd.R_drew HO_497010.out)
     have n3_:=Am (Kd.R_drew HO_497011.out)
     have n4_:=Am (bD BK463.out)
     have n5_:=Am (bD BK496.out)
     have n6_:=Am (bE HB.out)
     clear HO_9
     clear HO_497009
     clear HO_497010
     clear HO_497011
     clear BK463
     clear BK496
     clear HB
     have HO_9:=n0_
     have HO_497009:=n1_
     have HO_497010:=n2_
     have HO_497011:=n3_
     have BK463:=n4_
     have BK496:=n5_
     have HB:=n6_
     clear n0_ n1_ n2_ n3_ n4_ n5_ n6_
     have p497 : 0≤(ji25 : Int):=of_decide_eq_true (by first|(with_reducible assumption)|assumption)
     have q497 : ji25 < (t472.length : Int):=of_decide_eq_true (by first|(with_reducible assumption)|assumption)
     obtain ⟨ad497,e497,hx497_0⟩:=Kd.at_int (Kd.R_reads' HO_9.out).2.2 ji25 p497 q497
     obtain rfl : ad475 = ad497:=(by injection e497)
     replace p497:=eq_true p497
     replace q497:=eq_true q497
     have p498 : 0≤(ji25 : Int):=of_decide_eq_true (by first|(with_reducible assumption)|assumption)
     have q498 : ji25 < (t472.length : Int):=of_decide_eq_true (by first|(with_reducible assumption)|assumption)
     obtain ⟨ad498,e498,hx498_0⟩:=Kd.at_int (Kd.R_reads' HO_9.out).2.2 ji25 p498 q498
     obtain rfl : ad475 = ad498:=(by injection e498)
     replace p498:=eq_true p498
     replace q498:=eq_true q498
     refine start_ (n:=26) (S:=fun w'=>w'.cell? (ad475.add (ji25).toNat) = some (.int .i64 (rd t472 ji25))∧w'.cell? (ad475.add (ji25).toNat) = some (.int .i64 (rd t472 ji25))) (ds:=[]) #[O,O,O,O,O,O,O,O,O,O,O,O,O,O,O,O,O,O,O,O,O,O,O,O,O,O] (by kernel_rfl) rfl rfl ⟨hx497_0,hx498_0⟩ (fun hHeld=>?_);refine with_tabW gangerlaw10_ConfLines.tab12 gangerlaw10_ConfLines.bits12 (fun HT_ HW_=>?_)
     generalize wc.drew = w64 at HO_9 HO_497009 HO_497010 HO_497011 BK463 BK496 HB hx497_0 hx498_0 hHeld ⊢
     refine pure_ (i:=0) (N:=some 90) (v:=?_) (a':=?_) #[J,O,O,O,O,O,O,O,O,O,O,O,O,O,O,O,O,O,O,O,O,O,O,O,O,O] rfl rfl (any_of HT_.out (by kernel_rfl)) (fun _ _ _ h=>h) (Or.inl ⟨by rfl,?_⟩) ?_ ?_
     rotate_left
     ·intro w'
      go_simp
      with_reducible rfl
     rotate_left
     ·simp only [Act.put,sT,sZ,sS,iW,iV]
      rfl
     refine pure_ (i:=1) (N:=some 91) (v:=?_) (a':=?_) #[J,J,O,O,O,O,O,O,O,O,O,O,O,O,O,O,O,O,O,O,O,O,O,O,O,O] rfl rfl (any_of HT_.out (by kernel_rfl)) (fun _ _ _ h=>h) (Or.inl ⟨by rfl,?_⟩) ?_ ?_
     rotate_left
     ·intro w'
      go_simp
      with_reducible rfl
     rotate_left
     ·simp only [Act.put,sT,sZ,sS,iW,iV]
      rfl
     refine pure_ (i:=2) (N:=some 92) (v:=?_) (a':=?_) #[J,J,J,O,O,O,O,O,O,O,O,O,O,O,O,O,O,O,O,O,O,O,O,O,O,O] rfl rfl (any_of HT_.out (by kernel_rfl)) (fun _ _ _ h=>h) (Or.inl ⟨by rfl,?_⟩) ?_ ?_
     rotate_left
     ·intro w'
      go_simp
      with_reducible rfl
     rotate_left
     ·simp only [Act.put,sT,sZ,sS,iW,iV]
      rfl
     refine pure_ (i:=3) (N:=some 93) (v:=?_) (a':=?_) #[J,J,J,J,O,O,O,O,O,O,O,O,O,O,O,O,O,O,O,O,O,O,O,O,O,O] rfl rfl (any_of HT_.out (by kernel_rfl)) (fun _ _ _ h=>h) (Or.inl ⟨by rfl,?_⟩) ?_ ?_
     rotate_left
     ·intro w'
      go_simp
      with_reducible rfl
     rotate_left
     ·simp only [Act.put,sT,sZ,sS,iW,iV]
      rfl
     refine pure_ (i:=7) (N:=some 97) (v:=?_) (a':=?_) #[J,J,J,J,O,O,O,J,O,O,O,O,O,O,O,O,O,O,O,O,O,O,O,O,O,O] rfl rfl (any_of HT_.out (by kernel_rfl)) (fun _ _ _ h=>h) (Or.inl ⟨by rfl,?_⟩) ?_ ?_
     rotate_left
     ·intro w'
      go_simp
      with_reducible rfl
     rotate_left
     ·simp only [Act.put,sT,sZ,sS,iW,iV]
      rfl
     refine pure_ (i:=10) (N:=some 100) (v:=?_) (a':=?_) #[J,J,J,J,O,O,O,J,O,O,J,O,O,O,O,O,O,O,O,O,O,O,O,O,O,O] rfl rfl (any_of HT_.out (by kernel_rfl)) (fun _ _ _ h=>h) (Or.inl ⟨by rfl,?_⟩) ?_ ?_
     rotate_left
     ·intro w'
      go_simp
      with_reducible rfl
     rotate_left
     ·simp only [Act.put,sT,sZ,sS,iW,iV]
      rfl
     refine pure_ (i:=11) (N:=some 101) (v:=?_) (a':=?_) #[J,J,J,J,O,O,O,J,O,O,J,J,O,O,O,O,O,O,O,O,O,O,O,O,O,O] rfl rfl (any_of HT_.out (by kernel_rfl)) (fun _ _ _ h=>h) (Or.inl ⟨by rfl,?_⟩) ?_ ?_
     rotate_left
     ·intro w'
      go_simp
      with_reducible rfl
     rotate_left
     ·simp only [Act.put,sT,sZ,sS,iW,iV]
      rfl
     refine pure_ (i:=12) (N:=some 102) (v:=?_) (a':=?_) #[J,J,J,J,O,O,O,J,O,O,J,J,J,O,O,O,O,O,O,O,O,O,O,O,O,O] rfl rfl (any_of HT_.out (by kernel_rfl)) (fun _ _ _ h=>h) (Or.inl ⟨by rfl,?_⟩) ?_ ?_
     rotate_left
     ·intro w'
      go_simp
      with_reducible rfl
     rotate_left
     ·simp only [Act.put,sT,sZ,sS,iW,iV]
      rfl
     refine pure_ (i:=13) (N:=some 103) (v:=?_) (a':=?_) #[J,J,J,J,O,O,O,J,O,O,J,J,J,J,O,O,O,O,O,O,O,O,O,O,O,O] rfl rfl (any_of HT_.out (by kernel_rfl)) (fun _ _ _ h=>h) (Or.inl ⟨by rfl,?_⟩) ?_ ?_
     rotate_left
     ·intro w'
      go_simp
      with_reducible rfl
     rotate_left
     ·simp only [Act.put,sT,sZ,sS,iW,iV]
      rfl
     refine take_ (i:=4) (N:=some 94) (v:=?_) (a':=?_) #[J,J,J,J,J,O,O,J,O,O,J,J,J,J,O,O,O,O,O,O,O,O,O,O,O,O] rfl rfl (take_ofW HT_.out HW_.out (by kernel_rfl)) (fun _ _ _ h=>h) (Or.inl ⟨by rfl,?_⟩) hHeld ?_ ?_
     rotate_left
     ·rintro w' ⟨s0,s1⟩
      go_simp
      with_reducible rfl
     rotate_left
     ·simp only [Act.put,sT,sZ,sS,iW,iV]
      rfl
     refine pure_ (i:=5) (N:=some 95) (v:=?_) (a':=?_) #[J,J,J,J,J,J,O,J,O,O,J,J,J,J,O,O,O,O,O,O,O,O,O,O,O,O] rfl rfl (any_of HT_.out (by kernel_rfl)) (fun _ _ _ h=>h) (Or.inl ⟨by rfl,?_⟩) ?_ ?_
     rotate_left
     ·intro w'
      go_simp
      with_reducible rfl
     rotate_left
     ·simp only [Act.put,sT,sZ,sS,iW,iV]
      rfl
     refine pure_ (i:=6) (N:=some 96) (v:=?_) (a':=?_) #[J,J,J,J,J,J,J,J,O,O,J,J,J,J,O,O,O,O,O,O,O,O,O,O,O,O] rfl rfl (any_of HT_.out (by kernel_rfl)) (fun _ _ _ h=>h) (Or.inl ⟨by rfl,?_⟩) ?_ ?_
     rotate_left
     ·intro w'
      go_simp
      with_reducible rfl
     rotate_left
     ·simp only [Act.put,sT,sZ,sS,iW,iV]
      rfl
     refine pure_ (i:=8) (N:=some 98) (v:=?_) (a':=?_) #[J,J,J,J,J,J,J,J,J,O,J,J,J,J,O,O,O,O,O,O,O,O,O,O,O,O] rfl rfl (any_of HT_.out (by kernel_rfl)) (fun _ _ _ h=>h) (Or.inl ⟨by rfl,?_⟩) ?_ ?_
     rotate_left
     ·intro w'
      go_simp
      with_reducible rfl
     rotate_left
     ·simp only [Act.put,sT,sZ,sS,iW,iV]
      rfl
     refine pure_ (i:=9) (N:=some 99) (v:=?_) (a':=?_) #[J,J,J,J,J,J,J,J,J,J,J,J,J,J,O,O,O,O,O,O,O,O,O,O,O,O] rfl rfl (any_of HT_.out (by kernel_rfl)) (fun _ _ _ h=>h) (Or.inl ⟨by rfl,?_⟩) ?_ ?_
     rotate_left
     ·intro w'
      go_simp
      with_reducible rfl
     rotate_left
     ·simp only [Act.put,sT,sZ,sS,iW,iV]
      rfl
     refine take_ (i:=14) (N:=some 104) (v:=?_) (a':=?_) #[J,J,J,J,J,J,J,J,J,J,J,J,J,J,J,O,O,O,O,O,O,O,O,O,O,O] rfl rfl (take_ofW HT_.out HW_.out (by kernel_rfl)) (fun _ _ _ h=>h) (Or.inl ⟨by rfl,?_⟩) hHeld ?_ ?_
     rotate_left
     ·rintro w' ⟨s0,s1⟩
      go_simp
      with_reducible rfl
     rotate_left
     ·simp only [Act.put,sT,sZ,sS,iW,iV]
      rfl
     refine pure_ (i:=15) (N:=some 105) (v:=?_) (a':=?_) #[J,J,J,J,J,J,J,J,J,J,J,J,J,J,J,J,O,O,O,O,O,O,O,O,O,O] rfl rfl (any_of HT_.out (by kernel_rfl)) (fun _ _ _ h=>h) (Or.inl ⟨by rfl,?_⟩) ?_ ?_
     rotate_left
     ·intro w'
      go_simp
      with_reducible rfl
     rotate_left
     ·simp only [Act.put,sT,sZ,sS,iW,iV]
      rfl
     refine pure_ (i:=16) (N:=some 106) (v:=?_) (a':=?_) #[J,J,J,J,J,J,J,J,J,J,J,J,J,J,J,J,J,O,O,O,O,O,O,O,O,O] rfl rfl (any_of HT_.out (by kernel_rfl)) (fun _ _ _ h=>h) (Or.inl ⟨by rfl,?_⟩) ?_ ?_
     rotate_left
     ·intro w'
      go_simp
      with_reducible rfl
     rotate_left
     ·simp only [Act.put,sT,sZ,sS,iW,iV]
      rfl
     refine join_ (σ:=Value × Value × Value × Nat) 3 #[J,J,J,J,J,J,J,J,J,J,J,J,J,J,J,J,J,J,J,J,J,J,J,O,O,O] (fun s_=>[(107,.tuple #[.agg #[.int .i64 t499,.int .i64 t500,.int .i64 t501,.int .i64 t502,.int .i64 t503,.int .i64 t504,.int .i64 t505,.int .i64 t506,.int .i64 t507,s_.1,s_.2.1,s_.2.2.1],.int .i64 t517,.int .i64 t518]),(15,.pointer (some ⟨s_.2.2.2,0,none⟩)),(89,.tuple #[.agg #[.int .i64 t499,.int .i64 t500,.int .i64 t501,.int .i64 t502,.int .i64 t503,.int .i64 t504,.int .i64 t505,.int .i64 t506,.int .i64 t507,s_.1,s_.2.1,s_.2.2.1],.int .i64 t517,.int .i64 t518]),(108,.agg #[.int .i64 t499,.int .i64 t500,.int .i64 t501,.int .i64 t502,.int .i64 t503,.int .i64 t504,.int .i64 t505,.int .i64 t506,.int .i64 t507,s_.1,s_.2.1,s_.2.2.1]),(109,.int .i64 t517),(110,.int .i64 t518)]) (fun s_ w'=>(w'.cell? (ad475.add (ji25).toNat) = some (.int .i64 (rd t472 ji25))∧w'.cell? (ad475.add (ji25).toNat) = some (.int .i64 (rd t472 ji25)))∧(Kd.R k50 50 w' w.heap.size (fun k_=>some k_ ≠ (.slice Ao40 t485.length co40 : Value).ownBlock) s_.1 t508)∧(Kd.R k52 52 w' w.heap.size (fun k_=>some k_ ≠ (.slice Ao41 t488.length co41 : Value).ownBlock) s_.2.1 t511)∧(Kd.R k48 48 w' w.heap.size (fun k_=>some k_ ≠ (.slice Ao42 t491.length co42 : Value).ownBlock) s_.2.2.1 t514)∧(Kd.R k50 50 w' w.heap.size (fun k_=>some k_ ≠ (s_.1 : Value).ownBlock) (.slice Ao40 t485.length co40) t485)∧(Kd.R k52 52 w' w.heap.size (fun k_=>some k_ ≠ (s_.2.1 : Value).ownBlock) (.slice Ao41 t488.length co41) t488)∧(Kd.R k48 48 w' w.heap.size (fun k_=>some k_ ≠ (s_.2.2.1 : Value).ownBlock) (.slice Ao42 t491.length co42) t491)∧(Kd.R (Kd.int .i64) 3 w' w.heap.size (fun _=>True) (.slice (some ad475) t472.length co35) t472)∧(w'.heap[gb463]? = some (.cells #[.int .i64 a0_0,.int .i64 a0_1,.int .i64 a0_2,.int .i64 a0_3,.int .i64 a0_4,.int .i64 a0_5,.int .i64 a0_6,.int .i64 a0_7,.int .i64 a0_8,.slice A0_9 l0_9.length c0_9,.slice A0_10 l0_10.length c0_10,.slice A0_11 l0_11.length c0_11] 28 (0,0)))∧(w'.heap[gb496]? = some (.cells #[.int .i64 t476,.int .i64 t477,.int .i64 t478,.int .i64 t479,.int .i64 t480,.int .i64 t481,.int .i64 t482,.int .i64 t483,.int .i64 t484,.slice Ao40 t485.length co40,.slice Ao41 t488.length co41,.slice Ao42 t491.length co42] 28 (0,0)))∧(w'.heap[s_.2.2.2]? = some (.cells #[.int .i64 0,.int .i64 0,.int .i64 0,.int .i64 0,.int .i64 0,.int .i64 0,.int .i64 0,.int .i64 0,.int .i64 0,.slice none 0 0,.slice none 0 0,.slice none 0 0] 28 (0,0)))∧(w.heap.size≤s_.2.2.2)∧(w.heap.size≤s_.2.2.2)∧(gb463 ≠ s_.2.2.2)∧(s_.2.2.2 ≠ gb463)∧(gb496 ≠ s_.2.2.2)∧(s_.2.2.2 ≠ gb496)∧(Below w.heap.size w w')) ?_ ?_
     rotate_left
     ·intro hCont
      refine two_ (i:=17) (j:=22) (Ni:=some 107) (Nj:=some 15) #[J,J,J,J,J,J,J,J,J,J,J,J,J,J,J,J,J,J,O,O,O,O,O,O,O,O] #[J,J,J,J,J,J,J,J,J,J,J,J,J,J,J,J,J,O,O,O,O,O,J,O,O,O] rfl rfl rfl rfl (two_of HT_.out (by kernel_rfl)) (by decide) (by decide) (fun K hK=>?_) (fun K hK=>?_)
      ·skip
       refine goes_ Tryd.func17 (by kernel_rfl) rfl #[.string (((((t469.extract 0 ((rd t472 ji25) : Int).toNat) ++ (⟨#[63,32]⟩ : ByteArray)) ++ a2) ++ (⟨#[10]⟩ : ByteArray)) ++ (t469.extract ((rd t472 ji25) : Int).toNat t469.size))] (by rfl) rfl rfl (by (try simp only [mT,mC,mN]);first|done|(simp only [hji25];rfl)|rfl|(simp only [lD,lT];rfl)) ?_
       with_reducible refine (conf_Parse.calls kj30 (((((t469.extract 0 ((rd t472 ji25) : Int).toNat) ++ (⟨#[63,32]⟩ : ByteArray)) ++ a2) ++ (⟨#[10]⟩ : ByteArray)) ++ (t469.extract ((rd t472 ji25) : Int).toNat t469.size)) t499 t500 t501 t502 t503 t504 t505 t506 t507 t508 t511 t514 t517 t518 _ ?side1 A60.out).mono ?_
       (case side1=>exact Glob.below HG.out (by repeat (first|(with_reducible first|exact HB.out|apply bL|apply pN|apply bE|refine bS ?_ GE463.out|refine bS ?_ GE496.out)|exact HB.out)))
       rintro e w65 ⟨v509,v512,v515,rfl,ho0,ho1,ho2,hb⟩
       have HS0_:=(hb.cell (wB _ _ (hHeld.1))).trans (hHeld.1)
       have HS1_:=(hb.cell (wB _ _ (hHeld.2))).trans (hHeld.2)
       refine ⟨_,rfl,?_⟩
       have n0_:=Am (Kd.R_below (by (with_reducible repeat (first|apply Kd.R_alloc|apply Kd.R_drewN|apply Kd.R_drew));exact HO_9.out) hb)
       have n1_:=Am (Kd.R_elder' (by (with_reducible repeat (first|apply Kd.R_alloc|apply Kd.R_drewN|apply Kd.R_drew));exact HO_497009.out) (Kd.R_base ho0) hb)
       have n2_:=Am (Kd.R_elder' (by (with_reducible repeat (first|apply Kd.R_alloc|apply Kd.R_drewN|apply Kd.R_drew));exact HO_497010.out) (Kd.R_base ho1) hb)
       have n3_:=Am (Kd.R_elder' (by (with_reducible repeat (first|apply Kd.R_alloc|apply Kd.R_drewN|apply Kd.R_drew));exact HO_497011.out) (Kd.R_base ho2) hb)
       have n4_:=Am (Kd.R_lower (Kd.R_new' ho0 (Kd.R_lt (by (with_reducible repeat (first|apply Kd.R_alloc|apply Kd.R_drewN|apply Kd.R_drew));exact HO_497009.out))) (bZ (by repeat (first|(with_reducible first|exact HB.out|apply bL|apply pN|apply bE|refine bS ?_ GE463.out|refine bS ?_ GE496.out)|exact HB.out))))
       have n5_:=Am (Kd.R_lower (Kd.R_new' ho1 (Kd.R_lt (by (with_reducible repeat (first|apply Kd.R_alloc|apply Kd.R_drewN|apply Kd.R_drew));exact HO_497010.out))) (bZ (by repeat (first|(with_reducible first|exact HB.out|apply bL|apply pN|apply bE|refine bS ?_ GE463.out|refine bS ?_ GE496.out)|exact HB.out))))
       have n6_:=Am (Kd.R_lower (Kd.R_new' ho2 (Kd.R_lt (by (with_reducible repeat (first|apply Kd.R_alloc|apply Kd.R_drewN|apply Kd.R_drew));exact HO_497011.out))) (bZ (by repeat (first|(with_reducible first|exact HB.out|apply bL|apply pN|apply bE|refine bS ?_ GE463.out|refine bS ?_ GE496.out)|exact HB.out))))
       have n7_:=Am (blk_below (g:=gb463) (by (with_reducible repeat (first|refine bN ?_ _|refine bD ?_|refine bA ?_ _));exact BK463.out) hb)
       have n8_:=Am (blk_below (g:=gb496) (by (with_reducible repeat (first|refine bN ?_ _|refine bD ?_|refine bA ?_ _));exact BK496.out) hb)
       have n9_:=Am (below_step (by repeat (first|(with_reducible first|exact HB.out|apply bL|apply pN|apply bE|refine bS ?_ GE463.out|refine bS ?_ GE496.out)|exact HB.out)) hb)
       clear HO_9
       clear HO_497009
       clear HO_497010
       clear HO_497011
       clear BK463
       clear BK496
       clear HB
       have HO_9:=n0_
       have HO_497009:=n1_
       have HO_497010:=n2_
       have HO_497011:=n3_
       have HO510:=n4_
       have HO513:=n5_
       have HO516:=n6_
       have BK463:=n7_
       have BK496:=n8_
       have HB:=n9_
       clear n0_ n1_ n2_ n3_ n4_ n5_ n6_ n7_ n8_ n9_
       refine hK.out _ _ ⟨HS0_,HS1_⟩ (fun hHeld=>?_)
       clear hK K
       refine norm_ (a':=?_) ?_ ?_
       rotate_left
       ·show Act.put _ (some 107) _ = _
        simp only [Act.put,sT,sZ,sS,iW,iV]
        rfl
       refine pure_ (i:=18) (N:=some 89) (v:=?_) (a':=?_) #[J,J,J,J,J,J,J,J,J,J,J,J,J,J,J,J,J,J,J,O,O,O,O,O,O,O] rfl rfl (any_of HT_.out (by kernel_rfl)) (fun _ _ _ h=>h) (Or.inl ⟨by rfl,?_⟩) ?_ ?_
       rotate_left
       ·intro w'
        go_simp
        with_reducible rfl
       rotate_left
       ·simp only [Act.put,sT,sZ,sS,iW,iV]
        rfl
       refine pure_ (i:=19) (N:=some 108) (v:=?_) (a':=?_) #[J,J,J,J,J,J,J,J,J,J,J,J,J,J,J,J,J,J,J,J,O,O,O,O,O,O] rfl rfl (any_of HT_.out (by kernel_rfl)) (fun _ _ _ h=>h) (Or.inl ⟨by rfl,?_⟩) ?_ ?_
       rotate_left
       ·intro w'
        go_simp
        with_reducible rfl
       rotate_left
       ·simp only [Act.put,sT,sZ,sS,iW,iV]
        rfl
       refine pure_ (i:=20) (N:=some 109) (v:=?_) (a':=?_) #[J,J,J,J,J,J,J,J,J,J,J,J,J,J,J,J,J,J,J,J,J,O,O,O,O,O] rfl rfl (any_of HT_.out (by kernel_rfl)) (fun _ _ _ h=>h) (Or.inl ⟨by rfl,?_⟩) ?_ ?_
       rotate_left
       ·intro w'
        go_simp
        with_reducible rfl
       rotate_left
       ·simp only [Act.put,sT,sZ,sS,iW,iV]
        rfl
       refine pure_ (i:=21) (N:=some 110) (v:=?_) (a':=?_) #[J,J,J,J,J,J,J,J,J,J,J,J,J,J,J,J,J,J,J,J,J,J,O,O,O,O] rfl rfl (any_of HT_.out (by kernel_rfl)) (fun _ _ _ h=>h) (Or.inl ⟨by rfl,?_⟩) ?_ ?_
       rotate_left
       ·intro w'
        go_simp
        with_reducible rfl
       rotate_left
       ·simp only [Act.put,sT,sZ,sS,iW,iV]
        rfl
       refine one_ (i:=22) (N:=some 15) #[J,J,J,J,J,J,J,J,J,J,J,J,J,J,J,J,J,J,J,J,J,J,J,O,O,O] rfl rfl (one_of HT_.out (by kernel_rfl)) (by decide) (fun K hK=>?_)
       refine box_step ?hg (N:=15) ?hd (cs:=#[.int .i64 0,.int .i64 0,.int .i64 0,.int .i64 0,.int .i64 0,.int .i64 0,.int .i64 0,.int .i64 0,.int .i64 0,.slice none 0 0,.slice none 0 0,.slice none 0 0]) (t:=28) ?hr ?_;(case hd=>rfl);(case hg=>rfl);(case hr=>first|(go_simp;done)|(go_simp;rfl))
       intro gb519 hg w66 hbox hb
       have HS0_:=(hb.cell (wB _ _ (hHeld.1))).trans (hHeld.1)
       have HS1_:=(hb.cell (wB _ _ (hHeld.2))).trans (hHeld.2)
       have n0_:=Am (Kd.R_below (by (with_reducible repeat (first|apply Kd.R_alloc|apply Kd.R_drewN|apply Kd.R_drew));exact HO_9.out) hb)
       have n1_:=Am (Kd.R_below (by (with_reducible repeat (first|apply Kd.R_alloc|apply Kd.R_drewN|apply Kd.R_drew));exact HO_497009.out) hb)
       have n2_:=Am (Kd.R_below (by (with_reducible repeat (first|apply Kd.R_alloc|apply Kd.R_drewN|apply Kd.R_drew));exact HO_497010.out) hb)
       have n3_:=Am (Kd.R_below (by (with_reducible repeat (first|apply Kd.R_alloc|apply Kd.R_drewN|apply Kd.R_drew));exact HO_497011.out) hb)
       have n4_:=Am (Kd.R_below (by (with_reducible repeat (first|apply Kd.R_alloc|apply Kd.R_drewN|apply Kd.R_drew));exact HO510.out) hb)
       have n5_:=Am (Kd.R_below (by (with_reducible repeat (first|apply Kd.R_alloc|apply Kd.R_drewN|apply Kd.R_drew));exact HO513.out) hb)
       have n6_:=Am (Kd.R_below (by (with_reducible repeat (first|apply Kd.R_alloc|apply Kd.R_drewN|apply Kd.R_drew));exact HO516.out) hb)
       have n7_:=Am (blk_below (g:=gb463) (by (with_reducible repeat (first|refine bN ?_ _|refine bD ?_|refine bA ?_ _));exact BK463.out) hb)
       have n8_:=Am (blk_below (g:=gb496) (by (with_reducible repeat (first|refine bN ?_ _|refine bD ?_|refine bA ?_ _));exact BK496.out) hb)
       have n9_:=Am (below_step (by repeat (first|(with_reducible first|exact HB.out|apply bL|apply pN|apply bE|refine bS ?_ GE463.out|refine bS ?_ GE496.out)|exact HB.out)) hb)
       have n10_:=Am (hbox)
       have n11_:=Am ((by rw [hg];exact (bZ (by repeat (first|(with_reducible first|exact HB.out|apply bL|apply pN|apply bE|refine bS ?_ GE463.out|refine bS ?_ GE496.out)|exact HB.out))) : w.heap.size≤gb519))
       have n12_:=Am ((by rw [hg];exact (bZ (by repeat (first|(with_reducible first|exact HB.out|apply bL|apply pN|apply bE|refine bS ?_ GE463.out|refine bS ?_ GE496.out)|exact HB.out))) : w.heap.size≤gb519))
       have n13_:=Am ((by rw [hg];exact Nat.ne_of_lt (blk_lt (g:=gb463) (by (with_reducible repeat (first|refine bN ?_ _|refine bD ?_|refine bA ?_ _));exact BK463.out)) : gb463 ≠ gb519))
       have n14_:=Am ((by rw [hg];exact Nat.ne_of_gt (blk_lt (g:=gb463) (by (with_reducible repeat (first|refine bN ?_ _|refine bD ?_|refine bA ?_ _));exact BK463.out)) : gb519 ≠ gb463))
       have n15_:=Am ((by rw [hg];exact Nat.ne_of_lt (blk_lt (g:=gb496) (by (with_reducible repeat (first|refine bN ?_ _|refine bD ?_|refine bA ?_ _));exact BK496.out)) : gb496 ≠ gb519))
       have n16_:=Am ((by rw [hg];exact Nat.ne_of_gt (blk_lt (g:=gb496) (by (with_reducible repeat (first|refine bN ?_ _|refine bD ?_|refine bA ?_ _));exact BK496.out)) : gb519 ≠ gb496))
       clear HO_9
       clear HO_497009
       clear HO_497010
       clear HO_497011
       clear HO510
       clear HO513
       clear HO516
       clear BK463
       clear BK496
       clear HB
       have HO_9:=n0_
       have HO_497009:=n1_
       have HO_497010:=n2_
       have HO_497011:=n3_
       have HO510:=n4_
       have HO513:=n5_
       have HO516:=n6_
       have BK463:=n7_
       have BK496:=n8_
       have HB:=n9_
       have BK519:=n10_
       have GW519:=n11_
       have GE519:=n12_
       have NB463_519:=n13_
       have NB519_463:=n14_
       have NB496_519:=n15_
       have NB519_496:=n16_
       clear n0_ n1_ n2_ n3_ n4_ n5_ n6_ n7_ n8_ n9_ n10_ n11_ n12_ n13_ n14_ n15_ n16_
       clear hb hbox hg
       refine hK.out _ _ ⟨HS0_,HS1_⟩ (fun hHeld=>?_)
       clear hK K
       refine norm_ (a':=?_) ?_ ?_
       rotate_left
       ·show Act.put _ (some 15) _ = _
        simp only [Act.put,sT,sZ,sS,iW,iV]
        rfl
       exact norm_ (by simp only [putAll,Act.put,sT,sZ,sS]) (hCont (v509,v512,v515,gb519) _ ⟨hHeld,(by (with_reducible repeat (first|apply Kd.R_alloc|apply Kd.R_drewN|apply Kd.R_drew));exact Kd.R_mono HO510.out (fun _ hk=>hk.2)),(by (with_reducible repeat (first|apply Kd.R_alloc|apply Kd.R_drewN|apply Kd.R_drew));exact Kd.R_mono HO513.out (fun _ hk=>hk.2)),(by (with_reducible repeat (first|apply Kd.R_alloc|apply Kd.R_drewN|apply Kd.R_drew));exact Kd.R_mono HO516.out (fun _ hk=>hk.2)),(by (with_reducible repeat (first|apply Kd.R_alloc|apply Kd.R_drewN|apply Kd.R_drew));exact Kd.R_mono HO_497009.out (fun _ hk=>hk.2)),(by (with_reducible repeat (first|apply Kd.R_alloc|apply Kd.R_drewN|apply Kd.R_drew));exact Kd.R_mono HO_497010.out (fun _ hk=>hk.2)),(by (with_reducible repeat (first|apply Kd.R_alloc|apply Kd.R_drewN|apply Kd.R_drew));exact Kd.R_mono HO_497011.out (fun _ hk=>hk.2)),(by (with_reducible repeat (first|apply Kd.R_alloc|apply Kd.R_drewN|apply Kd.R_drew));exact HO_9.out),(by (with_reducible repeat (first|refine bN ?_ _|refine bD ?_|refine bA ?_ _));exact BK463.out),(by (with_reducible repeat (first|refine bN ?_ _|refine bD ?_|refine bA ?_ _));exact BK496.out),(by (with_reducible repeat (first|refine bN ?_ _|refine bD ?_|refine bA ?_ _));exact BK519.out),GW519.out,GE519.out,NB463_519.out,NB519_463.out,NB496_519.out,NB519_496.out,(by repeat (first|(with_reducible first|exact HB.out|apply bL|apply pN|apply bE|refine bS ?_ GE463.out|refine bS ?_ GE496.out|refine bS ?_ GE519.out)|exact HB.out))⟩)
      ·skip
       refine box_step ?hg (N:=15) ?hd (cs:=#[.int .i64 0,.int .i64 0,.int .i64 0,.int .i64 0,.int .i64 0,.int .i64 0,.int .i64 0,.int .i64 0,.int .i64 0,.slice none 0 0,.slice none 0 0,.slice none 0 0]) (t:=28) ?hr ?_;(case hd=>rfl);(case hg=>rfl);(case hr=>first|(go_simp;done)|(go_simp;rfl))
       intro gb519 hg w65 hbox hb
       have HS0_:=(hb.cell (wB _ _ (hHeld.1))).trans (hHeld.1)
       have HS1_:=(hb.cell (wB _ _ (hHeld.2))).trans (hHeld.2)
       have n0_:=Am (Kd.R_below (by (with_reducible repeat (first|apply Kd.R_alloc|apply Kd.R_drewN|apply Kd.R_drew));exact HO_9.out) hb)
       have n1_:=Am (Kd.R_below (by (with_reducible repeat (first|apply Kd.R_alloc|apply Kd.R_drewN|apply Kd.R_drew));exact HO_497009.out) hb)
       have n2_:=Am (Kd.R_below (by (with_reducible repeat (first|apply Kd.R_alloc|apply Kd.R_drewN|apply Kd.R_drew));exact HO_497010.out) hb)
       have n3_:=Am (Kd.R_below (by (with_reducible repeat (first|apply Kd.R_alloc|apply Kd.R_drewN|apply Kd.R_drew));exact HO_497011.out) hb)
       have n4_:=Am (blk_below (g:=gb463) (by (with_reducible repeat (first|refine bN ?_ _|refine bD ?_|refine bA ?_ _));exact BK463.out) hb)
       have n5_:=Am (blk_below (g:=gb496) (by (with_reducible repeat (first|refine bN ?_ _|refine bD ?_|refine bA ?_ _));exact BK496.out) hb)
       have n6_:=Am (below_step (by repeat (first|(with_reducible first|exact HB.out|apply bL|apply pN|apply bE|refine bS ?_ GE463.out|refine bS ?_ GE496.out)|exact HB.out)) hb)
       have n7_:=Am (hbox)
       have n8_:=Am ((by rw [hg];exact (bZ (by repeat (first|(with_reducible first|exact HB.out|apply bL|apply pN|apply bE|refine bS ?_ GE463.out|refine bS ?_ GE496.out)|exact HB.out))) : w.heap.size≤gb519))
       have n9_:=Am ((by rw [hg];exact (bZ (by repeat (first|(with_reducible first|exact HB.out|apply bL|apply pN|apply bE|refine bS ?_ GE463.out|refine bS ?_ GE496.out)|exact HB.out))) : w.heap.size≤gb519))
       have n10_:=Am ((by rw [hg];exact Nat.ne_of_lt (blk_lt (g:=gb463) (by (with_reducible repeat (first|refine bN ?_ _|refine bD ?_|refine bA ?_ _));exact BK463.out)) : gb463 ≠ gb519))
       have n11_:=Am ((by rw [hg];exact Nat.ne_of_gt (blk_lt (g:=gb463) (by (with_reducible repeat (first|refine bN ?_ _|refine bD ?_|refine bA ?_ _));exact BK463.out)) : gb519 ≠ gb463))
       have n12_:=Am ((by rw [hg];exact Nat.ne_of_lt (blk_lt (g:=gb496) (by (with_reducible repeat (first|refine bN ?_ _|refine bD ?_|refine bA ?_ _));exact BK496.out)) : gb496 ≠ gb519))
       have n13_:=Am ((by rw [hg];exact Nat.ne_of_gt (blk_lt (g:=gb496) (by (with_reducible repeat (first|refine bN ?_ _|refine bD ?_|refine bA ?_ _));exact BK496.out)) : gb519 ≠ gb496))
       clear HO_9
       clear HO_497009
       clear HO_497010
       clear HO_497011
       clear BK463
       clear BK496
       clear HB
       have HO_9:=n0_
       have HO_497009:=n1_
       have HO_497010:=n2_
       have HO_497011:=n3_
       have BK463:=n4_
       have BK496:=n5_
       have HB:=n6_
       have BK519:=n7_
       have GW519:=n8_
       have GE519:=n9_
       have NB463_519:=n10_
       have NB519_463:=n11_
       have NB496_519:=n12_
       have NB519_496:=n13_
       clear n0_ n1_ n2_ n3_ n4_ n5_ n6_ n7_ n8_ n9_ n10_ n11_ n12_ n13_
       clear hb hbox hg
       refine hK.out _ _ ⟨HS0_,HS1_⟩ (fun hHeld=>?_)
       clear hK K
       refine norm_ (a':=?_) ?_ ?_
       rotate_left
       ·show Act.put _ (some 15) _ = _
        simp only [Act.put,sT,sZ,sS,iW,iV]
        rfl
       refine one_ (i:=17) (N:=some 107) #[J,J,J,J,J,J,J,J,J,J,J,J,J,J,J,J,J,J,O,O,O,O,J,O,O,O] rfl rfl (one_of HT_.out (by kernel_rfl)) (by decide) (fun K hK=>?_)
       refine goes_ Tryd.func17 (by kernel_rfl) rfl #[.string (((((t469.extract 0 ((rd t472 ji25) : Int).toNat) ++ (⟨#[63,32]⟩ : ByteArray)) ++ a2) ++ (⟨#[10]⟩ : ByteArray)) ++ (t469.extract ((rd t472 ji25) : Int).toNat t469.size))] (by rfl) rfl rfl (by (try simp only [mT,mC,mN]);first|done|(simp only [hji25];rfl)|rfl|(simp only [lD,lT];rfl)) ?_
       with_reducible refine (conf_Parse.calls kj30 (((((t469.extract 0 ((rd t472 ji25) : Int).toNat) ++ (⟨#[63,32]⟩ : ByteArray)) ++ a2) ++ (⟨#[10]⟩ : ByteArray)) ++ (t469.extract ((rd t472 ji25) : Int).toNat t469.size)) t499 t500 t501 t502 t503 t504 t505 t506 t507 t508 t511 t514 t517 t518 _ ?side1 A60.out).mono ?_
       (case side1=>exact Glob.below HG.out (by repeat (first|(with_reducible first|exact HB.out|apply bL|apply pN|apply bE|refine bS ?_ GE463.out|refine bS ?_ GE496.out|refine bS ?_ GE519.out)|exact HB.out)))
       rintro e w66 ⟨v509,v512,v515,rfl,ho0,ho1,ho2,hb⟩
       have HS0_:=(hb.cell (wB _ _ (hHeld.1))).trans (hHeld.1)
       have HS1_:=(hb.cell (wB _ _ (hHeld.2))).trans (hHeld.2)
       refine ⟨_,rfl,?_⟩
       have n0_:=Am (Kd.R_below (by (with_reducible repeat (first|apply Kd.R_alloc|apply Kd.R_drewN|apply Kd.R_drew));exact HO_9.out) hb)
       have n1_:=Am (Kd.R_elder' (by (with_reducible repeat (first|apply Kd.R_alloc|apply Kd.R_drewN|apply Kd.R_drew));exact HO_497009.out) (Kd.R_base ho0) hb)
       have n2_:=Am (Kd.R_elder' (by (with_reducible repeat (first|apply Kd.R_alloc|apply Kd.R_drewN|apply Kd.R_drew));exact HO_497010.out) (Kd.R_base ho1) hb)
       have n3_:=Am (Kd.R_elder' (by (with_reducible repeat (first|apply Kd.R_alloc|apply Kd.R_drewN|apply Kd.R_drew));exact HO_497011.out) (Kd.R_base ho2) hb)
       have n4_:=Am (Kd.R_lower (Kd.R_new' ho0 (Kd.R_lt (by (with_reducible repeat (first|apply Kd.R_alloc|apply Kd.R_drewN|apply Kd.R_drew));exact HO_497009.out))) (bZ (by repeat (first|(with_reducible first|exact HB.out|apply bL|apply pN|apply bE|refine bS ?_ GE463.out|refine bS ?_ GE496.out|refine bS ?_ GE519.out)|exact HB.out))))
       have n5_:=Am (Kd.R_lower (Kd.R_new' ho1 (Kd.R_lt (by (with_reducible repeat (first|apply Kd.R_alloc|apply Kd.R_drewN|apply Kd.R_drew));exact HO_497010.out))) (bZ (by repeat (first|(with_reducible first|exact HB.out|apply bL|apply pN|apply bE|refine bS ?_ GE463.out|refine bS ?_ GE496.out|refine bS ?_ GE519.out)|exact HB.out))))
       have n6_:=Am (Kd.R_lower (Kd.R_new' ho2 (Kd.R_lt (by (with_reducible repeat (first|apply Kd.R_alloc|apply Kd.R_drewN|apply Kd.R_drew));exact HO_497011.out))) (bZ (by repeat (first|(with_reducible first|exact HB.out|apply bL|apply pN|apply bE|refine bS ?_ GE463.out|refine bS ?_ GE496.out|refine bS ?_ GE519.out)|exact HB.out))))
       have n7_:=Am (blk_below (g:=gb463) (by (with_reducible repeat (first|refine bN ?_ _|refine bD ?_|refine bA ?_ _));exact BK463.out) hb)
       have n8_:=Am (blk_below (g:=gb496) (by (with_reducible repeat (first|refine bN ?_ _|refine bD ?_|refine bA ?_ _));exact BK496.out) hb)
       have n9_:=Am (blk_below (g:=gb519) (by (with_reducible repeat (first|refine bN ?_ _|refine bD ?_|refine bA ?_ _));exact BK519.out) hb)
       have n10_:=Am (below_step (by repeat (first|(with_reducible first|exact HB.out|apply bL|apply pN|apply bE|refine bS ?_ GE463.out|refine bS ?_ GE496.out|refine bS ?_ GE519.out)|exact HB.out)) hb)
       clear HO_9
       clear HO_497009
       clear HO_497010
       clear HO_497011
       clear BK463
       clear BK496
       clear BK519
       clear HB
       have HO_9:=n0_
       have HO_497009:=n1_
       have HO_497010:=n2_
       have HO_497011:=n3_
       have HO510:=n4_
       have HO513:=n5_
       have HO516:=n6_
       have BK463:=n7_
       have BK496:=n8_
       have BK519:=n9_
       have HB:=n10_
       clear n0_ n1_ n2_ n3_ n4_ n5_ n6_ n7_ n8_ n9_ n10_
       refine hK.out _ _ ⟨HS0_,HS1_⟩ (fun hHeld=>?_)
       clear hK K
       refine norm_ (a':=?_) ?_ ?_
       rotate_left
       ·show Act.put _ (some 107) _ = _
        simp only [Act.put,sT,sZ,sS,iW,iV]
        rfl
       refine pure_ (i:=18) (N:=some 89) (v:=?_) (a':=?_) #[J,J,J,J,J,J,J,J,J,J,J,J,J,J,J,J,J,J,J,O,O,O,J,O,O,O] rfl rfl (any_of HT_.out (by kernel_rfl)) (fun _ _ _ h=>h) (Or.inl ⟨by rfl,?_⟩) ?_ ?_
       rotate_left
       ·intro w'
        go_simp
        with_reducible rfl
       rotate_left
       ·simp only [Act.put,sT,sZ,sS,iW,iV]
        rfl
       refine pure_ (i:=19) (N:=some 108) (v:=?_) (a':=?_) #[J,J,J,J,J,J,J,J,J,J,J,J,J,J,J,J,J,J,J,J,O,O,J,O,O,O] rfl rfl (any_of HT_.out (by kernel_rfl)) (fun _ _ _ h=>h) (Or.inl ⟨by rfl,?_⟩) ?_ ?_
       rotate_left
       ·intro w'
        go_simp
        with_reducible rfl
       rotate_left
       ·simp only [Act.put,sT,sZ,sS,iW,iV]
        rfl
       refine pure_ (i:=20) (N:=some 109) (v:=?_) (a':=?_) #[J,J,J,J,J,J,J,J,J,J,J,J,J,J,J,J,J,J,J,J,J,O,J,O,O,O] rfl rfl (any_of HT_.out (by kernel_rfl)) (fun _ _ _ h=>h) (Or.inl ⟨by rfl,?_⟩) ?_ ?_
       rotate_left
       ·intro w'
        go_simp
        with_reducible rfl
       rotate_left
       ·simp only [Act.put,sT,sZ,sS,iW,iV]
        rfl
       refine pure_ (i:=21) (N:=some 110) (v:=?_) (a':=?_) #[J,J,J,J,J,J,J,J,J,J,J,J,J,J,J,J,J,J,J,J,J,J,J,O,O,O] rfl rfl (any_of HT_.out (by kernel_rfl)) (fun _ _ _ h=>h) (Or.inl ⟨by rfl,?_⟩) ?_ ?_
       rotate_left
       ·intro w'
        go_simp
        with_reducible rfl
       rotate_left
       ·simp only [Act.put,sT,sZ,sS,iW,iV]
        rfl
       exact norm_ (by simp only [putAll,Act.put,sT,sZ,sS]) (hCont (v509,v512,v515,gb519) _ ⟨hHeld,(by (with_reducible repeat (first|apply Kd.R_alloc|apply Kd.R_drewN|apply Kd.R_drew));exact Kd.R_mono HO510.out (fun _ hk=>hk.2)),(by (with_reducible repeat (first|apply Kd.R_alloc|apply Kd.R_drewN|apply Kd.R_drew));exact Kd.R_mono HO513.out (fun _ hk=>hk.2)),(by (with_reducible repeat (first|apply Kd.R_alloc|apply Kd.R_drewN|apply Kd.R_drew));exact Kd.R_mono HO516.out (fun _ hk=>hk.2)),(by (with_reducible repeat (first|apply Kd.R_alloc|apply Kd.R_drewN|apply Kd.R_drew));exact Kd.R_mono HO_497009.out (fun _ hk=>hk.2)),(by (with_reducible repeat (first|apply Kd.R_alloc|apply Kd.R_drewN|apply Kd.R_drew));exact Kd.R_mono HO_497010.out (fun _ hk=>hk.2)),(by (with_reducible repeat (first|apply Kd.R_alloc|apply Kd.R_drewN|apply Kd.R_drew));exact Kd.R_mono HO_497011.out (fun _ hk=>hk.2)),(by (with_reducible repeat (first|apply Kd.R_alloc|apply Kd.R_drewN|apply Kd.R_drew));exact HO_9.out),(by (with_reducible repeat (first|refine bN ?_ _|refine bD ?_|refine bA ?_ _));exact BK463.out),(by (with_reducible repeat (first|refine bN ?_ _|refine bD ?_|refine bA ?_ _));exact BK496.out),(by (with_reducible repeat (first|refine bN ?_ _|refine bD ?_|refine bA ?_ _));exact BK519.out),GW519.out,GE519.out,NB463_519.out,NB519_463.out,NB496_519.out,NB519_496.out,(by repeat (first|(with_reducible first|exact HB.out|apply bL|apply pN|apply bE|refine bS ?_ GE463.out|refine bS ?_ GE496.out|refine bS ?_ GE519.out)|exact HB.out))⟩)
     rintro ⟨v509,v512,v515,gb519⟩ w67 ⟨hS_,h0_,h1_,h2_,h3_,h4_,h5_,h6_,h7_,h8_,h9_,h10_,h11_,h12_,h13_,h14_,h15_,h16_⟩
     have n0_ : Aside0 (Kd.R k50 50 w67 w.heap.size (fun k_=>some k_ ≠ (.slice Ao40 t485.length co40 : Value).ownBlock) v509 t508):=⟨h0_⟩
     have n1_ : Aside0 (Kd.R k52 52 w67 w.heap.size (fun k_=>some k_ ≠ (.slice Ao41 t488.length co41 : Value).ownBlock) v512 t511):=⟨h1_⟩
     have n2_ : Aside0 (Kd.R k48 48 w67 w.heap.size (fun k_=>some k_ ≠ (.slice Ao42 t491.length co42 : Value).ownBlock) v515 t514):=⟨h2_⟩
     have n3_ : Aside0 (Kd.R k50 50 w67 w.heap.size (fun k_=>some k_ ≠ (v509 : Value).ownBlock) (.slice Ao40 t485.length co40) t485):=⟨h3_⟩
     have n4_ : Aside0 (Kd.R k52 52 w67 w.heap.size (fun k_=>some k_ ≠ (v512 : Value).ownBlock) (.slice Ao41 t488.length co41) t488):=⟨h4_⟩
     have n5_ : Aside0 (Kd.R k48 48 w67 w.heap.size (fun k_=>some k_ ≠ (v515 : Value).ownBlock) (.slice Ao42 t491.length co42) t491):=⟨h5_⟩
     have n6_ : Aside0 (Kd.R (Kd.int .i64) 3 w67 w.heap.size (fun _=>True) (.slice (some ad475) t472.length co35) t472):=⟨h6_⟩
     have n7_ : Aside0 (w67.heap[gb463]? = some (.cells #[.int .i64 a0_0,.int .i64 a0_1,.int .i64 a0_2,.int .i64 a0_3,.int .i64 a0_4,.int .i64 a0_5,.int .i64 a0_6,.int .i64 a0_7,.int .i64 a0_8,.slice A0_9 l0_9.length c0_9,.slice A0_10 l0_10.length c0_10,.slice A0_11 l0_11.length c0_11] 28 (0,0))):=⟨h7_⟩
     have n8_ : Aside0 (w67.heap[gb496]? = some (.cells #[.int .i64 t476,.int .i64 t477,.int .i64 t478,.int .i64 t479,.int .i64 t480,.int .i64 t481,.int .i64 t482,.int .i64 t483,.int .i64 t484,.slice Ao40 t485.length co40,.slice Ao41 t488.length co41,.slice Ao42 t491.length co42] 28 (0,0))):=⟨h8_⟩
     have n9_ : Aside0 (w67.heap[gb519]? = some (.cells #[.int .i64 0,.int .i64 0,.int .i64 0,.int .i64 0,.int .i64 0,.int .i64 0,.int .i64 0,.int .i64 0,.int .i64 0,.slice none 0 0,.slice none 0 0,.slice none 0 0] 28 (0,0))):=⟨h9_⟩
     have n10_ : Aside0 (w.heap.size≤gb519):=⟨h10_⟩
     have n11_ : Aside0 (w.heap.size≤gb519):=⟨h11_⟩
     have n12_ : Aside0 (gb463 ≠ gb519):=⟨h12_⟩
     have n13_ : Aside0 (gb519 ≠ gb463):=⟨h13_⟩
     have n14_ : Aside0 (gb496 ≠ gb519):=⟨h14_⟩
     have n15_ : Aside0 (gb519 ≠ gb496):=⟨h15_⟩
     have n16_ : Aside0 (Below w.heap.size w w67):=⟨h16_⟩
     clear HO_9
     clear HO_497009
     clear HO_497010
     clear HO_497011
     clear BK463
     clear BK496
     clear HB
     clear h0_ h1_ h2_ h3_ h4_ h5_ h6_ h7_ h8_ h9_ h10_ h11_ h12_ h13_ h14_ h15_ h16_
     have HO510:=n0_
     have HO513:=n1_
     have HO516:=n2_
     have HO_497009:=n3_
     have HO_497010:=n4_
     have HO_497011:=n5_
     have HO_9:=n6_
     have BK463:=n7_
     have BK496:=n8_
     have BK519:=n9_
     have GW519:=n10_
     have GE519:=n11_
     have NB463_519:=n12_
     have NB519_463:=n13_
     have NB496_519:=n14_
     have NB519_496:=n15_
     have HB:=n16_
     clear n0_ n1_ n2_ n3_ n4_ n5_ n6_ n7_ n8_ n9_ n10_ n11_ n12_ n13_ n14_ n15_ n16_
     have hHeld : w67.cell? (ad475.add (ji25).toNat) = some (.int .i64 (rd t472 ji25))∧w67.cell? (ad475.add (ji25).toNat) = some (.int .i64 (rd t472 ji25)):=hS_
     obtain ⟨Ao77,co77,eo77⟩:=Kd.R_slice HO510.out
     (first|subst eo77|(injection eo77 with f1_ f2_ f3_;have f4_:=f1_.symm;have f5_:=f3_.symm;clear f1_ f2_ f3_;subst f4_;subst f5_))
     obtain ⟨Ao79,co79,eo79⟩:=Kd.R_slice HO513.out
     (first|subst eo79|(injection eo79 with f1_ f2_ f3_;have f4_:=f1_.symm;have f5_:=f3_.symm;clear f1_ f2_ f3_;subst f4_;subst f5_))
     obtain ⟨Ao81,co81,eo81⟩:=Kd.R_slice HO516.out
     (first|subst eo81|(injection eo81 with f1_ f2_ f3_;have f4_:=f1_.symm;have f5_:=f3_.symm;clear f1_ f2_ f3_;subst f4_;subst f5_))
     refine norm_ (a':=?_) ?_ ?_
     rotate_left
     ·simp only [putAll,Act.put,sT,sZ,sS]
      rfl
     refine one_ (i:=23) (N:=none) #[J,J,J,J,J,J,J,J,J,J,J,J,J,J,J,J,J,J,J,J,J,J,J,J,O,O] rfl rfl (one_of HT_.out (by kernel_rfl)) (by decide) (fun K hK=>?_)
     have hs68 : w67.cell? ⟨gb519,0,none⟩ = some (.int .i64 0):=(bC BK519.out 0).trans rfl
     have hfs68:=bF BK519.out 0
     have hns68_0:=NB463_519.out
     have hns68_1:=NB496_519.out
     have hms68_0:=NB519_463.out
     have hms68_1:=NB519_496.out
     have hs69 : w67.cell? ⟨gb519,1,none⟩ = some (.int .i64 0):=(bC BK519.out 1).trans rfl
     have hfs69:=bF BK519.out 1
     have hns69_0:=NB463_519.out
     have hns69_1:=NB496_519.out
     have hms69_0:=NB519_463.out
     have hms69_1:=NB519_496.out
     have hs70 : w67.cell? ⟨gb519,2,none⟩ = some (.int .i64 0):=(bC BK519.out 2).trans rfl
     have hfs70:=bF BK519.out 2
     have hns70_0:=NB463_519.out
     have hns70_1:=NB496_519.out
     have hms70_0:=NB519_463.out
     have hms70_1:=NB519_496.out
     have hs71 : w67.cell? ⟨gb519,3,none⟩ = some (.int .i64 0):=(bC BK519.out 3).trans rfl
     have hfs71:=bF BK519.out 3
     have hns71_0:=NB463_519.out
     have hns71_1:=NB496_519.out
     have hms71_0:=NB519_463.out
     have hms71_1:=NB519_496.out
     have hs72 : w67.cell? ⟨gb519,4,none⟩ = some (.int .i64 0):=(bC BK519.out 4).trans rfl
     have hfs72:=bF BK519.out 4
     have hns72_0:=NB463_519.out
     have hns72_1:=NB496_519.out
     have hms72_0:=NB519_463.out
     have hms72_1:=NB519_496.out
     have hs73 : w67.cell? ⟨gb519,5,none⟩ = some (.int .i64 0):=(bC BK519.out 5).trans rfl
     have hfs73:=bF BK519.out 5
     have hns73_0:=NB463_519.out
     have hns73_1:=NB496_519.out
     have hms73_0:=NB519_463.out
     have hms73_1:=NB519_496.out
     have hs74 : w67.cell? ⟨gb519,6,none⟩ = some (.int .i64 0):=(bC BK519.out 6).trans rfl
     have hfs74:=bF BK519.out 6
     have hns74_0:=NB463_519.out
     have hns74_1:=NB496_519.out
     have hms74_0:=NB519_463.out
     have hms74_1:=NB519_496.out
     have hs75 : w67.cell? ⟨gb519,7,none⟩ = some (.int .i64 0):=(bC BK519.out 7).trans rfl
     have hfs75:=bF BK519.out 7
     have hns75_0:=NB463_519.out
     have hns75_1:=NB496_519.out
     have hms75_0:=NB519_463.out
     have hms75_1:=NB519_496.out
     have hs76 : w67.cell? ⟨gb519,8,none⟩ = some (.int .i64 0):=(bC BK519.out 8).trans rfl
     have hfs76:=bF BK519.out 8
     have hns76_0:=NB463_519.out
     have hns76_1:=NB496_519.out
     have hms76_0:=NB519_463.out
     have hms76_1:=NB519_496.out
     have hs78 : w67.cell? ⟨gb519,9,none⟩ = some (.slice none 0 0):=(bC BK519.out 9).trans rfl
     have hfs78:=bF BK519.out 9
     have hns78_0:=NB463_519.out
     have hns78_1:=NB496_519.out
     have hms78_0:=NB519_463.out
     have hms78_1:=NB519_496.out
     have hs80 : w67.cell? ⟨gb519,10,none⟩ = some (.slice none 0 0):=(bC BK519.out 10).trans rfl
     have hfs80:=bF BK519.out 10
     have hns80_0:=NB463_519.out
     have hns80_1:=NB496_519.out
     have hms80_0:=NB519_463.out
     have hms80_1:=NB519_496.out
     have hs82 : w67.cell? ⟨gb519,11,none⟩ = some (.slice none 0 0):=(bC BK519.out 11).trans rfl
     have hfs82:=bF BK519.out 11
     have hns82_0:=NB463_519.out
     have hns82_1:=NB496_519.out
     have hms82_0:=NB519_463.out
     have hms82_1:=NB519_496.out
     refine skip_ (w1:=?_) (by rfl) rfl ?_ ?_
     rotate_left
     ·go_simp
      rfl
     refine hK.out _ _ ⟨((cell_far (p:=⟨gb519,_,none⟩) (by first|exact Kd.own_blk (Kd.R_ne HO_9.out BK519.out (by decide))|(rw [add_block];exact Kd.own_blk (Kd.R_ne HO_9.out BK519.out (by decide)))|(show (Addr.add _ _).block ≠ _;rw [add_block];exact Kd.own_blk (Kd.R_ne HO_9.out BK519.out (by decide)))|(dsimp only;exact Kd.own_blk (Kd.R_ne HO_9.out BK519.out (by decide)))) _).trans (((cell_far (p:=⟨gb519,_,none⟩) (by first|exact Kd.own_blk (Kd.R_ne HO_9.out BK519.out (by decide))|(rw [add_block];exact Kd.own_blk (Kd.R_ne HO_9.out BK519.out (by decide)))|(show (Addr.add _ _).block ≠ _;rw [add_block];exact Kd.own_blk (Kd.R_ne HO_9.out BK519.out (by decide)))|(dsimp only;exact Kd.own_blk (Kd.R_ne HO_9.out BK519.out (by decide)))) _).trans (((cell_far (p:=⟨gb519,_,none⟩) (by first|exact Kd.own_blk (Kd.R_ne HO_9.out BK519.out (by decide))|(rw [add_block];exact Kd.own_blk (Kd.R_ne HO_9.out BK519.out (by decide)))|(show (Addr.add _ _).block ≠ _;rw [add_block];exact Kd.own_blk (Kd.R_ne HO_9.out BK519.out (by decide)))|(dsimp only;exact Kd.own_blk (Kd.R_ne HO_9.out BK519.out (by decide)))) _).trans (((cell_far (p:=⟨gb519,_,none⟩) (by first|exact Kd.own_blk (Kd.R_ne HO_9.out BK519.out (by decide))|(rw [add_block];exact Kd.own_blk (Kd.R_ne HO_9.out BK519.out (by decide)))|(show (Addr.add _ _).block ≠ _;rw [add_block];exact Kd.own_blk (Kd.R_ne HO_9.out BK519.out (by decide)))|(dsimp only;exact Kd.own_blk (Kd.R_ne HO_9.out BK519.out (by decide)))) _).trans (((cell_far (p:=⟨gb519,_,none⟩) (by first|exact Kd.own_blk (Kd.R_ne HO_9.out BK519.out (by decide))|(rw [add_block];exact Kd.own_blk (Kd.R_ne HO_9.out BK519.out (by decide)))|(show (Addr.add _ _).block ≠ _;rw [add_block];exact Kd.own_blk (Kd.R_ne HO_9.out BK519.out (by decide)))|(dsimp only;exact Kd.own_blk (Kd.R_ne HO_9.out BK519.out (by decide)))) _).trans (((cell_far (p:=⟨gb519,_,none⟩) (by first|exact Kd.own_blk (Kd.R_ne HO_9.out BK519.out (by decide))|(rw [add_block];exact Kd.own_blk (Kd.R_ne HO_9.out BK519.out (by decide)))|(show (Addr.add _ _).block ≠ _;rw [add_block];exact Kd.own_blk (Kd.R_ne HO_9.out BK519.out (by decide)))|(dsimp only;exact Kd.own_blk (Kd.R_ne HO_9.out BK519.out (by decide)))) _).trans (((cell_far (p:=⟨gb519,_,none⟩) (by first|exact Kd.own_blk (Kd.R_ne HO_9.out BK519.out (by decide))|(rw [add_block];exact Kd.own_blk (Kd.R_ne HO_9.out BK519.out (by decide)))|(show (Addr.add _ _).block ≠ _;rw [add_block];exact Kd.own_blk (Kd.R_ne HO_9.out BK519.out (by decide)))|(dsimp only;exact Kd.own_blk (Kd.R_ne HO_9.out BK519.out (by decide)))) _).trans (((cell_far (p:=⟨gb519,_,none⟩) (by first|exact Kd.own_blk (Kd.R_ne HO_9.out BK519.out (by decide))|(rw [add_block];exact Kd.own_blk (Kd.R_ne HO_9.out BK519.out (by decide)))|(show (Addr.add _ _).block ≠ _;rw [add_block];exact Kd.own_blk (Kd.R_ne HO_9.out BK519.out (by decide)))|(dsimp only;exact Kd.own_blk (Kd.R_ne HO_9.out BK519.out (by decide)))) _).trans (((cell_far (p:=⟨gb519,_,none⟩) (by first|exact Kd.own_blk (Kd.R_ne HO_9.out BK519.out (by decide))|(rw [add_block];exact Kd.own_blk (Kd.R_ne HO_9.out BK519.out (by decide)))|(show (Addr.add _ _).block ≠ _;rw [add_block];exact Kd.own_blk (Kd.R_ne HO_9.out BK519.out (by decide)))|(dsimp only;exact Kd.own_blk (Kd.R_ne HO_9.out BK519.out (by decide)))) _).trans (((cell_far (p:=⟨gb519,_,none⟩) (by first|exact Kd.own_blk (Kd.R_ne HO_9.out BK519.out (by decide))|(rw [add_block];exact Kd.own_blk (Kd.R_ne HO_9.out BK519.out (by decide)))|(show (Addr.add _ _).block ≠ _;rw [add_block];exact Kd.own_blk (Kd.R_ne HO_9.out BK519.out (by decide)))|(dsimp only;exact Kd.own_blk (Kd.R_ne HO_9.out BK519.out (by decide)))) _).trans (((cell_far (p:=⟨gb519,_,none⟩) (by first|exact Kd.own_blk (Kd.R_ne HO_9.out BK519.out (by decide))|(rw [add_block];exact Kd.own_blk (Kd.R_ne HO_9.out BK519.out (by decide)))|(show (Addr.add _ _).block ≠ _;rw [add_block];exact Kd.own_blk (Kd.R_ne HO_9.out BK519.out (by decide)))|(dsimp only;exact Kd.own_blk (Kd.R_ne HO_9.out BK519.out (by decide)))) _).trans (((cell_far (p:=⟨gb519,_,none⟩) (by first|exact Kd.own_blk (Kd.R_ne HO_9.out BK519.out (by decide))|(rw [add_block];exact Kd.own_blk (Kd.R_ne HO_9.out BK519.out (by decide)))|(show (Addr.add _ _).block ≠ _;rw [add_block];exact Kd.own_blk (Kd.R_ne HO_9.out BK519.out (by decide)))|(dsimp only;exact Kd.own_blk (Kd.R_ne HO_9.out BK519.out (by decide)))) _).trans (hHeld.1)))))))))))))))))))))))),((cell_far (p:=⟨gb519,_,none⟩) (by first|exact Kd.own_blk (Kd.R_ne HO_9.out BK519.out (by decide))|(rw [add_block];exact Kd.own_blk (Kd.R_ne HO_9.out BK519.out (by decide)))|(show (Addr.add _ _).block ≠ _;rw [add_block];exact Kd.own_blk (Kd.R_ne HO_9.out BK519.out (by decide)))|(dsimp only;exact Kd.own_blk (Kd.R_ne HO_9.out BK519.out (by decide)))) _).trans (((cell_far (p:=⟨gb519,_,none⟩) (by first|exact Kd.own_blk (Kd.R_ne HO_9.out BK519.out (by decide))|(rw [add_block];exact Kd.own_blk (Kd.R_ne HO_9.out BK519.out (by decide)))|(show (Addr.add _ _).block ≠ _;rw [add_block];exact Kd.own_blk (Kd.R_ne HO_9.out BK519.out (by decide)))|(dsimp only;exact Kd.own_blk (Kd.R_ne HO_9.out BK519.out (by decide)))) _).trans (((cell_far (p:=⟨gb519,_,none⟩) (by first|exact Kd.own_blk (Kd.R_ne HO_9.out BK519.out (by decide))|(rw [add_block];exact Kd.own_blk (Kd.R_ne HO_9.out BK519.out (by decide)))|(show (Addr.add _ _).block ≠ _;rw [add_block];exact Kd.own_blk (Kd.R_ne HO_9.out BK519.out (by decide)))|(dsimp only;exact Kd.own_blk (Kd.R_ne HO_9.out BK519.out (by decide)))) _).trans (((cell_far (p:=⟨gb519,_,none⟩) (by first|exact Kd.own_blk (Kd.R_ne HO_9.out BK519.out (by decide))|(rw [add_block];exact Kd.own_blk (Kd.R_ne HO_9.out BK519.out (by decide)))|(show (Addr.add _ _).block ≠ _;rw [add_block];exact Kd.own_blk (Kd.R_ne HO_9.out BK519.out (by decide)))|(dsimp only;exact Kd.own_blk (Kd.R_ne HO_9.out BK519.out (by decide)))) _).trans (((cell_far (p:=⟨gb519,_,none⟩) (by first|exact Kd.own_blk (Kd.R_ne HO_9.out BK519.out (by decide))|(rw [add_block];exact Kd.own_blk (Kd.R_ne HO_9.out BK519.out (by decide)))|(show (Addr.add _ _).block ≠ _;rw [add_block];exact Kd.own_blk (Kd.R_ne HO_9.out BK519.out (by decide)))|(dsimp only;exact Kd.own_blk (Kd.R_ne HO_9.out BK519.out (by decide)))) _).trans (((cell_far (p:=⟨gb519,_,none⟩) (by first|exact Kd.own_blk (Kd.R_ne HO_9.out BK519.out (by decide))|(rw [add_block];exact Kd.own_blk (Kd.R_ne HO_9.out BK519.out (by decide)))|(show (Addr.add _ _).block ≠ _;rw [add_block];exact Kd.own_blk (Kd.R_ne HO_9.out BK519.out (by decide)))|(dsimp only;exact Kd.own_blk (Kd.R_ne HO_9.out BK519.out (by decide)))) _).trans (((cell_far (p:=⟨gb519,_,none⟩) (by first|exact Kd.own_blk (Kd.R_ne HO_9.out BK519.out (by decide))|(rw [add_block];exact Kd.own_blk (Kd.R_ne HO_9.out BK519.out (by decide)))|(show (Addr.add _ _).block ≠ _;rw [add_block];exact Kd.own_blk (Kd.R_ne HO_9.out BK519.out (by decide)))|(dsimp only;exact Kd.own_blk (Kd.R_ne HO_9.out BK519.out (by decide)))) _).trans (((cell_far (p:=⟨gb519,_,none⟩) (by first|exact Kd.own_blk (Kd.R_ne HO_9.out BK519.out (by decide))|(rw [add_block];exact Kd.own_blk (Kd.R_ne HO_9.out BK519.out (by decide)))|(show (Addr.add _ _).block ≠ _;rw [add_block];exact Kd.own_blk (Kd.R_ne HO_9.out BK519.out (by decide)))|(dsimp only;exact Kd.own_blk (Kd.R_ne HO_9.out BK519.out (by decide)))) _).trans (((cell_far (p:=⟨gb519,_,none⟩) (by first|exact Kd.own_blk (Kd.R_ne HO_9.out BK519.out (by decide))|(rw [add_block];exact Kd.own_blk (Kd.R_ne HO_9.out BK519.out (by decide)))|(show (Addr.add _ _).block ≠ _;rw [add_block];exact Kd.own_blk (Kd.R_ne HO_9.out BK519.out (by decide)))|(dsimp only;exact Kd.own_blk (Kd.R_ne HO_9.out BK519.out (by decide)))) _).trans (((cell_far (p:=⟨gb519,_,none⟩) (by first|exact Kd.own_blk (Kd.R_ne HO_9.out BK519.out (by decide))|(rw [add_block];exact Kd.own_blk (Kd.R_ne HO_9.out BK519.out (by decide)))|(show (Addr.add _ _).block ≠ _;rw [add_block];exact Kd.own_blk (Kd.R_ne HO_9.out BK519.out (by decide)))|(dsimp only;exact Kd.own_blk (Kd.R_ne HO_9.out BK519.out (by decide)))) _).trans (((cell_far (p:=⟨gb519,_,none⟩) (by first|exact Kd.own_blk (Kd.R_ne HO_9.out BK519.out (by decide))|(rw [add_block];exact Kd.own_blk (Kd.R_ne HO_9.out BK519.out (by decide)))|(show (Addr.add _ _).block ≠ _;rw [add_block];exact Kd.own_blk (Kd.R_ne HO_9.out BK519.out (by decide)))|(dsimp only;exact Kd.own_blk (Kd.R_ne HO_9.out BK519.out (by decide)))) _).trans (((cell_far (p:=⟨gb519,_,none⟩) (by first|exact Kd.own_blk (Kd.R_ne HO_9.out BK519.out (by decide))|(rw [add_block];exact Kd.own_blk (Kd.R_ne HO_9.out BK519.out (by decide)))|(show (Addr.add _ _).block ≠ _;rw [add_block];exact Kd.own_blk (Kd.R_ne HO_9.out BK519.out (by decide)))|(dsimp only;exact Kd.own_blk (Kd.R_ne HO_9.out BK519.out (by decide)))) _).trans (hHeld.2))))))))))))))))))))))))⟩ (fun hHeld=>?_)
     clear hK K
     refine pure_ (i:=24) (N:=some 16) (v:=?_) (a':=?_) #[J,J,J,J,J,J,J,J,J,J,J,J,J,J,J,J,J,J,J,J,J,J,J,J,J,O] rfl rfl (any_of HT_.out (by kernel_rfl)) (fun _ _ _ h=>h) (Or.inl ⟨by rfl,?_⟩) ?_ ?_
     rotate_left
     ·intro w'
      go_simp
      with_reducible rfl
     rotate_left
     ·simp only [Act.put,sT,sZ,sS,iW,iV]
      rfl
     refine pure_ (i:=25) (N:=some 17) (v:=?_) (a':=?_) #[J,J,J,J,J,J,J,J,J,J,J,J,J,J,J,J,J,J,J,J,J,J,J,J,J,J] rfl rfl (any_of HT_.out (by kernel_rfl)) (fun _ _ _ h=>h) (Or.inl ⟨by rfl,?_⟩) ?_ ?_
     rotate_left
     ·intro w'
      go_simp
      with_reducible rfl
     rotate_left
     ·simp only [Act.put,sT,sZ,sS,iW,iV]
      rfl
     refine done_ (done_of HT_.out (by kernel_rfl)) ?_
     try go_wp2_with (first|(go_at_call 10;(with_reducible refine (gangerlaw10_known.calls kj30  t520 _ ?side1 A63.out).mono ?_);(case side1=>exact Glob.below HG.out (by repeat (first|(with_reducible first|exact HB.out|apply bL|apply pN|apply bE|refine bS ?_ GE463.out|refine bS ?_ GE496.out|refine bS ?_ GE519.out)|exact HB.out)));rintro e w83 ⟨rfl,hb⟩;have n0_:=Am (Kd.R_below (by (with_reducible repeat (first|apply Kd.R_alloc|apply Kd.R_drewN|apply Kd.R_drew));exact (Kd.R_mono (rf12 (g:=gb519) (Kd.R_types HO_9.out BK519.out (by decide)) (fun _ hk=>hk.2)) (fun _ h_=>h_.1))) hb);have n1_:=Am (Kd.R_below (by (with_reducible repeat (first|apply Kd.R_alloc|apply Kd.R_drewN|apply Kd.R_drew));exact (Kd.R_mono (rf12 (g:=gb519) (Kd.R_types HO_497009.out BK519.out (by decide)) (fun _ hk=>hk.2)) (fun _ h_=>h_.1))) hb);have n2_:=Am (Kd.R_below (by (with_reducible repeat (first|apply Kd.R_alloc|apply Kd.R_drewN|apply Kd.R_drew));exact (Kd.R_mono (rf12 (g:=gb519) (Kd.R_types HO_497010.out BK519.out (by decide)) (fun _ hk=>hk.2)) (fun _ h_=>h_.1))) hb);have n3_:=Am (Kd.R_below (by (with_reducible repeat (first|apply Kd.R_alloc|apply Kd.R_drewN|apply Kd.R_drew));exact (Kd.R_mono (rf12 (g:=gb519) (Kd.R_types HO_497011.out BK519.out (by decide)) (fun _ hk=>hk.2)) (fun _ h_=>h_.1))) hb);have n4_:=Am (Kd.R_below (by (with_reducible repeat (first|apply Kd.R_alloc|apply Kd.R_drewN|apply Kd.R_drew));exact (Kd.R_mono (rf12 (g:=gb519) (Kd.R_types HO510.out BK519.out (by decide)) (fun _ hk=>hk.2)) (fun _ h_=>h_.1))) hb);have n5_:=Am (Kd.R_below (by (with_reducible repeat (first|apply Kd.R_alloc|apply Kd.R_drewN|apply Kd.R_drew));exact (Kd.R_mono (rf12 (g:=gb519) (Kd.R_types HO513.out BK519.out (by decide)) (fun _ hk=>hk.2)) (fun _ h_=>h_.1))) hb);have n6_:=Am (Kd.R_below (by (with_reducible repeat (first|apply Kd.R_alloc|apply Kd.R_drewN|apply Kd.R_drew));exact (Kd.R_mono (rf12 (g:=gb519) (Kd.R_types HO516.out BK519.out (by decide)) (fun _ hk=>hk.2)) (fun _ h_=>h_.1))) hb);have n7_:=Am (blk_below (g:=gb463) (o:=.cells #[.int .i64 a0_0,.int .i64 a0_1,.int .i64 a0_2,.int .i64 a0_3,.int .i64 a0_4,.int .i64 a0_5,.int .i64 a0_6,.int .i64 a0_7,.int .i64 a0_8,.slice A0_9 l0_9.length c0_9,.slice A0_10 l0_10.length c0_10,.slice A0_11 l0_11.length c0_11] 28 (0,0)) (by (with_reducible repeat (first|refine bN ?_ _|refine bD ?_|refine bA ?_ _));refine blk_far ?_ NB463_519.out _;(with_reducible repeat (first|refine bN ?_ _|refine bD ?_|refine bA ?_ _));refine blk_far ?_ NB463_519.out _;(with_reducible repeat (first|refine bN ?_ _|refine bD ?_|refine bA ?_ _));refine blk_far ?_ NB463_519.out _;(with_reducible repeat (first|refine bN ?_ _|refine bD ?_|refine bA ?_ _));refine blk_far ?_ NB463_519.out _;(with_reducible repeat (first|refine bN ?_ _|refine bD ?_|refine bA ?_ _));refine blk_far ?_ NB463_519.out _;(with_reducible repeat (first|refine bN ?_ _|refine bD ?_|refine bA ?_ _));refine blk_far ?_ NB463_519.out _;(with_reducible repeat (first|refine bN ?_ _|refine bD ?_|refine bA ?_ _));refine blk_far ?_ NB463_519.out _;(with_reducible repeat (first|refine bN ?_ _|refine bD ?_|refine bA ?_ _));refine blk_far ?_ NB463_519.out _;(with_reducible repeat (first|refine bN ?_ _|refine bD ?_|refine bA ?_ _));refine blk_far ?_ NB463_519.out _;(with_reducible repeat (first|refine bN ?_ _|refine bD ?_|refine bA ?_ _));refine blk_far ?_ NB463_519.out _;(with_reducible repeat (first|refine bN ?_ _|refine bD ?_|refine bA ?_ _));refine blk_far ?_ NB463_519.out _;(with_reducible repeat (first|refine bN ?_ _|refine bD ?_|refine bA ?_ _));refine blk_far ?_ NB463_519.out _;(with_reducible repeat (first|refine bN ?_ _|refine bD ?_|refine bA ?_ _));exact BK463.out) hb);have n8_:=Am (blk_below (g:=gb496) (o:=.cells #[.int .i64 t476,.int .i64 t477,.int .i64 t478,.int .i64 t479,.int .i64 t480,.int .i64 t481,.int .i64 t482,.int .i64 t483,.int .i64 t484,.slice Ao40 t485.length co40,.slice Ao41 t488.length co41,.slice Ao42 t491.length co42] 28 (0,0)) (by (with_reducible repeat (first|refine bN ?_ _|refine bD ?_|refine bA ?_ _));refine blk_far ?_ NB496_519.out _;(with_reducible repeat (first|refine bN ?_ _|refine bD ?_|refine bA ?_ _));refine blk_far ?_ NB496_519.out _;(with_reducible repeat (first|refine bN ?_ _|refine bD ?_|refine bA ?_ _));refine blk_far ?_ NB496_519.out _;(with_reducible repeat (first|refine bN ?_ _|refine bD ?_|refine bA ?_ _));refine blk_far ?_ NB496_519.out _;(with_reducible repeat (first|refine bN ?_ _|refine bD ?_|refine bA ?_ _));refine blk_far ?_ NB496_519.out _;(with_reducible repeat (first|refine bN ?_ _|refine bD ?_|refine bA ?_ _));refine blk_far ?_ NB496_519.out _;(with_reducible repeat (first|refine bN ?_ _|refine bD ?_|refine bA ?_ _));refine blk_far ?_ NB496_519.out _;(with_reducible repeat (first|refine bN ?_ _|refine bD ?_|refine bA ?_ _));refine blk_far ?_ NB496_519.out _;(with_reducible repeat (first|refine bN ?_ _|refine bD ?_|refine bA ?_ _));refine blk_far ?_ NB496_519.out _;(with_reducible repeat (first|refine bN ?_ _|refine bD ?_|refine bA ?_ _));refine blk_far ?_ NB496_519.out _;(with_reducible repeat (first|refine bN ?_ _|refine bD ?_|refine bA ?_ _));refine blk_far ?_ NB496_519.out _;(with_reducible repeat (first|refine bN ?_ _|refine bD ?_|refine bA ?_ _));refine blk_far ?_ NB496_519.out _;(with_reducible repeat (first|refine bN ?_ _|refine bD ?_|refine bA ?_ _));exact BK496.out) hb);have n9_:=Am (blk_below (g:=gb519) (o:=.cells #[.int .i64 t499,.int .i64 t500,.int .i64 t501,.int .i64 t502,.int .i64 t503,.int .i64 t504,.int .i64 t505,.int .i64 t506,.int .i64 t507,.slice Ao77 t508.length co77,.slice Ao79 t511.length co79,.slice Ao81 t514.length co81] 28 (0,0)) (by (with_reducible repeat (first|refine bN ?_ _|refine bD ?_|refine bA ?_ _));refine blk_put (cs:=#[.int .i64 t499,.int .i64 t500,.int .i64 t501,.int .i64 t502,.int .i64 t503,.int .i64 t504,.int .i64 t505,.int .i64 t506,.int .i64 t507,.slice Ao77 t508.length co77,.slice Ao79 t511.length co79,.slice none 0 0]) ?_ 11 _ rfl;(with_reducible repeat (first|refine bN ?_ _|refine bD ?_|refine bA ?_ _));refine blk_put (cs:=#[.int .i64 t499,.int .i64 t500,.int .i64 t501,.int .i64 t502,.int .i64 t503,.int .i64 t504,.int .i64 t505,.int .i64 t506,.int .i64 t507,.slice Ao77 t508.length co77,.slice none 0 0,.slice none 0 0]) ?_ 10 _ rfl;(with_reducible repeat (first|refine bN ?_ _|refine bD ?_|refine bA ?_ _));refine blk_put (cs:=#[.int .i64 t499,.int .i64 t500,.int .i64 t501,.int .i64 t502,.int .i64 t503,.int .i64 t504,.int .i64 t505,.int .i64 t506,.int .i64 t507,.slice none 0 0,.slice none 0 0,.slice none 0 0]) ?_ 9 _ rfl;(with_reducible repeat (first|refine bN ?_ _|refine bD ?_|refine bA ?_ _));refine blk_put (cs:=#[.int .i64 t499,.int .i64 t500,.int .i64 t501,.int .i64 t502,.int .i64 t503,.int .i64 t504,.int .i64 t505,.int .i64 t506,.int .i64 0,.slice none 0 0,.slice none 0 0,.slice none 0 0]) ?_ 8 _ rfl;(with_reducible repeat (first|refine bN ?_ _|refine bD ?_|refine bA ?_ _));refine blk_put (cs:=#[.int .i64 t499,.int .i64 t500,.int .i64 t501,.int .i64 t502,.int .i64 t503,.int .i64 t504,.int .i64 t505,.int .i64 0,.int .i64 0,.slice none 0 0,.slice none 0 0,.slice none 0 0]) ?_ 7 _ rfl;(with_reducible repeat (first|refine bN ?_ _|refine bD ?_|refine bA ?_ _));refine blk_put (cs:=#[.int .i64 t499,.int .i64 t500,.int .i64 t501,.int .i64 t502,.int .i64 t503,.int .i64 t504,.int .i64 0,.int .i64 0,.int .i64 0,.slice none 0 0,.slice none 0 0,.slice none 0 0]) ?_ 6 _ rfl;(with_reducible repeat (first|refine bN ?_ _|refine bD ?_|refine bA ?_ _));refine blk_put (cs:=#[.int .i64 t499,.int .i64 t500,.int .i64 t501,.int .i64 t502,.int .i64 t503,.int .i64 0,.int .i64 0,.int .i64 0,.int .i64 0,.slice none 0 0,.slice none 0 0,.slice none 0 0]) ?_ 5 _ rfl;(with_reducible repeat (first|refine bN ?_ _|refine bD ?_|refine bA ?_ _));refine blk_put (cs:=#[.int .i64 t499,.int .i64 t500,.int .i64 t501,.int .i64 t502,.int .i64 0,.int .i64 0,.int .i64 0,.int .i64 0,.int .i64 0,.slice none 0 0,.slice none 0 0,.slice none 0 0]) ?_ 4 _ rfl;(with_reducible repeat (first|refine bN ?_ _|refine bD ?_|refine bA ?_ _));refine blk_put (cs:=#[.int .i64 t499,.int .i64 t500,.int .i64 t501,.int .i64 0,.int .i64 0,.int .i64 0,.int .i64 0,.int .i64 0,.int .i64 0,.slice none 0 0,.slice none 0 0,.slice none 0 0]) ?_ 3 _ rfl;(with_reducible repeat (first|refine bN ?_ _|refine bD ?_|refine bA ?_ _));refine blk_put (cs:=#[.int .i64 t499,.int .i64 t500,.int .i64 0,.int .i64 0,.int .i64 0,.int .i64 0,.int .i64 0,.int .i64 0,.int .i64 0,.slice none 0 0,.slice none 0 0,.slice none 0 0]) ?_ 2 _ rfl;(with_reducible repeat (first|refine bN ?_ _|refine bD ?_|refine bA ?_ _));refine blk_put (cs:=#[.int .i64 t499,.int .i64 0,.int .i64 0,.int .i64 0,.int .i64 0,.int .i64 0,.int .i64 0,.int .i64 0,.int .i64 0,.slice none 0 0,.slice none 0 0,.slice none 0 0]) ?_ 1 _ rfl;(with_reducible repeat (first|refine bN ?_ _|refine bD ?_|refine bA ?_ _));refine blk_put (cs:=#[.int .i64 0,.int .i64 0,.int .i64 0,.int .i64 0,.int .i64 0,.int .i64 0,.int .i64 0,.int .i64 0,.int .i64 0,.slice none 0 0,.slice none 0 0,.slice none 0 0]) ?_ 0 _ rfl;(with_reducible repeat (first|refine bN ?_ _|refine bD ?_|refine bA ?_ _));exact BK519.out) hb);have n10_:=Am (below_step (by repeat (first|(with_reducible first|exact HB.out|apply bL|apply pN|apply bE|refine bS ?_ GE463.out|refine bS ?_ GE496.out|refine bS ?_ GE519.out)|exact HB.out)) hb);clear HO_9;clear HO_497009;clear HO_497010;clear HO_497011;clear HO510;clear HO513;clear HO516;clear BK463;clear BK496;clear BK519;clear HB;have HO_9:=n0_;have HO_497009:=n1_;have HO_497010:=n2_;have HO_497011:=n3_;have HO510:=n4_;have HO513:=n5_;have HO516:=n6_;have BK463:=n7_;have BK496:=n8_;have BK519:=n9_;have HB:=n10_;clear n0_ n1_ n2_ n3_ n4_ n5_ n6_ n7_ n8_ n9_ n10_))
     go_ret
     exact ⟨by first|rfl|(simp [errW_none,errW_some] <;> rfl)|(simp only [← hji25];first|rfl|(simp [errW_none,errW_some] <;> rfl))|(simp [*,errW_none,errW_some] <;> rfl),by repeat (first|(with_reducible first|exact HB.out|apply bL|apply pN|apply bE|refine bS ?_ GE463.out|refine bS ?_ GE496.out|refine bS ?_ GE519.out)|exact HB.out)⟩
def gangerlaw10_ConfLines.Pure : Prop:=∀ (a0_0 : Int) (a0_1 : Int) (a0_2 : Int) (a0_3 : Int) (a0_4 : Int) (a0_5 : Int) (a0_6 : Int) (a0_7 : Int) (a0_8 : Int) (l0_9 : List (S50)) (l0_10 : List (S52)) (l0_11 : List (S48)) (a1 : Int) (a2 : ByteArray),(((Lit.int .i64 a0_0).wf = true)∧(((Lit.int .i64 a0_1).wf = true)∧(((Lit.int .i64 a0_2).wf = true)∧(((Lit.int .i64 a0_3).wf = true)∧((((Lit.int .i64 a0_4).wf = true)∧(((Lit.int .i64 a0_5).wf = true)∧(((Lit.int .i64 a0_6).wf = true)∧(((Lit.int .i64 a0_7).wf = true)∧((Lit.int .i64 a0_8).wf = true)))))∧((l0_9.length≤maxLen∧∀ x4 ∈ l0_9,((x4.f0.size≤maxLen)∧(((Lit.int .i64 x4.f1).wf = true)∧(((Lit.int .i64 x4.f2).wf = true)∧((Lit.int .i64 x4.f3).wf = true)))))∧((l0_10.length≤maxLen∧∀ x5 ∈ l0_10,((x5.f0.size≤maxLen)∧(((Lit.int .i64 x5.f1).wf = true)∧((Lit.int .i64 x5.f2).wf = true))))∧(l0_11.length≤maxLen∧∀ x5 ∈ l0_11,((x5.f0.size≤maxLen)∧((x5.f1.size≤maxLen)∧((Lit.int .i64 x5.f2).wf = true)))))))))))→((Lit.int .i64 a1).wf = true)→a2.size≤140737488351232→∃ k,gangerlaw10_ConfLines.f k a0_0 a0_1 a0_2 a0_3 a0_4 a0_5 a0_6 a0_7 a0_8 l0_9 l0_10 l0_11 a1 a2 = some true
end Go.Proofs.YtgidipomfbikiaaDoor.P
