/- cut to what one law reaches -/
import Derived.Test.YtgidipomfbikiaaDoorTwShort
import Derived.Test.YtgidipomfbikiaaDoorTwP0
import Derived.Test.YtgidipomfbikiaaDoorTwP7
namespace Go.Proofs.YtgidipomfbikiaaDoor.P
open Go.RowKit Go.Proofs.YtgidipomfbikiaaDoorW.PrintWords Go.Proofs.YtgidipomfbikiaaDoorW.PrintLast Go.Proofs.YtgidipomfbikiaaDoorW.PrintMore
attribute [local go_sem] max2_int min2_int max_two min_two max_three min_three max_four min_four   -- for this text's walks alone
set_option linter.unusedVariables false
set_option linter.unusedSimpArgs false
attribute [local go_sem] isSome_setCell
mutual
def conf_Print.l0 : Nat→ByteArray→List (S50)→Int→Int→Int→Int→Int→Int→Int→Int→Int→Int→Int→List (S50)→List (S52)→List (S48)→Option (ByteArray × Int)
 | 0,_,_,_,_,_,_,_,_,_,_,_,_,_,_,_,_=>none
 | k + 1,x6,x66,x67,x68,u_0,u_1,u_2,u_3,u_4,u_5,u_6,u_7,u_8,u_9,u_10,u_11=>if x68 < x67 then (if 0≤x68 then (if x68 < (x66.length : Int) then ((strconv_Itoa_30.f ((rd_T50 x66 x68).f1)).bind fun t184=>((strconv_Itoa_30.f ((rd_T50 x66 x68).f2)).bind fun t185=>((strconv_Itoa_30.f ((rd_T50 x66 x68).f3)).bind fun t186=>((conf_row.f (([(⟨#[112,97,114,116,105,116,105,111,110]⟩ : ByteArray),(rd_T50 x66 x68).f0,(⟨#[111,114,100,101,114]⟩ : ByteArray),t184,(⟨#[112,114,105,111,114,105,116,121]⟩ : ByteArray),t185,(⟨#[108,105,109,105,116]⟩ : ByteArray),t186] : List ByteArray))).bind fun t190=>(if x6.size + t190.size≤9223372036854775807 then (conf_Print.l0 k (x6 ++ t190) x66 x67 (wrap64 (x68 + 1)) u_0 u_1 u_2 u_3 u_4 u_5 u_6 u_7 u_8 u_9 u_10 u_11) else (none)))))) else (none)) else (none)) else (conf_Print.l1 k x6 u_10 (u_10.length : Int) 0 u_0 u_1 u_2 u_3 u_4 u_5 u_6 u_7 u_8 u_9 u_10 u_11)
def conf_Print.l1 : Nat→ByteArray→List (S52)→Int→Int→Int→Int→Int→Int→Int→Int→Int→Int→Int→List (S50)→List (S52)→List (S48)→Option (ByteArray × Int)
 | 0,_,_,_,_,_,_,_,_,_,_,_,_,_,_,_,_=>none
 | k + 1,x6,x89,x90,x91,u_0,u_1,u_2,u_3,u_4,u_5,u_6,u_7,u_8,u_9,u_10,u_11=>if x91 < x90 then (if 0≤x91 then (if x91 < (x89.length : Int) then ((strconv_Itoa_30.f ((rd_T52 x89 x91).f1)).bind fun t193=>((strconv_Itoa_30.f ((rd_T52 x89 x91).f2)).bind fun t194=>((conf_row.f (([(⟨#[113,111,115]⟩ : ByteArray),(rd_T52 x89 x91).f0,(⟨#[112,114,105,111,114,105,116,121]⟩ : ByteArray),t193,(⟨#[109,111,115,116]⟩ : ByteArray),t194] : List ByteArray))).bind fun t198=>(if x6.size + t198.size≤9223372036854775807 then (conf_Print.l1 k (x6 ++ t198) x89 x90 (wrap64 (x91 + 1)) u_0 u_1 u_2 u_3 u_4 u_5 u_6 u_7 u_8 u_9 u_10 u_11) else (none))))) else (none)) else (none)) else (conf_Print.l2 k x6 u_11 (u_11.length : Int) 0)
def conf_Print.l2 : Nat→ByteArray→List (S48)→Int→Int→Option (ByteArray × Int)
 | 0,_,_,_,_=>none
 | k + 1,x6,x109,x110,x111=>if x111 < x110 then (if 0≤x111 then (if x111 < (x109.length : Int) then (if ((rd_T48 x109 x111).f1).toList = ([] : List UInt8) then (if ((rd_T48 x109 x111).f0).size + 0≤9223372036854775807 then ((strconv_Itoa_30.f ((rd_T48 x109 x111).f2)).bind fun t201=>((conf_row.f (([(⟨#[97,99,99,111,117,110,116]⟩ : ByteArray),((rd_T48 x109 x111).f0) ++ (⟨#[]⟩ : ByteArray),(⟨#[115,104,97,114,101,115]⟩ : ByteArray),t201] : List ByteArray))).bind fun t205=>(if x6.size + t205.size≤9223372036854775807 then (conf_Print.l2 k (x6 ++ t205) x109 x110 (wrap64 (x111 + 1))) else (none)))) else (none)) else (if 8 + ((rd_T48 x109 x111).f1).size≤9223372036854775807 then (if ((rd_T48 x109 x111).f0).size + ((⟨#[32,112,97,114,101,110,116,32]⟩ : ByteArray) ++ ((rd_T48 x109 x111).f1)).size≤9223372036854775807 then ((strconv_Itoa_30.f ((rd_T48 x109 x111).f2)).bind fun t206=>((conf_row.f (([(⟨#[97,99,99,111,117,110,116]⟩ : ByteArray),((rd_T48 x109 x111).f0) ++ ((⟨#[32,112,97,114,101,110,116,32]⟩ : ByteArray) ++ ((rd_T48 x109 x111).f1)),(⟨#[115,104,97,114,101,115]⟩ : ByteArray),t206] : List ByteArray))).bind fun t210=>(if x6.size + t210.size≤9223372036854775807 then (conf_Print.l2 k (x6 ++ t210) x109 x110 (wrap64 (x111 + 1))) else (none)))) else (none)) else (none))) else (none)) else (none)) else (some (x6,0))
end
def conf_Print.f (k : Nat) (a0_0 : Int) (a0_1 : Int) (a0_2 : Int) (a0_3 : Int) (a0_4 : Int) (a0_5 : Int) (a0_6 : Int) (a0_7 : Int) (a0_8 : Int) (l0_9 : List (S50)) (l0_10 : List (S52)) (l0_11 : List (S48)) : Option (ByteArray × Int):=(conf_Check.f k a0_0 a0_1 a0_2 a0_3 a0_4 a0_5 a0_6 a0_7 a0_8 l0_9 l0_10 l0_11).bind fun t148=>(if t148 = 0 then ((conf_policies.f).bind fun t150=>(if 0≤a0_0 then (if a0_0 < (t150.length : Int) then ((conf_row.f (([(⟨#[112,111,108,105,99,121]⟩ : ByteArray),rdOf ByteArray.empty t150 a0_0] : List ByteArray))).bind fun t157=>((strconv_Itoa_30.f a0_1).bind fun t158=>((conf_row.f (([(⟨#[104,97,108,102]⟩ : ByteArray),t158] : List ByteArray))).bind fun t162=>(if t157.size + t162.size≤9223372036854775807 then ((strconv_Itoa_30.f a0_2).bind fun t163=>((conf_row.f (([(⟨#[113,117,97,110,116,117,109]⟩ : ByteArray),t163] : List ByteArray))).bind fun t167=>(if (t157 ++ t162).size + t167.size≤9223372036854775807 then ((strconv_Itoa_30.f a0_3).bind fun t168=>((conf_row.f (([(⟨#[114,101,113,117,101,117,101,115]⟩ : ByteArray),t168] : List ByteArray))).bind fun t172=>(if ((t157 ++ t162) ++ t167).size + t172.size≤9223372036854775807 then ((strconv_Itoa_30.f a0_4).bind fun t173=>((strconv_Itoa_30.f a0_5).bind fun t174=>((strconv_Itoa_30.f a0_6).bind fun t175=>((strconv_Itoa_30.f a0_7).bind fun t176=>((strconv_Itoa_30.f a0_8).bind fun t177=>((conf_row.f (([(⟨#[119,101,105,103,104,116,115]⟩ : ByteArray),t173,t174,t175,t176,t177] : List ByteArray))).bind fun t181=>(if (((t157 ++ t162) ++ t167) ++ t172).size + t181.size≤9223372036854775807 then (conf_Print.l0 k ((((t157 ++ t162) ++ t167) ++ t172) ++ t181) l0_9 (l0_9.length : Int) 0 a0_0 a0_1 a0_2 a0_3 a0_4 a0_5 a0_6 a0_7 a0_8 l0_9 l0_10 l0_11) else (none)))))))) else (none)))) else (none)))) else (none))))) else (none)) else (none))) else (some ((⟨#[]⟩ : ByteArray),t148)))
theorem conf_Print.mono_l : ∀ k,(∀ y0 y1 y2 y3 y4 y5 y6 y7 y8 y9 y10 y11 y12 y13 y14 y15,LeO (conf_Print.l0 k y0 y1 y2 y3 y4 y5 y6 y7 y8 y9 y10 y11 y12 y13 y14 y15) (conf_Print.l0 (k + 1) y0 y1 y2 y3 y4 y5 y6 y7 y8 y9 y10 y11 y12 y13 y14 y15))∧(∀ y0 y1 y2 y3 y4 y5 y6 y7 y8 y9 y10 y11 y12 y13 y14 y15,LeO (conf_Print.l1 k y0 y1 y2 y3 y4 y5 y6 y7 y8 y9 y10 y11 y12 y13 y14 y15) (conf_Print.l1 (k + 1) y0 y1 y2 y3 y4 y5 y6 y7 y8 y9 y10 y11 y12 y13 y14 y15))∧(∀ y0 y1 y2 y3,LeO (conf_Print.l2 k y0 y1 y2 y3) (conf_Print.l2 (k + 1) y0 y1 y2 y3))
 | 0=>⟨fun _ _ _ _ _ _ _ _ _ _ _ _ _ _ _ _ r h=>by simp [conf_Print.l0] at h,fun _ _ _ _ _ _ _ _ _ _ _ _ _ _ _ _ r h=>by simp [conf_Print.l1] at h,fun _ _ _ _ r h=>by simp [conf_Print.l2] at h⟩
 | k + 1=>by
  obtain ⟨ih0,ih1,ih2⟩:=conf_Print.mono_l k
  refine ⟨?_,?_,?_⟩
  ·intro y0 y1 y2 y3 y4 y5 y6 y7 y8 y9 y10 y11 y12 y13 y14 y15
   unfold conf_Print.l0
   repeat' first
   | (with_reducible exact ih0 _ _ _ _ _ _ _ _ _ _ _ _ _ _ _ _)
   | (with_reducible exact ih1 _ _ _ _ _ _ _ _ _ _ _ _ _ _ _ _)
   | (with_reducible exact ih2 _ _ _ _)
   | (with_reducible exact conf_Check.mono _ _ _ _ _ _ _ _ _ _ _ _ _)
   | (with_reducible exact LeO.refl _)
   | (with_reducible exact LeO.none _)
   | (with_reducible refine LeO.ite ?_ ?_)
   | (with_reducible refine LeO.bind ?_ (fun _=>?_))
   | exact ih0 _ _ _ _ _ _ _ _ _ _ _ _ _ _ _ _
   | exact ih1 _ _ _ _ _ _ _ _ _ _ _ _ _ _ _ _
   | exact ih2 _ _ _ _
   | exact conf_Check.mono _ _ _ _ _ _ _ _ _ _ _ _ _
   | exact LeO.none _
   | refine LeO.ite ?_ ?_
   | refine LeO.bind ?_ (fun _=>?_)
  ·intro y0 y1 y2 y3 y4 y5 y6 y7 y8 y9 y10 y11 y12 y13 y14 y15
   unfold conf_Print.l1
   repeat' first
   | (with_reducible exact ih0 _ _ _ _ _ _ _ _ _ _ _ _ _ _ _ _)
   | (with_reducible exact ih1 _ _ _ _ _ _ _ _ _ _ _ _ _ _ _ _)
   | (with_reducible exact ih2 _ _ _ _)
   | (with_reducible exact conf_Check.mono _ _ _ _ _ _ _ _ _ _ _ _ _)
   | (with_reducible exact LeO.refl _)
   | (with_reducible exact LeO.none _)
   | (with_reducible refine LeO.ite ?_ ?_)
   | (with_reducible refine LeO.bind ?_ (fun _=>?_))
   | exact ih0 _ _ _ _ _ _ _ _ _ _ _ _ _ _ _ _
   | exact ih1 _ _ _ _ _ _ _ _ _ _ _ _ _ _ _ _
   | exact ih2 _ _ _ _
   | exact conf_Check.mono _ _ _ _ _ _ _ _ _ _ _ _ _
   | exact LeO.none _
   | refine LeO.ite ?_ ?_
   | refine LeO.bind ?_ (fun _=>?_)
  ·intro y0 y1 y2 y3
   unfold conf_Print.l2
   repeat' first
   | (with_reducible exact ih0 _ _ _ _ _ _ _ _ _ _ _ _ _ _ _ _)
   | (with_reducible exact ih1 _ _ _ _ _ _ _ _ _ _ _ _ _ _ _ _)
   | (with_reducible exact ih2 _ _ _ _)
   | (with_reducible exact conf_Check.mono _ _ _ _ _ _ _ _ _ _ _ _ _)
   | (with_reducible exact LeO.refl _)
   | (with_reducible exact LeO.none _)
   | (with_reducible refine LeO.ite ?_ ?_)
   | (with_reducible refine LeO.bind ?_ (fun _=>?_))
   | exact ih0 _ _ _ _ _ _ _ _ _ _ _ _ _ _ _ _
   | exact ih1 _ _ _ _ _ _ _ _ _ _ _ _ _ _ _ _
   | exact ih2 _ _ _ _
   | exact conf_Check.mono _ _ _ _ _ _ _ _ _ _ _ _ _
   | exact LeO.none _
   | refine LeO.ite ?_ ?_
   | refine LeO.bind ?_ (fun _=>?_)
theorem conf_Print.mono : ∀ a0 a1 a2 a3 a4 a5 a6 a7 a8 a9 a10 a11 k,LeO (conf_Print.f k a0 a1 a2 a3 a4 a5 a6 a7 a8 a9 a10 a11) (conf_Print.f (k + 1) a0 a1 a2 a3 a4 a5 a6 a7 a8 a9 a10 a11):=by
 intro a0 a1 a2 a3 a4 a5 a6 a7 a8 a9 a10 a11 k
 obtain ⟨ih0,ih1,ih2⟩:=conf_Print.mono_l k
 unfold conf_Print.f
 repeat' first
   | (with_reducible exact ih0 _ _ _ _ _ _ _ _ _ _ _ _ _ _ _ _)
   | (with_reducible exact ih1 _ _ _ _ _ _ _ _ _ _ _ _ _ _ _ _)
   | (with_reducible exact ih2 _ _ _ _)
   | (with_reducible exact conf_Check.mono _ _ _ _ _ _ _ _ _ _ _ _ _)
   | (with_reducible exact LeO.refl _)
   | (with_reducible exact LeO.none _)
   | (with_reducible refine LeO.ite ?_ ?_)
   | (with_reducible refine LeO.bind ?_ (fun _=>?_))
   | exact ih0 _ _ _ _ _ _ _ _ _ _ _ _ _ _ _ _
   | exact ih1 _ _ _ _ _ _ _ _ _ _ _ _ _ _ _ _
   | exact ih2 _ _ _ _
   | exact conf_Check.mono _ _ _ _ _ _ _ _ _ _ _ _ _
   | exact LeO.none _
   | refine LeO.ite ?_ ?_
   | refine LeO.bind ?_ (fun _=>?_)
def conf_Print.T5 : Bool × List (List Nat × List Nat):=(true,[([],[]),([],[]),([1],[1]),([0,2],[0,2]),([3],[3]),([4],[4]),([5,0],[5]),([],[]),([7],[7]),([8,6],[8]),([9],[9]),([10,9],[10]),([6,11],[6,11]),([],[]),([13],[13]),([14,11],[14]),([15],[15]),([16,15],[16]),([12,17],[12,17]),([],[]),([19],[19]),([20,17],[20]),([21],[21]),([22,21],[22]),([18,23],[18,23]),([24,23,0,1,2,3,4,5,6,7,8,9,10,11,12,13,14,15,16,17,18,19,20,21,22,23,24],[24])])
def conf_Print.B5 : List Nat:=[0,0,2,7,15,31,63,0,128,511,1023,2047,4095,0,8192,28671,61439,126975,262143,0,524288,1830911,3928063,8122367,16777215,33554431]
theorem conf_Print.tab5 : rtab .any (opsOf Tryd.f13 5) = conf_Print.T5:=by kernel_rfl
theorem conf_Print.bits5 : waitsOk conf_Print.T5.2 conf_Print.B5 = true:=by kernel_rfl
def conf_Print.T6 : Bool × List (List Nat × List Nat):=(true,[([],[]),([],[]),([1],[1]),([2],[2]),([],[]),([4],[4]),([5,3],[5]),([],[]),([7],[7]),([8,6],[8]),([],[]),([10],[10]),([11,9],[11]),([],[]),([13],[13]),([14,12],[14]),([3,6,9,12,15],[3,6,9,12,15]),([16,15],[16]),([0,17],[0,17]),([18,17,0,1,2,3,4,5,6,7,8,9,10,11,12,13,14,15,16,17,18],[0,18])])
def conf_Print.B6 : List Nat:=[0,0,2,6,0,16,62,0,128,510,0,1024,4094,0,8192,32766,65534,131070,262143,524287]
theorem conf_Print.tab6 : rtab .any (opsOf Tryd.f13 6) = conf_Print.T6:=by kernel_rfl
theorem conf_Print.bits6 : waitsOk conf_Print.T6.2 conf_Print.B6 = true:=by kernel_rfl
def conf_Print.T10 : Bool × List (List Nat × List Nat):=(true,[([],[]),([],[]),([1],[1]),([],[]),([3],[3]),([4],[4]),([],[]),([6],[6]),([7,5],[7]),([],[]),([9],[9]),([10,8],[10]),([2,5,8,11],[2,5,8,11]),([12,11],[12]),([0,13],[0,13]),([14,13,0,1,2,3,4,5,6,7,8,9,10,11,12,13,14],[0,14])])
def conf_Print.B10 : List Nat:=[0,0,2,0,8,24,0,64,248,0,512,2040,4094,8190,16383,32767]
theorem conf_Print.tab10 : rtab .any (opsOf Tryd.f13 10) = conf_Print.T10:=by kernel_rfl
theorem conf_Print.bits10 : waitsOk conf_Print.T10.2 conf_Print.B10 = true:=by kernel_rfl
def conf_Print.T15 : Bool × List (List Nat × List Nat):=(true,[([],[]),([],[]),([1],[1]),([],[]),([3],[3]),([4],[4]),([],[]),([6],[6]),([7,5],[7]),([2,5,8],[2,5,8]),([9,8],[9]),([0,10],[0,10]),([11,10,0,1,2,3,4,5,6,7,8,9,10,11],[0,11])])
def conf_Print.B15 : List Nat:=[0,0,2,0,8,24,0,64,248,510,1022,2047,4095]
theorem conf_Print.tab15 : rtab .any (opsOf Tryd.f13 15) = conf_Print.T15:=by kernel_rfl
theorem conf_Print.bits15 : waitsOk conf_Print.T15.2 conf_Print.B15 = true:=by kernel_rfl
def conf_Print.T23 : Bool × List (List Nat × List Nat):=(true,[([],[]),([],[]),([1],[1]),([],[]),([2,3],[2,3]),([],[]),([5],[5]),([6],[6]),([4,7],[4,7]),([8,7],[8]),([0,9],[0,9]),([10,9,0,1,2,3,4,5,6,7,8,9,10],[0,10])])
def conf_Print.B23 : List Nat:=[0,0,2,0,14,0,32,96,254,510,1023,2047]
theorem conf_Print.tab23 : rtab .any (opsOf Tryd.f13 23) = conf_Print.T23:=by kernel_rfl
theorem conf_Print.bits23 : waitsOk conf_Print.T23.2 conf_Print.B23 = true:=by kernel_rfl
set_option maxHeartbeats 8000000 in
set_option maxRecDepth 100000 in
theorem conf_Print.calls (k : Nat) (a0_0 : Int) (a0_1 : Int) (a0_2 : Int) (a0_3 : Int) (a0_4 : Int) (a0_5 : Int) (a0_6 : Int) (a0_7 : Int) (a0_8 : Int) (A0_9 : Option Addr) (c0_9 : Nat) (l0_9 : List (S50)) (A0_10 : Option Addr) (c0_10 : Nat) (l0_10 : List (S52)) (A0_11 : Option Addr) (c0_11 : Nat) (l0_11 : List (S48)) (r1 : ByteArray) (r2 : Int) (w : World) (hG : Glob w) (hr0_9 : Kd.C k50 w A0_9 l0_9.length l0_9) (hc0_9 : l0_9.length≤c0_9) (hr0_10 : Kd.C k52 w A0_10 l0_10.length l0_10) (hc0_10 : l0_10.length≤c0_10) (hr0_11 : Kd.C k48 w A0_11 l0_11.length l0_11) (hc0_11 : l0_11.length≤c0_11) (h : conf_Print.f k a0_0 a0_1 a0_2 a0_3 a0_4 a0_5 a0_6 a0_7 a0_8 l0_9 l0_10 l0_11 = some (r1,r2)) :
  Calls Tryd.prog 13 #[.agg #[.int .i64 a0_0,.int .i64 a0_1,.int .i64 a0_2,.int .i64 a0_3,.int .i64 a0_4,.int .i64 a0_5,.int .i64 a0_6,.int .i64 a0_7,.int .i64 a0_8,.slice A0_9 l0_9.length c0_9,.slice A0_10 l0_10.length c0_10,.slice A0_11 l0_11.length c0_11]] w fun e w'=>e = .returned (.tuple #[.string r1,.int .i64 r2])∧Below w.heap.size w w':=by
 have hu28:=Tryd.underlying28
 have hu23:=Tryd.underlying23
 have hu50:=Tryd.underlying50
 have hu52:=Tryd.underlying52
 have hu48:=Tryd.underlying48
 have HG:=Am hG
 clear hG
 have HR0_9:=Am hr0_9
 have HC0_9:=Am hc0_9
 clear hr0_9 hc0_9
 have HR0_10:=Am hr0_10
 have HC0_10:=Am hc0_10
 clear hr0_10 hc0_10
 have HR0_11:=Am hr0_11
 have HC0_11:=Am hc0_11
 clear hr0_11 hc0_11
 have HB:=Am (Below.refl w.heap.size w)
 have H : ((conf_Check.f k a0_0 a0_1 a0_2 a0_3 a0_4 a0_5 a0_6 a0_7 a0_8 l0_9 l0_10 l0_11).bind fun t148=>(if t148 = 0 then ((conf_policies.f).bind fun t150=>(if 0≤a0_0 then (if a0_0 < (t150.length : Int) then ((conf_row.f (([(⟨#[112,111,108,105,99,121]⟩ : ByteArray),rdOf ByteArray.empty t150 a0_0] : List ByteArray))).bind fun t157=>((strconv_Itoa_30.f a0_1).bind fun t158=>((conf_row.f (([(⟨#[104,97,108,102]⟩ : ByteArray),t158] : List ByteArray))).bind fun t162=>(if t157.size + t162.size≤9223372036854775807 then ((strconv_Itoa_30.f a0_2).bind fun t163=>((conf_row.f (([(⟨#[113,117,97,110,116,117,109]⟩ : ByteArray),t163] : List ByteArray))).bind fun t167=>(if (t157 ++ t162).size + t167.size≤9223372036854775807 then ((strconv_Itoa_30.f a0_3).bind fun t168=>((conf_row.f (([(⟨#[114,101,113,117,101,117,101,115]⟩ : ByteArray),t168] : List ByteArray))).bind fun t172=>(if ((t157 ++ t162) ++ t167).size + t172.size≤9223372036854775807 then ((strconv_Itoa_30.f a0_4).bind fun t173=>((strconv_Itoa_30.f a0_5).bind fun t174=>((strconv_Itoa_30.f a0_6).bind fun t175=>((strconv_Itoa_30.f a0_7).bind fun t176=>((strconv_Itoa_30.f a0_8).bind fun t177=>((conf_row.f (([(⟨#[119,101,105,103,104,116,115]⟩ : ByteArray),t173,t174,t175,t176,t177] : List ByteArray))).bind fun t181=>(if (((t157 ++ t162) ++ t167) ++ t172).size + t181.size≤9223372036854775807 then (conf_Print.l0 k ((((t157 ++ t162) ++ t167) ++ t172) ++ t181) l0_9 (l0_9.length : Int) 0 a0_0 a0_1 a0_2 a0_3 a0_4 a0_5 a0_6 a0_7 a0_8 l0_9 l0_10 l0_11) else (none)))))))) else (none)))) else (none)))) else (none))))) else (none)) else (none))) else (some ((⟨#[]⟩ : ByteArray),t148)))) = some (r1,r2):=h
 clear h
 replace H:=oB H
 obtain ⟨t148,A20,H⟩:=H
 try dsimp only at H
 have A2:=Am A20
 clear A20
 by_cases c3 : t148 = 0
 rotate_left
 ·rw [if_neg c3] at H
  have c3b0 : (t148 == 0) = false:=beq_eq_false_iff_ne.mpr c3
  have c3b1 : (t148 != 0) = true:=bne_iff_ne.mpr c3
  simp only [Option.some.injEq,Prod.mk.injEq] at H
  obtain ⟨rfl,rfl⟩:=H
  go_enter Tryd.func13,Tryd.ntmps13
  go_wp2_with (first|((with_reducible refine gD (N:=1) rfl ?_);refine box_event ?hg (N:=1) ?hd (cs:=#[.int .i64 a0_0,.int .i64 a0_1,.int .i64 a0_2,.int .i64 a0_3,.int .i64 a0_4,.int .i64 a0_5,.int .i64 a0_6,.int .i64 a0_7,.int .i64 a0_8,.slice A0_9 l0_9.length c0_9,.slice A0_10 l0_10.length c0_10,.slice A0_11 l0_11.length c0_11]) (t:=28) ?hr ?_;(case hd=>rfl);(case hg=>rfl);(case hr=>first|(go_simp;done)|(go_simp;rfl));intro gb147 hg w144 hbox hb;have n0_:=Am (below_step (by repeat (first|(with_reducible first|exact HB.out|apply bL|apply pN|apply bE)|exact HB.out)) hb);have n1_:=Am (hbox);have n2_:=Am ((by rw [hg];exact (bZ (by repeat (first|(with_reducible first|exact HB.out|apply bL|apply pN|apply bE)|exact HB.out))) : w.heap.size≤gb147));have n3_:=n2_;clear HB;have HB:=n0_;have BK147:=n1_;have GW147:=n2_;have GE147:=n3_;clear n0_ n1_ n2_ n3_;clear hb hbox hg;obtain ⟨X145_0,X145_1,X145_2,X145_3,X145_4,X145_5,X145_6,X145_7,X145_8,X145_9,X145_10,X145_11,Y145_0,Y145_1,Y145_2,Y145_3,Y145_4,Y145_5,Y145_6,Y145_7,Y145_8,Y145_9,Y145_10,Y145_11⟩:=kc12 (w:=w144) (g:=gb147) BK147.out)|((with_reducible refine gC (f:=12) rfl ?_);refine goesL_ (some 15) rfl rfl Tryd.func12 (by kernel_rfl) rfl #[.agg #[.int .i64 a0_0,.int .i64 a0_1,.int .i64 a0_2,.int .i64 a0_3,.int .i64 a0_4,.int .i64 a0_5,.int .i64 a0_6,.int .i64 a0_7,.int .i64 a0_8,.slice A0_9 l0_9.length c0_9,.slice A0_10 l0_10.length c0_10,.slice A0_11 l0_11.length c0_11]] rfl (by (try simp only [mT,mC,mN]);first|done|rfl|(simp only [lD,lT];rfl)) ?_;(with_reducible refine (conf_Check.calls k a0_0 a0_1 a0_2 a0_3 a0_4 a0_5 a0_6 a0_7 a0_8 _ _ l0_9 _ _ l0_10 _ _ l0_11 t148 _ ?side1 ?side2 ?side3 ?side4 ?side5 ?side6 ?side7 A2.out).mono ?_);(case side1=>exact Glob.below HG.out (by repeat (first|(with_reducible first|exact HB.out|apply bL|apply pN|apply bE|refine bS ?_ GE147.out)|exact HB.out)));(case side2=>repeat (first|exact (Kd.C_below HR0_9.out HB.out)|(with_reducible refine Kd.C_alloc ?_ _)|(with_reducible refine Kd.C_drewN ?_ _)|(with_reducible refine Kd.C_drew ?_)));(case side3=>exact HC0_9.out);(case side4=>repeat (first|exact (Kd.C_below HR0_10.out HB.out)|(with_reducible refine Kd.C_alloc ?_ _)|(with_reducible refine Kd.C_drewN ?_ _)|(with_reducible refine Kd.C_drew ?_)));(case side5=>exact HC0_10.out);(case side6=>repeat (first|exact (Kd.C_below HR0_11.out HB.out)|(with_reducible refine Kd.C_alloc ?_ _)|(with_reducible refine Kd.C_drewN ?_ _)|(with_reducible refine Kd.C_drew ?_)));(case side7=>exact HC0_11.out);rintro e w146 ⟨rfl,hb⟩;refine ⟨_,rfl,?_⟩;have n0_:=Am (blk_below (g:=gb147) (by (with_reducible repeat (first|refine bN ?_ _|refine bD ?_|refine bA ?_ _));exact BK147.out) hb);have n1_:=Am (below_step (by repeat (first|(with_reducible first|exact HB.out|apply bL|apply pN|apply bE|refine bS ?_ GE147.out)|exact HB.out)) hb);clear BK147;clear HB;have BK147:=n0_;have HB:=n1_;clear n0_ n1_))
  go_ret2
  exact ⟨by first|rfl|(simp [errW_none,errW_some] <;> rfl)|(simp [*,errW_none,errW_some] <;> rfl),by repeat (first|(with_reducible first|exact HB.out|apply bL|apply pN|apply bE|refine bS ?_ GE147.out)|exact HB.out)⟩
 rw [if_pos c3] at H
 have c3b0 : (t148 == 0) = true:=beq_iff_eq.mpr c3
 have c3b1 : (t148 != 0) = false:=bne_eq_false_iff_eq.mpr c3
 clear c3
 replace H:=oB H
 obtain ⟨t150,A40,H⟩:=H
 try dsimp only at H
 have A4:=Am A40
 clear A40
 by_cases c5 : 0≤a0_0
 rotate_left
 ·rw [if_neg c5] at H
  exact absurd H (by simp)
 rw [if_pos c5] at H
 have c5b0 : decide (0≤a0_0) = true:=decide_eq_true c5
 clear c5
 by_cases c6 : a0_0 < (t150.length : Int)
 rotate_left
 ·rw [if_neg c6] at H
  exact absurd H (by simp)
 rw [if_pos c6] at H
 have c6b0 : decide (a0_0 < (t150.length : Int)) = true:=decide_eq_true c6
 clear c6
 obtain ⟨y154,hy154⟩ : ∃ y_ : List ByteArray,y_ = (([(⟨#[112,111,108,105,99,121]⟩ : ByteArray),rdOf ByteArray.empty t150 a0_0] : List ByteArray)):=⟨_,rfl⟩
 replace H : ((conf_row.f y154).bind fun t157=>((strconv_Itoa_30.f a0_1).bind fun t158=>((conf_row.f (([(⟨#[104,97,108,102]⟩ : ByteArray),t158] : List ByteArray))).bind fun t162=>(if t157.size + t162.size≤9223372036854775807 then ((strconv_Itoa_30.f a0_2).bind fun t163=>((conf_row.f (([(⟨#[113,117,97,110,116,117,109]⟩ : ByteArray),t163] : List ByteArray))).bind fun t167=>(if (t157 ++ t162).size + t167.size≤9223372036854775807 then ((strconv_Itoa_30.f a0_3).bind fun t168=>((conf_row.f (([(⟨#[114,101,113,117,101,117,101,115]⟩ : ByteArray),t168] : List ByteArray))).bind fun t172=>(if ((t157 ++ t162) ++ t167).size + t172.size≤9223372036854775807 then ((strconv_Itoa_30.f a0_4).bind fun t173=>((strconv_Itoa_30.f a0_5).bind fun t174=>((strconv_Itoa_30.f a0_6).bind fun t175=>((strconv_Itoa_30.f a0_7).bind fun t176=>((strconv_Itoa_30.f a0_8).bind fun t177=>((conf_row.f (([(⟨#[119,101,105,103,104,116,115]⟩ : ByteArray),t173,t174,t175,t176,t177] : List ByteArray))).bind fun t181=>(if (((t157 ++ t162) ++ t167) ++ t172).size + t181.size≤9223372036854775807 then (conf_Print.l0 k ((((t157 ++ t162) ++ t167) ++ t172) ++ t181) l0_9 (l0_9.length : Int) 0 a0_0 a0_1 a0_2 a0_3 a0_4 a0_5 a0_6 a0_7 a0_8 l0_9 l0_10 l0_11) else (none)))))))) else (none)))) else (none)))) else (none))))) = some (r1,r2):=by first|(rw [hy154];with_reducible exact H)|(have H2_:=(Option.bind_some _ _).symm.trans H;rw [hy154];with_reducible exact H2_)|(have H2_:=(Option.bind_some _ _).symm.trans H;with_reducible exact H2_)|with_reducible exact H|(rw [hy154];exact H)|exact H
 have Ny154:=Am hy154
 clear hy154
 replace H:=oB H
 obtain ⟨t157,A70,H⟩:=H
 try dsimp only at H
 have A7:=Am A70
 clear A70
 replace H:=oB H
 obtain ⟨t158,A80,H⟩:=H
 try dsimp only at H
 have A8:=Am A80
 clear A80
 obtain ⟨y159,hy159⟩ : ∃ y_ : List ByteArray,y_ = (([(⟨#[104,97,108,102]⟩ : ByteArray),t158] : List ByteArray)):=⟨_,rfl⟩
 replace H : ((conf_row.f y159).bind fun t162=>(if t157.size + t162.size≤9223372036854775807 then ((strconv_Itoa_30.f a0_2).bind fun t163=>((conf_row.f (([(⟨#[113,117,97,110,116,117,109]⟩ : ByteArray),t163] : List ByteArray))).bind fun t167=>(if (t157 ++ t162).size + t167.size≤9223372036854775807 then ((strconv_Itoa_30.f a0_3).bind fun t168=>((conf_row.f (([(⟨#[114,101,113,117,101,117,101,115]⟩ : ByteArray),t168] : List ByteArray))).bind fun t172=>(if ((t157 ++ t162) ++ t167).size + t172.size≤9223372036854775807 then ((strconv_Itoa_30.f a0_4).bind fun t173=>((strconv_Itoa_30.f a0_5).bind fun t174=>((strconv_Itoa_30.f a0_6).bind fun t175=>((strconv_Itoa_30.f a0_7).bind fun t176=>((strconv_Itoa_30.f a0_8).bind fun t177=>((conf_row.f (([(⟨#[119,101,105,103,104,116,115]⟩ : ByteArray),t173,t174,t175,t176,t177] : List ByteArray))).bind fun t181=>(if (((t157 ++ t162) ++ t167) ++ t172).size + t181.size≤9223372036854775807 then (conf_Print.l0 k ((((t157 ++ t162) ++ t167) ++ t172) ++ t181) l0_9 (l0_9.length : Int) 0 a0_0 a0_1 a0_2 a0_3 a0_4 a0_5 a0_6 a0_7 a0_8 l0_9 l0_10 l0_11) else (none)))))))) else (none)))) else (none)))) else (none))) = some (r1,r2):=by first|(rw [hy159];with_reducible exact H)|(have H2_:=(Option.bind_some _ _).symm.trans H;rw [hy159];with_reducible exact H2_)|(have H2_:=(Option.bind_some _ _).symm.trans H;with_reducible exact H2_)|with_reducible exact H|(rw [hy159];exact H)|exact H
 have Ny159:=Am hy159
 clear hy159
 replace H:=oB H
 obtain ⟨t162,A90,H⟩:=H
 try dsimp only at H
 have A9:=Am A90
 clear A90
 by_cases c10 : t157.size + t162.size≤9223372036854775807
 rotate_left
 ·rw [if_neg c10] at H
  exact absurd H (by simp)
 rw [if_pos c10] at H
 have c10b0:=eq_true c10
 have c10b1 : decide (t157.size + t162.size≤9223372036854775807) = true:=decide_eq_true c10
 try have c10b2 : (9223372036854775807 < t157.size + t162.size) = False:=eq_false (Nat.not_lt.2 c10)
 try (have c10b3:=c10b2;simp only [ByteArray.size_append,size_lit1,size_lit0,Nat.add_zero] at c10b3)
 try (have c10b5:=c10b2;simp only [ByteArray.size_append,size_litA,List.size_toArray,List.length_cons,List.length_nil,Nat.zero_add,Nat.reduceAdd] at c10b5)
 replace H:=oB H
 obtain ⟨t163,A110,H⟩:=H
 try dsimp only at H
 have A11:=Am A110
 clear A110
 obtain ⟨y164,hy164⟩ : ∃ y_ : List ByteArray,y_ = (([(⟨#[113,117,97,110,116,117,109]⟩ : ByteArray),t163] : List ByteArray)):=⟨_,rfl⟩
 replace H : ((conf_row.f y164).bind fun t167=>(if (t157 ++ t162).size + t167.size≤9223372036854775807 then ((strconv_Itoa_30.f a0_3).bind fun t168=>((conf_row.f (([(⟨#[114,101,113,117,101,117,101,115]⟩ : ByteArray),t168] : List ByteArray))).bind fun t172=>(if ((t157 ++ t162) ++ t167).size + t172.size≤9223372036854775807 then ((strconv_Itoa_30.f a0_4).bind fun t173=>((strconv_Itoa_30.f a0_5).bind fun t174=>((strconv_Itoa_30.f a0_6).bind fun t175=>((strconv_Itoa_30.f a0_7).bind fun t176=>((strconv_Itoa_30.f a0_8).bind fun t177=>((conf_row.f (([(⟨#[119,101,105,103,104,116,115]⟩ : ByteArray),t173,t174,t175,t176,t177] : List ByteArray))).bind fun t181=>(if (((t157 ++ t162) ++ t167) ++ t172).size + t181.size≤9223372036854775807 then (conf_Print.l0 k ((((t157 ++ t162) ++ t167) ++ t172) ++ t181) l0_9 (l0_9.length : Int) 0 a0_0 a0_1 a0_2 a0_3 a0_4 a0_5 a0_6 a0_7 a0_8 l0_9 l0_10 l0_11) else (none)))))))) else (none)))) else (none))) = some (r1,r2):=by first|(rw [hy164];with_reducible exact H)|(have H2_:=(Option.bind_some _ _).symm.trans H;rw [hy164];with_reducible exact H2_)|(have H2_:=(Option.bind_some _ _).symm.trans H;with_reducible exact H2_)|with_reducible exact H|(rw [hy164];exact H)|exact H
 have Ny164:=Am hy164
 clear hy164
 replace H:=oB H
 obtain ⟨t167,A120,H⟩:=H
 try dsimp only at H
 have A12:=Am A120
 clear A120
 by_cases c13 : (t157 ++ t162).size + t167.size≤9223372036854775807
 rotate_left
 ·rw [if_neg c13] at H
  exact absurd H (by simp)
 rw [if_pos c13] at H
 have c13b0:=eq_true c13
 have c13b1 : decide ((t157 ++ t162).size + t167.size≤9223372036854775807) = true:=decide_eq_true c13
 try have c13b2 : (9223372036854775807 < (t157 ++ t162).size + t167.size) = False:=eq_false (Nat.not_lt.2 c13)
 try (have c13b3:=c13b2;simp only [ByteArray.size_append,size_lit1,size_lit0,Nat.add_zero] at c13b3)
 try (have c13b5:=c13b2;simp only [ByteArray.size_append,size_litA,List.size_toArray,List.length_cons,List.length_nil,Nat.zero_add,Nat.reduceAdd] at c13b5)
 replace H:=oB H
 obtain ⟨t168,A140,H⟩:=H
 try dsimp only at H
 have A14:=Am A140
 clear A140
 obtain ⟨y169,hy169⟩ : ∃ y_ : List ByteArray,y_ = (([(⟨#[114,101,113,117,101,117,101,115]⟩ : ByteArray),t168] : List ByteArray)):=⟨_,rfl⟩
 replace H : ((conf_row.f y169).bind fun t172=>(if ((t157 ++ t162) ++ t167).size + t172.size≤9223372036854775807 then ((strconv_Itoa_30.f a0_4).bind fun t173=>((strconv_Itoa_30.f a0_5).bind fun t174=>((strconv_Itoa_30.f a0_6).bind fun t175=>((strconv_Itoa_30.f a0_7).bind fun t176=>((strconv_Itoa_30.f a0_8).bind fun t177=>((conf_row.f (([(⟨#[119,101,105,103,104,116,115]⟩ : ByteArray),t173,t174,t175,t176,t177] : List ByteArray))).bind fun t181=>(if (((t157 ++ t162) ++ t167) ++ t172).size + t181.size≤9223372036854775807 then (conf_Print.l0 k ((((t157 ++ t162) ++ t167) ++ t172) ++ t181) l0_9 (l0_9.length : Int) 0 a0_0 a0_1 a0_2 a0_3 a0_4 a0_5 a0_6 a0_7 a0_8 l0_9 l0_10 l0_11) else (none)))))))) else (none))) = some (r1,r2):=by first|(rw [hy169];with_reducible exact H)|(have H2_:=(Option.bind_some _ _).symm.trans H;rw [hy169];with_reducible exact H2_)|(have H2_:=(Option.bind_some _ _).symm.trans H;with_reducible exact H2_)|with_reducible exact H|(rw [hy169];exact H)|exact H
 have Ny169:=Am hy169
 clear hy169
 replace H:=oB H
 obtain ⟨t172,A150,H⟩:=H
 try dsimp only at H
 have A15:=Am A150
 clear A150
 by_cases c16 : ((t157 ++ t162) ++ t167).size + t172.size≤9223372036854775807
 rotate_left
 ·rw [if_neg c16] at H
  exact absurd H (by simp)
 rw [if_pos c16] at H
 have c16b0:=eq_true c16
 have c16b1 : decide (((t157 ++ t162) ++ t167).size + t172.size≤9223372036854775807) = true:=decide_eq_true c16
 try have c16b2 : (9223372036854775807 < ((t157 ++ t162) ++ t167).size + t172.size) = False:=eq_false (Nat.not_lt.2 c16)
 try (have c16b3:=c16b2;simp only [ByteArray.size_append,size_lit1,size_lit0,Nat.add_zero] at c16b3)
 try (have c16b5:=c16b2;simp only [ByteArray.size_append,size_litA,List.size_toArray,List.length_cons,List.length_nil,Nat.zero_add,Nat.reduceAdd] at c16b5)
 replace H:=oB H
 obtain ⟨t173,A170,H⟩:=H
 try dsimp only at H
 have A17:=Am A170
 clear A170
 replace H:=oB H
 obtain ⟨t174,A180,H⟩:=H
 try dsimp only at H
 have A18:=Am A180
 clear A180
 replace H:=oB H
 obtain ⟨t175,A190,H⟩:=H
 try dsimp only at H
 have A19:=Am A190
 clear A190
 replace H:=oB H
 obtain ⟨t176,A200,H⟩:=H
 try dsimp only at H
 have A20:=Am A200
 clear A200
 replace H:=oB H
 obtain ⟨t177,A210,H⟩:=H
 try dsimp only at H
 have A21:=Am A210
 clear A210
 obtain ⟨y178,hy178⟩ : ∃ y_ : List ByteArray,y_ = (([(⟨#[119,101,105,103,104,116,115]⟩ : ByteArray),t173,t174,t175,t176,t177] : List ByteArray)):=⟨_,rfl⟩
 replace H : ((conf_row.f y178).bind fun t181=>(if (((t157 ++ t162) ++ t167) ++ t172).size + t181.size≤9223372036854775807 then (conf_Print.l0 k ((((t157 ++ t162) ++ t167) ++ t172) ++ t181) l0_9 (l0_9.length : Int) 0 a0_0 a0_1 a0_2 a0_3 a0_4 a0_5 a0_6 a0_7 a0_8 l0_9 l0_10 l0_11) else (none))) = some (r1,r2):=by first|(rw [hy178];with_reducible exact H)|(have H2_:=(Option.bind_some _ _).symm.trans H;rw [hy178];with_reducible exact H2_)|(have H2_:=(Option.bind_some _ _).symm.trans H;with_reducible exact H2_)|with_reducible exact H|(rw [hy178];exact H)|exact H
 have Ny178:=Am hy178
 clear hy178
 replace H:=oB H
 obtain ⟨t181,A220,H⟩:=H
 try dsimp only at H
 have A22:=Am A220
 clear A220
 by_cases c23 : (((t157 ++ t162) ++ t167) ++ t172).size + t181.size≤9223372036854775807
 rotate_left
 ·rw [if_neg c23] at H
  exact absurd H (by simp)
 rw [if_pos c23] at H
 have c23b0:=eq_true c23
 have c23b1 : decide ((((t157 ++ t162) ++ t167) ++ t172).size + t181.size≤9223372036854775807) = true:=decide_eq_true c23
 try have c23b2 : (9223372036854775807 < (((t157 ++ t162) ++ t167) ++ t172).size + t181.size) = False:=eq_false (Nat.not_lt.2 c23)
 try (have c23b3:=c23b2;simp only [ByteArray.size_append,size_lit1,size_lit0,Nat.add_zero] at c23b3)
 try (have c23b5:=c23b2;simp only [ByteArray.size_append,size_litA,List.size_toArray,List.length_cons,List.length_nil,Nat.zero_add,Nat.reduceAdd] at c23b5)
 have H':=Am H
 clear H
 go_enter Tryd.func13,Tryd.ntmps13
 try go_wp2_with (first|((with_reducible refine gD (N:=1) rfl ?_);refine box_event ?hg (N:=1) ?hd (cs:=#[.int .i64 a0_0,.int .i64 a0_1,.int .i64 a0_2,.int .i64 a0_3,.int .i64 a0_4,.int .i64 a0_5,.int .i64 a0_6,.int .i64 a0_7,.int .i64 a0_8,.slice A0_9 l0_9.length c0_9,.slice A0_10 l0_10.length c0_10,.slice A0_11 l0_11.length c0_11]) (t:=28) ?hr ?_;(case hd=>rfl);(case hg=>rfl);(case hr=>first|(go_simp;done)|(go_simp;rfl));intro gb147 hg w24 hbox hb;have n0_:=Am (below_step (by repeat (first|(with_reducible first|exact HB.out|apply bL|apply pN|apply bE)|exact HB.out)) hb);have n1_:=Am (hbox);have n2_:=Am ((by rw [hg];exact (bZ (by repeat (first|(with_reducible first|exact HB.out|apply bL|apply pN|apply bE)|exact HB.out))) : w.heap.size≤gb147));have n3_:=n2_;clear HB;have HB:=n0_;have BK147:=n1_;have GW147:=n2_;have GE147:=n3_;clear n0_ n1_ n2_ n3_;clear hb hbox hg;obtain ⟨X25_0,X25_1,X25_2,X25_3,X25_4,X25_5,X25_6,X25_7,X25_8,X25_9,X25_10,X25_11,Y25_0,Y25_1,Y25_2,Y25_3,Y25_4,Y25_5,Y25_6,Y25_7,Y25_8,Y25_9,Y25_10,Y25_11⟩:=kc12 (w:=w24) (g:=gb147) BK147.out)|((with_reducible refine gC (f:=12) rfl ?_);refine goesL_ (some 15) rfl rfl Tryd.func12 (by kernel_rfl) rfl #[.agg #[.int .i64 a0_0,.int .i64 a0_1,.int .i64 a0_2,.int .i64 a0_3,.int .i64 a0_4,.int .i64 a0_5,.int .i64 a0_6,.int .i64 a0_7,.int .i64 a0_8,.slice A0_9 l0_9.length c0_9,.slice A0_10 l0_10.length c0_10,.slice A0_11 l0_11.length c0_11]] rfl (by (try simp only [mT,mC,mN]);first|done|rfl|(simp only [lD,lT];rfl)) ?_;(with_reducible refine (conf_Check.calls k a0_0 a0_1 a0_2 a0_3 a0_4 a0_5 a0_6 a0_7 a0_8 _ _ l0_9 _ _ l0_10 _ _ l0_11 t148 _ ?side1 ?side2 ?side3 ?side4 ?side5 ?side6 ?side7 A2.out).mono ?_);(case side1=>exact Glob.below HG.out (by repeat (first|(with_reducible first|exact HB.out|apply bL|apply pN|apply bE|refine bS ?_ GE147.out)|exact HB.out)));(case side2=>repeat (first|exact (Kd.C_below HR0_9.out HB.out)|(with_reducible refine Kd.C_alloc ?_ _)|(with_reducible refine Kd.C_drewN ?_ _)|(with_reducible refine Kd.C_drew ?_)));(case side3=>exact HC0_9.out);(case side4=>repeat (first|exact (Kd.C_below HR0_10.out HB.out)|(with_reducible refine Kd.C_alloc ?_ _)|(with_reducible refine Kd.C_drewN ?_ _)|(with_reducible refine Kd.C_drew ?_)));(case side5=>exact HC0_10.out);(case side6=>repeat (first|exact (Kd.C_below HR0_11.out HB.out)|(with_reducible refine Kd.C_alloc ?_ _)|(with_reducible refine Kd.C_drewN ?_ _)|(with_reducible refine Kd.C_drew ?_)));(case side7=>exact HC0_11.out);rintro e w26 ⟨rfl,hb⟩;refine ⟨_,rfl,?_⟩;have n0_:=Am (blk_below (g:=gb147) (by (with_reducible repeat (first|refine bN ?_ _|refine bD ?_|refine bA ?_ _));exact BK147.out) hb);have n1_:=Am (below_step (by repeat (first|(with_reducible first|exact HB.out|apply bL|apply pN|apply bE|refine bS ?_ GE147.out)|exact HB.out)) hb);clear BK147;clear HB;have BK147:=n0_;have HB:=n1_;clear n0_ n1_;obtain ⟨X27_0,X27_1,X27_2,X27_3,X27_4,X27_5,X27_6,X27_7,X27_8,X27_9,X27_10,X27_11,Y27_0,Y27_1,Y27_2,Y27_3,Y27_4,Y27_5,Y27_6,Y27_7,Y27_8,Y27_9,Y27_10,Y27_11⟩:=kc12 (w:=w26) (g:=gb147) BK147.out)|((with_reducible refine gD (N:=5) rfl ?_);refine box_event ?hg (N:=5) ?hd (cs:=#[.int .i64 0,.int .i64 0,.int .i64 0,.int .i64 0,.int .i64 0]) (t:=23) ?hr ?_;(case hd=>rfl);(case hg=>rfl);(case hr=>first|(go_simp;done)|(go_simp;rfl));intro gb149 hg w28 hbox hb;have n0_:=Am (blk_below (g:=gb147) (by (with_reducible repeat (first|refine bN ?_ _|refine bD ?_|refine bA ?_ _));exact BK147.out) hb);have n1_:=Am (below_step (by repeat (first|(with_reducible first|exact HB.out|apply bL|apply pN|apply bE|refine bS ?_ GE147.out)|exact HB.out)) hb);have n2_:=Am (hbox);have n3_:=Am ((by rw [hg];exact (bZ (by repeat (first|(with_reducible first|exact HB.out|apply bL|apply pN|apply bE|refine bS ?_ GE147.out)|exact HB.out))) : w.heap.size≤gb149));have n4_:=n3_;have n5_:=Am ((by rw [hg];exact Nat.ne_of_lt (blk_lt (g:=gb147) (by (with_reducible repeat (first|refine bN ?_ _|refine bD ?_|refine bA ?_ _));exact BK147.out)) : gb147 ≠ gb149));have n6_:=Am ((by rw [hg];exact Nat.ne_of_gt (blk_lt (g:=gb147) (by (with_reducible repeat (first|refine bN ?_ _|refine bD ?_|refine bA ?_ _));exact BK147.out)) : gb149 ≠ gb147));clear BK147;clear HB;have BK147:=n0_;have HB:=n1_;have BK149:=n2_;have GW149:=n3_;have GE149:=n4_;have NB147_149:=n5_;have NB149_147:=n6_;clear n0_ n1_ n2_ n3_ n4_ n5_ n6_;clear hb hbox hg;have hnb29:=NB149_147.out;have hnc29:=NB147_149.out;obtain ⟨X30_0,X30_1,X30_2,X30_3,X30_4,Y30_0,Y30_1,Y30_2,Y30_3,Y30_4⟩:=kc5 (w:=w28) (g:=gb149) BK149.out))
 have n0_ : Aside0 ((((((w28.setCell ⟨gb149,0,none⟩ (.int .i64 a0_4)).setCell ⟨gb149,1,none⟩ (.int .i64 a0_5)).setCell ⟨gb149,2,none⟩ (.int .i64 a0_6)).setCell ⟨gb149,3,none⟩ (.int .i64 a0_7)).setCell ⟨gb149,4,none⟩ (.int .i64 a0_8)).heap[gb147]? = some (.cells #[.int .i64 a0_0,.int .i64 a0_1,.int .i64 a0_2,.int .i64 a0_3,.int .i64 a0_4,.int .i64 a0_5,.int .i64 a0_6,.int .i64 a0_7,.int .i64 a0_8,.slice A0_9 l0_9.length c0_9,.slice A0_10 l0_10.length c0_10,.slice A0_11 l0_11.length c0_11] 28 (0,0))):=⟨by (with_reducible repeat (first|refine bN ?_ _|refine bD ?_|refine bA ?_ _));refine blk_far ?_ NB147_149.out _;(with_reducible repeat (first|refine bN ?_ _|refine bD ?_|refine bA ?_ _));refine blk_far ?_ NB147_149.out _;(with_reducible repeat (first|refine bN ?_ _|refine bD ?_|refine bA ?_ _));refine blk_far ?_ NB147_149.out _;(with_reducible repeat (first|refine bN ?_ _|refine bD ?_|refine bA ?_ _));refine blk_far ?_ NB147_149.out _;(with_reducible repeat (first|refine bN ?_ _|refine bD ?_|refine bA ?_ _));refine blk_far ?_ NB147_149.out _;(with_reducible repeat (first|refine bN ?_ _|refine bD ?_|refine bA ?_ _));exact BK147.out⟩
 have n1_ : Aside0 ((((((w28.setCell ⟨gb149,0,none⟩ (.int .i64 a0_4)).setCell ⟨gb149,1,none⟩ (.int .i64 a0_5)).setCell ⟨gb149,2,none⟩ (.int .i64 a0_6)).setCell ⟨gb149,3,none⟩ (.int .i64 a0_7)).setCell ⟨gb149,4,none⟩ (.int .i64 a0_8)).heap[gb149]? = some (.cells #[.int .i64 a0_4,.int .i64 a0_5,.int .i64 a0_6,.int .i64 a0_7,.int .i64 a0_8] 23 (0,0))):=⟨by (with_reducible repeat (first|refine bN ?_ _|refine bD ?_|refine bA ?_ _));refine blk_put (cs:=#[.int .i64 a0_4,.int .i64 a0_5,.int .i64 a0_6,.int .i64 a0_7,.int .i64 0]) ?_ 4 _ rfl;(with_reducible repeat (first|refine bN ?_ _|refine bD ?_|refine bA ?_ _));refine blk_put (cs:=#[.int .i64 a0_4,.int .i64 a0_5,.int .i64 a0_6,.int .i64 0,.int .i64 0]) ?_ 3 _ rfl;(with_reducible repeat (first|refine bN ?_ _|refine bD ?_|refine bA ?_ _));refine blk_put (cs:=#[.int .i64 a0_4,.int .i64 a0_5,.int .i64 0,.int .i64 0,.int .i64 0]) ?_ 2 _ rfl;(with_reducible repeat (first|refine bN ?_ _|refine bD ?_|refine bA ?_ _));refine blk_put (cs:=#[.int .i64 a0_4,.int .i64 0,.int .i64 0,.int .i64 0,.int .i64 0]) ?_ 1 _ rfl;(with_reducible repeat (first|refine bN ?_ _|refine bD ?_|refine bA ?_ _));refine blk_put (cs:=#[.int .i64 0,.int .i64 0,.int .i64 0,.int .i64 0,.int .i64 0]) ?_ 0 _ rfl;(with_reducible repeat (first|refine bN ?_ _|refine bD ?_|refine bA ?_ _));exact BK149.out⟩
 have n2_ : Aside0 (Below w.heap.size w (((((w28.setCell ⟨gb149,0,none⟩ (.int .i64 a0_4)).setCell ⟨gb149,1,none⟩ (.int .i64 a0_5)).setCell ⟨gb149,2,none⟩ (.int .i64 a0_6)).setCell ⟨gb149,3,none⟩ (.int .i64 a0_7)).setCell ⟨gb149,4,none⟩ (.int .i64 a0_8))):=⟨by repeat (first|(with_reducible first|exact HB.out|apply bL|apply pN|apply bE|refine bS ?_ GE147.out|refine bS ?_ GE149.out)|exact HB.out)⟩
 generalize (((((w28.setCell ⟨gb149,0,none⟩ (.int .i64 a0_4)).setCell ⟨gb149,1,none⟩ (.int .i64 a0_5)).setCell ⟨gb149,2,none⟩ (.int .i64 a0_6)).setCell ⟨gb149,3,none⟩ (.int .i64 a0_7)).setCell ⟨gb149,4,none⟩ (.int .i64 a0_8)) = w31 at n0_ n1_ n2_ ⊢
 have BK147:=n0_
 have BK149:=n1_
 have HB:=n2_
 clear n0_ n1_ n2_
 have n0_:=Am (bD BK147.out)
 have n1_:=Am (bD BK149.out)
 have n2_:=Am (bE HB.out)
 clear BK147
 clear BK149
 clear HB
 have BK147:=n0_
 have BK149:=n1_
 have HB:=n2_
 clear n0_ n1_ n2_
 refine start_ (n:=26) (S:=fun w'=>w'.cell? ⟨gb147,0,none⟩ = some (.int .i64 a0_0)∧w'.cell? ⟨gb147,1,none⟩ = some (.int .i64 a0_1)∧w'.cell? ⟨gb147,2,none⟩ = some (.int .i64 a0_2)∧w'.cell? ⟨gb147,3,none⟩ = some (.int .i64 a0_3)∧w'.cell? ⟨gb147,4,none⟩ = some (.int .i64 a0_4)∧w'.cell? ⟨gb147,5,none⟩ = some (.int .i64 a0_5)∧w'.cell? ⟨gb147,6,none⟩ = some (.int .i64 a0_6)∧w'.cell? ⟨gb147,7,none⟩ = some (.int .i64 a0_7)∧w'.cell? ⟨gb147,8,none⟩ = some (.int .i64 a0_8)∧w'.cell? ⟨gb147,9,none⟩ = some (.slice A0_9 l0_9.length c0_9)∧w'.cell? ⟨gb147,10,none⟩ = some (.slice A0_10 l0_10.length c0_10)∧w'.cell? ⟨gb147,11,none⟩ = some (.slice A0_11 l0_11.length c0_11)) (ds:=[]) #[O,O,O,O,O,O,O,O,O,O,O,O,O,O,O,O,O,O,O,O,O,O,O,O,O,O] (by kernel_rfl) rfl rfl ⟨(bC BK147.out 0).trans rfl,(bC BK147.out 1).trans rfl,(bC BK147.out 2).trans rfl,(bC BK147.out 3).trans rfl,(bC BK147.out 4).trans rfl,(bC BK147.out 5).trans rfl,(bC BK147.out 6).trans rfl,(bC BK147.out 7).trans rfl,(bC BK147.out 8).trans rfl,(bC BK147.out 9).trans rfl,(bC BK147.out 10).trans rfl,(bC BK147.out 11).trans rfl⟩ (fun hHeld=>?_);refine with_tabW conf_Print.tab5 conf_Print.bits5 (fun HT_ HW_=>?_)
 generalize w31.drew = w32 at BK147 BK149 HB hHeld ⊢
 refine pure_ (i:=1) (N:=some 22) (v:=?_) (a':=?_) #[O,J,O,O,O,O,O,O,O,O,O,O,O,O,O,O,O,O,O,O,O,O,O,O,O,O] rfl rfl (any_of HT_.out (by kernel_rfl)) (fun _ _ _ h=>h) (Or.inl ⟨by rfl,?_⟩) ?_ ?_
 rotate_left
 ·intro w'
  go_simp
  with_reducible rfl
 rotate_left
 ·simp only [Act.put,sT,sZ,sS,iW,iV]
  rfl
 refine pure_ (i:=7) (N:=some 28) (v:=?_) (a':=?_) #[O,J,O,O,O,O,O,J,O,O,O,O,O,O,O,O,O,O,O,O,O,O,O,O,O,O] rfl rfl (any_of HT_.out (by kernel_rfl)) (fun _ _ _ h=>h) (Or.inl ⟨by rfl,?_⟩) ?_ ?_
 rotate_left
 ·intro w'
  go_simp
  with_reducible rfl
 rotate_left
 ·simp only [Act.put,sT,sZ,sS,iW,iV]
  rfl
 refine pure_ (i:=13) (N:=some 34) (v:=?_) (a':=?_) #[O,J,O,O,O,O,O,J,O,O,O,O,O,J,O,O,O,O,O,O,O,O,O,O,O,O] rfl rfl (any_of HT_.out (by kernel_rfl)) (fun _ _ _ h=>h) (Or.inl ⟨by rfl,?_⟩) ?_ ?_
 rotate_left
 ·intro w'
  go_simp
  with_reducible rfl
 rotate_left
 ·simp only [Act.put,sT,sZ,sS,iW,iV]
  rfl
 refine pure_ (i:=19) (N:=some 40) (v:=?_) (a':=?_) #[O,J,O,O,O,O,O,J,O,O,O,O,O,J,O,O,O,O,O,J,O,O,O,O,O,O] rfl rfl (any_of HT_.out (by kernel_rfl)) (fun _ _ _ h=>h) (Or.inl ⟨by rfl,?_⟩) ?_ ?_
 rotate_left
 ·intro w'
  go_simp
  with_reducible rfl
 rotate_left
 ·simp only [Act.put,sT,sZ,sS,iW,iV]
  rfl
 refine take_ (i:=2) (N:=some 23) (v:=?_) (a':=?_) #[O,J,J,O,O,O,O,J,O,O,O,O,O,J,O,O,O,O,O,J,O,O,O,O,O,O] rfl rfl (take_ofW HT_.out HW_.out (by kernel_rfl)) (fun _ _ _ h=>h) (Or.inl ⟨by rfl,?_⟩) hHeld ?_ ?_
 rotate_left
 ·rintro w' ⟨s0,s1,s2,s3,s4,s5,s6,s7,s8,s9,s10,s11⟩
  go_simp
  with_reducible rfl
 rotate_left
 ·simp only [Act.put,sT,sZ,sS,iW,iV]
  rfl
 refine take_ (i:=8) (N:=some 29) (v:=?_) (a':=?_) #[O,J,J,O,O,O,O,J,J,O,O,O,O,J,O,O,O,O,O,J,O,O,O,O,O,O] rfl rfl (take_ofW HT_.out HW_.out (by kernel_rfl)) (fun _ _ _ h=>h) (Or.inl ⟨by rfl,?_⟩) hHeld ?_ ?_
 rotate_left
 ·rintro w' ⟨s0,s1,s2,s3,s4,s5,s6,s7,s8,s9,s10,s11⟩
  go_simp
  with_reducible rfl
 rotate_left
 ·simp only [Act.put,sT,sZ,sS,iW,iV]
  rfl
 refine take_ (i:=14) (N:=some 35) (v:=?_) (a':=?_) #[O,J,J,O,O,O,O,J,J,O,O,O,O,J,J,O,O,O,O,J,O,O,O,O,O,O] rfl rfl (take_ofW HT_.out HW_.out (by kernel_rfl)) (fun _ _ _ h=>h) (Or.inl ⟨by rfl,?_⟩) hHeld ?_ ?_
 rotate_left
 ·rintro w' ⟨s0,s1,s2,s3,s4,s5,s6,s7,s8,s9,s10,s11⟩
  go_simp
  with_reducible rfl
 rotate_left
 ·simp only [Act.put,sT,sZ,sS,iW,iV]
  rfl
 refine take_ (i:=20) (N:=some 41) (v:=?_) (a':=?_) #[O,J,J,O,O,O,O,J,J,O,O,O,O,J,J,O,O,O,O,J,J,O,O,O,O,O] rfl rfl (take_ofW HT_.out HW_.out (by kernel_rfl)) (fun _ _ _ h=>h) (Or.inl ⟨by rfl,?_⟩) hHeld ?_ ?_
 rotate_left
 ·rintro w' ⟨s0,s1,s2,s3,s4,s5,s6,s7,s8,s9,s10,s11⟩
  go_simp
  with_reducible rfl
 rotate_left
 ·simp only [Act.put,sT,sZ,sS,iW,iV]
  rfl
 refine one_ (i:=0) (N:=some 21) #[J,J,J,O,O,O,O,J,J,O,O,O,O,J,J,O,O,O,O,J,J,O,O,O,O,O] rfl rfl (one_of HT_.out (by kernel_rfl)) (by decide) (fun K hK=>?_)
 refine goes_ Tryd.func29 (by kernel_rfl) rfl #[] (by rfl) rfl rfl (by (try simp only [mT,mC,mN]);first|done|rfl|(simp only [lD,lT];rfl)) ?_
 with_reducible refine (conf_policies.calls  t150 _ A4.out).mono ?_
 rintro e w33 ⟨v151,rfl,ho0,hb⟩
 refine ⟨_,rfl,?_⟩
 have n0_:=Am (Kd.R_lower ho0 (bZ (by repeat (first|(with_reducible first|exact HB.out|apply bL|apply pN|apply bE|refine bS ?_ GE147.out|refine bS ?_ GE149.out)|exact HB.out))))
 have n1_:=Am (blk_below (g:=gb147) (by (with_reducible repeat (first|refine bN ?_ _|refine bD ?_|refine bA ?_ _));exact BK147.out) hb)
 have n2_:=Am (blk_below (g:=gb149) (by (with_reducible repeat (first|refine bN ?_ _|refine bD ?_|refine bA ?_ _));exact BK149.out) hb)
 have n3_:=Am (below_step (by repeat (first|(with_reducible first|exact HB.out|apply bL|apply pN|apply bE|refine bS ?_ GE147.out|refine bS ?_ GE149.out)|exact HB.out)) hb)
 clear BK147
 clear BK149
 clear HB
 have HO152:=n0_
 have BK147:=n1_
 have BK149:=n2_
 have HB:=n3_
 clear n0_ n1_ n2_ n3_
 obtain ⟨Ao34,co34,eo34⟩:=Kd.R_slice HO152.out
 (first|subst eo34|(injection eo34 with f1_ f2_ f3_;have f4_:=f1_.symm;have f5_:=f3_.symm;clear f1_ f2_ f3_;subst f4_;subst f5_))
 have p153 : 0≤(a0_0 : Int):=of_decide_eq_true (by first|(with_reducible assumption)|assumption)
 have q153 : a0_0 < (t150.length : Int):=of_decide_eq_true (by first|(with_reducible assumption)|assumption)
 obtain ⟨ad153,e153,hx153_0⟩:=Kd.at_string (Kd.R_reads' HO152.out).2.2 a0_0 p153 q153
 cases e153
 replace p153:=eq_true p153
 replace q153:=eq_true q153
 refine hK.out _ _ ⟨(bC BK147.out 0).trans rfl,(bC BK147.out 1).trans rfl,(bC BK147.out 2).trans rfl,(bC BK147.out 3).trans rfl,(bC BK147.out 4).trans rfl,(bC BK147.out 5).trans rfl,(bC BK147.out 6).trans rfl,(bC BK147.out 7).trans rfl,(bC BK147.out 8).trans rfl,(bC BK147.out 9).trans rfl,(bC BK147.out 10).trans rfl,(bC BK147.out 11).trans rfl⟩ (fun hHeld=>?_)
 clear hK K
 refine norm_ (a':=?_) ?_ ?_
 rotate_left
 ·show Act.put _ (some 21) _ = _
  simp only [Act.put,sT,sZ,sS,iW,iV]
  rfl
 refine pure_ (i:=3) (N:=some 24) (v:=?_) (a':=?_) #[J,J,J,J,O,O,O,J,J,O,O,O,O,J,J,O,O,O,O,J,J,O,O,O,O,O] rfl rfl (any_of HT_.out (by kernel_rfl)) (fun _ _ _ h=>h) (Or.inl ⟨by rfl,?_⟩) ?_ ?_
 rotate_left
 ·intro w'
  go_simp
  with_reducible rfl
 rotate_left
 ·simp only [Act.put,sT,sZ,sS,iW,iV]
  rfl
 refine one_ (i:=4) (N:=some 25) #[J,J,J,J,J,O,O,J,J,O,O,O,O,J,J,O,O,O,O,J,J,O,O,O,O,O] rfl rfl (one_of HT_.out (by kernel_rfl)) (by decide) (fun K hK=>?_)
 refine value_ (w1:=?_) (v:=?_) (by rfl) rfl ?_ ?_
 rotate_left 2
 · go_simp
   constructor
   · rfl
   · rfl
 refine hK.out _ _ hHeld (fun hHeld=>?_)
 clear hK K
 refine norm_ (a':=?_) ?_ ?_
 rotate_left
 · show Act.put _ (some 25) _ = _
   simp only [Act.put,sT,sZ,sS,iW,iV]
   rfl
 refine one_ (i:=5) (N:=some 26) #[J,J,J,J,J,J,O,J,J,O,O,O,O,J,J,O,O,O,O,J,J,O,O,O,O,O] rfl rfl (one_of HT_.out (by kernel_rfl)) (by decide) (fun K hK=>?_)
 refine Kd.R_lit_step Kd.string _ 9 ?hg (N:=26) ?hd (xs:=([(⟨#[112,111,108,105,99,121]⟩ : ByteArray),rdOf ByteArray.empty t150 a0_0] : List ByteArray)) (inner:=[.string (⟨#[112,111,108,105,99,121]⟩ : ByteArray),.string (rdOf ByteArray.empty t150 a0_0)]) (ok:=fun _=>True) (okp:=fun _=>True) ?hr ?hp (fun _ hk=>hk) trivial (Below.refl _ _) (Nat.le_refl _) (by simp) ?_;(case hd=>rfl);(case hg=>rfl);(case hr=>first|(go_simp;done)|(go_simp;rfl));(case hp=>exact (Reps.one (show Kd.M Kd.string _ _ _ (⟨#[112,111,108,105,99,121]⟩ : ByteArray) [.string (⟨#[112,111,108,105,99,121]⟩ : ByteArray)] from rfl) (Reps.one (show Kd.M Kd.string _ _ _ (rdOf ByteArray.empty t150 a0_0) [.string (rdOf ByteArray.empty t150 a0_0)] from rfl) (Reps.none _ _))))
 intro v155 w35 ho36 hb hg_ hnew_
 clear hg_ hnew_
 (first|rw [← Ny154.out] at ho36|(simp only [Int.reduceToNat] at ho36;rw [← Ny154.out] at ho36))
 have n0_:=Am (Kd.R_elder' (by (with_reducible repeat (first|apply Kd.R_alloc|apply Kd.R_drewN|apply Kd.R_drew));exact HO152.out) (Kd.R_base ho36) hb)
 have n1_:=Am (Kd.R_lower (Kd.R_new' ho36 (Kd.R_lt (by (with_reducible repeat (first|apply Kd.R_alloc|apply Kd.R_drewN|apply Kd.R_drew));exact HO152.out))) (bZ (by repeat (first|(with_reducible first|exact HB.out|apply bL|apply pN|apply bE|refine bS ?_ GE147.out|refine bS ?_ GE149.out)|exact HB.out))))
 have n2_:=Am (blk_below (g:=gb147) (by (with_reducible repeat (first|refine bN ?_ _|refine bD ?_|refine bA ?_ _));exact BK147.out) hb)
 have n3_:=Am (blk_below (g:=gb149) (by (with_reducible repeat (first|refine bN ?_ _|refine bD ?_|refine bA ?_ _));exact BK149.out) hb)
 have n4_:=Am (below_step (by repeat (first|(with_reducible first|exact HB.out|apply bL|apply pN|apply bE|refine bS ?_ GE147.out|refine bS ?_ GE149.out)|exact HB.out)) hb)
 clear HO152
 clear BK147
 clear BK149
 clear HB
 have HO152:=n0_
 have HO156:=n1_
 have BK147:=n2_
 have BK149:=n3_
 have HB:=n4_
 clear n0_ n1_ n2_ n3_ n4_
 clear hb ho36
 obtain ⟨Ao37,co37,eo37⟩:=Kd.R_slice HO156.out
 (first|subst eo37|(injection eo37 with f1_ f2_ f3_;have f4_:=f1_.symm;have f5_:=f3_.symm;clear f1_ f2_ f3_;subst f4_;subst f5_))
 refine hK.out _ _ ⟨(bC BK147.out 0).trans rfl,(bC BK147.out 1).trans rfl,(bC BK147.out 2).trans rfl,(bC BK147.out 3).trans rfl,(bC BK147.out 4).trans rfl,(bC BK147.out 5).trans rfl,(bC BK147.out 6).trans rfl,(bC BK147.out 7).trans rfl,(bC BK147.out 8).trans rfl,(bC BK147.out 9).trans rfl,(bC BK147.out 10).trans rfl,(bC BK147.out 11).trans rfl⟩ (fun hHeld=>?_)
 clear hK K
 refine norm_ (a':=?_) ?_ ?_
 rotate_left
 ·show Act.put _ (some 26) _ = _
  simp only [Act.put,sT,sZ,sS,iW,iV]
  rfl
 refine one_ (i:=6) (N:=some 27) #[J,J,J,J,J,J,J,J,J,O,O,O,O,J,J,O,O,O,O,J,J,O,O,O,O,O] rfl rfl (one_of HT_.out (by kernel_rfl)) (by decide) (fun K hK=>?_)
 refine goes_ Tryd.func28 (by kernel_rfl) rfl #[.slice Ao37 y154.length co37] (by rfl) rfl rfl (by (try simp only [mT,mC,mN]);first|done|rfl|(simp only [lD,lT];rfl)) ?_
 with_reducible refine (conf_row.calls (fun k_=>some k_ = (.slice Ao37 y154.length co37 : Value).ownBlock) (.slice Ao37 y154.length co37) y154 t157 w _ ?side1 ?side2 A7.out).mono ?_
 (case side1=>repeat (first|(with_reducible first|exact HB.out|apply bL|apply pN|apply bE|refine bS ?_ GE147.out|refine bS ?_ GE149.out)|exact HB.out))
 (case side2=>exact Kd.R_tight rfl HO156.out)
 rintro e w38 ⟨rfl,hb,hkp⟩
 refine ⟨_,rfl,?_⟩
 have n0_:=Am (blk_kept (by (with_reducible repeat (first|refine bN ?_ _|refine bD ?_|refine bA ?_ _));exact BK147.out) hkp (fun hs_=>(fun e_=>(Kd.R_ne HO156.out BK147.out (by decide)) e_) hs_))
 have n1_:=Am (blk_kept (by (with_reducible repeat (first|refine bN ?_ _|refine bD ?_|refine bA ?_ _));exact BK149.out) hkp (fun hs_=>(fun e_=>(Kd.R_ne HO156.out BK149.out (by decide)) e_) hs_))
 have n2_:=Am (Kd.R_mono (ok':=fun k_=>True) (Kd.R_keptB (HO152.out) hkp (fun k_ hk_ hs_=>(hk_.2) hs_)) (fun k_ hk_=>trivial))
 have n3_:=Am (hb)
 clear BK147
 clear BK149
 clear HO152
 clear HB
 clear HO156
 have BK147:=n0_
 have BK149:=n1_
 have HO152:=n2_
 have HB:=n3_
 clear n0_ n1_ n2_ n3_
 refine hK.out _ _ ⟨(bC BK147.out 0).trans rfl,(bC BK147.out 1).trans rfl,(bC BK147.out 2).trans rfl,(bC BK147.out 3).trans rfl,(bC BK147.out 4).trans rfl,(bC BK147.out 5).trans rfl,(bC BK147.out 6).trans rfl,(bC BK147.out 7).trans rfl,(bC BK147.out 8).trans rfl,(bC BK147.out 9).trans rfl,(bC BK147.out 10).trans rfl,(bC BK147.out 11).trans rfl⟩ (fun hHeld=>?_)
 clear hK K
 refine norm_ (a':=?_) ?_ ?_
 rotate_left
 ·show Act.put _ (some 27) _ = _
  simp only [Act.put,sT,sZ,sS,iW,iV]
  rfl
 refine one_ (i:=9) (N:=some 30) #[J,J,J,J,J,J,J,J,J,J,O,O,O,J,J,O,O,O,O,J,J,O,O,O,O,O] rfl rfl (one_of HT_.out (by kernel_rfl)) (by decide) (fun K hK=>?_)
 refine goes_ Tryd.func30 (by kernel_rfl) rfl #[.int .i64 a0_1] (by rfl) rfl rfl (by (try simp only [mT,mC,mN]);first|done|rfl|(simp only [lD,lT];rfl)) ?_
 with_reducible refine (strconv_Itoa_30.calls a0_1 t158 _ ?side1 A8.out).mono ?_
 (case side1=>exact Glob.below HG.out (by repeat (first|(with_reducible first|exact HB.out|apply bL|apply pN|apply bE|refine bS ?_ GE147.out|refine bS ?_ GE149.out)|exact HB.out)))
 rintro e w39 ⟨rfl,hb⟩
 refine ⟨_,rfl,?_⟩
 have n0_:=Am (Kd.R_below (by (with_reducible repeat (first|apply Kd.R_alloc|apply Kd.R_drewN|apply Kd.R_drew));exact HO152.out) hb)
 have n1_:=Am (blk_below (g:=gb147) (by (with_reducible repeat (first|refine bN ?_ _|refine bD ?_|refine bA ?_ _));exact BK147.out) hb)
 have n2_:=Am (blk_below (g:=gb149) (by (with_reducible repeat (first|refine bN ?_ _|refine bD ?_|refine bA ?_ _));exact BK149.out) hb)
 have n3_:=Am (below_step (by repeat (first|(with_reducible first|exact HB.out|apply bL|apply pN|apply bE|refine bS ?_ GE147.out|refine bS ?_ GE149.out)|exact HB.out)) hb)
 clear HO152
 clear BK147
 clear BK149
 clear HB
 have HO152:=n0_
 have BK147:=n1_
 have BK149:=n2_
 have HB:=n3_
 clear n0_ n1_ n2_ n3_
 refine hK.out _ _ ⟨(bC BK147.out 0).trans rfl,(bC BK147.out 1).trans rfl,(bC BK147.out 2).trans rfl,(bC BK147.out 3).trans rfl,(bC BK147.out 4).trans rfl,(bC BK147.out 5).trans rfl,(bC BK147.out 6).trans rfl,(bC BK147.out 7).trans rfl,(bC BK147.out 8).trans rfl,(bC BK147.out 9).trans rfl,(bC BK147.out 10).trans rfl,(bC BK147.out 11).trans rfl⟩ (fun hHeld=>?_)
 clear hK K
 refine norm_ (a':=?_) ?_ ?_
 rotate_left
 ·show Act.put _ (some 30) _ = _
  simp only [Act.put,sT,sZ,sS,iW,iV]
  rfl
 refine one_ (i:=10) (N:=some 31) #[J,J,J,J,J,J,J,J,J,J,J,O,O,J,J,O,O,O,O,J,J,O,O,O,O,O] rfl rfl (one_of HT_.out (by kernel_rfl)) (by decide) (fun K hK=>?_)
 refine Kd.R_lit_step Kd.string _ 9 ?hg (N:=31) ?hd (xs:=([(⟨#[104,97,108,102]⟩ : ByteArray),t158] : List ByteArray)) (inner:=[.string (⟨#[104,97,108,102]⟩ : ByteArray),.string t158]) (ok:=fun _=>True) (okp:=fun _=>True) ?hr ?hp (fun _ hk=>hk) trivial (Below.refl _ _) (Nat.le_refl _) (by simp) ?_;(case hd=>rfl);(case hg=>rfl);(case hr=>first|(go_simp;done)|(go_simp;rfl));(case hp=>exact (Reps.one (show Kd.M Kd.string _ _ _ (⟨#[104,97,108,102]⟩ : ByteArray) [.string (⟨#[104,97,108,102]⟩ : ByteArray)] from rfl) (Reps.one (show Kd.M Kd.string _ _ _ t158 [.string t158] from rfl) (Reps.none _ _))))
 intro v160 w40 ho41 hb hg_ hnew_
 clear hg_ hnew_
 (first|rw [← Ny159.out] at ho41|(simp only [Int.reduceToNat] at ho41;rw [← Ny159.out] at ho41))
 have n0_:=Am (Kd.R_elder' (by (with_reducible repeat (first|apply Kd.R_alloc|apply Kd.R_drewN|apply Kd.R_drew));exact HO152.out) (Kd.R_base ho41) hb)
 have n1_:=Am (Kd.R_lower (Kd.R_new' ho41 (Kd.R_lt (by (with_reducible repeat (first|apply Kd.R_alloc|apply Kd.R_drewN|apply Kd.R_drew));exact HO152.out))) (bZ (by repeat (first|(with_reducible first|exact HB.out|apply bL|apply pN|apply bE|refine bS ?_ GE147.out|refine bS ?_ GE149.out)|exact HB.out))))
 have n2_:=Am (blk_below (g:=gb147) (by (with_reducible repeat (first|refine bN ?_ _|refine bD ?_|refine bA ?_ _));exact BK147.out) hb)
 have n3_:=Am (blk_below (g:=gb149) (by (with_reducible repeat (first|refine bN ?_ _|refine bD ?_|refine bA ?_ _));exact BK149.out) hb)
 have n4_:=Am (below_step (by repeat (first|(with_reducible first|exact HB.out|apply bL|apply pN|apply bE|refine bS ?_ GE147.out|refine bS ?_ GE149.out)|exact HB.out)) hb)
 clear HO152
 clear BK147
 clear BK149
 clear HB
 have HO152:=n0_
 have HO161:=n1_
 have BK147:=n2_
 have BK149:=n3_
 have HB:=n4_
 clear n0_ n1_ n2_ n3_ n4_
 clear hb ho41
 obtain ⟨Ao42,co42,eo42⟩:=Kd.R_slice HO161.out
 (first|subst eo42|(injection eo42 with f1_ f2_ f3_;have f4_:=f1_.symm;have f5_:=f3_.symm;clear f1_ f2_ f3_;subst f4_;subst f5_))
 refine hK.out _ _ ⟨(bC BK147.out 0).trans rfl,(bC BK147.out 1).trans rfl,(bC BK147.out 2).trans rfl,(bC BK147.out 3).trans rfl,(bC BK147.out 4).trans rfl,(bC BK147.out 5).trans rfl,(bC BK147.out 6).trans rfl,(bC BK147.out 7).trans rfl,(bC BK147.out 8).trans rfl,(bC BK147.out 9).trans rfl,(bC BK147.out 10).trans rfl,(bC BK147.out 11).trans rfl⟩ (fun hHeld=>?_)
 clear hK K
 refine norm_ (a':=?_) ?_ ?_
 rotate_left
 ·show Act.put _ (some 31) _ = _
  simp only [Act.put,sT,sZ,sS,iW,iV]
  rfl
 refine one_ (i:=11) (N:=some 32) #[J,J,J,J,J,J,J,J,J,J,J,J,O,J,J,O,O,O,O,J,J,O,O,O,O,O] rfl rfl (one_of HT_.out (by kernel_rfl)) (by decide) (fun K hK=>?_)
 refine goes_ Tryd.func28 (by kernel_rfl) rfl #[.slice Ao42 y159.length co42] (by rfl) rfl rfl (by (try simp only [mT,mC,mN]);first|done|rfl|(simp only [lD,lT];rfl)) ?_
 with_reducible refine (conf_row.calls (fun k_=>some k_ = (.slice Ao42 y159.length co42 : Value).ownBlock) (.slice Ao42 y159.length co42) y159 t162 w _ ?side1 ?side2 A9.out).mono ?_
 (case side1=>repeat (first|(with_reducible first|exact HB.out|apply bL|apply pN|apply bE|refine bS ?_ GE147.out|refine bS ?_ GE149.out)|exact HB.out))
 (case side2=>exact Kd.R_tight rfl HO161.out)
 rintro e w43 ⟨rfl,hb,hkp⟩
 refine ⟨_,rfl,?_⟩
 have n0_:=Am (blk_kept (by (with_reducible repeat (first|refine bN ?_ _|refine bD ?_|refine bA ?_ _));exact BK147.out) hkp (fun hs_=>(fun e_=>(Kd.R_ne HO161.out BK147.out (by decide)) e_) hs_))
 have n1_:=Am (blk_kept (by (with_reducible repeat (first|refine bN ?_ _|refine bD ?_|refine bA ?_ _));exact BK149.out) hkp (fun hs_=>(fun e_=>(Kd.R_ne HO161.out BK149.out (by decide)) e_) hs_))
 have n2_:=Am (Kd.R_mono (ok':=fun k_=>True) (Kd.R_keptB (HO152.out) hkp (fun k_ hk_ hs_=>(hk_.2) hs_)) (fun k_ hk_=>trivial))
 have n3_:=Am (hb)
 clear BK147
 clear BK149
 clear HO152
 clear HB
 clear HO161
 have BK147:=n0_
 have BK149:=n1_
 have HO152:=n2_
 have HB:=n3_
 clear n0_ n1_ n2_ n3_
 refine hK.out _ _ ⟨(bC BK147.out 0).trans rfl,(bC BK147.out 1).trans rfl,(bC BK147.out 2).trans rfl,(bC BK147.out 3).trans rfl,(bC BK147.out 4).trans rfl,(bC BK147.out 5).trans rfl,(bC BK147.out 6).trans rfl,(bC BK147.out 7).trans rfl,(bC BK147.out 8).trans rfl,(bC BK147.out 9).trans rfl,(bC BK147.out 10).trans rfl,(bC BK147.out 11).trans rfl⟩ (fun hHeld=>?_)
 clear hK K
 refine norm_ (a':=?_) ?_ ?_
 rotate_left
 ·show Act.put _ (some 32) _ = _
  simp only [Act.put,sT,sZ,sS,iW,iV]
  rfl
 refine pure_ (i:=12) (N:=some 33) (v:=?_) (a':=?_) #[J,J,J,J,J,J,J,J,J,J,J,J,J,J,J,O,O,O,O,J,J,O,O,O,O,O] rfl rfl (any_of HT_.out (by kernel_rfl)) (fun _ _ _ h=>h) (Or.inl ⟨by rfl,?_⟩) ?_ ?_
 rotate_left
 ·intro w'
  go_simp
  with_reducible rfl
 rotate_left
 ·simp only [Act.put,sT,sZ,sS,iW,iV]
  rfl
 refine one_ (i:=15) (N:=some 36) #[J,J,J,J,J,J,J,J,J,J,J,J,J,J,J,J,O,O,O,J,J,O,O,O,O,O] rfl rfl (one_of HT_.out (by kernel_rfl)) (by decide) (fun K hK=>?_)
 refine goes_ Tryd.func30 (by kernel_rfl) rfl #[.int .i64 a0_2] (by rfl) rfl rfl (by (try simp only [mT,mC,mN]);first|done|rfl|(simp only [lD,lT];rfl)) ?_
 with_reducible refine (strconv_Itoa_30.calls a0_2 t163 _ ?side1 A11.out).mono ?_
 (case side1=>exact Glob.below HG.out (by repeat (first|(with_reducible first|exact HB.out|apply bL|apply pN|apply bE|refine bS ?_ GE147.out|refine bS ?_ GE149.out)|exact HB.out)))
 rintro e w44 ⟨rfl,hb⟩
 refine ⟨_,rfl,?_⟩
 have n0_:=Am (Kd.R_below (by (with_reducible repeat (first|apply Kd.R_alloc|apply Kd.R_drewN|apply Kd.R_drew));exact HO152.out) hb)
 have n1_:=Am (blk_below (g:=gb147) (by (with_reducible repeat (first|refine bN ?_ _|refine bD ?_|refine bA ?_ _));exact BK147.out) hb)
 have n2_:=Am (blk_below (g:=gb149) (by (with_reducible repeat (first|refine bN ?_ _|refine bD ?_|refine bA ?_ _));exact BK149.out) hb)
 have n3_:=Am (below_step (by repeat (first|(with_reducible first|exact HB.out|apply bL|apply pN|apply bE|refine bS ?_ GE147.out|refine bS ?_ GE149.out)|exact HB.out)) hb)
 clear HO152
 clear BK147
 clear BK149
 clear HB
 have HO152:=n0_
 have BK147:=n1_
 have BK149:=n2_
 have HB:=n3_
 clear n0_ n1_ n2_ n3_
 refine hK.out _ _ ⟨(bC BK147.out 0).trans rfl,(bC BK147.out 1).trans rfl,(bC BK147.out 2).trans rfl,(bC BK147.out 3).trans rfl,(bC BK147.out 4).trans rfl,(bC BK147.out 5).trans rfl,(bC BK147.out 6).trans rfl,(bC BK147.out 7).trans rfl,(bC BK147.out 8).trans rfl,(bC BK147.out 9).trans rfl,(bC BK147.out 10).trans rfl,(bC BK147.out 11).trans rfl⟩ (fun hHeld=>?_)
 clear hK K
 refine norm_ (a':=?_) ?_ ?_
 rotate_left
 ·show Act.put _ (some 36) _ = _
  simp only [Act.put,sT,sZ,sS,iW,iV]
  rfl
 refine one_ (i:=16) (N:=some 37) #[J,J,J,J,J,J,J,J,J,J,J,J,J,J,J,J,J,O,O,J,J,O,O,O,O,O] rfl rfl (one_of HT_.out (by kernel_rfl)) (by decide) (fun K hK=>?_)
 refine Kd.R_lit_step Kd.string _ 9 ?hg (N:=37) ?hd (xs:=([(⟨#[113,117,97,110,116,117,109]⟩ : ByteArray),t163] : List ByteArray)) (inner:=[.string (⟨#[113,117,97,110,116,117,109]⟩ : ByteArray),.string t163]) (ok:=fun _=>True) (okp:=fun _=>True) ?hr ?hp (fun _ hk=>hk) trivial (Below.refl _ _) (Nat.le_refl _) (by simp) ?_;(case hd=>rfl);(case hg=>rfl);(case hr=>first|(go_simp;done)|(go_simp;rfl));(case hp=>exact (Reps.one (show Kd.M Kd.string _ _ _ (⟨#[113,117,97,110,116,117,109]⟩ : ByteArray) [.string (⟨#[113,117,97,110,116,117,109]⟩ : ByteArray)] from rfl) (Reps.one (show Kd.M Kd.string _ _ _ t163 [.string t163] from rfl) (Reps.none _ _))))
 intro v165 w45 ho46 hb hg_ hnew_
 clear hg_ hnew_
 (first|rw [← Ny164.out] at ho46|(simp only [Int.reduceToNat] at ho46;rw [← Ny164.out] at ho46))
 have n0_:=Am (Kd.R_elder' (by (with_reducible repeat (first|apply Kd.R_alloc|apply Kd.R_drewN|apply Kd.R_drew));exact HO152.out) (Kd.R_base ho46) hb)
 have n1_:=Am (Kd.R_lower (Kd.R_new' ho46 (Kd.R_lt (by (with_reducible repeat (first|apply Kd.R_alloc|apply Kd.R_drewN|apply Kd.R_drew));exact HO152.out))) (bZ (by repeat (first|(with_reducible first|exact HB.out|apply bL|apply pN|apply bE|refine bS ?_ GE147.out|refine bS ?_ GE149.out)|exact HB.out))))
 have n2_:=Am (blk_below (g:=gb147) (by (with_reducible repeat (first|refine bN ?_ _|refine bD ?_|refine bA ?_ _));exact BK147.out) hb)
 have n3_:=Am (blk_below (g:=gb149) (by (with_reducible repeat (first|refine bN ?_ _|refine bD ?_|refine bA ?_ _));exact BK149.out) hb)
 have n4_:=Am (below_step (by repeat (first|(with_reducible first|exact HB.out|apply bL|apply pN|apply bE|refine bS ?_ GE147.out|refine bS ?_ GE149.out)|exact HB.out)) hb)
 clear HO152
 clear BK147
 clear BK149
 clear HB
 have HO152:=n0_
 have HO166:=n1_
 have BK147:=n2_
 have BK149:=n3_
 have HB:=n4_
 clear n0_ n1_ n2_ n3_ n4_
 clear hb ho46
 obtain ⟨Ao47,co47,eo47⟩:=Kd.R_slice HO166.out
 (first|subst eo47|(injection eo47 with f1_ f2_ f3_;have f4_:=f1_.symm;have f5_:=f3_.symm;clear f1_ f2_ f3_;subst f4_;subst f5_))
 refine hK.out _ _ ⟨(bC BK147.out 0).trans rfl,(bC BK147.out 1).trans rfl,(bC BK147.out 2).trans rfl,(bC BK147.out 3).trans rfl,(bC BK147.out 4).trans rfl,(bC BK147.out 5).trans rfl,(bC BK147.out 6).trans rfl,(bC BK147.out 7).trans rfl,(bC BK147.out 8).trans rfl,(bC BK147.out 9).trans rfl,(bC BK147.out 10).trans rfl,(bC BK147.out 11).trans rfl⟩ (fun hHeld=>?_)
 clear hK K
 refine norm_ (a':=?_) ?_ ?_
 rotate_left
 ·show Act.put _ (some 37) _ = _
  simp only [Act.put,sT,sZ,sS,iW,iV]
  rfl
 refine one_ (i:=17) (N:=some 38) #[J,J,J,J,J,J,J,J,J,J,J,J,J,J,J,J,J,J,O,J,J,O,O,O,O,O] rfl rfl (one_of HT_.out (by kernel_rfl)) (by decide) (fun K hK=>?_)
 refine goes_ Tryd.func28 (by kernel_rfl) rfl #[.slice Ao47 y164.length co47] (by rfl) rfl rfl (by (try simp only [mT,mC,mN]);first|done|rfl|(simp only [lD,lT];rfl)) ?_
 with_reducible refine (conf_row.calls (fun k_=>some k_ = (.slice Ao47 y164.length co47 : Value).ownBlock) (.slice Ao47 y164.length co47) y164 t167 w _ ?side1 ?side2 A12.out).mono ?_
 (case side1=>repeat (first|(with_reducible first|exact HB.out|apply bL|apply pN|apply bE|refine bS ?_ GE147.out|refine bS ?_ GE149.out)|exact HB.out))
 (case side2=>exact Kd.R_tight rfl HO166.out)
 rintro e w48 ⟨rfl,hb,hkp⟩
 refine ⟨_,rfl,?_⟩
 have n0_:=Am (blk_kept (by (with_reducible repeat (first|refine bN ?_ _|refine bD ?_|refine bA ?_ _));exact BK147.out) hkp (fun hs_=>(fun e_=>(Kd.R_ne HO166.out BK147.out (by decide)) e_) hs_))
 have n1_:=Am (blk_kept (by (with_reducible repeat (first|refine bN ?_ _|refine bD ?_|refine bA ?_ _));exact BK149.out) hkp (fun hs_=>(fun e_=>(Kd.R_ne HO166.out BK149.out (by decide)) e_) hs_))
 have n2_:=Am (Kd.R_mono (ok':=fun k_=>True) (Kd.R_keptB (HO152.out) hkp (fun k_ hk_ hs_=>(hk_.2) hs_)) (fun k_ hk_=>trivial))
 have n3_:=Am (hb)
 clear BK147
 clear BK149
 clear HO152
 clear HB
 clear HO166
 have BK147:=n0_
 have BK149:=n1_
 have HO152:=n2_
 have HB:=n3_
 clear n0_ n1_ n2_ n3_
 refine hK.out _ _ ⟨(bC BK147.out 0).trans rfl,(bC BK147.out 1).trans rfl,(bC BK147.out 2).trans rfl,(bC BK147.out 3).trans rfl,(bC BK147.out 4).trans rfl,(bC BK147.out 5).trans rfl,(bC BK147.out 6).trans rfl,(bC BK147.out 7).trans rfl,(bC BK147.out 8).trans rfl,(bC BK147.out 9).trans rfl,(bC BK147.out 10).trans rfl,(bC BK147.out 11).trans rfl⟩ (fun hHeld=>?_)
 clear hK K
 refine norm_ (a':=?_) ?_ ?_
 rotate_left
 ·show Act.put _ (some 38) _ = _
  simp only [Act.put,sT,sZ,sS,iW,iV]
  rfl
 refine pure_ (i:=18) (N:=some 39) (v:=?_) (a':=?_) #[J,J,J,J,J,J,J,J,J,J,J,J,J,J,J,J,J,J,J,J,J,O,O,O,O,O] rfl rfl (any_of HT_.out (by kernel_rfl)) (fun _ _ _ h=>h) (Or.inl ⟨by rfl,?_⟩) ?_ ?_
 rotate_left
 ·intro w'
  go_simp
  with_reducible rfl
 rotate_left
 ·simp only [Act.put,sT,sZ,sS,iW,iV]
  rfl
 refine one_ (i:=21) (N:=some 42) #[J,J,J,J,J,J,J,J,J,J,J,J,J,J,J,J,J,J,J,J,J,J,O,O,O,O] rfl rfl (one_of HT_.out (by kernel_rfl)) (by decide) (fun K hK=>?_)
 refine goes_ Tryd.func30 (by kernel_rfl) rfl #[.int .i64 a0_3] (by rfl) rfl rfl (by (try simp only [mT,mC,mN]);first|done|rfl|(simp only [lD,lT];rfl)) ?_
 with_reducible refine (strconv_Itoa_30.calls a0_3 t168 _ ?side1 A14.out).mono ?_
 (case side1=>exact Glob.below HG.out (by repeat (first|(with_reducible first|exact HB.out|apply bL|apply pN|apply bE|refine bS ?_ GE147.out|refine bS ?_ GE149.out)|exact HB.out)))
 rintro e w49 ⟨rfl,hb⟩
 refine ⟨_,rfl,?_⟩
 have n0_:=Am (Kd.R_below (by (with_reducible repeat (first|apply Kd.R_alloc|apply Kd.R_drewN|apply Kd.R_drew));exact HO152.out) hb)
 have n1_:=Am (blk_below (g:=gb147) (by (with_reducible repeat (first|refine bN ?_ _|refine bD ?_|refine bA ?_ _));exact BK147.out) hb)
 have n2_:=Am (blk_below (g:=gb149) (by (with_reducible repeat (first|refine bN ?_ _|refine bD ?_|refine bA ?_ _));exact BK149.out) hb)
 have n3_:=Am (below_step (by repeat (first|(with_reducible first|exact HB.out|apply bL|apply pN|apply bE|refine bS ?_ GE147.out|refine bS ?_ GE149.out)|exact HB.out)) hb)
 clear HO152
 clear BK147
 clear BK149
 clear HB
 have HO152:=n0_
 have BK147:=n1_
 have BK149:=n2_
 have HB:=n3_
 clear n0_ n1_ n2_ n3_
 refine hK.out _ _ ⟨(bC BK147.out 0).trans rfl,(bC BK147.out 1).trans rfl,(bC BK147.out 2).trans rfl,(bC BK147.out 3).trans rfl,(bC BK147.out 4).trans rfl,(bC BK147.out 5).trans rfl,(bC BK147.out 6).trans rfl,(bC BK147.out 7).trans rfl,(bC BK147.out 8).trans rfl,(bC BK147.out 9).trans rfl,(bC BK147.out 10).trans rfl,(bC BK147.out 11).trans rfl⟩ (fun hHeld=>?_)
 clear hK K
 refine norm_ (a':=?_) ?_ ?_
 rotate_left
 ·show Act.put _ (some 42) _ = _
  simp only [Act.put,sT,sZ,sS,iW,iV]
  rfl
 refine one_ (i:=22) (N:=some 43) #[J,J,J,J,J,J,J,J,J,J,J,J,J,J,J,J,J,J,J,J,J,J,J,O,O,O] rfl rfl (one_of HT_.out (by kernel_rfl)) (by decide) (fun K hK=>?_)
 refine Kd.R_lit_step Kd.string _ 9 ?hg (N:=43) ?hd (xs:=([(⟨#[114,101,113,117,101,117,101,115]⟩ : ByteArray),t168] : List ByteArray)) (inner:=[.string (⟨#[114,101,113,117,101,117,101,115]⟩ : ByteArray),.string t168]) (ok:=fun _=>True) (okp:=fun _=>True) ?hr ?hp (fun _ hk=>hk) trivial (Below.refl _ _) (Nat.le_refl _) (by simp) ?_;(case hd=>rfl);(case hg=>rfl);(case hr=>first|(go_simp;done)|(go_simp;rfl));(case hp=>exact (Reps.one (show Kd.M Kd.string _ _ _ (⟨#[114,101,113,117,101,117,101,115]⟩ : ByteArray) [.string (⟨#[114,101,113,117,101,117,101,115]⟩ : ByteArray)] from rfl) (Reps.one (show Kd.M Kd.string _ _ _ t168 [.string t168] from rfl) (Reps.none _ _))))
 intro v170 w50 ho51 hb hg_ hnew_
 clear hg_ hnew_
 (first|rw [← Ny169.out] at ho51|(simp only [Int.reduceToNat] at ho51;rw [← Ny169.out] at ho51))
 have n0_:=Am (Kd.R_elder' (by (with_reducible repeat (first|apply Kd.R_alloc|apply Kd.R_drewN|apply Kd.R_drew));exact HO152.out) (Kd.R_base ho51) hb)
 have n1_:=Am (Kd.R_lower (Kd.R_new' ho51 (Kd.R_lt (by (with_reducible repeat (first|apply Kd.R_alloc|apply Kd.R_drewN|apply Kd.R_drew));exact HO152.out))) (bZ (by repeat (first|(with_reducible first|exact HB.out|apply bL|apply pN|apply bE|refine bS ?_ GE147.out|refine bS ?_ GE149.out)|exact HB.out))))
 have n2_:=Am (blk_below (g:=gb147) (by (with_reducible repeat (first|refine bN ?_ _|refine bD ?_|refine bA ?_ _));exact BK147.out) hb)
 have n3_:=Am (blk_below (g:=gb149) (by (with_reducible repeat (first|refine bN ?_ _|refine bD ?_|refine bA ?_ _));exact BK149.out) hb)
 have n4_:=Am (below_step (by repeat (first|(with_reducible first|exact HB.out|apply bL|apply pN|apply bE|refine bS ?_ GE147.out|refine bS ?_ GE149.out)|exact HB.out)) hb)
 clear HO152
 clear BK147
 clear BK149
 clear HB
 have HO152:=n0_
 have HO171:=n1_
 have BK147:=n2_
 have BK149:=n3_
 have HB:=n4_
 clear n0_ n1_ n2_ n3_ n4_
 clear hb ho51
 obtain ⟨Ao52,co52,eo52⟩:=Kd.R_slice HO171.out
 (first|subst eo52|(injection eo52 with f1_ f2_ f3_;have f4_:=f1_.symm;have f5_:=f3_.symm;clear f1_ f2_ f3_;subst f4_;subst f5_))
 refine hK.out _ _ ⟨(bC BK147.out 0).trans rfl,(bC BK147.out 1).trans rfl,(bC BK147.out 2).trans rfl,(bC BK147.out 3).trans rfl,(bC BK147.out 4).trans rfl,(bC BK147.out 5).trans rfl,(bC BK147.out 6).trans rfl,(bC BK147.out 7).trans rfl,(bC BK147.out 8).trans rfl,(bC BK147.out 9).trans rfl,(bC BK147.out 10).trans rfl,(bC BK147.out 11).trans rfl⟩ (fun hHeld=>?_)
 clear hK K
 refine norm_ (a':=?_) ?_ ?_
 rotate_left
 ·show Act.put _ (some 43) _ = _
  simp only [Act.put,sT,sZ,sS,iW,iV]
  rfl
 refine one_ (i:=23) (N:=some 44) #[J,J,J,J,J,J,J,J,J,J,J,J,J,J,J,J,J,J,J,J,J,J,J,J,O,O] rfl rfl (one_of HT_.out (by kernel_rfl)) (by decide) (fun K hK=>?_)
 refine goes_ Tryd.func28 (by kernel_rfl) rfl #[.slice Ao52 y169.length co52] (by rfl) rfl rfl (by (try simp only [mT,mC,mN]);first|done|rfl|(simp only [lD,lT];rfl)) ?_
 with_reducible refine (conf_row.calls (fun k_=>some k_ = (.slice Ao52 y169.length co52 : Value).ownBlock) (.slice Ao52 y169.length co52) y169 t172 w _ ?side1 ?side2 A15.out).mono ?_
 (case side1=>repeat (first|(with_reducible first|exact HB.out|apply bL|apply pN|apply bE|refine bS ?_ GE147.out|refine bS ?_ GE149.out)|exact HB.out))
 (case side2=>exact Kd.R_tight rfl HO171.out)
 rintro e w53 ⟨rfl,hb,hkp⟩
 refine ⟨_,rfl,?_⟩
 have n0_:=Am (blk_kept (by (with_reducible repeat (first|refine bN ?_ _|refine bD ?_|refine bA ?_ _));exact BK147.out) hkp (fun hs_=>(fun e_=>(Kd.R_ne HO171.out BK147.out (by decide)) e_) hs_))
 have n1_:=Am (blk_kept (by (with_reducible repeat (first|refine bN ?_ _|refine bD ?_|refine bA ?_ _));exact BK149.out) hkp (fun hs_=>(fun e_=>(Kd.R_ne HO171.out BK149.out (by decide)) e_) hs_))
 have n2_:=Am (Kd.R_mono (ok':=fun k_=>True) (Kd.R_keptB (HO152.out) hkp (fun k_ hk_ hs_=>(hk_.2) hs_)) (fun k_ hk_=>trivial))
 have n3_:=Am (hb)
 clear BK147
 clear BK149
 clear HO152
 clear HB
 clear HO171
 have BK147:=n0_
 have BK149:=n1_
 have HO152:=n2_
 have HB:=n3_
 clear n0_ n1_ n2_ n3_
 refine hK.out _ _ ⟨(bC BK147.out 0).trans rfl,(bC BK147.out 1).trans rfl,(bC BK147.out 2).trans rfl,(bC BK147.out 3).trans rfl,(bC BK147.out 4).trans rfl,(bC BK147.out 5).trans rfl,(bC BK147.out 6).trans rfl,(bC BK147.out 7).trans rfl,(bC BK147.out 8).trans rfl,(bC BK147.out 9).trans rfl,(bC BK147.out 10).trans rfl,(bC BK147.out 11).trans rfl⟩ (fun hHeld=>?_)
 clear hK K
 refine norm_ (a':=?_) ?_ ?_
 rotate_left
 ·show Act.put _ (some 44) _ = _
  simp only [Act.put,sT,sZ,sS,iW,iV]
  rfl
 refine pure_ (i:=24) (N:=some 45) (v:=?_) (a':=?_) #[J,J,J,J,J,J,J,J,J,J,J,J,J,J,J,J,J,J,J,J,J,J,J,J,J,O] rfl rfl (any_of HT_.out (by kernel_rfl)) (fun _ _ _ h=>h) (Or.inl ⟨by rfl,?_⟩) ?_ ?_
 rotate_left
 ·intro w'
  go_simp
  with_reducible rfl
 rotate_left
 ·simp only [Act.put,sT,sZ,sS,iW,iV]
  rfl
 refine pure_ (i:=25) (N:=some 6) (v:=?_) (a':=?_) #[J,J,J,J,J,J,J,J,J,J,J,J,J,J,J,J,J,J,J,J,J,J,J,J,J,J] rfl rfl (any_of HT_.out (by kernel_rfl)) (fun _ _ _ h=>h) (Or.inl ⟨by rfl,?_⟩) ?_ ?_
 rotate_left
 ·intro w'
  go_simp
  with_reducible rfl
 rotate_left
 ·simp only [Act.put,sT,sZ,sS,iW,iV]
  rfl
 refine done_ (done_of HT_.out (by kernel_rfl)) ?_
 try go_wp2
 have n0_:=Am (Kd.R_drew HO152.out)
 have n1_:=Am (bD BK147.out)
 have n2_:=Am (bD BK149.out)
 have n3_:=Am (bE HB.out)
 clear HO152
 clear BK147
 clear BK149
 clear HB
 have HO152:=n0_
 have BK147:=n1_
 have BK149:=n2_
 have HB:=n3_
 clear n0_ n1_ n2_ n3_
 refine start_ (n:=20) (S:=fun w'=>w'.cell? ⟨gb149,0,none⟩ = some (.int .i64 a0_4)∧w'.cell? ⟨gb149,1,none⟩ = some (.int .i64 a0_5)∧w'.cell? ⟨gb149,2,none⟩ = some (.int .i64 a0_6)∧w'.cell? ⟨gb149,3,none⟩ = some (.int .i64 a0_7)∧w'.cell? ⟨gb149,4,none⟩ = some (.int .i64 a0_8)) (ds:=[]) #[O,O,O,O,O,O,O,O,O,O,O,O,O,O,O,O,O,O,O,O] (by kernel_rfl) rfl rfl ⟨(bC BK149.out 0).trans rfl,(bC BK149.out 1).trans rfl,(bC BK149.out 2).trans rfl,(bC BK149.out 3).trans rfl,(bC BK149.out 4).trans rfl⟩ (fun hHeld=>?_);refine with_tabW conf_Print.tab6 conf_Print.bits6 (fun HT_ HW_=>?_)
 generalize w53.drew = w54 at HO152 BK147 BK149 HB hHeld ⊢
 refine pure_ (i:=0) (N:=some 46) (v:=?_) (a':=?_) #[J,O,O,O,O,O,O,O,O,O,O,O,O,O,O,O,O,O,O,O] rfl rfl (any_of HT_.out (by kernel_rfl)) (fun _ _ _ h=>h) (Or.inl ⟨by rfl,?_⟩) ?_ ?_
 rotate_left
 ·intro w'
  go_simp
  with_reducible rfl
 rotate_left
 ·simp only [Act.put,sT,sZ,sS,iW,iV]
  rfl
 refine pure_ (i:=1) (N:=some 47) (v:=?_) (a':=?_) #[J,J,O,O,O,O,O,O,O,O,O,O,O,O,O,O,O,O,O,O] rfl rfl (any_of HT_.out (by kernel_rfl)) (fun _ _ _ h=>h) (Or.inl ⟨by rfl,?_⟩) ?_ ?_
 rotate_left
 ·intro w'
  go_simp
  with_reducible rfl
 rotate_left
 ·simp only [Act.put,sT,sZ,sS,iW,iV]
  rfl
 refine pure_ (i:=4) (N:=some 50) (v:=?_) (a':=?_) #[J,J,O,O,J,O,O,O,O,O,O,O,O,O,O,O,O,O,O,O] rfl rfl (any_of HT_.out (by kernel_rfl)) (fun _ _ _ h=>h) (Or.inl ⟨by rfl,?_⟩) ?_ ?_
 rotate_left
 ·intro w'
  go_simp
  with_reducible rfl
 rotate_left
 ·simp only [Act.put,sT,sZ,sS,iW,iV]
  rfl
 refine pure_ (i:=7) (N:=some 53) (v:=?_) (a':=?_) #[J,J,O,O,J,O,O,J,O,O,O,O,O,O,O,O,O,O,O,O] rfl rfl (any_of HT_.out (by kernel_rfl)) (fun _ _ _ h=>h) (Or.inl ⟨by rfl,?_⟩) ?_ ?_
 rotate_left
 ·intro w'
  go_simp
  with_reducible rfl
 rotate_left
 ·simp only [Act.put,sT,sZ,sS,iW,iV]
  rfl
 refine pure_ (i:=10) (N:=some 56) (v:=?_) (a':=?_) #[J,J,O,O,J,O,O,J,O,O,J,O,O,O,O,O,O,O,O,O] rfl rfl (any_of HT_.out (by kernel_rfl)) (fun _ _ _ h=>h) (Or.inl ⟨by rfl,?_⟩) ?_ ?_
 rotate_left
 ·intro w'
  go_simp
  with_reducible rfl
 rotate_left
 ·simp only [Act.put,sT,sZ,sS,iW,iV]
  rfl
 refine pure_ (i:=13) (N:=some 59) (v:=?_) (a':=?_) #[J,J,O,O,J,O,O,J,O,O,J,O,O,J,O,O,O,O,O,O] rfl rfl (any_of HT_.out (by kernel_rfl)) (fun _ _ _ h=>h) (Or.inl ⟨by rfl,?_⟩) ?_ ?_
 rotate_left
 ·intro w'
  go_simp
  with_reducible rfl
 rotate_left
 ·simp only [Act.put,sT,sZ,sS,iW,iV]
  rfl
 refine take_ (i:=2) (N:=some 48) (v:=?_) (a':=?_) #[J,J,J,O,J,O,O,J,O,O,J,O,O,J,O,O,O,O,O,O] rfl rfl (take_ofW HT_.out HW_.out (by kernel_rfl)) (fun _ _ _ h=>h) (Or.inl ⟨by rfl,?_⟩) hHeld ?_ ?_
 rotate_left
 ·rintro w' ⟨s0,s1,s2,s3,s4⟩
  go_simp
  with_reducible rfl
 rotate_left
 ·simp only [Act.put,sT,sZ,sS,iW,iV]
  rfl
 refine take_ (i:=5) (N:=some 51) (v:=?_) (a':=?_) #[J,J,J,O,J,J,O,J,O,O,J,O,O,J,O,O,O,O,O,O] rfl rfl (take_ofW HT_.out HW_.out (by kernel_rfl)) (fun _ _ _ h=>h) (Or.inl ⟨by rfl,?_⟩) hHeld ?_ ?_
 rotate_left
 ·rintro w' ⟨s0,s1,s2,s3,s4⟩
  go_simp
  with_reducible rfl
 rotate_left
 ·simp only [Act.put,sT,sZ,sS,iW,iV]
  rfl
 refine take_ (i:=8) (N:=some 54) (v:=?_) (a':=?_) #[J,J,J,O,J,J,O,J,J,O,J,O,O,J,O,O,O,O,O,O] rfl rfl (take_ofW HT_.out HW_.out (by kernel_rfl)) (fun _ _ _ h=>h) (Or.inl ⟨by rfl,?_⟩) hHeld ?_ ?_
 rotate_left
 ·rintro w' ⟨s0,s1,s2,s3,s4⟩
  go_simp
  with_reducible rfl
 rotate_left
 ·simp only [Act.put,sT,sZ,sS,iW,iV]
  rfl
 refine take_ (i:=11) (N:=some 57) (v:=?_) (a':=?_) #[J,J,J,O,J,J,O,J,J,O,J,J,O,J,O,O,O,O,O,O] rfl rfl (take_ofW HT_.out HW_.out (by kernel_rfl)) (fun _ _ _ h=>h) (Or.inl ⟨by rfl,?_⟩) hHeld ?_ ?_
 rotate_left
 ·rintro w' ⟨s0,s1,s2,s3,s4⟩
  go_simp
  with_reducible rfl
 rotate_left
 ·simp only [Act.put,sT,sZ,sS,iW,iV]
  rfl
 refine take_ (i:=14) (N:=some 60) (v:=?_) (a':=?_) #[J,J,J,O,J,J,O,J,J,O,J,J,O,J,J,O,O,O,O,O] rfl rfl (take_ofW HT_.out HW_.out (by kernel_rfl)) (fun _ _ _ h=>h) (Or.inl ⟨by rfl,?_⟩) hHeld ?_ ?_
 rotate_left
 ·rintro w' ⟨s0,s1,s2,s3,s4⟩
  go_simp
  with_reducible rfl
 rotate_left
 ·simp only [Act.put,sT,sZ,sS,iW,iV]
  rfl
 refine one_ (i:=3) (N:=some 49) #[J,J,J,J,J,J,O,J,J,O,J,J,O,J,J,O,O,O,O,O] rfl rfl (one_of HT_.out (by kernel_rfl)) (by decide) (fun K hK=>?_)
 refine goes_ Tryd.func30 (by kernel_rfl) rfl #[.int .i64 a0_4] (by rfl) rfl rfl (by (try simp only [mT,mC,mN]);first|done|rfl|(simp only [lD,lT];rfl)) ?_
 with_reducible refine (strconv_Itoa_30.calls a0_4 t173 _ ?side1 A17.out).mono ?_
 (case side1=>exact Glob.below HG.out (by repeat (first|(with_reducible first|exact HB.out|apply bL|apply pN|apply bE|refine bS ?_ GE147.out|refine bS ?_ GE149.out)|exact HB.out)))
 rintro e w55 ⟨rfl,hb⟩
 refine ⟨_,rfl,?_⟩
 have n0_:=Am (Kd.R_below (by (with_reducible repeat (first|apply Kd.R_alloc|apply Kd.R_drewN|apply Kd.R_drew));exact HO152.out) hb)
 have n1_:=Am (blk_below (g:=gb147) (by (with_reducible repeat (first|refine bN ?_ _|refine bD ?_|refine bA ?_ _));exact BK147.out) hb)
 have n2_:=Am (blk_below (g:=gb149) (by (with_reducible repeat (first|refine bN ?_ _|refine bD ?_|refine bA ?_ _));exact BK149.out) hb)
 have n3_:=Am (below_step (by repeat (first|(with_reducible first|exact HB.out|apply bL|apply pN|apply bE|refine bS ?_ GE147.out|refine bS ?_ GE149.out)|exact HB.out)) hb)
 clear HO152
 clear BK147
 clear BK149
 clear HB
 have HO152:=n0_
 have BK147:=n1_
 have BK149:=n2_
 have HB:=n3_
 clear n0_ n1_ n2_ n3_
 refine hK.out _ _ ⟨(bC BK149.out 0).trans rfl,(bC BK149.out 1).trans rfl,(bC BK149.out 2).trans rfl,(bC BK149.out 3).trans rfl,(bC BK149.out 4).trans rfl⟩ (fun hHeld=>?_)
 clear hK K
 refine norm_ (a':=?_) ?_ ?_
 rotate_left
 ·show Act.put _ (some 49) _ = _
  simp only [Act.put,sT,sZ,sS,iW,iV]
  rfl
 refine one_ (i:=6) (N:=some 52) #[J,J,J,J,J,J,J,J,J,O,J,J,O,J,J,O,O,O,O,O] rfl rfl (one_of HT_.out (by kernel_rfl)) (by decide) (fun K hK=>?_)
 refine goes_ Tryd.func30 (by kernel_rfl) rfl #[.int .i64 a0_5] (by rfl) rfl rfl (by (try simp only [mT,mC,mN]);first|done|rfl|(simp only [lD,lT];rfl)) ?_
 with_reducible refine (strconv_Itoa_30.calls a0_5 t174 _ ?side1 A18.out).mono ?_
 (case side1=>exact Glob.below HG.out (by repeat (first|(with_reducible first|exact HB.out|apply bL|apply pN|apply bE|refine bS ?_ GE147.out|refine bS ?_ GE149.out)|exact HB.out)))
 rintro e w56 ⟨rfl,hb⟩
 refine ⟨_,rfl,?_⟩
 have n0_:=Am (Kd.R_below (by (with_reducible repeat (first|apply Kd.R_alloc|apply Kd.R_drewN|apply Kd.R_drew));exact HO152.out) hb)
 have n1_:=Am (blk_below (g:=gb147) (by (with_reducible repeat (first|refine bN ?_ _|refine bD ?_|refine bA ?_ _));exact BK147.out) hb)
 have n2_:=Am (blk_below (g:=gb149) (by (with_reducible repeat (first|refine bN ?_ _|refine bD ?_|refine bA ?_ _));exact BK149.out) hb)
 have n3_:=Am (below_step (by repeat (first|(with_reducible first|exact HB.out|apply bL|apply pN|apply bE|refine bS ?_ GE147.out|refine bS ?_ GE149.out)|exact HB.out)) hb)
 clear HO152
 clear BK147
 clear BK149
 clear HB
 have HO152:=n0_
 have BK147:=n1_
 have BK149:=n2_
 have HB:=n3_
 clear n0_ n1_ n2_ n3_
 refine hK.out _ _ ⟨(bC BK149.out 0).trans rfl,(bC BK149.out 1).trans rfl,(bC BK149.out 2).trans rfl,(bC BK149.out 3).trans rfl,(bC BK149.out 4).trans rfl⟩ (fun hHeld=>?_)
 clear hK K
 refine norm_ (a':=?_) ?_ ?_
 rotate_left
 ·show Act.put _ (some 52) _ = _
  simp only [Act.put,sT,sZ,sS,iW,iV]
  rfl
 refine one_ (i:=9) (N:=some 55) #[J,J,J,J,J,J,J,J,J,J,J,J,O,J,J,O,O,O,O,O] rfl rfl (one_of HT_.out (by kernel_rfl)) (by decide) (fun K hK=>?_)
 refine goes_ Tryd.func30 (by kernel_rfl) rfl #[.int .i64 a0_6] (by rfl) rfl rfl (by (try simp only [mT,mC,mN]);first|done|rfl|(simp only [lD,lT];rfl)) ?_
 with_reducible refine (strconv_Itoa_30.calls a0_6 t175 _ ?side1 A19.out).mono ?_
 (case side1=>exact Glob.below HG.out (by repeat (first|(with_reducible first|exact HB.out|apply bL|apply pN|apply bE|refine bS ?_ GE147.out|refine bS ?_ GE149.out)|exact HB.out)))
 rintro e w57 ⟨rfl,hb⟩
 refine ⟨_,rfl,?_⟩
 have n0_:=Am (Kd.R_below (by (with_reducible repeat (first|apply Kd.R_alloc|apply Kd.R_drewN|apply Kd.R_drew));exact HO152.out) hb)
 have n1_:=Am (blk_below (g:=gb147) (by (with_reducible repeat (first|refine bN ?_ _|refine bD ?_|refine bA ?_ _));exact BK147.out) hb)
 have n2_:=Am (blk_below (g:=gb149) (by (with_reducible repeat (first|refine bN ?_ _|refine bD ?_|refine bA ?_ _));exact BK149.out) hb)
 have n3_:=Am (below_step (by repeat (first|(with_reducible first|exact HB.out|apply bL|apply pN|apply bE|refine bS ?_ GE147.out|refine bS ?_ GE149.out)|exact HB.out)) hb)
 clear HO152
 clear BK147
 clear BK149
 clear HB
 have HO152:=n0_
 have BK147:=n1_
 have BK149:=n2_
 have HB:=n3_
 clear n0_ n1_ n2_ n3_
 refine hK.out _ _ ⟨(bC BK149.out 0).trans rfl,(bC BK149.out 1).trans rfl,(bC BK149.out 2).trans rfl,(bC BK149.out 3).trans rfl,(bC BK149.out 4).trans rfl⟩ (fun hHeld=>?_)
 clear hK K
 refine norm_ (a':=?_) ?_ ?_
 rotate_left
 ·show Act.put _ (some 55) _ = _
  simp only [Act.put,sT,sZ,sS,iW,iV]
  rfl
 refine one_ (i:=12) (N:=some 58) #[J,J,J,J,J,J,J,J,J,J,J,J,J,J,J,O,O,O,O,O] rfl rfl (one_of HT_.out (by kernel_rfl)) (by decide) (fun K hK=>?_)
 refine goes_ Tryd.func30 (by kernel_rfl) rfl #[.int .i64 a0_7] (by rfl) rfl rfl (by (try simp only [mT,mC,mN]);first|done|rfl|(simp only [lD,lT];rfl)) ?_
 with_reducible refine (strconv_Itoa_30.calls a0_7 t176 _ ?side1 A20.out).mono ?_
 (case side1=>exact Glob.below HG.out (by repeat (first|(with_reducible first|exact HB.out|apply bL|apply pN|apply bE|refine bS ?_ GE147.out|refine bS ?_ GE149.out)|exact HB.out)))
 rintro e w58 ⟨rfl,hb⟩
 refine ⟨_,rfl,?_⟩
 have n0_:=Am (Kd.R_below (by (with_reducible repeat (first|apply Kd.R_alloc|apply Kd.R_drewN|apply Kd.R_drew));exact HO152.out) hb)
 have n1_:=Am (blk_below (g:=gb147) (by (with_reducible repeat (first|refine bN ?_ _|refine bD ?_|refine bA ?_ _));exact BK147.out) hb)
 have n2_:=Am (blk_below (g:=gb149) (by (with_reducible repeat (first|refine bN ?_ _|refine bD ?_|refine bA ?_ _));exact BK149.out) hb)
 have n3_:=Am (below_step (by repeat (first|(with_reducible first|exact HB.out|apply bL|apply pN|apply bE|refine bS ?_ GE147.out|refine bS ?_ GE149.out)|exact HB.out)) hb)
 clear HO152
 clear BK147
 clear BK149
 clear HB
 have HO152:=n0_
 have BK147:=n1_
 have BK149:=n2_
 have HB:=n3_
 clear n0_ n1_ n2_ n3_
 refine hK.out _ _ ⟨(bC BK149.out 0).trans rfl,(bC BK149.out 1).trans rfl,(bC BK149.out 2).trans rfl,(bC BK149.out 3).trans rfl,(bC BK149.out 4).trans rfl⟩ (fun hHeld=>?_)
 clear hK K
 refine norm_ (a':=?_) ?_ ?_
 rotate_left
 ·show Act.put _ (some 58) _ = _
  simp only [Act.put,sT,sZ,sS,iW,iV]
  rfl
 refine one_ (i:=15) (N:=some 61) #[J,J,J,J,J,J,J,J,J,J,J,J,J,J,J,J,O,O,O,O] rfl rfl (one_of HT_.out (by kernel_rfl)) (by decide) (fun K hK=>?_)
 refine goes_ Tryd.func30 (by kernel_rfl) rfl #[.int .i64 a0_8] (by rfl) rfl rfl (by (try simp only [mT,mC,mN]);first|done|rfl|(simp only [lD,lT];rfl)) ?_
 with_reducible refine (strconv_Itoa_30.calls a0_8 t177 _ ?side1 A21.out).mono ?_
 (case side1=>exact Glob.below HG.out (by repeat (first|(with_reducible first|exact HB.out|apply bL|apply pN|apply bE|refine bS ?_ GE147.out|refine bS ?_ GE149.out)|exact HB.out)))
 rintro e w59 ⟨rfl,hb⟩
 refine ⟨_,rfl,?_⟩
 have n0_:=Am (Kd.R_below (by (with_reducible repeat (first|apply Kd.R_alloc|apply Kd.R_drewN|apply Kd.R_drew));exact HO152.out) hb)
 have n1_:=Am (blk_below (g:=gb147) (by (with_reducible repeat (first|refine bN ?_ _|refine bD ?_|refine bA ?_ _));exact BK147.out) hb)
 have n2_:=Am (blk_below (g:=gb149) (by (with_reducible repeat (first|refine bN ?_ _|refine bD ?_|refine bA ?_ _));exact BK149.out) hb)
 have n3_:=Am (below_step (by repeat (first|(with_reducible first|exact HB.out|apply bL|apply pN|apply bE|refine bS ?_ GE147.out|refine bS ?_ GE149.out)|exact HB.out)) hb)
 clear HO152
 clear BK147
 clear BK149
 clear HB
 have HO152:=n0_
 have BK147:=n1_
 have BK149:=n2_
 have HB:=n3_
 clear n0_ n1_ n2_ n3_
 refine hK.out _ _ ⟨(bC BK149.out 0).trans rfl,(bC BK149.out 1).trans rfl,(bC BK149.out 2).trans rfl,(bC BK149.out 3).trans rfl,(bC BK149.out 4).trans rfl⟩ (fun hHeld=>?_)
 clear hK K
 refine norm_ (a':=?_) ?_ ?_
 rotate_left
 ·show Act.put _ (some 61) _ = _
  simp only [Act.put,sT,sZ,sS,iW,iV]
  rfl
 refine one_ (i:=16) (N:=some 62) #[J,J,J,J,J,J,J,J,J,J,J,J,J,J,J,J,J,O,O,O] rfl rfl (one_of HT_.out (by kernel_rfl)) (by decide) (fun K hK=>?_)
 refine Kd.R_lit_step Kd.string _ 9 ?hg (N:=62) ?hd (xs:=([(⟨#[119,101,105,103,104,116,115]⟩ : ByteArray),t173,t174,t175,t176,t177] : List ByteArray)) (inner:=[.string (⟨#[119,101,105,103,104,116,115]⟩ : ByteArray),.string t173,.string t174,.string t175,.string t176,.string t177]) (ok:=fun _=>True) (okp:=fun _=>True) ?hr ?hp (fun _ hk=>hk) trivial (Below.refl _ _) (Nat.le_refl _) (by simp) ?_;(case hd=>rfl);(case hg=>rfl);(case hr=>first|(go_simp;done)|(go_simp;rfl));(case hp=>exact (Reps.one (show Kd.M Kd.string _ _ _ (⟨#[119,101,105,103,104,116,115]⟩ : ByteArray) [.string (⟨#[119,101,105,103,104,116,115]⟩ : ByteArray)] from rfl) (Reps.one (show Kd.M Kd.string _ _ _ t173 [.string t173] from rfl) (Reps.one (show Kd.M Kd.string _ _ _ t174 [.string t174] from rfl) (Reps.one (show Kd.M Kd.string _ _ _ t175 [.string t175] from rfl) (Reps.one (show Kd.M Kd.string _ _ _ t176 [.string t176] from rfl) (Reps.one (show Kd.M Kd.string _ _ _ t177 [.string t177] from rfl) (Reps.none _ _))))))))
 intro v179 w60 ho61 hb hg_ hnew_
 clear hg_ hnew_
 (first|rw [← Ny178.out] at ho61|(simp only [Int.reduceToNat] at ho61;rw [← Ny178.out] at ho61))
 have n0_:=Am (Kd.R_elder' (by (with_reducible repeat (first|apply Kd.R_alloc|apply Kd.R_drewN|apply Kd.R_drew));exact HO152.out) (Kd.R_base ho61) hb)
 have n1_:=Am (Kd.R_lower (Kd.R_new' ho61 (Kd.R_lt (by (with_reducible repeat (first|apply Kd.R_alloc|apply Kd.R_drewN|apply Kd.R_drew));exact HO152.out))) (bZ (by repeat (first|(with_reducible first|exact HB.out|apply bL|apply pN|apply bE|refine bS ?_ GE147.out|refine bS ?_ GE149.out)|exact HB.out))))
 have n2_:=Am (blk_below (g:=gb147) (by (with_reducible repeat (first|refine bN ?_ _|refine bD ?_|refine bA ?_ _));exact BK147.out) hb)
 have n3_:=Am (blk_below (g:=gb149) (by (with_reducible repeat (first|refine bN ?_ _|refine bD ?_|refine bA ?_ _));exact BK149.out) hb)
 have n4_:=Am (below_step (by repeat (first|(with_reducible first|exact HB.out|apply bL|apply pN|apply bE|refine bS ?_ GE147.out|refine bS ?_ GE149.out)|exact HB.out)) hb)
 clear HO152
 clear BK147
 clear BK149
 clear HB
 have HO152:=n0_
 have HO180:=n1_
 have BK147:=n2_
 have BK149:=n3_
 have HB:=n4_
 clear n0_ n1_ n2_ n3_ n4_
 clear hb ho61
 obtain ⟨Ao62,co62,eo62⟩:=Kd.R_slice HO180.out
 (first|subst eo62|(injection eo62 with f1_ f2_ f3_;have f4_:=f1_.symm;have f5_:=f3_.symm;clear f1_ f2_ f3_;subst f4_;subst f5_))
 refine hK.out _ _ ⟨(bC BK149.out 0).trans rfl,(bC BK149.out 1).trans rfl,(bC BK149.out 2).trans rfl,(bC BK149.out 3).trans rfl,(bC BK149.out 4).trans rfl⟩ (fun hHeld=>?_)
 clear hK K
 refine norm_ (a':=?_) ?_ ?_
 rotate_left
 ·show Act.put _ (some 62) _ = _
  simp only [Act.put,sT,sZ,sS,iW,iV]
  rfl
 refine one_ (i:=17) (N:=some 63) #[J,J,J,J,J,J,J,J,J,J,J,J,J,J,J,J,J,J,O,O] rfl rfl (one_of HT_.out (by kernel_rfl)) (by decide) (fun K hK=>?_)
 refine goes_ Tryd.func28 (by kernel_rfl) rfl #[.slice Ao62 y178.length co62] (by rfl) rfl rfl (by (try simp only [mT,mC,mN]);first|done|rfl|(simp only [lD,lT];rfl)) ?_
 with_reducible refine (conf_row.calls (fun k_=>some k_ = (.slice Ao62 y178.length co62 : Value).ownBlock) (.slice Ao62 y178.length co62) y178 t181 w _ ?side1 ?side2 A22.out).mono ?_
 (case side1=>repeat (first|(with_reducible first|exact HB.out|apply bL|apply pN|apply bE|refine bS ?_ GE147.out|refine bS ?_ GE149.out)|exact HB.out))
 (case side2=>exact Kd.R_tight rfl HO180.out)
 rintro e w63 ⟨rfl,hb,hkp⟩
 refine ⟨_,rfl,?_⟩
 have n0_:=Am (blk_kept (by (with_reducible repeat (first|refine bN ?_ _|refine bD ?_|refine bA ?_ _));exact BK147.out) hkp (fun hs_=>(fun e_=>(Kd.R_ne HO180.out BK147.out (by decide)) e_) hs_))
 have n1_:=Am (blk_kept (by (with_reducible repeat (first|refine bN ?_ _|refine bD ?_|refine bA ?_ _));exact BK149.out) hkp (fun hs_=>(fun e_=>(Kd.R_ne HO180.out BK149.out (by decide)) e_) hs_))
 have n2_:=Am (Kd.R_mono (ok':=fun k_=>True) (Kd.R_keptB (HO152.out) hkp (fun k_ hk_ hs_=>(hk_.2) hs_)) (fun k_ hk_=>trivial))
 have n3_:=Am (hb)
 clear BK147
 clear BK149
 clear HO152
 clear HB
 clear HO180
 have BK147:=n0_
 have BK149:=n1_
 have HO152:=n2_
 have HB:=n3_
 clear n0_ n1_ n2_ n3_
 refine hK.out _ _ ⟨(bC BK149.out 0).trans rfl,(bC BK149.out 1).trans rfl,(bC BK149.out 2).trans rfl,(bC BK149.out 3).trans rfl,(bC BK149.out 4).trans rfl⟩ (fun hHeld=>?_)
 clear hK K
 refine norm_ (a':=?_) ?_ ?_
 rotate_left
 ·show Act.put _ (some 63) _ = _
  simp only [Act.put,sT,sZ,sS,iW,iV]
  rfl
 refine pure_ (i:=18) (N:=some 64) (v:=?_) (a':=?_) #[J,J,J,J,J,J,J,J,J,J,J,J,J,J,J,J,J,J,J,O] rfl rfl (any_of HT_.out (by kernel_rfl)) (fun _ _ _ h=>h) (Or.inl ⟨by rfl,?_⟩) ?_ ?_
 rotate_left
 ·intro w'
  go_simp
  with_reducible rfl
 rotate_left
 ·simp only [Act.put,sT,sZ,sS,iW,iV]
  rfl
 refine pure_ (i:=19) (N:=some 6) (v:=?_) (a':=?_) #[J,J,J,J,J,J,J,J,J,J,J,J,J,J,J,J,J,J,J,J] rfl rfl (any_of HT_.out (by kernel_rfl)) (fun _ _ _ h=>h) (Or.inl ⟨by rfl,?_⟩) ?_ ?_
 rotate_left
 ·intro w'
  go_simp
  with_reducible rfl
 rotate_left
 ·simp only [Act.put,sT,sZ,sS,iW,iV]
  rfl
 refine done_ (done_of HT_.out (by kernel_rfl)) ?_
 obtain ⟨X64_0,X64_1,X64_2,X64_3,X64_4,X64_5,X64_6,X64_7,X64_8,X64_9,X64_10,X64_11,Y64_0,Y64_1,Y64_2,Y64_3,Y64_4,Y64_5,Y64_6,Y64_7,Y64_8,Y64_9,Y64_10,Y64_11⟩:=kc12 (w:=w63) (g:=gb147) BK147.out
 try go_wp2
 go_loopg [6,68] k (fun kq v6 v68 w'=>∃ (x6_1 : ByteArray) (x68_1 : Int),v6 = .string x6_1∧v68 = .int .i64 x68_1∧Aside0 (conf_Print.l0 kq x6_1 l0_9 (l0_9.length : Int) x68_1 a0_0 a0_1 a0_2 a0_3 a0_4 a0_5 a0_6 a0_7 a0_8 l0_9 l0_10 l0_11 = some (r1,r2))∧Aside0 (kq≤k)∧Aside0 (w'.heap[gb147]? = some (.cells #[.int .i64 a0_0,.int .i64 a0_1,.int .i64 a0_2,.int .i64 a0_3,.int .i64 a0_4,.int .i64 a0_5,.int .i64 a0_6,.int .i64 a0_7,.int .i64 a0_8,(.slice A0_9 l0_9.length c0_9),(.slice A0_10 l0_10.length c0_10),(.slice A0_11 l0_11.length c0_11)] 28 (0,0)))∧Aside0 (w'.heap[gb149]? = some (.cells #[.int .i64 a0_4,.int .i64 a0_5,.int .i64 a0_6,.int .i64 a0_7,.int .i64 a0_8] 23 (0,0)))∧Aside0 (Below w.heap.size w w'))
 case atStart=>exact ⟨((((t157 ++ t162) ++ t167) ++ t172) ++ t181),(0),(by first|rfl|(simp;done)|(simp [*];done)),(by first|rfl|(simp;done)|(simp [*];done)),H',⟨Nat.le_refl _⟩,⟨by (with_reducible repeat (first|refine bN ?_ _|refine bD ?_|refine bA ?_ _));exact BK147.out⟩,⟨by (with_reducible repeat (first|refine bN ?_ _|refine bD ?_|refine bA ?_ _));exact BK149.out⟩,⟨by repeat (first|(with_reducible first|exact HB.out|apply bL|apply pN|apply bE|refine bS ?_ GE147.out|refine bS ?_ GE149.out)|exact HB.out)⟩⟩
 case round =>
  clear H'
  obtain ⟨x6_1,x68_1,rfl,rfl,HA,HK1,BK147,BK149,HB⟩:=hrel
  cases gk with
  | zero=>exact absurd HA.out (by simp [conf_Print.l0])
  | succ k1 =>
   have H:=HA.out
   clear HA
   simp only [conf_Print.l0] at H
   by_cases c65 : x68_1 < (l0_9.length : Int)
   ·rw [if_pos c65] at H
    have c65b0 : decide (x68_1 < (l0_9.length : Int)) = true:=decide_eq_true c65
    clear c65
    by_cases c66 : 0≤x68_1
    rotate_left
    ·rw [if_neg c66] at H
     exact absurd H (by simp)
    rw [if_pos c66] at H
    have c66b0 : decide (0≤x68_1) = true:=decide_eq_true c66
    clear c66
    by_cases c67 : x68_1 < (l0_9.length : Int)
    rotate_left
    ·rw [if_neg c67] at H
     exact absurd H (by simp)
    rw [if_pos c67] at H
    have c67b0 : decide (x68_1 < (l0_9.length : Int)) = true:=decide_eq_true c67
    clear c67
    replace H:=oB H
    obtain ⟨t184,A680,H⟩:=H
    try dsimp only at H
    have A68:=Am A680
    clear A680
    replace H:=oB H
    obtain ⟨t185,A690,H⟩:=H
    try dsimp only at H
    have A69:=Am A690
    clear A690
    replace H:=oB H
    obtain ⟨t186,A700,H⟩:=H
    try dsimp only at H
    have A70:=Am A700
    clear A700
    obtain ⟨y187,hy187⟩ : ∃ y_ : List ByteArray,y_ = (([(⟨#[112,97,114,116,105,116,105,111,110]⟩ : ByteArray),(rd_T50 l0_9 x68_1).f0,(⟨#[111,114,100,101,114]⟩ : ByteArray),t184,(⟨#[112,114,105,111,114,105,116,121]⟩ : ByteArray),t185,(⟨#[108,105,109,105,116]⟩ : ByteArray),t186] : List ByteArray)):=⟨_,rfl⟩
    replace H : ((conf_row.f y187).bind fun t190=>(if x6_1.size + t190.size≤9223372036854775807 then (conf_Print.l0 k1 (x6_1 ++ t190) l0_9 (l0_9.length : Int) (wrap64 (x68_1 + 1)) a0_0 a0_1 a0_2 a0_3 a0_4 a0_5 a0_6 a0_7 a0_8 l0_9 l0_10 l0_11) else (none))) = some (r1,r2):=by first|(rw [hy187];with_reducible exact H)|(have H2_:=(Option.bind_some _ _).symm.trans H;rw [hy187];with_reducible exact H2_)|(have H2_:=(Option.bind_some _ _).symm.trans H;with_reducible exact H2_)|with_reducible exact H|(rw [hy187];exact H)|exact H
    have Ny187:=Am hy187
    clear hy187
    replace H:=oB H
    obtain ⟨t190,A710,H⟩:=H
    try dsimp only at H
    have A71:=Am A710
    clear A710
    by_cases c72 : x6_1.size + t190.size≤9223372036854775807
    rotate_left
    ·rw [if_neg c72] at H
     exact absurd H (by simp)
    rw [if_pos c72] at H
    have c72b0:=eq_true c72
    have c72b1 : decide (x6_1.size + t190.size≤9223372036854775807) = true:=decide_eq_true c72
    try have c72b2 : (9223372036854775807 < x6_1.size + t190.size) = False:=eq_false (Nat.not_lt.2 c72)
    try (have c72b3:=c72b2;simp only [ByteArray.size_append,size_lit1,size_lit0,Nat.add_zero] at c72b3)
    try (have c72b5:=c72b2;simp only [ByteArray.size_append,size_litA,List.size_toArray,List.length_cons,List.length_nil,Nat.zero_add,Nat.reduceAdd] at c72b5)
    have H':=Am H
    clear H
    have p182 : 0≤(x68_1 : Int):=of_decide_eq_true (by first|(with_reducible assumption)|assumption)
    have q182 : x68_1 < (l0_9.length : Int):=of_decide_eq_true (by first|(with_reducible assumption)|assumption)
    obtain ⟨ad182,e182,hx182_0,hx182_1,hx182_2,hx182_3⟩:=at_T50 HR0_9.out x68_1 p182 q182
    cases e182
    replace hx182_0:=(HB.out.cell (wB w _ hx182_0)).trans hx182_0
    replace hx182_1:=(HB.out.cell (wB w _ hx182_1)).trans hx182_1
    replace hx182_2:=(HB.out.cell (wB w _ hx182_2)).trans hx182_2
    replace hx182_3:=(HB.out.cell (wB w _ hx182_3)).trans hx182_3
    replace p182:=eq_true p182
    replace q182:=eq_true q182
    try go_wp2_with (first|((with_reducible refine gD (N:=8) rfl ?_);refine box_event ?hg (N:=8) ?hd (cs:=#[.string (⟨#[]⟩ : ByteArray),.int .i64 0,.int .i64 0,.int .i64 0]) (t:=50) ?hr ?_;(case hd=>rfl);(case hg=>rfl);(case hr=>first|(go_simp;done)|(go_simp;rfl));intro gb183 hg w73 hbox hb;have n0_:=Am (blk_below (g:=gb147) (by (with_reducible repeat (first|refine bN ?_ _|refine bD ?_|refine bA ?_ _));exact BK147.out) hb);have n1_:=Am (blk_below (g:=gb149) (by (with_reducible repeat (first|refine bN ?_ _|refine bD ?_|refine bA ?_ _));exact BK149.out) hb);have n2_:=Am (below_step (by repeat (first|(with_reducible first|exact HB.out|apply bL|apply pN|apply bE|refine bS ?_ GE147.out|refine bS ?_ GE149.out)|exact HB.out)) hb);have n3_:=Am (hbox);have n4_:=Am ((by rw [hg];exact (bZ (by repeat (first|(with_reducible first|exact HB.out|apply bL|apply pN|apply bE|refine bS ?_ GE147.out|refine bS ?_ GE149.out)|exact HB.out))) : w.heap.size≤gb183));have n5_:=n4_;have n6_:=Am ((by rw [hg];exact Nat.ne_of_lt (blk_lt (g:=gb147) (by (with_reducible repeat (first|refine bN ?_ _|refine bD ?_|refine bA ?_ _));exact BK147.out)) : gb147 ≠ gb183));have n7_:=Am ((by rw [hg];exact Nat.ne_of_gt (blk_lt (g:=gb147) (by (with_reducible repeat (first|refine bN ?_ _|refine bD ?_|refine bA ?_ _));exact BK147.out)) : gb183 ≠ gb147));have n8_:=Am ((by rw [hg];exact Nat.ne_of_lt (blk_lt (g:=gb149) (by (with_reducible repeat (first|refine bN ?_ _|refine bD ?_|refine bA ?_ _));exact BK149.out)) : gb149 ≠ gb183));have n9_:=Am ((by rw [hg];exact Nat.ne_of_gt (blk_lt (g:=gb149) (by (with_reducible repeat (first|refine bN ?_ _|refine bD ?_|refine bA ?_ _));exact BK149.out)) : gb183 ≠ gb149));clear BK147;clear BK149;clear HB;have BK147:=n0_;have BK149:=n1_;have HB:=n2_;have BK183:=n3_;have GW183:=n4_;have GE183:=n5_;have NB147_183:=n6_;have NB183_147:=n7_;have NB149_183:=n8_;have NB183_149:=n9_;clear n0_ n1_ n2_ n3_ n4_ n5_ n6_ n7_ n8_ n9_;clear hb hbox hg;have hnb74:=NB183_147.out;have hnc74:=NB147_183.out;have hnb75:=NB183_149.out;have hnc75:=NB149_183.out;obtain ⟨X76_0,X76_1,X76_2,X76_3,Y76_0,Y76_1,Y76_2,Y76_3⟩:=kc4 (w:=w73) (g:=gb183) BK183.out))
    have n0_ : Aside0 (((((w73.setCell ⟨gb183,0,none⟩ (.string ((rd_T50 l0_9 x68_1).f0))).setCell ⟨gb183,1,none⟩ (.int .i64 ((rd_T50 l0_9 x68_1).f1))).setCell ⟨gb183,2,none⟩ (.int .i64 ((rd_T50 l0_9 x68_1).f2))).setCell ⟨gb183,3,none⟩ (.int .i64 ((rd_T50 l0_9 x68_1).f3))).heap[gb147]? = some (.cells #[.int .i64 a0_0,.int .i64 a0_1,.int .i64 a0_2,.int .i64 a0_3,.int .i64 a0_4,.int .i64 a0_5,.int .i64 a0_6,.int .i64 a0_7,.int .i64 a0_8,.slice (some ad182) l0_9.length c0_9,.slice A0_10 l0_10.length c0_10,.slice A0_11 l0_11.length c0_11] 28 (0,0))):=⟨by (with_reducible repeat (first|refine bN ?_ _|refine bD ?_|refine bA ?_ _));refine blk_far ?_ NB147_183.out _;(with_reducible repeat (first|refine bN ?_ _|refine bD ?_|refine bA ?_ _));refine blk_far ?_ NB147_183.out _;(with_reducible repeat (first|refine bN ?_ _|refine bD ?_|refine bA ?_ _));refine blk_far ?_ NB147_183.out _;(with_reducible repeat (first|refine bN ?_ _|refine bD ?_|refine bA ?_ _));refine blk_far ?_ NB147_183.out _;(with_reducible repeat (first|refine bN ?_ _|refine bD ?_|refine bA ?_ _));exact BK147.out⟩
    have n1_ : Aside0 (((((w73.setCell ⟨gb183,0,none⟩ (.string ((rd_T50 l0_9 x68_1).f0))).setCell ⟨gb183,1,none⟩ (.int .i64 ((rd_T50 l0_9 x68_1).f1))).setCell ⟨gb183,2,none⟩ (.int .i64 ((rd_T50 l0_9 x68_1).f2))).setCell ⟨gb183,3,none⟩ (.int .i64 ((rd_T50 l0_9 x68_1).f3))).heap[gb149]? = some (.cells #[.int .i64 a0_4,.int .i64 a0_5,.int .i64 a0_6,.int .i64 a0_7,.int .i64 a0_8] 23 (0,0))):=⟨by (with_reducible repeat (first|refine bN ?_ _|refine bD ?_|refine bA ?_ _));refine blk_far ?_ NB149_183.out _;(with_reducible repeat (first|refine bN ?_ _|refine bD ?_|refine bA ?_ _));refine blk_far ?_ NB149_183.out _;(with_reducible repeat (first|refine bN ?_ _|refine bD ?_|refine bA ?_ _));refine blk_far ?_ NB149_183.out _;(with_reducible repeat (first|refine bN ?_ _|refine bD ?_|refine bA ?_ _));refine blk_far ?_ NB149_183.out _;(with_reducible repeat (first|refine bN ?_ _|refine bD ?_|refine bA ?_ _));exact BK149.out⟩
    have n2_ : Aside0 (((((w73.setCell ⟨gb183,0,none⟩ (.string ((rd_T50 l0_9 x68_1).f0))).setCell ⟨gb183,1,none⟩ (.int .i64 ((rd_T50 l0_9 x68_1).f1))).setCell ⟨gb183,2,none⟩ (.int .i64 ((rd_T50 l0_9 x68_1).f2))).setCell ⟨gb183,3,none⟩ (.int .i64 ((rd_T50 l0_9 x68_1).f3))).heap[gb183]? = some (.cells #[.string ((rd_T50 l0_9 x68_1).f0),.int .i64 ((rd_T50 l0_9 x68_1).f1),.int .i64 ((rd_T50 l0_9 x68_1).f2),.int .i64 ((rd_T50 l0_9 x68_1).f3)] 50 (0,0))):=⟨by (with_reducible repeat (first|refine bN ?_ _|refine bD ?_|refine bA ?_ _));refine blk_put (cs:=#[.string ((rd_T50 l0_9 x68_1).f0),.int .i64 ((rd_T50 l0_9 x68_1).f1),.int .i64 ((rd_T50 l0_9 x68_1).f2),.int .i64 0]) ?_ 3 _ rfl;(with_reducible repeat (first|refine bN ?_ _|refine bD ?_|refine bA ?_ _));refine blk_put (cs:=#[.string ((rd_T50 l0_9 x68_1).f0),.int .i64 ((rd_T50 l0_9 x68_1).f1),.int .i64 0,.int .i64 0]) ?_ 2 _ rfl;(with_reducible repeat (first|refine bN ?_ _|refine bD ?_|refine bA ?_ _));refine blk_put (cs:=#[.string ((rd_T50 l0_9 x68_1).f0),.int .i64 0,.int .i64 0,.int .i64 0]) ?_ 1 _ rfl;(with_reducible repeat (first|refine bN ?_ _|refine bD ?_|refine bA ?_ _));refine blk_put (cs:=#[.string (⟨#[]⟩ : ByteArray),.int .i64 0,.int .i64 0,.int .i64 0]) ?_ 0 _ rfl;(with_reducible repeat (first|refine bN ?_ _|refine bD ?_|refine bA ?_ _));exact BK183.out⟩
    have n3_ : Aside0 (Below w.heap.size w ((((w73.setCell ⟨gb183,0,none⟩ (.string ((rd_T50 l0_9 x68_1).f0))).setCell ⟨gb183,1,none⟩ (.int .i64 ((rd_T50 l0_9 x68_1).f1))).setCell ⟨gb183,2,none⟩ (.int .i64 ((rd_T50 l0_9 x68_1).f2))).setCell ⟨gb183,3,none⟩ (.int .i64 ((rd_T50 l0_9 x68_1).f3)))):=⟨by repeat (first|(with_reducible first|exact HB.out|apply bL|apply pN|apply bE|refine bS ?_ GE147.out|refine bS ?_ GE149.out|refine bS ?_ GE183.out)|exact HB.out)⟩
    generalize ((((w73.setCell ⟨gb183,0,none⟩ (.string ((rd_T50 l0_9 x68_1).f0))).setCell ⟨gb183,1,none⟩ (.int .i64 ((rd_T50 l0_9 x68_1).f1))).setCell ⟨gb183,2,none⟩ (.int .i64 ((rd_T50 l0_9 x68_1).f2))).setCell ⟨gb183,3,none⟩ (.int .i64 ((rd_T50 l0_9 x68_1).f3))) = w77 at n0_ n1_ n2_ n3_ ⊢
    have BK147:=n0_
    have BK149:=n1_
    have BK183:=n2_
    have HB:=n3_
    clear n0_ n1_ n2_ n3_
    have n0_:=Am (bD BK147.out)
    have n1_:=Am (bD BK149.out)
    have n2_:=Am (bD BK183.out)
    have n3_:=Am (bE HB.out)
    clear BK147
    clear BK149
    clear BK183
    clear HB
    have BK147:=n0_
    have BK149:=n1_
    have BK183:=n2_
    have HB:=n3_
    clear n0_ n1_ n2_ n3_
    refine start_ (n:=16) (S:=fun w'=>w'.cell? ⟨gb183,0,none⟩ = some (.string ((rd_T50 l0_9 x68_1).f0))∧w'.cell? ⟨gb183,1,none⟩ = some (.int .i64 ((rd_T50 l0_9 x68_1).f1))∧w'.cell? ⟨gb183,2,none⟩ = some (.int .i64 ((rd_T50 l0_9 x68_1).f2))∧w'.cell? ⟨gb183,3,none⟩ = some (.int .i64 ((rd_T50 l0_9 x68_1).f3))) (ds:=[]) #[O,O,O,O,O,O,O,O,O,O,O,O,O,O,O,O] (by kernel_rfl) rfl rfl ⟨(bC BK183.out 0).trans rfl,(bC BK183.out 1).trans rfl,(bC BK183.out 2).trans rfl,(bC BK183.out 3).trans rfl⟩ (fun hHeld=>?_);refine with_tabW conf_Print.tab10 conf_Print.bits10 (fun HT_ HW_=>?_)
    generalize w77.drew = w78 at BK147 BK149 BK183 HB hHeld ⊢
    refine pure_ (i:=0) (N:=some 72) (v:=?_) (a':=?_) #[J,O,O,O,O,O,O,O,O,O,O,O,O,O,O,O] rfl rfl (any_of HT_.out (by kernel_rfl)) (fun _ _ _ h=>h) (Or.inl ⟨by rfl,?_⟩) ?_ ?_
    rotate_left
    ·intro w'
     go_simp
     with_reducible rfl
    rotate_left
    ·simp only [Act.put,sT,sZ,sS,iW,iV]
     rfl
    refine pure_ (i:=1) (N:=some 73) (v:=?_) (a':=?_) #[J,J,O,O,O,O,O,O,O,O,O,O,O,O,O,O] rfl rfl (any_of HT_.out (by kernel_rfl)) (fun _ _ _ h=>h) (Or.inl ⟨by rfl,?_⟩) ?_ ?_
    rotate_left
    ·intro w'
     go_simp
     with_reducible rfl
    rotate_left
    ·simp only [Act.put,sT,sZ,sS,iW,iV]
     rfl
    refine pure_ (i:=3) (N:=some 75) (v:=?_) (a':=?_) #[J,J,O,J,O,O,O,O,O,O,O,O,O,O,O,O] rfl rfl (any_of HT_.out (by kernel_rfl)) (fun _ _ _ h=>h) (Or.inl ⟨by rfl,?_⟩) ?_ ?_
    rotate_left
    ·intro w'
     go_simp
     with_reducible rfl
    rotate_left
    ·simp only [Act.put,sT,sZ,sS,iW,iV]
     rfl
    refine pure_ (i:=6) (N:=some 78) (v:=?_) (a':=?_) #[J,J,O,J,O,O,J,O,O,O,O,O,O,O,O,O] rfl rfl (any_of HT_.out (by kernel_rfl)) (fun _ _ _ h=>h) (Or.inl ⟨by rfl,?_⟩) ?_ ?_
    rotate_left
    ·intro w'
     go_simp
     with_reducible rfl
    rotate_left
    ·simp only [Act.put,sT,sZ,sS,iW,iV]
     rfl
    refine pure_ (i:=9) (N:=some 81) (v:=?_) (a':=?_) #[J,J,O,J,O,O,J,O,O,J,O,O,O,O,O,O] rfl rfl (any_of HT_.out (by kernel_rfl)) (fun _ _ _ h=>h) (Or.inl ⟨by rfl,?_⟩) ?_ ?_
    rotate_left
    ·intro w'
     go_simp
     with_reducible rfl
    rotate_left
    ·simp only [Act.put,sT,sZ,sS,iW,iV]
     rfl
    refine take_ (i:=2) (N:=some 74) (v:=?_) (a':=?_) #[J,J,J,J,O,O,J,O,O,J,O,O,O,O,O,O] rfl rfl (take_ofW HT_.out HW_.out (by kernel_rfl)) (fun _ _ _ h=>h) (Or.inl ⟨by rfl,?_⟩) hHeld ?_ ?_
    rotate_left
    ·rintro w' ⟨s0,s1,s2,s3⟩
     go_simp
     with_reducible rfl
    rotate_left
    ·simp only [Act.put,sT,sZ,sS,iW,iV]
     rfl
    refine take_ (i:=4) (N:=some 76) (v:=?_) (a':=?_) #[J,J,J,J,J,O,J,O,O,J,O,O,O,O,O,O] rfl rfl (take_ofW HT_.out HW_.out (by kernel_rfl)) (fun _ _ _ h=>h) (Or.inl ⟨by rfl,?_⟩) hHeld ?_ ?_
    rotate_left
    ·rintro w' ⟨s0,s1,s2,s3⟩
     go_simp
     with_reducible rfl
    rotate_left
    ·simp only [Act.put,sT,sZ,sS,iW,iV]
     rfl
    refine take_ (i:=7) (N:=some 79) (v:=?_) (a':=?_) #[J,J,J,J,J,O,J,J,O,J,O,O,O,O,O,O] rfl rfl (take_ofW HT_.out HW_.out (by kernel_rfl)) (fun _ _ _ h=>h) (Or.inl ⟨by rfl,?_⟩) hHeld ?_ ?_
    rotate_left
    ·rintro w' ⟨s0,s1,s2,s3⟩
     go_simp
     with_reducible rfl
    rotate_left
    ·simp only [Act.put,sT,sZ,sS,iW,iV]
     rfl
    refine take_ (i:=10) (N:=some 82) (v:=?_) (a':=?_) #[J,J,J,J,J,O,J,J,O,J,J,O,O,O,O,O] rfl rfl (take_ofW HT_.out HW_.out (by kernel_rfl)) (fun _ _ _ h=>h) (Or.inl ⟨by rfl,?_⟩) hHeld ?_ ?_
    rotate_left
    ·rintro w' ⟨s0,s1,s2,s3⟩
     go_simp
     with_reducible rfl
    rotate_left
    ·simp only [Act.put,sT,sZ,sS,iW,iV]
     rfl
    refine one_ (i:=5) (N:=some 77) #[J,J,J,J,J,J,J,J,O,J,J,O,O,O,O,O] rfl rfl (one_of HT_.out (by kernel_rfl)) (by decide) (fun K hK=>?_)
    refine goes_ Tryd.func30 (by kernel_rfl) rfl #[.int .i64 ((rd_T50 l0_9 x68_1).f1)] (by rfl) rfl rfl (by (try simp only [mT,mC,mN]);first|done|rfl|(simp only [lD,lT];rfl)) ?_
    with_reducible refine (strconv_Itoa_30.calls ((rd_T50 l0_9 x68_1).f1) t184 _ ?side1 A68.out).mono ?_
    (case side1=>exact Glob.below HG.out (by repeat (first|(with_reducible first|exact HB.out|apply bL|apply pN|apply bE|refine bS ?_ GE147.out|refine bS ?_ GE149.out|refine bS ?_ GE183.out)|exact HB.out)))
    rintro e w79 ⟨rfl,hb⟩
    refine ⟨_,rfl,?_⟩
    have n0_:=Am (blk_below (g:=gb147) (by (with_reducible repeat (first|refine bN ?_ _|refine bD ?_|refine bA ?_ _));exact BK147.out) hb)
    have n1_:=Am (blk_below (g:=gb149) (by (with_reducible repeat (first|refine bN ?_ _|refine bD ?_|refine bA ?_ _));exact BK149.out) hb)
    have n2_:=Am (blk_below (g:=gb183) (by (with_reducible repeat (first|refine bN ?_ _|refine bD ?_|refine bA ?_ _));exact BK183.out) hb)
    have n3_:=Am (below_step (by repeat (first|(with_reducible first|exact HB.out|apply bL|apply pN|apply bE|refine bS ?_ GE147.out|refine bS ?_ GE149.out|refine bS ?_ GE183.out)|exact HB.out)) hb)
    clear BK147
    clear BK149
    clear BK183
    clear HB
    have BK147:=n0_
    have BK149:=n1_
    have BK183:=n2_
    have HB:=n3_
    clear n0_ n1_ n2_ n3_
    refine hK.out _ _ ⟨(bC BK183.out 0).trans rfl,(bC BK183.out 1).trans rfl,(bC BK183.out 2).trans rfl,(bC BK183.out 3).trans rfl⟩ (fun hHeld=>?_)
    clear hK K
    refine norm_ (a':=?_) ?_ ?_
    rotate_left
    ·show Act.put _ (some 77) _ = _
     simp only [Act.put,sT,sZ,sS,iW,iV]
     rfl
    refine one_ (i:=8) (N:=some 80) #[J,J,J,J,J,J,J,J,J,J,J,O,O,O,O,O] rfl rfl (one_of HT_.out (by kernel_rfl)) (by decide) (fun K hK=>?_)
    refine goes_ Tryd.func30 (by kernel_rfl) rfl #[.int .i64 ((rd_T50 l0_9 x68_1).f2)] (by rfl) rfl rfl (by (try simp only [mT,mC,mN]);first|done|rfl|(simp only [lD,lT];rfl)) ?_
    with_reducible refine (strconv_Itoa_30.calls ((rd_T50 l0_9 x68_1).f2) t185 _ ?side1 A69.out).mono ?_
    (case side1=>exact Glob.below HG.out (by repeat (first|(with_reducible first|exact HB.out|apply bL|apply pN|apply bE|refine bS ?_ GE147.out|refine bS ?_ GE149.out|refine bS ?_ GE183.out)|exact HB.out)))
    rintro e w80 ⟨rfl,hb⟩
    refine ⟨_,rfl,?_⟩
    have n0_:=Am (blk_below (g:=gb147) (by (with_reducible repeat (first|refine bN ?_ _|refine bD ?_|refine bA ?_ _));exact BK147.out) hb)
    have n1_:=Am (blk_below (g:=gb149) (by (with_reducible repeat (first|refine bN ?_ _|refine bD ?_|refine bA ?_ _));exact BK149.out) hb)
    have n2_:=Am (blk_below (g:=gb183) (by (with_reducible repeat (first|refine bN ?_ _|refine bD ?_|refine bA ?_ _));exact BK183.out) hb)
    have n3_:=Am (below_step (by repeat (first|(with_reducible first|exact HB.out|apply bL|apply pN|apply bE|refine bS ?_ GE147.out|refine bS ?_ GE149.out|refine bS ?_ GE183.out)|exact HB.out)) hb)
    clear BK147
    clear BK149
    clear BK183
    clear HB
    have BK147:=n0_
    have BK149:=n1_
    have BK183:=n2_
    have HB:=n3_
    clear n0_ n1_ n2_ n3_
    refine hK.out _ _ ⟨(bC BK183.out 0).trans rfl,(bC BK183.out 1).trans rfl,(bC BK183.out 2).trans rfl,(bC BK183.out 3).trans rfl⟩ (fun hHeld=>?_)
    clear hK K
    refine norm_ (a':=?_) ?_ ?_
    rotate_left
    ·show Act.put _ (some 80) _ = _
     simp only [Act.put,sT,sZ,sS,iW,iV]
     rfl
    refine one_ (i:=11) (N:=some 83) #[J,J,J,J,J,J,J,J,J,J,J,J,O,O,O,O] rfl rfl (one_of HT_.out (by kernel_rfl)) (by decide) (fun K hK=>?_)
    refine goes_ Tryd.func30 (by kernel_rfl) rfl #[.int .i64 ((rd_T50 l0_9 x68_1).f3)] (by rfl) rfl rfl (by (try simp only [mT,mC,mN]);first|done|rfl|(simp only [lD,lT];rfl)) ?_
    with_reducible refine (strconv_Itoa_30.calls ((rd_T50 l0_9 x68_1).f3) t186 _ ?side1 A70.out).mono ?_
    (case side1=>exact Glob.below HG.out (by repeat (first|(with_reducible first|exact HB.out|apply bL|apply pN|apply bE|refine bS ?_ GE147.out|refine bS ?_ GE149.out|refine bS ?_ GE183.out)|exact HB.out)))
    rintro e w81 ⟨rfl,hb⟩
    refine ⟨_,rfl,?_⟩
    have n0_:=Am (blk_below (g:=gb147) (by (with_reducible repeat (first|refine bN ?_ _|refine bD ?_|refine bA ?_ _));exact BK147.out) hb)
    have n1_:=Am (blk_below (g:=gb149) (by (with_reducible repeat (first|refine bN ?_ _|refine bD ?_|refine bA ?_ _));exact BK149.out) hb)
    have n2_:=Am (blk_below (g:=gb183) (by (with_reducible repeat (first|refine bN ?_ _|refine bD ?_|refine bA ?_ _));exact BK183.out) hb)
    have n3_:=Am (below_step (by repeat (first|(with_reducible first|exact HB.out|apply bL|apply pN|apply bE|refine bS ?_ GE147.out|refine bS ?_ GE149.out|refine bS ?_ GE183.out)|exact HB.out)) hb)
    clear BK147
    clear BK149
    clear BK183
    clear HB
    have BK147:=n0_
    have BK149:=n1_
    have BK183:=n2_
    have HB:=n3_
    clear n0_ n1_ n2_ n3_
    refine hK.out _ _ ⟨(bC BK183.out 0).trans rfl,(bC BK183.out 1).trans rfl,(bC BK183.out 2).trans rfl,(bC BK183.out 3).trans rfl⟩ (fun hHeld=>?_)
    clear hK K
    refine norm_ (a':=?_) ?_ ?_
    rotate_left
    ·show Act.put _ (some 83) _ = _
     simp only [Act.put,sT,sZ,sS,iW,iV]
     rfl
    refine one_ (i:=12) (N:=some 84) #[J,J,J,J,J,J,J,J,J,J,J,J,J,O,O,O] rfl rfl (one_of HT_.out (by kernel_rfl)) (by decide) (fun K hK=>?_)
    refine Kd.R_lit_step Kd.string _ 9 ?hg (N:=84) ?hd (xs:=([(⟨#[112,97,114,116,105,116,105,111,110]⟩ : ByteArray),(rd_T50 l0_9 x68_1).f0,(⟨#[111,114,100,101,114]⟩ : ByteArray),t184,(⟨#[112,114,105,111,114,105,116,121]⟩ : ByteArray),t185,(⟨#[108,105,109,105,116]⟩ : ByteArray),t186] : List ByteArray)) (inner:=[.string (⟨#[112,97,114,116,105,116,105,111,110]⟩ : ByteArray),.string ((rd_T50 l0_9 x68_1).f0),.string (⟨#[111,114,100,101,114]⟩ : ByteArray),.string t184,.string (⟨#[112,114,105,111,114,105,116,121]⟩ : ByteArray),.string t185,.string (⟨#[108,105,109,105,116]⟩ : ByteArray),.string t186]) (ok:=fun _=>True) (okp:=fun _=>True) ?hr ?hp (fun _ hk=>hk) trivial (Below.refl _ _) (Nat.le_refl _) (by simp) ?_;(case hd=>rfl);(case hg=>rfl);(case hr=>first|(go_simp;done)|(go_simp;rfl));(case hp=>exact (Reps.one (show Kd.M Kd.string _ _ _ (⟨#[112,97,114,116,105,116,105,111,110]⟩ : ByteArray) [.string (⟨#[112,97,114,116,105,116,105,111,110]⟩ : ByteArray)] from rfl) (Reps.one (show Kd.M Kd.string _ _ _ ((rd_T50 l0_9 x68_1).f0) [.string ((rd_T50 l0_9 x68_1).f0)] from rfl) (Reps.one (show Kd.M Kd.string _ _ _ (⟨#[111,114,100,101,114]⟩ : ByteArray) [.string (⟨#[111,114,100,101,114]⟩ : ByteArray)] from rfl) (Reps.one (show Kd.M Kd.string _ _ _ t184 [.string t184] from rfl) (Reps.one (show Kd.M Kd.string _ _ _ (⟨#[112,114,105,111,114,105,116,121]⟩ : ByteArray) [.string (⟨#[112,114,105,111,114,105,116,121]⟩ : ByteArray)] from rfl) (Reps.one (show Kd.M Kd.string _ _ _ t185 [.string t185] from rfl) (Reps.one (show Kd.M Kd.string _ _ _ (⟨#[108,105,109,105,116]⟩ : ByteArray) [.string (⟨#[108,105,109,105,116]⟩ : ByteArray)] from rfl) (Reps.one (show Kd.M Kd.string _ _ _ t186 [.string t186] from rfl) (Reps.none _ _))))))))))
    intro v188 w82 ho83 hb hg_ hnew_
    clear hg_ hnew_
    (first|rw [← Ny187.out] at ho83|(simp only [Int.reduceToNat] at ho83;rw [← Ny187.out] at ho83))
    have n0_:=Am (Kd.R_lower ho83 (bZ (by repeat (first|(with_reducible first|exact HB.out|apply bL|apply pN|apply bE|refine bS ?_ GE147.out|refine bS ?_ GE149.out|refine bS ?_ GE183.out)|exact HB.out))))
    have n1_:=Am (blk_below (g:=gb147) (by (with_reducible repeat (first|refine bN ?_ _|refine bD ?_|refine bA ?_ _));exact BK147.out) hb)
    have n2_:=Am (blk_below (g:=gb149) (by (with_reducible repeat (first|refine bN ?_ _|refine bD ?_|refine bA ?_ _));exact BK149.out) hb)
    have n3_:=Am (blk_below (g:=gb183) (by (with_reducible repeat (first|refine bN ?_ _|refine bD ?_|refine bA ?_ _));exact BK183.out) hb)
    have n4_:=Am (below_step (by repeat (first|(with_reducible first|exact HB.out|apply bL|apply pN|apply bE|refine bS ?_ GE147.out|refine bS ?_ GE149.out|refine bS ?_ GE183.out)|exact HB.out)) hb)
    clear BK147
    clear BK149
    clear BK183
    clear HB
    have HO189:=n0_
    have BK147:=n1_
    have BK149:=n2_
    have BK183:=n3_
    have HB:=n4_
    clear n0_ n1_ n2_ n3_ n4_
    clear hb ho83
    obtain ⟨Ao84,co84,eo84⟩:=Kd.R_slice HO189.out
    (first|subst eo84|(injection eo84 with f1_ f2_ f3_;have f4_:=f1_.symm;have f5_:=f3_.symm;clear f1_ f2_ f3_;subst f4_;subst f5_))
    refine hK.out _ _ ⟨(bC BK183.out 0).trans rfl,(bC BK183.out 1).trans rfl,(bC BK183.out 2).trans rfl,(bC BK183.out 3).trans rfl⟩ (fun hHeld=>?_)
    clear hK K
    refine norm_ (a':=?_) ?_ ?_
    rotate_left
    ·show Act.put _ (some 84) _ = _
     simp only [Act.put,sT,sZ,sS,iW,iV]
     rfl
    refine one_ (i:=13) (N:=some 85) #[J,J,J,J,J,J,J,J,J,J,J,J,J,J,O,O] rfl rfl (one_of HT_.out (by kernel_rfl)) (by decide) (fun K hK=>?_)
    refine goes_ Tryd.func28 (by kernel_rfl) rfl #[.slice Ao84 y187.length co84] (by rfl) rfl rfl (by (try simp only [mT,mC,mN]);first|done|rfl|(simp only [lD,lT];rfl)) ?_
    with_reducible refine (conf_row.calls (fun k_=>some k_ = (.slice Ao84 y187.length co84 : Value).ownBlock) (.slice Ao84 y187.length co84) y187 t190 w _ ?side1 ?side2 A71.out).mono ?_
    (case side1=>repeat (first|(with_reducible first|exact HB.out|apply bL|apply pN|apply bE|refine bS ?_ GE147.out|refine bS ?_ GE149.out|refine bS ?_ GE183.out)|exact HB.out))
    (case side2=>exact Kd.R_tight rfl HO189.out)
    rintro e w85 ⟨rfl,hb,hkp⟩
    refine ⟨_,rfl,?_⟩
    have n0_:=Am (blk_kept (by (with_reducible repeat (first|refine bN ?_ _|refine bD ?_|refine bA ?_ _));exact BK147.out) hkp (fun hs_=>(fun e_=>(Kd.R_ne HO189.out BK147.out (by decide)) e_) hs_))
    have n1_:=Am (blk_kept (by (with_reducible repeat (first|refine bN ?_ _|refine bD ?_|refine bA ?_ _));exact BK149.out) hkp (fun hs_=>(fun e_=>(Kd.R_ne HO189.out BK149.out (by decide)) e_) hs_))
    have n2_:=Am (blk_kept (by (with_reducible repeat (first|refine bN ?_ _|refine bD ?_|refine bA ?_ _));exact BK183.out) hkp (fun hs_=>(fun e_=>(Kd.R_ne HO189.out BK183.out (by decide)) e_) hs_))
    have n3_:=Am (hb)
    clear BK147
    clear BK149
    clear BK183
    clear HB
    clear HO189
    have BK147:=n0_
    have BK149:=n1_
    have BK183:=n2_
    have HB:=n3_
    clear n0_ n1_ n2_ n3_
    refine hK.out _ _ ⟨(bC BK183.out 0).trans rfl,(bC BK183.out 1).trans rfl,(bC BK183.out 2).trans rfl,(bC BK183.out 3).trans rfl⟩ (fun hHeld=>?_)
    clear hK K
    refine norm_ (a':=?_) ?_ ?_
    rotate_left
    ·show Act.put _ (some 85) _ = _
     simp only [Act.put,sT,sZ,sS,iW,iV]
     rfl
    refine pure_ (i:=14) (N:=some 86) (v:=?_) (a':=?_) #[J,J,J,J,J,J,J,J,J,J,J,J,J,J,J,O] rfl rfl (any_of HT_.out (by kernel_rfl)) (fun _ _ _ h=>h) (Or.inl ⟨by rfl,?_⟩) ?_ ?_
    rotate_left
    ·intro w'
     go_simp
     with_reducible rfl
    rotate_left
    ·simp only [Act.put,sT,sZ,sS,iW,iV]
     rfl
    refine pure_ (i:=15) (N:=some 6) (v:=?_) (a':=?_) #[J,J,J,J,J,J,J,J,J,J,J,J,J,J,J,J] rfl rfl (any_of HT_.out (by kernel_rfl)) (fun _ _ _ h=>h) (Or.inl ⟨by rfl,?_⟩) ?_ ?_
    rotate_left
    ·intro w'
     go_simp
     with_reducible rfl
    rotate_left
    ·simp only [Act.put,sT,sZ,sS,iW,iV]
     rfl
    refine done_ (done_of HT_.out (by kernel_rfl)) ?_
    try go_wp2
    go_roundg k1
    case measure=>have:=HK1.out;omega
    case rel=>exact ⟨(x6_1 ++ t190),(wrap64 (x68_1 + 1)),(by first|rfl|(simp;done)|(simp [*];done)),(by first|rfl|(simp;done)|(simp [*];done)),H',⟨by have:=HK1.out;omega⟩,⟨by (with_reducible repeat (first|refine bN ?_ _|refine bD ?_|refine bA ?_ _));exact BK147.out⟩,⟨by (with_reducible repeat (first|refine bN ?_ _|refine bD ?_|refine bA ?_ _));exact BK149.out⟩,⟨by repeat (first|(with_reducible first|exact HB.out|apply bL|apply pN|apply bE|refine bS ?_ GE147.out|refine bS ?_ GE149.out|refine bS ?_ GE183.out)|exact HB.out)⟩⟩
   rw [if_neg c65] at H
   have c65b0 : decide (x68_1 < (l0_9.length : Int)) = false:=decide_eq_false c65
   clear c65
   have H':=Am H
   clear H
   have hnb86:=NB147_149.out
   have hnc86:=NB149_147.out
   obtain ⟨X87_0,X87_1,X87_2,X87_3,X87_4,X87_5,X87_6,X87_7,X87_8,X87_9,X87_10,X87_11,Y87_0,Y87_1,Y87_2,Y87_3,Y87_4,Y87_5,Y87_6,Y87_7,Y87_8,Y87_9,Y87_10,Y87_11⟩:=kc12 (w:=wr) (g:=gb147) BK147.out
   go_wp2
   go_loopg [6,91] k1 (fun kq v6 v91 w'=>∃ (x6_2 : ByteArray) (x91_2 : Int),v6 = .string x6_2∧v91 = .int .i64 x91_2∧Aside0 (conf_Print.l1 kq x6_2 l0_10 (l0_10.length : Int) x91_2 a0_0 a0_1 a0_2 a0_3 a0_4 a0_5 a0_6 a0_7 a0_8 l0_9 l0_10 l0_11 = some (r1,r2))∧Aside0 (kq≤k1)∧Aside0 (w'.heap[gb147]? = some (.cells #[.int .i64 a0_0,.int .i64 a0_1,.int .i64 a0_2,.int .i64 a0_3,.int .i64 a0_4,.int .i64 a0_5,.int .i64 a0_6,.int .i64 a0_7,.int .i64 a0_8,(.slice A0_9 l0_9.length c0_9),(.slice A0_10 l0_10.length c0_10),(.slice A0_11 l0_11.length c0_11)] 28 (0,0)))∧Aside0 (w'.heap[gb149]? = some (.cells #[.int .i64 a0_4,.int .i64 a0_5,.int .i64 a0_6,.int .i64 a0_7,.int .i64 a0_8] 23 (0,0)))∧Aside0 (Below w.heap.size w w'))
   case atStart=>exact ⟨(x6_1),(0),(by first|rfl|(simp;done)|(simp [*];done)),(by first|rfl|(simp;done)|(simp [*];done)),H',⟨Nat.le_refl _⟩,⟨by (with_reducible repeat (first|refine bN ?_ _|refine bD ?_|refine bA ?_ _));exact BK147.out⟩,⟨by (with_reducible repeat (first|refine bN ?_ _|refine bD ?_|refine bA ?_ _));exact BK149.out⟩,⟨by repeat (first|(with_reducible first|exact HB.out|apply bL|apply pN|apply bE|refine bS ?_ GE147.out|refine bS ?_ GE149.out)|exact HB.out)⟩⟩
   case round =>
    clear H'
    obtain ⟨x6_2,x91_2,rfl,rfl,HA,HK2,BK147,BK149,HB⟩:=hrel
    cases gk with
    | zero=>exact absurd HA.out (by simp [conf_Print.l1])
    | succ k2 =>
     have H:=HA.out
     clear HA
     simp only [conf_Print.l1] at H
     by_cases c88 : x91_2 < (l0_10.length : Int)
     ·rw [if_pos c88] at H
      have c88b0 : decide (x91_2 < (l0_10.length : Int)) = true:=decide_eq_true c88
      clear c88
      by_cases c89 : 0≤x91_2
      rotate_left
      ·rw [if_neg c89] at H
       exact absurd H (by simp)
      rw [if_pos c89] at H
      have c89b0 : decide (0≤x91_2) = true:=decide_eq_true c89
      clear c89
      by_cases c90 : x91_2 < (l0_10.length : Int)
      rotate_left
      ·rw [if_neg c90] at H
       exact absurd H (by simp)
      rw [if_pos c90] at H
      have c90b0 : decide (x91_2 < (l0_10.length : Int)) = true:=decide_eq_true c90
      clear c90
      replace H:=oB H
      obtain ⟨t193,A910,H⟩:=H
      try dsimp only at H
      have A91:=Am A910
      clear A910
      replace H:=oB H
      obtain ⟨t194,A920,H⟩:=H
      try dsimp only at H
      have A92:=Am A920
      clear A920
      obtain ⟨y195,hy195⟩ : ∃ y_ : List ByteArray,y_ = (([(⟨#[113,111,115]⟩ : ByteArray),(rd_T52 l0_10 x91_2).f0,(⟨#[112,114,105,111,114,105,116,121]⟩ : ByteArray),t193,(⟨#[109,111,115,116]⟩ : ByteArray),t194] : List ByteArray)):=⟨_,rfl⟩
      replace H : ((conf_row.f y195).bind fun t198=>(if x6_2.size + t198.size≤9223372036854775807 then (conf_Print.l1 k2 (x6_2 ++ t198) l0_10 (l0_10.length : Int) (wrap64 (x91_2 + 1)) a0_0 a0_1 a0_2 a0_3 a0_4 a0_5 a0_6 a0_7 a0_8 l0_9 l0_10 l0_11) else (none))) = some (r1,r2):=by first|(rw [hy195];with_reducible exact H)|(have H2_:=(Option.bind_some _ _).symm.trans H;rw [hy195];with_reducible exact H2_)|(have H2_:=(Option.bind_some _ _).symm.trans H;with_reducible exact H2_)|with_reducible exact H|(rw [hy195];exact H)|exact H
      have Ny195:=Am hy195
      clear hy195
      replace H:=oB H
      obtain ⟨t198,A930,H⟩:=H
      try dsimp only at H
      have A93:=Am A930
      clear A930
      by_cases c94 : x6_2.size + t198.size≤9223372036854775807
      rotate_left
      ·rw [if_neg c94] at H
       exact absurd H (by simp)
      rw [if_pos c94] at H
      have c94b0:=eq_true c94
      have c94b1 : decide (x6_2.size + t198.size≤9223372036854775807) = true:=decide_eq_true c94
      try have c94b2 : (9223372036854775807 < x6_2.size + t198.size) = False:=eq_false (Nat.not_lt.2 c94)
      try (have c94b3:=c94b2;simp only [ByteArray.size_append,size_lit1,size_lit0,Nat.add_zero] at c94b3)
      try (have c94b5:=c94b2;simp only [ByteArray.size_append,size_litA,List.size_toArray,List.length_cons,List.length_nil,Nat.zero_add,Nat.reduceAdd] at c94b5)
      have H':=Am H
      clear H
      have p191 : 0≤(x91_2 : Int):=of_decide_eq_true (by first|(with_reducible assumption)|assumption)
      have q191 : x91_2 < (l0_10.length : Int):=of_decide_eq_true (by first|(with_reducible assumption)|assumption)
      obtain ⟨ad191,e191,hx191_0,hx191_1,hx191_2⟩:=at_T52 HR0_10.out x91_2 p191 q191
      cases e191
      replace hx191_0:=(HB.out.cell (wB w _ hx191_0)).trans hx191_0
      replace hx191_1:=(HB.out.cell (wB w _ hx191_1)).trans hx191_1
      replace hx191_2:=(HB.out.cell (wB w _ hx191_2)).trans hx191_2
      replace p191:=eq_true p191
      replace q191:=eq_true q191
      try go_wp2_with (first|((with_reducible refine gD (N:=10) rfl ?_);refine box_event ?hg (N:=10) ?hd (cs:=#[.string (⟨#[]⟩ : ByteArray),.int .i64 0,.int .i64 0]) (t:=52) ?hr ?_;(case hd=>rfl);(case hg=>rfl);(case hr=>first|(go_simp;done)|(go_simp;rfl));intro gb192 hg w95 hbox hb;have n0_:=Am (blk_below (g:=gb147) (by (with_reducible repeat (first|refine bN ?_ _|refine bD ?_|refine bA ?_ _));exact BK147.out) hb);have n1_:=Am (blk_below (g:=gb149) (by (with_reducible repeat (first|refine bN ?_ _|refine bD ?_|refine bA ?_ _));exact BK149.out) hb);have n2_:=Am (below_step (by repeat (first|(with_reducible first|exact HB.out|apply bL|apply pN|apply bE|refine bS ?_ GE147.out|refine bS ?_ GE149.out)|exact HB.out)) hb);have n3_:=Am (hbox);have n4_:=Am ((by rw [hg];exact (bZ (by repeat (first|(with_reducible first|exact HB.out|apply bL|apply pN|apply bE|refine bS ?_ GE147.out|refine bS ?_ GE149.out)|exact HB.out))) : w.heap.size≤gb192));have n5_:=n4_;have n6_:=Am ((by rw [hg];exact Nat.ne_of_lt (blk_lt (g:=gb147) (by (with_reducible repeat (first|refine bN ?_ _|refine bD ?_|refine bA ?_ _));exact BK147.out)) : gb147 ≠ gb192));have n7_:=Am ((by rw [hg];exact Nat.ne_of_gt (blk_lt (g:=gb147) (by (with_reducible repeat (first|refine bN ?_ _|refine bD ?_|refine bA ?_ _));exact BK147.out)) : gb192 ≠ gb147));have n8_:=Am ((by rw [hg];exact Nat.ne_of_lt (blk_lt (g:=gb149) (by (with_reducible repeat (first|refine bN ?_ _|refine bD ?_|refine bA ?_ _));exact BK149.out)) : gb149 ≠ gb192));have n9_:=Am ((by rw [hg];exact Nat.ne_of_gt (blk_lt (g:=gb149) (by (with_reducible repeat (first|refine bN ?_ _|refine bD ?_|refine bA ?_ _));exact BK149.out)) : gb192 ≠ gb149));clear BK147;clear BK149;clear HB;have BK147:=n0_;have BK149:=n1_;have HB:=n2_;have BK192:=n3_;have GW192:=n4_;have GE192:=n5_;have NB147_192:=n6_;have NB192_147:=n7_;have NB149_192:=n8_;have NB192_149:=n9_;clear n0_ n1_ n2_ n3_ n4_ n5_ n6_ n7_ n8_ n9_;clear hb hbox hg;have hnb96:=NB192_147.out;have hnc96:=NB147_192.out;have hnb97:=NB192_149.out;have hnc97:=NB149_192.out;obtain ⟨X98_0,X98_1,X98_2,Y98_0,Y98_1,Y98_2⟩:=kc3 (w:=w95) (g:=gb192) BK192.out))
      have n0_ : Aside0 ((((w95.setCell ⟨gb192,0,none⟩ (.string ((rd_T52 l0_10 x91_2).f0))).setCell ⟨gb192,1,none⟩ (.int .i64 ((rd_T52 l0_10 x91_2).f1))).setCell ⟨gb192,2,none⟩ (.int .i64 ((rd_T52 l0_10 x91_2).f2))).heap[gb147]? = some (.cells #[.int .i64 a0_0,.int .i64 a0_1,.int .i64 a0_2,.int .i64 a0_3,.int .i64 a0_4,.int .i64 a0_5,.int .i64 a0_6,.int .i64 a0_7,.int .i64 a0_8,.slice A0_9 l0_9.length c0_9,.slice (some ad191) l0_10.length c0_10,.slice A0_11 l0_11.length c0_11] 28 (0,0))):=⟨by (with_reducible repeat (first|refine bN ?_ _|refine bD ?_|refine bA ?_ _));refine blk_far ?_ NB147_192.out _;(with_reducible repeat (first|refine bN ?_ _|refine bD ?_|refine bA ?_ _));refine blk_far ?_ NB147_192.out _;(with_reducible repeat (first|refine bN ?_ _|refine bD ?_|refine bA ?_ _));refine blk_far ?_ NB147_192.out _;(with_reducible repeat (first|refine bN ?_ _|refine bD ?_|refine bA ?_ _));exact BK147.out⟩
      have n1_ : Aside0 ((((w95.setCell ⟨gb192,0,none⟩ (.string ((rd_T52 l0_10 x91_2).f0))).setCell ⟨gb192,1,none⟩ (.int .i64 ((rd_T52 l0_10 x91_2).f1))).setCell ⟨gb192,2,none⟩ (.int .i64 ((rd_T52 l0_10 x91_2).f2))).heap[gb149]? = some (.cells #[.int .i64 a0_4,.int .i64 a0_5,.int .i64 a0_6,.int .i64 a0_7,.int .i64 a0_8] 23 (0,0))):=⟨by (with_reducible repeat (first|refine bN ?_ _|refine bD ?_|refine bA ?_ _));refine blk_far ?_ NB149_192.out _;(with_reducible repeat (first|refine bN ?_ _|refine bD ?_|refine bA ?_ _));refine blk_far ?_ NB149_192.out _;(with_reducible repeat (first|refine bN ?_ _|refine bD ?_|refine bA ?_ _));refine blk_far ?_ NB149_192.out _;(with_reducible repeat (first|refine bN ?_ _|refine bD ?_|refine bA ?_ _));exact BK149.out⟩
      have n2_ : Aside0 ((((w95.setCell ⟨gb192,0,none⟩ (.string ((rd_T52 l0_10 x91_2).f0))).setCell ⟨gb192,1,none⟩ (.int .i64 ((rd_T52 l0_10 x91_2).f1))).setCell ⟨gb192,2,none⟩ (.int .i64 ((rd_T52 l0_10 x91_2).f2))).heap[gb192]? = some (.cells #[.string ((rd_T52 l0_10 x91_2).f0),.int .i64 ((rd_T52 l0_10 x91_2).f1),.int .i64 ((rd_T52 l0_10 x91_2).f2)] 52 (0,0))):=⟨by (with_reducible repeat (first|refine bN ?_ _|refine bD ?_|refine bA ?_ _));refine blk_put (cs:=#[.string ((rd_T52 l0_10 x91_2).f0),.int .i64 ((rd_T52 l0_10 x91_2).f1),.int .i64 0]) ?_ 2 _ rfl;(with_reducible repeat (first|refine bN ?_ _|refine bD ?_|refine bA ?_ _));refine blk_put (cs:=#[.string ((rd_T52 l0_10 x91_2).f0),.int .i64 0,.int .i64 0]) ?_ 1 _ rfl;(with_reducible repeat (first|refine bN ?_ _|refine bD ?_|refine bA ?_ _));refine blk_put (cs:=#[.string (⟨#[]⟩ : ByteArray),.int .i64 0,.int .i64 0]) ?_ 0 _ rfl;(with_reducible repeat (first|refine bN ?_ _|refine bD ?_|refine bA ?_ _));exact BK192.out⟩
      have n3_ : Aside0 (Below w.heap.size w (((w95.setCell ⟨gb192,0,none⟩ (.string ((rd_T52 l0_10 x91_2).f0))).setCell ⟨gb192,1,none⟩ (.int .i64 ((rd_T52 l0_10 x91_2).f1))).setCell ⟨gb192,2,none⟩ (.int .i64 ((rd_T52 l0_10 x91_2).f2)))):=⟨by repeat (first|(with_reducible first|exact HB.out|apply bL|apply pN|apply bE|refine bS ?_ GE147.out|refine bS ?_ GE149.out|refine bS ?_ GE192.out)|exact HB.out)⟩
      generalize (((w95.setCell ⟨gb192,0,none⟩ (.string ((rd_T52 l0_10 x91_2).f0))).setCell ⟨gb192,1,none⟩ (.int .i64 ((rd_T52 l0_10 x91_2).f1))).setCell ⟨gb192,2,none⟩ (.int .i64 ((rd_T52 l0_10 x91_2).f2))) = w99 at n0_ n1_ n2_ n3_ ⊢
      have BK147:=n0_
      have BK149:=n1_
      have BK192:=n2_
      have HB:=n3_
      clear n0_ n1_ n2_ n3_
      have n0_:=Am (bD BK147.out)
      have n1_:=Am (bD BK149.out)
      have n2_:=Am (bD BK192.out)
      have n3_:=Am (bE HB.out)
      clear BK147
      clear BK149
      clear BK192
      clear HB
      have BK147:=n0_
      have BK149:=n1_
      have BK192:=n2_
      have HB:=n3_
      clear n0_ n1_ n2_ n3_
      refine start_ (n:=13) (S:=fun w'=>w'.cell? ⟨gb192,0,none⟩ = some (.string ((rd_T52 l0_10 x91_2).f0))∧w'.cell? ⟨gb192,1,none⟩ = some (.int .i64 ((rd_T52 l0_10 x91_2).f1))∧w'.cell? ⟨gb192,2,none⟩ = some (.int .i64 ((rd_T52 l0_10 x91_2).f2))) (ds:=[]) #[O,O,O,O,O,O,O,O,O,O,O,O,O] (by kernel_rfl) rfl rfl ⟨(bC BK192.out 0).trans rfl,(bC BK192.out 1).trans rfl,(bC BK192.out 2).trans rfl⟩ (fun hHeld=>?_);refine with_tabW conf_Print.tab15 conf_Print.bits15 (fun HT_ HW_=>?_)
      generalize w99.drew = w100 at BK147 BK149 BK192 HB hHeld ⊢
      refine pure_ (i:=0) (N:=some 95) (v:=?_) (a':=?_) #[J,O,O,O,O,O,O,O,O,O,O,O,O] rfl rfl (any_of HT_.out (by kernel_rfl)) (fun _ _ _ h=>h) (Or.inl ⟨by rfl,?_⟩) ?_ ?_
      rotate_left
      ·intro w'
       go_simp
       with_reducible rfl
      rotate_left
      ·simp only [Act.put,sT,sZ,sS,iW,iV]
       rfl
      refine pure_ (i:=1) (N:=some 96) (v:=?_) (a':=?_) #[J,J,O,O,O,O,O,O,O,O,O,O,O] rfl rfl (any_of HT_.out (by kernel_rfl)) (fun _ _ _ h=>h) (Or.inl ⟨by rfl,?_⟩) ?_ ?_
      rotate_left
      ·intro w'
       go_simp
       with_reducible rfl
      rotate_left
      ·simp only [Act.put,sT,sZ,sS,iW,iV]
       rfl
      refine pure_ (i:=3) (N:=some 98) (v:=?_) (a':=?_) #[J,J,O,J,O,O,O,O,O,O,O,O,O] rfl rfl (any_of HT_.out (by kernel_rfl)) (fun _ _ _ h=>h) (Or.inl ⟨by rfl,?_⟩) ?_ ?_
      rotate_left
      ·intro w'
       go_simp
       with_reducible rfl
      rotate_left
      ·simp only [Act.put,sT,sZ,sS,iW,iV]
       rfl
      refine pure_ (i:=6) (N:=some 101) (v:=?_) (a':=?_) #[J,J,O,J,O,O,J,O,O,O,O,O,O] rfl rfl (any_of HT_.out (by kernel_rfl)) (fun _ _ _ h=>h) (Or.inl ⟨by rfl,?_⟩) ?_ ?_
      rotate_left
      ·intro w'
       go_simp
       with_reducible rfl
      rotate_left
      ·simp only [Act.put,sT,sZ,sS,iW,iV]
       rfl
      refine take_ (i:=2) (N:=some 97) (v:=?_) (a':=?_) #[J,J,J,J,O,O,J,O,O,O,O,O,O] rfl rfl (take_ofW HT_.out HW_.out (by kernel_rfl)) (fun _ _ _ h=>h) (Or.inl ⟨by rfl,?_⟩) hHeld ?_ ?_
      rotate_left
      ·rintro w' ⟨s0,s1,s2⟩
       go_simp
       with_reducible rfl
      rotate_left
      ·simp only [Act.put,sT,sZ,sS,iW,iV]
       rfl
      refine take_ (i:=4) (N:=some 99) (v:=?_) (a':=?_) #[J,J,J,J,J,O,J,O,O,O,O,O,O] rfl rfl (take_ofW HT_.out HW_.out (by kernel_rfl)) (fun _ _ _ h=>h) (Or.inl ⟨by rfl,?_⟩) hHeld ?_ ?_
      rotate_left
      ·rintro w' ⟨s0,s1,s2⟩
       go_simp
       with_reducible rfl
      rotate_left
      ·simp only [Act.put,sT,sZ,sS,iW,iV]
       rfl
      refine take_ (i:=7) (N:=some 102) (v:=?_) (a':=?_) #[J,J,J,J,J,O,J,J,O,O,O,O,O] rfl rfl (take_ofW HT_.out HW_.out (by kernel_rfl)) (fun _ _ _ h=>h) (Or.inl ⟨by rfl,?_⟩) hHeld ?_ ?_
      rotate_left
      ·rintro w' ⟨s0,s1,s2⟩
       go_simp
       with_reducible rfl
      rotate_left
      ·simp only [Act.put,sT,sZ,sS,iW,iV]
       rfl
      refine one_ (i:=5) (N:=some 100) #[J,J,J,J,J,J,J,J,O,O,O,O,O] rfl rfl (one_of HT_.out (by kernel_rfl)) (by decide) (fun K hK=>?_)
      refine goes_ Tryd.func30 (by kernel_rfl) rfl #[.int .i64 ((rd_T52 l0_10 x91_2).f1)] (by rfl) rfl rfl (by (try simp only [mT,mC,mN]);first|done|rfl|(simp only [lD,lT];rfl)) ?_
      with_reducible refine (strconv_Itoa_30.calls ((rd_T52 l0_10 x91_2).f1) t193 _ ?side1 A91.out).mono ?_
      (case side1=>exact Glob.below HG.out (by repeat (first|(with_reducible first|exact HB.out|apply bL|apply pN|apply bE|refine bS ?_ GE147.out|refine bS ?_ GE149.out|refine bS ?_ GE192.out)|exact HB.out)))
      rintro e w101 ⟨rfl,hb⟩
      refine ⟨_,rfl,?_⟩
      have n0_:=Am (blk_below (g:=gb147) (by (with_reducible repeat (first|refine bN ?_ _|refine bD ?_|refine bA ?_ _));exact BK147.out) hb)
      have n1_:=Am (blk_below (g:=gb149) (by (with_reducible repeat (first|refine bN ?_ _|refine bD ?_|refine bA ?_ _));exact BK149.out) hb)
      have n2_:=Am (blk_below (g:=gb192) (by (with_reducible repeat (first|refine bN ?_ _|refine bD ?_|refine bA ?_ _));exact BK192.out) hb)
      have n3_:=Am (below_step (by repeat (first|(with_reducible first|exact HB.out|apply bL|apply pN|apply bE|refine bS ?_ GE147.out|refine bS ?_ GE149.out|refine bS ?_ GE192.out)|exact HB.out)) hb)
      clear BK147
      clear BK149
      clear BK192
      clear HB
      have BK147:=n0_
      have BK149:=n1_
      have BK192:=n2_
      have HB:=n3_
      clear n0_ n1_ n2_ n3_
      refine hK.out _ _ ⟨(bC BK192.out 0).trans rfl,(bC BK192.out 1).trans rfl,(bC BK192.out 2).trans rfl⟩ (fun hHeld=>?_)
      clear hK K
      refine norm_ (a':=?_) ?_ ?_
      rotate_left
      ·show Act.put _ (some 100) _ = _
       simp only [Act.put,sT,sZ,sS,iW,iV]
       rfl
      refine one_ (i:=8) (N:=some 103) #[J,J,J,J,J,J,J,J,J,O,O,O,O] rfl rfl (one_of HT_.out (by kernel_rfl)) (by decide) (fun K hK=>?_)
      refine goes_ Tryd.func30 (by kernel_rfl) rfl #[.int .i64 ((rd_T52 l0_10 x91_2).f2)] (by rfl) rfl rfl (by (try simp only [mT,mC,mN]);first|done|rfl|(simp only [lD,lT];rfl)) ?_
      with_reducible refine (strconv_Itoa_30.calls ((rd_T52 l0_10 x91_2).f2) t194 _ ?side1 A92.out).mono ?_
      (case side1=>exact Glob.below HG.out (by repeat (first|(with_reducible first|exact HB.out|apply bL|apply pN|apply bE|refine bS ?_ GE147.out|refine bS ?_ GE149.out|refine bS ?_ GE192.out)|exact HB.out)))
      rintro e w102 ⟨rfl,hb⟩
      refine ⟨_,rfl,?_⟩
      have n0_:=Am (blk_below (g:=gb147) (by (with_reducible repeat (first|refine bN ?_ _|refine bD ?_|refine bA ?_ _));exact BK147.out) hb)
      have n1_:=Am (blk_below (g:=gb149) (by (with_reducible repeat (first|refine bN ?_ _|refine bD ?_|refine bA ?_ _));exact BK149.out) hb)
      have n2_:=Am (blk_below (g:=gb192) (by (with_reducible repeat (first|refine bN ?_ _|refine bD ?_|refine bA ?_ _));exact BK192.out) hb)
      have n3_:=Am (below_step (by repeat (first|(with_reducible first|exact HB.out|apply bL|apply pN|apply bE|refine bS ?_ GE147.out|refine bS ?_ GE149.out|refine bS ?_ GE192.out)|exact HB.out)) hb)
      clear BK147
      clear BK149
      clear BK192
      clear HB
      have BK147:=n0_
      have BK149:=n1_
      have BK192:=n2_
      have HB:=n3_
      clear n0_ n1_ n2_ n3_
      refine hK.out _ _ ⟨(bC BK192.out 0).trans rfl,(bC BK192.out 1).trans rfl,(bC BK192.out 2).trans rfl⟩ (fun hHeld=>?_)
      clear hK K
      refine norm_ (a':=?_) ?_ ?_
      rotate_left
      ·show Act.put _ (some 103) _ = _
       simp only [Act.put,sT,sZ,sS,iW,iV]
       rfl
      refine one_ (i:=9) (N:=some 104) #[J,J,J,J,J,J,J,J,J,J,O,O,O] rfl rfl (one_of HT_.out (by kernel_rfl)) (by decide) (fun K hK=>?_)
      refine Kd.R_lit_step Kd.string _ 9 ?hg (N:=104) ?hd (xs:=([(⟨#[113,111,115]⟩ : ByteArray),(rd_T52 l0_10 x91_2).f0,(⟨#[112,114,105,111,114,105,116,121]⟩ : ByteArray),t193,(⟨#[109,111,115,116]⟩ : ByteArray),t194] : List ByteArray)) (inner:=[.string (⟨#[113,111,115]⟩ : ByteArray),.string ((rd_T52 l0_10 x91_2).f0),.string (⟨#[112,114,105,111,114,105,116,121]⟩ : ByteArray),.string t193,.string (⟨#[109,111,115,116]⟩ : ByteArray),.string t194]) (ok:=fun _=>True) (okp:=fun _=>True) ?hr ?hp (fun _ hk=>hk) trivial (Below.refl _ _) (Nat.le_refl _) (by simp) ?_;(case hd=>rfl);(case hg=>rfl);(case hr=>first|(go_simp;done)|(go_simp;rfl));(case hp=>exact (Reps.one (show Kd.M Kd.string _ _ _ (⟨#[113,111,115]⟩ : ByteArray) [.string (⟨#[113,111,115]⟩ : ByteArray)] from rfl) (Reps.one (show Kd.M Kd.string _ _ _ ((rd_T52 l0_10 x91_2).f0) [.string ((rd_T52 l0_10 x91_2).f0)] from rfl) (Reps.one (show Kd.M Kd.string _ _ _ (⟨#[112,114,105,111,114,105,116,121]⟩ : ByteArray) [.string (⟨#[112,114,105,111,114,105,116,121]⟩ : ByteArray)] from rfl) (Reps.one (show Kd.M Kd.string _ _ _ t193 [.string t193] from rfl) (Reps.one (show Kd.M Kd.string _ _ _ (⟨#[109,111,115,116]⟩ : ByteArray) [.string (⟨#[109,111,115,116]⟩ : ByteArray)] from rfl) (Reps.one (show Kd.M Kd.string _ _ _ t194 [.string t194] from rfl) (Reps.none _ _))))))))
      intro v196 w103 ho104 hb hg_ hnew_
      clear hg_ hnew_
      (first|rw [← Ny195.out] at ho104|(simp only [Int.reduceToNat] at ho104;rw [← Ny195.out] at ho104))
      have n0_:=Am (Kd.R_lower ho104 (bZ (by repeat (first|(with_reducible first|exact HB.out|apply bL|apply pN|apply bE|refine bS ?_ GE147.out|refine bS ?_ GE149.out|refine bS ?_ GE192.out)|exact HB.out))))
      have n1_:=Am (blk_below (g:=gb147) (by (with_reducible repeat (first|refine bN ?_ _|refine bD ?_|refine bA ?_ _));exact BK147.out) hb)
      have n2_:=Am (blk_below (g:=gb149) (by (with_reducible repeat (first|refine bN ?_ _|refine bD ?_|refine bA ?_ _));exact BK149.out) hb)
      have n3_:=Am (blk_below (g:=gb192) (by (with_reducible repeat (first|refine bN ?_ _|refine bD ?_|refine bA ?_ _));exact BK192.out) hb)
      have n4_:=Am (below_step (by repeat (first|(with_reducible first|exact HB.out|apply bL|apply pN|apply bE|refine bS ?_ GE147.out|refine bS ?_ GE149.out|refine bS ?_ GE192.out)|exact HB.out)) hb)
      clear BK147
      clear BK149
      clear BK192
      clear HB
      have HO197:=n0_
      have BK147:=n1_
      have BK149:=n2_
      have BK192:=n3_
      have HB:=n4_
      clear n0_ n1_ n2_ n3_ n4_
      clear hb ho104
      obtain ⟨Ao105,co105,eo105⟩:=Kd.R_slice HO197.out
      (first|subst eo105|(injection eo105 with f1_ f2_ f3_;have f4_:=f1_.symm;have f5_:=f3_.symm;clear f1_ f2_ f3_;subst f4_;subst f5_))
      refine hK.out _ _ ⟨(bC BK192.out 0).trans rfl,(bC BK192.out 1).trans rfl,(bC BK192.out 2).trans rfl⟩ (fun hHeld=>?_)
      clear hK K
      refine norm_ (a':=?_) ?_ ?_
      rotate_left
      ·show Act.put _ (some 104) _ = _
       simp only [Act.put,sT,sZ,sS,iW,iV]
       rfl
      refine one_ (i:=10) (N:=some 105) #[J,J,J,J,J,J,J,J,J,J,J,O,O] rfl rfl (one_of HT_.out (by kernel_rfl)) (by decide) (fun K hK=>?_)
      refine goes_ Tryd.func28 (by kernel_rfl) rfl #[.slice Ao105 y195.length co105] (by rfl) rfl rfl (by (try simp only [mT,mC,mN]);first|done|rfl|(simp only [lD,lT];rfl)) ?_
      with_reducible refine (conf_row.calls (fun k_=>some k_ = (.slice Ao105 y195.length co105 : Value).ownBlock) (.slice Ao105 y195.length co105) y195 t198 w _ ?side1 ?side2 A93.out).mono ?_
      (case side1=>repeat (first|(with_reducible first|exact HB.out|apply bL|apply pN|apply bE|refine bS ?_ GE147.out|refine bS ?_ GE149.out|refine bS ?_ GE192.out)|exact HB.out))
      (case side2=>exact Kd.R_tight rfl HO197.out)
      rintro e w106 ⟨rfl,hb,hkp⟩
      refine ⟨_,rfl,?_⟩
      have n0_:=Am (blk_kept (by (with_reducible repeat (first|refine bN ?_ _|refine bD ?_|refine bA ?_ _));exact BK147.out) hkp (fun hs_=>(fun e_=>(Kd.R_ne HO197.out BK147.out (by decide)) e_) hs_))
      have n1_:=Am (blk_kept (by (with_reducible repeat (first|refine bN ?_ _|refine bD ?_|refine bA ?_ _));exact BK149.out) hkp (fun hs_=>(fun e_=>(Kd.R_ne HO197.out BK149.out (by decide)) e_) hs_))
      have n2_:=Am (blk_kept (by (with_reducible repeat (first|refine bN ?_ _|refine bD ?_|refine bA ?_ _));exact BK192.out) hkp (fun hs_=>(fun e_=>(Kd.R_ne HO197.out BK192.out (by decide)) e_) hs_))
      have n3_:=Am (hb)
      clear BK147
      clear BK149
      clear BK192
      clear HB
      clear HO197
      have BK147:=n0_
      have BK149:=n1_
      have BK192:=n2_
      have HB:=n3_
      clear n0_ n1_ n2_ n3_
      refine hK.out _ _ ⟨(bC BK192.out 0).trans rfl,(bC BK192.out 1).trans rfl,(bC BK192.out 2).trans rfl⟩ (fun hHeld=>?_)
      clear hK K
      refine norm_ (a':=?_) ?_ ?_
      rotate_left
      ·show Act.put _ (some 105) _ = _
       simp only [Act.put,sT,sZ,sS,iW,iV]
       rfl
      refine pure_ (i:=11) (N:=some 106) (v:=?_) (a':=?_) #[J,J,J,J,J,J,J,J,J,J,J,J,O] rfl rfl (any_of HT_.out (by kernel_rfl)) (fun _ _ _ h=>h) (Or.inl ⟨by rfl,?_⟩) ?_ ?_
      rotate_left
      ·intro w'
       go_simp
       with_reducible rfl
      rotate_left
      ·simp only [Act.put,sT,sZ,sS,iW,iV]
       rfl
      refine pure_ (i:=12) (N:=some 6) (v:=?_) (a':=?_) #[J,J,J,J,J,J,J,J,J,J,J,J,J] rfl rfl (any_of HT_.out (by kernel_rfl)) (fun _ _ _ h=>h) (Or.inl ⟨by rfl,?_⟩) ?_ ?_
      rotate_left
      ·intro w'
       go_simp
       with_reducible rfl
      rotate_left
      ·simp only [Act.put,sT,sZ,sS,iW,iV]
       rfl
      refine done_ (done_of HT_.out (by kernel_rfl)) ?_
      try go_wp2
      go_roundg k2
      case measure=>have:=HK1.out;have:=HK2.out;omega
      case rel=>exact ⟨(x6_2 ++ t198),(wrap64 (x91_2 + 1)),(by first|rfl|(simp;done)|(simp [*];done)),(by first|rfl|(simp;done)|(simp [*];done)),H',⟨by have:=HK1.out;have:=HK2.out;omega⟩,⟨by (with_reducible repeat (first|refine bN ?_ _|refine bD ?_|refine bA ?_ _));exact BK147.out⟩,⟨by (with_reducible repeat (first|refine bN ?_ _|refine bD ?_|refine bA ?_ _));exact BK149.out⟩,⟨by repeat (first|(with_reducible first|exact HB.out|apply bL|apply pN|apply bE|refine bS ?_ GE147.out|refine bS ?_ GE149.out|refine bS ?_ GE192.out)|exact HB.out)⟩⟩
     rw [if_neg c88] at H
     have c88b0 : decide (x91_2 < (l0_10.length : Int)) = false:=decide_eq_false c88
     clear c88
     have H':=Am H
     clear H
     have hnb107:=NB147_149.out
     have hnc107:=NB149_147.out
     obtain ⟨X108_0,X108_1,X108_2,X108_3,X108_4,X108_5,X108_6,X108_7,X108_8,X108_9,X108_10,X108_11,Y108_0,Y108_1,Y108_2,Y108_3,Y108_4,Y108_5,Y108_6,Y108_7,Y108_8,Y108_9,Y108_10,Y108_11⟩:=kc12 (w:=wr) (g:=gb147) BK147.out
     go_wp2
     go_loopg [6,111] k2 (fun kq v6 v111 w'=>∃ (x6_3 : ByteArray) (x111_3 : Int),v6 = .string x6_3∧v111 = .int .i64 x111_3∧Aside0 (conf_Print.l2 kq x6_3 l0_11 (l0_11.length : Int) x111_3 = some (r1,r2))∧Aside0 (kq≤k2)∧Aside0 (w'.heap[gb147]? = some (.cells #[.int .i64 a0_0,.int .i64 a0_1,.int .i64 a0_2,.int .i64 a0_3,.int .i64 a0_4,.int .i64 a0_5,.int .i64 a0_6,.int .i64 a0_7,.int .i64 a0_8,(.slice A0_9 l0_9.length c0_9),(.slice A0_10 l0_10.length c0_10),(.slice A0_11 l0_11.length c0_11)] 28 (0,0)))∧Aside0 (w'.heap[gb149]? = some (.cells #[.int .i64 a0_4,.int .i64 a0_5,.int .i64 a0_6,.int .i64 a0_7,.int .i64 a0_8] 23 (0,0)))∧Aside0 (Below w.heap.size w w'))
     case atStart=>exact ⟨(x6_2),(0),(by first|rfl|(simp;done)|(simp [*];done)),(by first|rfl|(simp;done)|(simp [*];done)),H',⟨Nat.le_refl _⟩,⟨by (with_reducible repeat (first|refine bN ?_ _|refine bD ?_|refine bA ?_ _));exact BK147.out⟩,⟨by (with_reducible repeat (first|refine bN ?_ _|refine bD ?_|refine bA ?_ _));exact BK149.out⟩,⟨by repeat (first|(with_reducible first|exact HB.out|apply bL|apply pN|apply bE|refine bS ?_ GE147.out|refine bS ?_ GE149.out)|exact HB.out)⟩⟩
     case round =>
      clear H'
      obtain ⟨x6_3,x111_3,rfl,rfl,HA,HK3,BK147,BK149,HB⟩:=hrel
      cases gk with
      | zero=>exact absurd HA.out (by simp [conf_Print.l2])
      | succ k3 =>
       have H:=HA.out
       clear HA
       simp only [conf_Print.l2] at H
       by_cases c109 : x111_3 < (l0_11.length : Int)
       rotate_left
       ·rw [if_neg c109] at H
        have c109b0 : decide (x111_3 < (l0_11.length : Int)) = false:=decide_eq_false c109
        clear c109
        simp only [Option.some.injEq,Prod.mk.injEq] at H
        obtain ⟨rfl,rfl⟩:=H
        go_wp2
        go_ret2
        exact ⟨by first|rfl|(simp [errW_none,errW_some] <;> rfl)|(simp [*,errW_none,errW_some] <;> rfl),by repeat (first|(with_reducible first|exact HB.out|apply bL|apply pN|apply bE|refine bS ?_ GE147.out|refine bS ?_ GE149.out)|exact HB.out)⟩
       rw [if_pos c109] at H
       have c109b0 : decide (x111_3 < (l0_11.length : Int)) = true:=decide_eq_true c109
       clear c109
       by_cases c110 : 0≤x111_3
       rotate_left
       ·rw [if_neg c110] at H
        exact absurd H (by simp)
       rw [if_pos c110] at H
       have c110b0 : decide (0≤x111_3) = true:=decide_eq_true c110
       clear c110
       by_cases c111 : x111_3 < (l0_11.length : Int)
       rotate_left
       ·rw [if_neg c111] at H
        exact absurd H (by simp)
       rw [if_pos c111] at H
       have c111b0 : decide (x111_3 < (l0_11.length : Int)) = true:=decide_eq_true c111
       clear c111
       by_cases c112 : ((rd_T48 l0_11 x111_3).f1).toList = ([] : List UInt8)
       ·rw [if_pos c112] at H
        have c112b0 : (((rd_T48 l0_11 x111_3).f1).toList == ([] : List UInt8)) = true:=beq_iff_eq.mpr c112
        have c112b1 : (((rd_T48 l0_11 x111_3).f1).toList != ([] : List UInt8)) = false:=bne_eq_false_iff_eq.mpr c112
        clear c112
        by_cases c113 : ((rd_T48 l0_11 x111_3).f0).size + 0≤9223372036854775807
        rotate_left
        ·rw [if_neg c113] at H
         exact absurd H (by simp)
        rw [if_pos c113] at H
        have c113b0:=eq_true c113
        have c113b1 : decide (((rd_T48 l0_11 x111_3).f0).size + 0≤9223372036854775807) = true:=decide_eq_true c113
        try have c113b2 : (9223372036854775807 < ((rd_T48 l0_11 x111_3).f0).size + 0) = False:=eq_false (Nat.not_lt.2 c113)
        try (have c113b3:=c113b2;simp only [ByteArray.size_append,size_lit1,size_lit0,Nat.add_zero] at c113b3)
        try (have c113b5:=c113b2;simp only [ByteArray.size_append,size_litA,List.size_toArray,List.length_cons,List.length_nil,Nat.zero_add,Nat.reduceAdd] at c113b5)
        replace H:=oB H
        obtain ⟨t201,A1140,H⟩:=H
        try dsimp only at H
        have A114:=Am A1140
        clear A1140
        obtain ⟨y202,hy202⟩ : ∃ y_ : List ByteArray,y_ = (([(⟨#[97,99,99,111,117,110,116]⟩ : ByteArray),((rd_T48 l0_11 x111_3).f0) ++ (⟨#[]⟩ : ByteArray),(⟨#[115,104,97,114,101,115]⟩ : ByteArray),t201] : List ByteArray)):=⟨_,rfl⟩
        replace H : ((conf_row.f y202).bind fun t205=>(if x6_3.size + t205.size≤9223372036854775807 then (conf_Print.l2 k3 (x6_3 ++ t205) l0_11 (l0_11.length : Int) (wrap64 (x111_3 + 1))) else (none))) = some (r1,r2):=by first|(rw [hy202];with_reducible exact H)|(have H2_:=(Option.bind_some _ _).symm.trans H;rw [hy202];with_reducible exact H2_)|(have H2_:=(Option.bind_some _ _).symm.trans H;with_reducible exact H2_)|with_reducible exact H|(rw [hy202];exact H)|exact H
        have Ny202:=Am hy202
        clear hy202
        replace H:=oB H
        obtain ⟨t205,A1150,H⟩:=H
        try dsimp only at H
        have A115:=Am A1150
        clear A1150
        by_cases c116 : x6_3.size + t205.size≤9223372036854775807
        rotate_left
        ·rw [if_neg c116] at H
         exact absurd H (by simp)
        rw [if_pos c116] at H
        have c116b0:=eq_true c116
        have c116b1 : decide (x6_3.size + t205.size≤9223372036854775807) = true:=decide_eq_true c116
        try have c116b2 : (9223372036854775807 < x6_3.size + t205.size) = False:=eq_false (Nat.not_lt.2 c116)
        try (have c116b3:=c116b2;simp only [ByteArray.size_append,size_lit1,size_lit0,Nat.add_zero] at c116b3)
        try (have c116b5:=c116b2;simp only [ByteArray.size_append,size_litA,List.size_toArray,List.length_cons,List.length_nil,Nat.zero_add,Nat.reduceAdd] at c116b5)
        have H':=Am H
        clear H
        have p199 : 0≤(x111_3 : Int):=of_decide_eq_true (by first|(with_reducible assumption)|assumption)
        have q199 : x111_3 < (l0_11.length : Int):=of_decide_eq_true (by first|(with_reducible assumption)|assumption)
        obtain ⟨ad199,e199,hx199_0,hx199_1,hx199_2⟩:=at_T48 HR0_11.out x111_3 p199 q199
        cases e199
        replace hx199_0:=(HB.out.cell (wB w _ hx199_0)).trans hx199_0
        replace hx199_1:=(HB.out.cell (wB w _ hx199_1)).trans hx199_1
        replace hx199_2:=(HB.out.cell (wB w _ hx199_2)).trans hx199_2
        replace p199:=eq_true p199
        replace q199:=eq_true q199
        try go_wp2_with (first|((with_reducible refine gD (N:=12) rfl ?_);refine box_event ?hg (N:=12) ?hd (cs:=#[.string (⟨#[]⟩ : ByteArray),.string (⟨#[]⟩ : ByteArray),.int .i64 0]) (t:=48) ?hr ?_;(case hd=>rfl);(case hg=>rfl);(case hr=>first|(go_simp;done)|(go_simp;rfl));intro gb200 hg w117 hbox hb;have n0_:=Am (blk_below (g:=gb147) (by (with_reducible repeat (first|refine bN ?_ _|refine bD ?_|refine bA ?_ _));exact BK147.out) hb);have n1_:=Am (blk_below (g:=gb149) (by (with_reducible repeat (first|refine bN ?_ _|refine bD ?_|refine bA ?_ _));exact BK149.out) hb);have n2_:=Am (below_step (by repeat (first|(with_reducible first|exact HB.out|apply bL|apply pN|apply bE|refine bS ?_ GE147.out|refine bS ?_ GE149.out)|exact HB.out)) hb);have n3_:=Am (hbox);have n4_:=Am ((by rw [hg];exact (bZ (by repeat (first|(with_reducible first|exact HB.out|apply bL|apply pN|apply bE|refine bS ?_ GE147.out|refine bS ?_ GE149.out)|exact HB.out))) : w.heap.size≤gb200));have n5_:=n4_;have n6_:=Am ((by rw [hg];exact Nat.ne_of_lt (blk_lt (g:=gb147) (by (with_reducible repeat (first|refine bN ?_ _|refine bD ?_|refine bA ?_ _));exact BK147.out)) : gb147 ≠ gb200));have n7_:=Am ((by rw [hg];exact Nat.ne_of_gt (blk_lt (g:=gb147) (by (with_reducible repeat (first|refine bN ?_ _|refine bD ?_|refine bA ?_ _));exact BK147.out)) : gb200 ≠ gb147));have n8_:=Am ((by rw [hg];exact Nat.ne_of_lt (blk_lt (g:=gb149) (by (with_reducible repeat (first|refine bN ?_ _|refine bD ?_|refine bA ?_ _));exact BK149.out)) : gb149 ≠ gb200));have n9_:=Am ((by rw [hg];exact Nat.ne_of_gt (blk_lt (g:=gb149) (by (with_reducible repeat (first|refine bN ?_ _|refine bD ?_|refine bA ?_ _));exact BK149.out)) : gb200 ≠ gb149));clear BK147;clear BK149;clear HB;have BK147:=n0_;have BK149:=n1_;have HB:=n2_;have BK200:=n3_;have GW200:=n4_;have GE200:=n5_;have NB147_200:=n6_;have NB200_147:=n7_;have NB149_200:=n8_;have NB200_149:=n9_;clear n0_ n1_ n2_ n3_ n4_ n5_ n6_ n7_ n8_ n9_;clear hb hbox hg;have hnb118:=NB200_147.out;have hnc118:=NB147_200.out;have hnb119:=NB200_149.out;have hnc119:=NB149_200.out;obtain ⟨X120_0,X120_1,X120_2,Y120_0,Y120_1,Y120_2⟩:=kc3 (w:=w117) (g:=gb200) BK200.out))
        have n0_ : Aside0 ((((w117.setCell ⟨gb200,0,none⟩ (.string ((rd_T48 l0_11 x111_3).f0))).setCell ⟨gb200,1,none⟩ (.string ((rd_T48 l0_11 x111_3).f1))).setCell ⟨gb200,2,none⟩ (.int .i64 ((rd_T48 l0_11 x111_3).f2))).heap[gb147]? = some (.cells #[.int .i64 a0_0,.int .i64 a0_1,.int .i64 a0_2,.int .i64 a0_3,.int .i64 a0_4,.int .i64 a0_5,.int .i64 a0_6,.int .i64 a0_7,.int .i64 a0_8,.slice A0_9 l0_9.length c0_9,.slice A0_10 l0_10.length c0_10,.slice (some ad199) l0_11.length c0_11] 28 (0,0))):=⟨by (with_reducible repeat (first|refine bN ?_ _|refine bD ?_|refine bA ?_ _));refine blk_far ?_ NB147_200.out _;(with_reducible repeat (first|refine bN ?_ _|refine bD ?_|refine bA ?_ _));refine blk_far ?_ NB147_200.out _;(with_reducible repeat (first|refine bN ?_ _|refine bD ?_|refine bA ?_ _));refine blk_far ?_ NB147_200.out _;(with_reducible repeat (first|refine bN ?_ _|refine bD ?_|refine bA ?_ _));exact BK147.out⟩
        have n1_ : Aside0 ((((w117.setCell ⟨gb200,0,none⟩ (.string ((rd_T48 l0_11 x111_3).f0))).setCell ⟨gb200,1,none⟩ (.string ((rd_T48 l0_11 x111_3).f1))).setCell ⟨gb200,2,none⟩ (.int .i64 ((rd_T48 l0_11 x111_3).f2))).heap[gb149]? = some (.cells #[.int .i64 a0_4,.int .i64 a0_5,.int .i64 a0_6,.int .i64 a0_7,.int .i64 a0_8] 23 (0,0))):=⟨by (with_reducible repeat (first|refine bN ?_ _|refine bD ?_|refine bA ?_ _));refine blk_far ?_ NB149_200.out _;(with_reducible repeat (first|refine bN ?_ _|refine bD ?_|refine bA ?_ _));refine blk_far ?_ NB149_200.out _;(with_reducible repeat (first|refine bN ?_ _|refine bD ?_|refine bA ?_ _));refine blk_far ?_ NB149_200.out _;(with_reducible repeat (first|refine bN ?_ _|refine bD ?_|refine bA ?_ _));exact BK149.out⟩
        have n2_ : Aside0 ((((w117.setCell ⟨gb200,0,none⟩ (.string ((rd_T48 l0_11 x111_3).f0))).setCell ⟨gb200,1,none⟩ (.string ((rd_T48 l0_11 x111_3).f1))).setCell ⟨gb200,2,none⟩ (.int .i64 ((rd_T48 l0_11 x111_3).f2))).heap[gb200]? = some (.cells #[.string ((rd_T48 l0_11 x111_3).f0),.string ((rd_T48 l0_11 x111_3).f1),.int .i64 ((rd_T48 l0_11 x111_3).f2)] 48 (0,0))):=⟨by (with_reducible repeat (first|refine bN ?_ _|refine bD ?_|refine bA ?_ _));refine blk_put (cs:=#[.string ((rd_T48 l0_11 x111_3).f0),.string ((rd_T48 l0_11 x111_3).f1),.int .i64 0]) ?_ 2 _ rfl;(with_reducible repeat (first|refine bN ?_ _|refine bD ?_|refine bA ?_ _));refine blk_put (cs:=#[.string ((rd_T48 l0_11 x111_3).f0),.string (⟨#[]⟩ : ByteArray),.int .i64 0]) ?_ 1 _ rfl;(with_reducible repeat (first|refine bN ?_ _|refine bD ?_|refine bA ?_ _));refine blk_put (cs:=#[.string (⟨#[]⟩ : ByteArray),.string (⟨#[]⟩ : ByteArray),.int .i64 0]) ?_ 0 _ rfl;(with_reducible repeat (first|refine bN ?_ _|refine bD ?_|refine bA ?_ _));exact BK200.out⟩
        have n3_ : Aside0 (Below w.heap.size w (((w117.setCell ⟨gb200,0,none⟩ (.string ((rd_T48 l0_11 x111_3).f0))).setCell ⟨gb200,1,none⟩ (.string ((rd_T48 l0_11 x111_3).f1))).setCell ⟨gb200,2,none⟩ (.int .i64 ((rd_T48 l0_11 x111_3).f2)))):=⟨by repeat (first|(with_reducible first|exact HB.out|apply bL|apply pN|apply bE|refine bS ?_ GE147.out|refine bS ?_ GE149.out|refine bS ?_ GE200.out)|exact HB.out)⟩
        generalize (((w117.setCell ⟨gb200,0,none⟩ (.string ((rd_T48 l0_11 x111_3).f0))).setCell ⟨gb200,1,none⟩ (.string ((rd_T48 l0_11 x111_3).f1))).setCell ⟨gb200,2,none⟩ (.int .i64 ((rd_T48 l0_11 x111_3).f2))) = w121 at n0_ n1_ n2_ n3_ ⊢
        have BK147:=n0_
        have BK149:=n1_
        have BK200:=n2_
        have HB:=n3_
        clear n0_ n1_ n2_ n3_
        have n0_:=Am (bD BK147.out)
        have n1_:=Am (bD BK149.out)
        have n2_:=Am (bD BK200.out)
        have n3_:=Am (bE HB.out)
        clear BK147
        clear BK149
        clear BK200
        clear HB
        have BK147:=n0_
        have BK149:=n1_
        have BK200:=n2_
        have HB:=n3_
        clear n0_ n1_ n2_ n3_
        refine start_ (n:=12) (S:=fun w'=>w'.cell? ⟨gb200,0,none⟩ = some (.string ((rd_T48 l0_11 x111_3).f0))∧w'.cell? ⟨gb200,1,none⟩ = some (.string ((rd_T48 l0_11 x111_3).f1))∧w'.cell? ⟨gb200,2,none⟩ = some (.int .i64 ((rd_T48 l0_11 x111_3).f2))) (ds:=[]) #[O,O,O,O,O,O,O,O,O,O,O,O] (by kernel_rfl) rfl rfl ⟨(bC BK200.out 0).trans rfl,(bC BK200.out 1).trans rfl,(bC BK200.out 2).trans rfl⟩ (fun hHeld=>?_);refine with_tabW conf_Print.tab23 conf_Print.bits23 (fun HT_ HW_=>?_)
        generalize w121.drew = w122 at BK147 BK149 BK200 HB hHeld ⊢
        refine pure_ (i:=0) (N:=some 121) (v:=?_) (a':=?_) #[J,O,O,O,O,O,O,O,O,O,O,O] rfl rfl (any_of HT_.out (by kernel_rfl)) (fun _ _ _ h=>h) (Or.inl ⟨by rfl,?_⟩) ?_ ?_
        rotate_left
        ·intro w'
         go_simp
         with_reducible rfl
        rotate_left
        ·simp only [Act.put,sT,sZ,sS,iW,iV]
         rfl
        refine pure_ (i:=1) (N:=some 122) (v:=?_) (a':=?_) #[J,J,O,O,O,O,O,O,O,O,O,O] rfl rfl (any_of HT_.out (by kernel_rfl)) (fun _ _ _ h=>h) (Or.inl ⟨by rfl,?_⟩) ?_ ?_
        rotate_left
        ·intro w'
         go_simp
         with_reducible rfl
        rotate_left
        ·simp only [Act.put,sT,sZ,sS,iW,iV]
         rfl
        refine pure_ (i:=3) (N:=some 124) (v:=?_) (a':=?_) #[J,J,O,J,O,O,O,O,O,O,O,O] rfl rfl (any_of HT_.out (by kernel_rfl)) (fun _ _ _ h=>h) (Or.inl ⟨by rfl,?_⟩) ?_ ?_
        rotate_left
        ·intro w'
         go_simp
         with_reducible rfl
        rotate_left
        ·simp only [Act.put,sT,sZ,sS,iW,iV]
         rfl
        refine pure_ (i:=5) (N:=some 126) (v:=?_) (a':=?_) #[J,J,O,J,O,J,O,O,O,O,O,O] rfl rfl (any_of HT_.out (by kernel_rfl)) (fun _ _ _ h=>h) (Or.inl ⟨by rfl,?_⟩) ?_ ?_
        rotate_left
        ·intro w'
         go_simp
         with_reducible rfl
        rotate_left
        ·simp only [Act.put,sT,sZ,sS,iW,iV]
         rfl
        refine take_ (i:=2) (N:=some 123) (v:=?_) (a':=?_) #[J,J,J,J,O,J,O,O,O,O,O,O] rfl rfl (take_ofW HT_.out HW_.out (by kernel_rfl)) (fun _ _ _ h=>h) (Or.inl ⟨by rfl,?_⟩) hHeld ?_ ?_
        rotate_left
        ·rintro w' ⟨s0,s1,s2⟩
         go_simp
         with_reducible rfl
        rotate_left
        ·simp only [Act.put,sT,sZ,sS,iW,iV]
         rfl
        refine pure_ (i:=4) (N:=some 125) (v:=?_) (a':=?_) #[J,J,J,J,J,J,O,O,O,O,O,O] rfl rfl (any_of HT_.out (by kernel_rfl)) (fun _ _ _ h=>h) (Or.inl ⟨by rfl,?_⟩) ?_ ?_
        rotate_left
        ·intro w'
         go_simp
         with_reducible rfl
        rotate_left
        ·simp only [Act.put,sT,sZ,sS,iW,iV]
         rfl
        refine take_ (i:=6) (N:=some 127) (v:=?_) (a':=?_) #[J,J,J,J,J,J,J,O,O,O,O,O] rfl rfl (take_ofW HT_.out HW_.out (by kernel_rfl)) (fun _ _ _ h=>h) (Or.inl ⟨by rfl,?_⟩) hHeld ?_ ?_
        rotate_left
        ·rintro w' ⟨s0,s1,s2⟩
         go_simp
         with_reducible rfl
        rotate_left
        ·simp only [Act.put,sT,sZ,sS,iW,iV]
         rfl
        refine one_ (i:=7) (N:=some 128) #[J,J,J,J,J,J,J,J,O,O,O,O] rfl rfl (one_of HT_.out (by kernel_rfl)) (by decide) (fun K hK=>?_)
        refine goes_ Tryd.func30 (by kernel_rfl) rfl #[.int .i64 ((rd_T48 l0_11 x111_3).f2)] (by rfl) rfl rfl (by (try simp only [mT,mC,mN]);first|done|rfl|(simp only [lD,lT];rfl)) ?_
        with_reducible refine (strconv_Itoa_30.calls ((rd_T48 l0_11 x111_3).f2) t201 _ ?side1 A114.out).mono ?_
        (case side1=>exact Glob.below HG.out (by repeat (first|(with_reducible first|exact HB.out|apply bL|apply pN|apply bE|refine bS ?_ GE147.out|refine bS ?_ GE149.out|refine bS ?_ GE200.out)|exact HB.out)))
        rintro e w123 ⟨rfl,hb⟩
        refine ⟨_,rfl,?_⟩
        have n0_:=Am (blk_below (g:=gb147) (by (with_reducible repeat (first|refine bN ?_ _|refine bD ?_|refine bA ?_ _));exact BK147.out) hb)
        have n1_:=Am (blk_below (g:=gb149) (by (with_reducible repeat (first|refine bN ?_ _|refine bD ?_|refine bA ?_ _));exact BK149.out) hb)
        have n2_:=Am (blk_below (g:=gb200) (by (with_reducible repeat (first|refine bN ?_ _|refine bD ?_|refine bA ?_ _));exact BK200.out) hb)
        have n3_:=Am (below_step (by repeat (first|(with_reducible first|exact HB.out|apply bL|apply pN|apply bE|refine bS ?_ GE147.out|refine bS ?_ GE149.out|refine bS ?_ GE200.out)|exact HB.out)) hb)
        clear BK147
        clear BK149
        clear BK200
        clear HB
        have BK147:=n0_
        have BK149:=n1_
        have BK200:=n2_
        have HB:=n3_
        clear n0_ n1_ n2_ n3_
        refine hK.out _ _ ⟨(bC BK200.out 0).trans rfl,(bC BK200.out 1).trans rfl,(bC BK200.out 2).trans rfl⟩ (fun hHeld=>?_)
        clear hK K
        refine norm_ (a':=?_) ?_ ?_
        rotate_left
        ·show Act.put _ (some 128) _ = _
         simp only [Act.put,sT,sZ,sS,iW,iV]
         rfl
        refine one_ (i:=8) (N:=some 129) #[J,J,J,J,J,J,J,J,J,O,O,O] rfl rfl (one_of HT_.out (by kernel_rfl)) (by decide) (fun K hK=>?_)
        refine Kd.R_lit_step Kd.string _ 9 ?hg (N:=129) ?hd (xs:=([(⟨#[97,99,99,111,117,110,116]⟩ : ByteArray),((rd_T48 l0_11 x111_3).f0) ++ (⟨#[]⟩ : ByteArray),(⟨#[115,104,97,114,101,115]⟩ : ByteArray),t201] : List ByteArray)) (inner:=[.string (⟨#[97,99,99,111,117,110,116]⟩ : ByteArray),.string (((rd_T48 l0_11 x111_3).f0) ++ (⟨#[]⟩ : ByteArray)),.string (⟨#[115,104,97,114,101,115]⟩ : ByteArray),.string t201]) (ok:=fun _=>True) (okp:=fun _=>True) ?hr ?hp (fun _ hk=>hk) trivial (Below.refl _ _) (Nat.le_refl _) (by simp) ?_;(case hd=>rfl);(case hg=>rfl);(case hr=>first|(go_simp;done)|(go_simp;rfl));(case hp=>exact (Reps.one (show Kd.M Kd.string _ _ _ (⟨#[97,99,99,111,117,110,116]⟩ : ByteArray) [.string (⟨#[97,99,99,111,117,110,116]⟩ : ByteArray)] from rfl) (Reps.one (show Kd.M Kd.string _ _ _ (((rd_T48 l0_11 x111_3).f0) ++ (⟨#[]⟩ : ByteArray)) [.string (((rd_T48 l0_11 x111_3).f0) ++ (⟨#[]⟩ : ByteArray))] from rfl) (Reps.one (show Kd.M Kd.string _ _ _ (⟨#[115,104,97,114,101,115]⟩ : ByteArray) [.string (⟨#[115,104,97,114,101,115]⟩ : ByteArray)] from rfl) (Reps.one (show Kd.M Kd.string _ _ _ t201 [.string t201] from rfl) (Reps.none _ _))))))
        intro v203 w124 ho125 hb hg_ hnew_
        clear hg_ hnew_
        (first|rw [← Ny202.out] at ho125|(simp only [Int.reduceToNat] at ho125;rw [← Ny202.out] at ho125))
        have n0_:=Am (Kd.R_lower ho125 (bZ (by repeat (first|(with_reducible first|exact HB.out|apply bL|apply pN|apply bE|refine bS ?_ GE147.out|refine bS ?_ GE149.out|refine bS ?_ GE200.out)|exact HB.out))))
        have n1_:=Am (blk_below (g:=gb147) (by (with_reducible repeat (first|refine bN ?_ _|refine bD ?_|refine bA ?_ _));exact BK147.out) hb)
        have n2_:=Am (blk_below (g:=gb149) (by (with_reducible repeat (first|refine bN ?_ _|refine bD ?_|refine bA ?_ _));exact BK149.out) hb)
        have n3_:=Am (blk_below (g:=gb200) (by (with_reducible repeat (first|refine bN ?_ _|refine bD ?_|refine bA ?_ _));exact BK200.out) hb)
        have n4_:=Am (below_step (by repeat (first|(with_reducible first|exact HB.out|apply bL|apply pN|apply bE|refine bS ?_ GE147.out|refine bS ?_ GE149.out|refine bS ?_ GE200.out)|exact HB.out)) hb)
        clear BK147
        clear BK149
        clear BK200
        clear HB
        have HO204:=n0_
        have BK147:=n1_
        have BK149:=n2_
        have BK200:=n3_
        have HB:=n4_
        clear n0_ n1_ n2_ n3_ n4_
        clear hb ho125
        obtain ⟨Ao126,co126,eo126⟩:=Kd.R_slice HO204.out
        (first|subst eo126|(injection eo126 with f1_ f2_ f3_;have f4_:=f1_.symm;have f5_:=f3_.symm;clear f1_ f2_ f3_;subst f4_;subst f5_))
        refine hK.out _ _ ⟨(bC BK200.out 0).trans rfl,(bC BK200.out 1).trans rfl,(bC BK200.out 2).trans rfl⟩ (fun hHeld=>?_)
        clear hK K
        refine norm_ (a':=?_) ?_ ?_
        rotate_left
        ·show Act.put _ (some 129) _ = _
         simp only [Act.put,sT,sZ,sS,iW,iV]
         rfl
        refine one_ (i:=9) (N:=some 130) #[J,J,J,J,J,J,J,J,J,J,O,O] rfl rfl (one_of HT_.out (by kernel_rfl)) (by decide) (fun K hK=>?_)
        refine goes_ Tryd.func28 (by kernel_rfl) rfl #[.slice Ao126 y202.length co126] (by rfl) rfl rfl (by (try simp only [mT,mC,mN]);first|done|rfl|(simp only [lD,lT];rfl)) ?_
        with_reducible refine (conf_row.calls (fun k_=>some k_ = (.slice Ao126 y202.length co126 : Value).ownBlock) (.slice Ao126 y202.length co126) y202 t205 w _ ?side1 ?side2 A115.out).mono ?_
        (case side1=>repeat (first|(with_reducible first|exact HB.out|apply bL|apply pN|apply bE|refine bS ?_ GE147.out|refine bS ?_ GE149.out|refine bS ?_ GE200.out)|exact HB.out))
        (case side2=>exact Kd.R_tight rfl HO204.out)
        rintro e w127 ⟨rfl,hb,hkp⟩
        refine ⟨_,rfl,?_⟩
        have n0_:=Am (blk_kept (by (with_reducible repeat (first|refine bN ?_ _|refine bD ?_|refine bA ?_ _));exact BK147.out) hkp (fun hs_=>(fun e_=>(Kd.R_ne HO204.out BK147.out (by decide)) e_) hs_))
        have n1_:=Am (blk_kept (by (with_reducible repeat (first|refine bN ?_ _|refine bD ?_|refine bA ?_ _));exact BK149.out) hkp (fun hs_=>(fun e_=>(Kd.R_ne HO204.out BK149.out (by decide)) e_) hs_))
        have n2_:=Am (blk_kept (by (with_reducible repeat (first|refine bN ?_ _|refine bD ?_|refine bA ?_ _));exact BK200.out) hkp (fun hs_=>(fun e_=>(Kd.R_ne HO204.out BK200.out (by decide)) e_) hs_))
        have n3_:=Am (hb)
        clear BK147
        clear BK149
        clear BK200
        clear HB
        clear HO204
        have BK147:=n0_
        have BK149:=n1_
        have BK200:=n2_
        have HB:=n3_
        clear n0_ n1_ n2_ n3_
        refine hK.out _ _ ⟨(bC BK200.out 0).trans rfl,(bC BK200.out 1).trans rfl,(bC BK200.out 2).trans rfl⟩ (fun hHeld=>?_)
        clear hK K
        refine norm_ (a':=?_) ?_ ?_
        rotate_left
        ·show Act.put _ (some 130) _ = _
         simp only [Act.put,sT,sZ,sS,iW,iV]
         rfl
        refine pure_ (i:=10) (N:=some 131) (v:=?_) (a':=?_) #[J,J,J,J,J,J,J,J,J,J,J,O] rfl rfl (any_of HT_.out (by kernel_rfl)) (fun _ _ _ h=>h) (Or.inl ⟨by rfl,?_⟩) ?_ ?_
        rotate_left
        ·intro w'
         go_simp
         with_reducible rfl
        rotate_left
        ·simp only [Act.put,sT,sZ,sS,iW,iV]
         rfl
        refine pure_ (i:=11) (N:=some 6) (v:=?_) (a':=?_) #[J,J,J,J,J,J,J,J,J,J,J,J] rfl rfl (any_of HT_.out (by kernel_rfl)) (fun _ _ _ h=>h) (Or.inl ⟨by rfl,?_⟩) ?_ ?_
        rotate_left
        ·intro w'
         go_simp
         with_reducible rfl
        rotate_left
        ·simp only [Act.put,sT,sZ,sS,iW,iV]
         rfl
        refine done_ (done_of HT_.out (by kernel_rfl)) ?_
        try go_wp2
        go_roundg k3
        case measure=>have:=HK1.out;have:=HK2.out;have:=HK3.out;omega
        case rel=>exact ⟨(x6_3 ++ t205),(wrap64 (x111_3 + 1)),(by first|rfl|(simp;done)|(simp [*];done)),(by first|rfl|(simp;done)|(simp [*];done)),H',⟨by have:=HK1.out;have:=HK2.out;have:=HK3.out;omega⟩,⟨by (with_reducible repeat (first|refine bN ?_ _|refine bD ?_|refine bA ?_ _));exact BK147.out⟩,⟨by (with_reducible repeat (first|refine bN ?_ _|refine bD ?_|refine bA ?_ _));exact BK149.out⟩,⟨by repeat (first|(with_reducible first|exact HB.out|apply bL|apply pN|apply bE|refine bS ?_ GE147.out|refine bS ?_ GE149.out|refine bS ?_ GE200.out)|exact HB.out)⟩⟩
       rw [if_neg c112] at H
       have c112b0 : (((rd_T48 l0_11 x111_3).f1).toList == ([] : List UInt8)) = false:=beq_eq_false_iff_ne.mpr c112
       have c112b1 : (((rd_T48 l0_11 x111_3).f1).toList != ([] : List UInt8)) = true:=bne_iff_ne.mpr c112
       by_cases c128 : 8 + ((rd_T48 l0_11 x111_3).f1).size≤9223372036854775807
       rotate_left
       ·rw [if_neg c128] at H
        exact absurd H (by simp)
       rw [if_pos c128] at H
       have c128b0:=eq_true c128
       have c128b1 : decide (8 + ((rd_T48 l0_11 x111_3).f1).size≤9223372036854775807) = true:=decide_eq_true c128
       try have c128b2 : (9223372036854775807 < 8 + ((rd_T48 l0_11 x111_3).f1).size) = False:=eq_false (Nat.not_lt.2 c128)
       try (have c128b3:=c128b2;simp only [ByteArray.size_append,size_lit1,size_lit0,Nat.add_zero] at c128b3)
       try (have c128b5:=c128b2;simp only [ByteArray.size_append,size_litA,List.size_toArray,List.length_cons,List.length_nil,Nat.zero_add,Nat.reduceAdd] at c128b5)
       by_cases c129 : ((rd_T48 l0_11 x111_3).f0).size + ((⟨#[32,112,97,114,101,110,116,32]⟩ : ByteArray) ++ ((rd_T48 l0_11 x111_3).f1)).size≤9223372036854775807
       rotate_left
       ·rw [if_neg c129] at H
        exact absurd H (by simp)
       rw [if_pos c129] at H
       have c129b0:=eq_true c129
       have c129b1 : decide (((rd_T48 l0_11 x111_3).f0).size + ((⟨#[32,112,97,114,101,110,116,32]⟩ : ByteArray) ++ ((rd_T48 l0_11 x111_3).f1)).size≤9223372036854775807) = true:=decide_eq_true c129
       try have c129b2 : (9223372036854775807 < ((rd_T48 l0_11 x111_3).f0).size + ((⟨#[32,112,97,114,101,110,116,32]⟩ : ByteArray) ++ ((rd_T48 l0_11 x111_3).f1)).size) = False:=eq_false (Nat.not_lt.2 c129)
       try (have c129b3:=c129b2;simp only [ByteArray.size_append,size_lit1,size_lit0,Nat.add_zero] at c129b3)
       try (have c129b5:=c129b2;simp only [ByteArray.size_append,size_litA,List.size_toArray,List.length_cons,List.length_nil,Nat.zero_add,Nat.reduceAdd] at c129b5)
       replace H:=oB H
       obtain ⟨t206,A1300,H⟩:=H
       try dsimp only at H
       have A130:=Am A1300
       clear A1300
       obtain ⟨y207,hy207⟩ : ∃ y_ : List ByteArray,y_ = (([(⟨#[97,99,99,111,117,110,116]⟩ : ByteArray),((rd_T48 l0_11 x111_3).f0) ++ ((⟨#[32,112,97,114,101,110,116,32]⟩ : ByteArray) ++ ((rd_T48 l0_11 x111_3).f1)),(⟨#[115,104,97,114,101,115]⟩ : ByteArray),t206] : List ByteArray)):=⟨_,rfl⟩
       replace H : ((conf_row.f y207).bind fun t210=>(if x6_3.size + t210.size≤9223372036854775807 then (conf_Print.l2 k3 (x6_3 ++ t210) l0_11 (l0_11.length : Int) (wrap64 (x111_3 + 1))) else (none))) = some (r1,r2):=by first|(rw [hy207];with_reducible exact H)|(have H2_:=(Option.bind_some _ _).symm.trans H;rw [hy207];with_reducible exact H2_)|(have H2_:=(Option.bind_some _ _).symm.trans H;with_reducible exact H2_)|with_reducible exact H|(rw [hy207];exact H)|exact H
       have Ny207:=Am hy207
       clear hy207
       replace H:=oB H
       obtain ⟨t210,A1310,H⟩:=H
       try dsimp only at H
       have A131:=Am A1310
       clear A1310
       by_cases c132 : x6_3.size + t210.size≤9223372036854775807
       rotate_left
       ·rw [if_neg c132] at H
        exact absurd H (by simp)
       rw [if_pos c132] at H
       have c132b0:=eq_true c132
       have c132b1 : decide (x6_3.size + t210.size≤9223372036854775807) = true:=decide_eq_true c132
       try have c132b2 : (9223372036854775807 < x6_3.size + t210.size) = False:=eq_false (Nat.not_lt.2 c132)
       try (have c132b3:=c132b2;simp only [ByteArray.size_append,size_lit1,size_lit0,Nat.add_zero] at c132b3)
       try (have c132b5:=c132b2;simp only [ByteArray.size_append,size_litA,List.size_toArray,List.length_cons,List.length_nil,Nat.zero_add,Nat.reduceAdd] at c132b5)
       have H':=Am H
       clear H
       have p199 : 0≤(x111_3 : Int):=of_decide_eq_true (by first|(with_reducible assumption)|assumption)
       have q199 : x111_3 < (l0_11.length : Int):=of_decide_eq_true (by first|(with_reducible assumption)|assumption)
       obtain ⟨ad199,e199,hx199_0,hx199_1,hx199_2⟩:=at_T48 HR0_11.out x111_3 p199 q199
       cases e199
       replace hx199_0:=(HB.out.cell (wB w _ hx199_0)).trans hx199_0
       replace hx199_1:=(HB.out.cell (wB w _ hx199_1)).trans hx199_1
       replace hx199_2:=(HB.out.cell (wB w _ hx199_2)).trans hx199_2
       replace p199:=eq_true p199
       replace q199:=eq_true q199
       try go_wp2_with (first|((with_reducible refine gD (N:=12) rfl ?_);refine box_event ?hg (N:=12) ?hd (cs:=#[.string (⟨#[]⟩ : ByteArray),.string (⟨#[]⟩ : ByteArray),.int .i64 0]) (t:=48) ?hr ?_;(case hd=>rfl);(case hg=>rfl);(case hr=>first|(go_simp;done)|(go_simp;rfl));intro gb200 hg w133 hbox hb;have n0_:=Am (blk_below (g:=gb147) (by (with_reducible repeat (first|refine bN ?_ _|refine bD ?_|refine bA ?_ _));exact BK147.out) hb);have n1_:=Am (blk_below (g:=gb149) (by (with_reducible repeat (first|refine bN ?_ _|refine bD ?_|refine bA ?_ _));exact BK149.out) hb);have n2_:=Am (below_step (by repeat (first|(with_reducible first|exact HB.out|apply bL|apply pN|apply bE|refine bS ?_ GE147.out|refine bS ?_ GE149.out)|exact HB.out)) hb);have n3_:=Am (hbox);have n4_:=Am ((by rw [hg];exact (bZ (by repeat (first|(with_reducible first|exact HB.out|apply bL|apply pN|apply bE|refine bS ?_ GE147.out|refine bS ?_ GE149.out)|exact HB.out))) : w.heap.size≤gb200));have n5_:=n4_;have n6_:=Am ((by rw [hg];exact Nat.ne_of_lt (blk_lt (g:=gb147) (by (with_reducible repeat (first|refine bN ?_ _|refine bD ?_|refine bA ?_ _));exact BK147.out)) : gb147 ≠ gb200));have n7_:=Am ((by rw [hg];exact Nat.ne_of_gt (blk_lt (g:=gb147) (by (with_reducible repeat (first|refine bN ?_ _|refine bD ?_|refine bA ?_ _));exact BK147.out)) : gb200 ≠ gb147));have n8_:=Am ((by rw [hg];exact Nat.ne_of_lt (blk_lt (g:=gb149) (by (with_reducible repeat (first|refine bN ?_ _|refine bD ?_|refine bA ?_ _));exact BK149.out)) : gb149 ≠ gb200));have n9_:=Am ((by rw [hg];exact Nat.ne_of_gt (blk_lt (g:=gb149) (by (with_reducible repeat (first|refine bN ?_ _|refine bD ?_|refine bA ?_ _));exact BK149.out)) : gb200 ≠ gb149));clear BK147;clear BK149;clear HB;have BK147:=n0_;have BK149:=n1_;have HB:=n2_;have BK200:=n3_;have GW200:=n4_;have GE200:=n5_;have NB147_200:=n6_;have NB200_147:=n7_;have NB149_200:=n8_;have NB200_149:=n9_;clear n0_ n1_ n2_ n3_ n4_ n5_ n6_ n7_ n8_ n9_;clear hb hbox hg;have hnb134:=NB200_147.out;have hnc134:=NB147_200.out;have hnb135:=NB200_149.out;have hnc135:=NB149_200.out;obtain ⟨X136_0,X136_1,X136_2,Y136_0,Y136_1,Y136_2⟩:=kc3 (w:=w133) (g:=gb200) BK200.out))
       have n0_ : Aside0 ((((w133.setCell ⟨gb200,0,none⟩ (.string ((rd_T48 l0_11 x111_3).f0))).setCell ⟨gb200,1,none⟩ (.string ((rd_T48 l0_11 x111_3).f1))).setCell ⟨gb200,2,none⟩ (.int .i64 ((rd_T48 l0_11 x111_3).f2))).heap[gb147]? = some (.cells #[.int .i64 a0_0,.int .i64 a0_1,.int .i64 a0_2,.int .i64 a0_3,.int .i64 a0_4,.int .i64 a0_5,.int .i64 a0_6,.int .i64 a0_7,.int .i64 a0_8,.slice A0_9 l0_9.length c0_9,.slice A0_10 l0_10.length c0_10,.slice (some ad199) l0_11.length c0_11] 28 (0,0))):=⟨by (with_reducible repeat (first|refine bN ?_ _|refine bD ?_|refine bA ?_ _));refine blk_far ?_ NB147_200.out _;(with_reducible repeat (first|refine bN ?_ _|refine bD ?_|refine bA ?_ _));refine blk_far ?_ NB147_200.out _;(with_reducible repeat (first|refine bN ?_ _|refine bD ?_|refine bA ?_ _));refine blk_far ?_ NB147_200.out _;(with_reducible repeat (first|refine bN ?_ _|refine bD ?_|refine bA ?_ _));exact BK147.out⟩
       have n1_ : Aside0 ((((w133.setCell ⟨gb200,0,none⟩ (.string ((rd_T48 l0_11 x111_3).f0))).setCell ⟨gb200,1,none⟩ (.string ((rd_T48 l0_11 x111_3).f1))).setCell ⟨gb200,2,none⟩ (.int .i64 ((rd_T48 l0_11 x111_3).f2))).heap[gb149]? = some (.cells #[.int .i64 a0_4,.int .i64 a0_5,.int .i64 a0_6,.int .i64 a0_7,.int .i64 a0_8] 23 (0,0))):=⟨by (with_reducible repeat (first|refine bN ?_ _|refine bD ?_|refine bA ?_ _));refine blk_far ?_ NB149_200.out _;(with_reducible repeat (first|refine bN ?_ _|refine bD ?_|refine bA ?_ _));refine blk_far ?_ NB149_200.out _;(with_reducible repeat (first|refine bN ?_ _|refine bD ?_|refine bA ?_ _));refine blk_far ?_ NB149_200.out _;(with_reducible repeat (first|refine bN ?_ _|refine bD ?_|refine bA ?_ _));exact BK149.out⟩
       have n2_ : Aside0 ((((w133.setCell ⟨gb200,0,none⟩ (.string ((rd_T48 l0_11 x111_3).f0))).setCell ⟨gb200,1,none⟩ (.string ((rd_T48 l0_11 x111_3).f1))).setCell ⟨gb200,2,none⟩ (.int .i64 ((rd_T48 l0_11 x111_3).f2))).heap[gb200]? = some (.cells #[.string ((rd_T48 l0_11 x111_3).f0),.string ((rd_T48 l0_11 x111_3).f1),.int .i64 ((rd_T48 l0_11 x111_3).f2)] 48 (0,0))):=⟨by (with_reducible repeat (first|refine bN ?_ _|refine bD ?_|refine bA ?_ _));refine blk_put (cs:=#[.string ((rd_T48 l0_11 x111_3).f0),.string ((rd_T48 l0_11 x111_3).f1),.int .i64 0]) ?_ 2 _ rfl;(with_reducible repeat (first|refine bN ?_ _|refine bD ?_|refine bA ?_ _));refine blk_put (cs:=#[.string ((rd_T48 l0_11 x111_3).f0),.string (⟨#[]⟩ : ByteArray),.int .i64 0]) ?_ 1 _ rfl;(with_reducible repeat (first|refine bN ?_ _|refine bD ?_|refine bA ?_ _));refine blk_put (cs:=#[.string (⟨#[]⟩ : ByteArray),.string (⟨#[]⟩ : ByteArray),.int .i64 0]) ?_ 0 _ rfl;(with_reducible repeat (first|refine bN ?_ _|refine bD ?_|refine bA ?_ _));exact BK200.out⟩
       have n3_ : Aside0 (Below w.heap.size w (((w133.setCell ⟨gb200,0,none⟩ (.string ((rd_T48 l0_11 x111_3).f0))).setCell ⟨gb200,1,none⟩ (.string ((rd_T48 l0_11 x111_3).f1))).setCell ⟨gb200,2,none⟩ (.int .i64 ((rd_T48 l0_11 x111_3).f2)))):=⟨by repeat (first|(with_reducible first|exact HB.out|apply bL|apply pN|apply bE|refine bS ?_ GE147.out|refine bS ?_ GE149.out|refine bS ?_ GE200.out)|exact HB.out)⟩
       generalize (((w133.setCell ⟨gb200,0,none⟩ (.string ((rd_T48 l0_11 x111_3).f0))).setCell ⟨gb200,1,none⟩ (.string ((rd_T48 l0_11 x111_3).f1))).setCell ⟨gb200,2,none⟩ (.int .i64 ((rd_T48 l0_11 x111_3).f2))) = w137 at n0_ n1_ n2_ n3_ ⊢
       have BK147:=n0_
       have BK149:=n1_
       have BK200:=n2_
       have HB:=n3_
       clear n0_ n1_ n2_ n3_
       have n0_:=Am (bD BK147.out)
       have n1_:=Am (bD BK149.out)
       have n2_:=Am (bD BK200.out)
       have n3_:=Am (bE HB.out)
       clear BK147
       clear BK149
       clear BK200
       clear HB
       have BK147:=n0_
       have BK149:=n1_
       have BK200:=n2_
       have HB:=n3_
       clear n0_ n1_ n2_ n3_
       refine start_ (n:=12) (S:=fun w'=>w'.cell? ⟨gb200,0,none⟩ = some (.string ((rd_T48 l0_11 x111_3).f0))∧w'.cell? ⟨gb200,1,none⟩ = some (.string ((rd_T48 l0_11 x111_3).f1))∧w'.cell? ⟨gb200,2,none⟩ = some (.int .i64 ((rd_T48 l0_11 x111_3).f2))) (ds:=[]) #[O,O,O,O,O,O,O,O,O,O,O,O] (by kernel_rfl) rfl rfl ⟨(bC BK200.out 0).trans rfl,(bC BK200.out 1).trans rfl,(bC BK200.out 2).trans rfl⟩ (fun hHeld=>?_);refine with_tabW conf_Print.tab23 conf_Print.bits23 (fun HT_ HW_=>?_)
       generalize w137.drew = w138 at BK147 BK149 BK200 HB hHeld ⊢
       refine pure_ (i:=0) (N:=some 121) (v:=?_) (a':=?_) #[J,O,O,O,O,O,O,O,O,O,O,O] rfl rfl (any_of HT_.out (by kernel_rfl)) (fun _ _ _ h=>h) (Or.inl ⟨by rfl,?_⟩) ?_ ?_
       rotate_left
       ·intro w'
        go_simp
        with_reducible rfl
       rotate_left
       ·simp only [Act.put,sT,sZ,sS,iW,iV]
        rfl
       refine pure_ (i:=1) (N:=some 122) (v:=?_) (a':=?_) #[J,J,O,O,O,O,O,O,O,O,O,O] rfl rfl (any_of HT_.out (by kernel_rfl)) (fun _ _ _ h=>h) (Or.inl ⟨by rfl,?_⟩) ?_ ?_
       rotate_left
       ·intro w'
        go_simp
        with_reducible rfl
       rotate_left
       ·simp only [Act.put,sT,sZ,sS,iW,iV]
        rfl
       refine pure_ (i:=3) (N:=some 124) (v:=?_) (a':=?_) #[J,J,O,J,O,O,O,O,O,O,O,O] rfl rfl (any_of HT_.out (by kernel_rfl)) (fun _ _ _ h=>h) (Or.inl ⟨by rfl,?_⟩) ?_ ?_
       rotate_left
       ·intro w'
        go_simp
        with_reducible rfl
       rotate_left
       ·simp only [Act.put,sT,sZ,sS,iW,iV]
        rfl
       refine pure_ (i:=5) (N:=some 126) (v:=?_) (a':=?_) #[J,J,O,J,O,J,O,O,O,O,O,O] rfl rfl (any_of HT_.out (by kernel_rfl)) (fun _ _ _ h=>h) (Or.inl ⟨by rfl,?_⟩) ?_ ?_
       rotate_left
       ·intro w'
        go_simp
        with_reducible rfl
       rotate_left
       ·simp only [Act.put,sT,sZ,sS,iW,iV]
        rfl
       refine take_ (i:=2) (N:=some 123) (v:=?_) (a':=?_) #[J,J,J,J,O,J,O,O,O,O,O,O] rfl rfl (take_ofW HT_.out HW_.out (by kernel_rfl)) (fun _ _ _ h=>h) (Or.inl ⟨by rfl,?_⟩) hHeld ?_ ?_
       rotate_left
       ·rintro w' ⟨s0,s1,s2⟩
        go_simp
        with_reducible rfl
       rotate_left
       ·simp only [Act.put,sT,sZ,sS,iW,iV]
        rfl
       refine pure_ (i:=4) (N:=some 125) (v:=?_) (a':=?_) #[J,J,J,J,J,J,O,O,O,O,O,O] rfl rfl (any_of HT_.out (by kernel_rfl)) (fun _ _ _ h=>h) (Or.inl ⟨by rfl,?_⟩) ?_ ?_
       rotate_left
       ·intro w'
        go_simp
        with_reducible rfl
       rotate_left
       ·simp only [Act.put,sT,sZ,sS,iW,iV]
        rfl
       refine take_ (i:=6) (N:=some 127) (v:=?_) (a':=?_) #[J,J,J,J,J,J,J,O,O,O,O,O] rfl rfl (take_ofW HT_.out HW_.out (by kernel_rfl)) (fun _ _ _ h=>h) (Or.inl ⟨by rfl,?_⟩) hHeld ?_ ?_
       rotate_left
       ·rintro w' ⟨s0,s1,s2⟩
        go_simp
        with_reducible rfl
       rotate_left
       ·simp only [Act.put,sT,sZ,sS,iW,iV]
        rfl
       refine one_ (i:=7) (N:=some 128) #[J,J,J,J,J,J,J,J,O,O,O,O] rfl rfl (one_of HT_.out (by kernel_rfl)) (by decide) (fun K hK=>?_)
       refine goes_ Tryd.func30 (by kernel_rfl) rfl #[.int .i64 ((rd_T48 l0_11 x111_3).f2)] (by rfl) rfl rfl (by (try simp only [mT,mC,mN]);first|done|rfl|(simp only [lD,lT];rfl)) ?_
       with_reducible refine (strconv_Itoa_30.calls ((rd_T48 l0_11 x111_3).f2) t206 _ ?side1 A130.out).mono ?_
       (case side1=>exact Glob.below HG.out (by repeat (first|(with_reducible first|exact HB.out|apply bL|apply pN|apply bE|refine bS ?_ GE147.out|refine bS ?_ GE149.out|refine bS ?_ GE200.out)|exact HB.out)))
       rintro e w139 ⟨rfl,hb⟩
       refine ⟨_,rfl,?_⟩
       have n0_:=Am (blk_below (g:=gb147) (by (with_reducible repeat (first|refine bN ?_ _|refine bD ?_|refine bA ?_ _));exact BK147.out) hb)
       have n1_:=Am (blk_below (g:=gb149) (by (with_reducible repeat (first|refine bN ?_ _|refine bD ?_|refine bA ?_ _));exact BK149.out) hb)
       have n2_:=Am (blk_below (g:=gb200) (by (with_reducible repeat (first|refine bN ?_ _|refine bD ?_|refine bA ?_ _));exact BK200.out) hb)
       have n3_:=Am (below_step (by repeat (first|(with_reducible first|exact HB.out|apply bL|apply pN|apply bE|refine bS ?_ GE147.out|refine bS ?_ GE149.out|refine bS ?_ GE200.out)|exact HB.out)) hb)
       clear BK147
       clear BK149
       clear BK200
       clear HB
       have BK147:=n0_
       have BK149:=n1_
       have BK200:=n2_
       have HB:=n3_
       clear n0_ n1_ n2_ n3_
       refine hK.out _ _ ⟨(bC BK200.out 0).trans rfl,(bC BK200.out 1).trans rfl,(bC BK200.out 2).trans rfl⟩ (fun hHeld=>?_)
       clear hK K
       refine norm_ (a':=?_) ?_ ?_
       rotate_left
       ·show Act.put _ (some 128) _ = _
        simp only [Act.put,sT,sZ,sS,iW,iV]
        rfl
       refine one_ (i:=8) (N:=some 129) #[J,J,J,J,J,J,J,J,J,O,O,O] rfl rfl (one_of HT_.out (by kernel_rfl)) (by decide) (fun K hK=>?_)
       refine Kd.R_lit_step Kd.string _ 9 ?hg (N:=129) ?hd (xs:=([(⟨#[97,99,99,111,117,110,116]⟩ : ByteArray),((rd_T48 l0_11 x111_3).f0) ++ ((⟨#[32,112,97,114,101,110,116,32]⟩ : ByteArray) ++ ((rd_T48 l0_11 x111_3).f1)),(⟨#[115,104,97,114,101,115]⟩ : ByteArray),t206] : List ByteArray)) (inner:=[.string (⟨#[97,99,99,111,117,110,116]⟩ : ByteArray),.string (((rd_T48 l0_11 x111_3).f0) ++ ((⟨#[32,112,97,114,101,110,116,32]⟩ : ByteArray) ++ ((rd_T48 l0_11 x111_3).f1))),.string (⟨#[115,104,97,114,101,115]⟩ : ByteArray),.string t206]) (ok:=fun _=>True) (okp:=fun _=>True) ?hr ?hp (fun _ hk=>hk) trivial (Below.refl _ _) (Nat.le_refl _) (by simp) ?_;(case hd=>rfl);(case hg=>rfl);(case hr=>first|(go_simp;done)|(go_simp;rfl));(case hp=>exact (Reps.one (show Kd.M Kd.string _ _ _ (⟨#[97,99,99,111,117,110,116]⟩ : ByteArray) [.string (⟨#[97,99,99,111,117,110,116]⟩ : ByteArray)] from rfl) (Reps.one (show Kd.M Kd.string _ _ _ (((rd_T48 l0_11 x111_3).f0) ++ ((⟨#[32,112,97,114,101,110,116,32]⟩ : ByteArray) ++ ((rd_T48 l0_11 x111_3).f1))) [.string (((rd_T48 l0_11 x111_3).f0) ++ ((⟨#[32,112,97,114,101,110,116,32]⟩ : ByteArray) ++ ((rd_T48 l0_11 x111_3).f1)))] from rfl) (Reps.one (show Kd.M Kd.string _ _ _ (⟨#[115,104,97,114,101,115]⟩ : ByteArray) [.string (⟨#[115,104,97,114,101,115]⟩ : ByteArray)] from rfl) (Reps.one (show Kd.M Kd.string _ _ _ t206 [.string t206] from rfl) (Reps.none _ _))))))
       intro v208 w140 ho141 hb hg_ hnew_
       clear hg_ hnew_
       (first|rw [← Ny207.out] at ho141|(simp only [Int.reduceToNat] at ho141;rw [← Ny207.out] at ho141))
       have n0_:=Am (Kd.R_lower ho141 (bZ (by repeat (first|(with_reducible first|exact HB.out|apply bL|apply pN|apply bE|refine bS ?_ GE147.out|refine bS ?_ GE149.out|refine bS ?_ GE200.out)|exact HB.out))))
       have n1_:=Am (blk_below (g:=gb147) (by (with_reducible repeat (first|refine bN ?_ _|refine bD ?_|refine bA ?_ _));exact BK147.out) hb)
       have n2_:=Am (blk_below (g:=gb149) (by (with_reducible repeat (first|refine bN ?_ _|refine bD ?_|refine bA ?_ _));exact BK149.out) hb)
       have n3_:=Am (blk_below (g:=gb200) (by (with_reducible repeat (first|refine bN ?_ _|refine bD ?_|refine bA ?_ _));exact BK200.out) hb)
       have n4_:=Am (below_step (by repeat (first|(with_reducible first|exact HB.out|apply bL|apply pN|apply bE|refine bS ?_ GE147.out|refine bS ?_ GE149.out|refine bS ?_ GE200.out)|exact HB.out)) hb)
       clear BK147
       clear BK149
       clear BK200
       clear HB
       have HO209:=n0_
       have BK147:=n1_
       have BK149:=n2_
       have BK200:=n3_
       have HB:=n4_
       clear n0_ n1_ n2_ n3_ n4_
       clear hb ho141
       obtain ⟨Ao142,co142,eo142⟩:=Kd.R_slice HO209.out
       (first|subst eo142|(injection eo142 with f1_ f2_ f3_;have f4_:=f1_.symm;have f5_:=f3_.symm;clear f1_ f2_ f3_;subst f4_;subst f5_))
       refine hK.out _ _ ⟨(bC BK200.out 0).trans rfl,(bC BK200.out 1).trans rfl,(bC BK200.out 2).trans rfl⟩ (fun hHeld=>?_)
       clear hK K
       refine norm_ (a':=?_) ?_ ?_
       rotate_left
       ·show Act.put _ (some 129) _ = _
        simp only [Act.put,sT,sZ,sS,iW,iV]
        rfl
       refine one_ (i:=9) (N:=some 130) #[J,J,J,J,J,J,J,J,J,J,O,O] rfl rfl (one_of HT_.out (by kernel_rfl)) (by decide) (fun K hK=>?_)
       refine goes_ Tryd.func28 (by kernel_rfl) rfl #[.slice Ao142 y207.length co142] (by rfl) rfl rfl (by (try simp only [mT,mC,mN]);first|done|rfl|(simp only [lD,lT];rfl)) ?_
       with_reducible refine (conf_row.calls (fun k_=>some k_ = (.slice Ao142 y207.length co142 : Value).ownBlock) (.slice Ao142 y207.length co142) y207 t210 w _ ?side1 ?side2 A131.out).mono ?_
       (case side1=>repeat (first|(with_reducible first|exact HB.out|apply bL|apply pN|apply bE|refine bS ?_ GE147.out|refine bS ?_ GE149.out|refine bS ?_ GE200.out)|exact HB.out))
       (case side2=>exact Kd.R_tight rfl HO209.out)
       rintro e w143 ⟨rfl,hb,hkp⟩
       refine ⟨_,rfl,?_⟩
       have n0_:=Am (blk_kept (by (with_reducible repeat (first|refine bN ?_ _|refine bD ?_|refine bA ?_ _));exact BK147.out) hkp (fun hs_=>(fun e_=>(Kd.R_ne HO209.out BK147.out (by decide)) e_) hs_))
       have n1_:=Am (blk_kept (by (with_reducible repeat (first|refine bN ?_ _|refine bD ?_|refine bA ?_ _));exact BK149.out) hkp (fun hs_=>(fun e_=>(Kd.R_ne HO209.out BK149.out (by decide)) e_) hs_))
       have n2_:=Am (blk_kept (by (with_reducible repeat (first|refine bN ?_ _|refine bD ?_|refine bA ?_ _));exact BK200.out) hkp (fun hs_=>(fun e_=>(Kd.R_ne HO209.out BK200.out (by decide)) e_) hs_))
       have n3_:=Am (hb)
       clear BK147
       clear BK149
       clear BK200
       clear HB
       clear HO209
       have BK147:=n0_
       have BK149:=n1_
       have BK200:=n2_
       have HB:=n3_
       clear n0_ n1_ n2_ n3_
       refine hK.out _ _ ⟨(bC BK200.out 0).trans rfl,(bC BK200.out 1).trans rfl,(bC BK200.out 2).trans rfl⟩ (fun hHeld=>?_)
       clear hK K
       refine norm_ (a':=?_) ?_ ?_
       rotate_left
       ·show Act.put _ (some 130) _ = _
        simp only [Act.put,sT,sZ,sS,iW,iV]
        rfl
       refine pure_ (i:=10) (N:=some 131) (v:=?_) (a':=?_) #[J,J,J,J,J,J,J,J,J,J,J,O] rfl rfl (any_of HT_.out (by kernel_rfl)) (fun _ _ _ h=>h) (Or.inl ⟨by rfl,?_⟩) ?_ ?_
       rotate_left
       ·intro w'
        go_simp
        with_reducible rfl
       rotate_left
       ·simp only [Act.put,sT,sZ,sS,iW,iV]
        rfl
       refine pure_ (i:=11) (N:=some 6) (v:=?_) (a':=?_) #[J,J,J,J,J,J,J,J,J,J,J,J] rfl rfl (any_of HT_.out (by kernel_rfl)) (fun _ _ _ h=>h) (Or.inl ⟨by rfl,?_⟩) ?_ ?_
       rotate_left
       ·intro w'
        go_simp
        with_reducible rfl
       rotate_left
       ·simp only [Act.put,sT,sZ,sS,iW,iV]
        rfl
       refine done_ (done_of HT_.out (by kernel_rfl)) ?_
       try go_wp2
       go_roundg k3
       case measure=>have:=HK1.out;have:=HK2.out;have:=HK3.out;omega
       case rel=>exact ⟨(x6_3 ++ t210),(wrap64 (x111_3 + 1)),(by first|rfl|(simp;done)|(simp [*];done)),(by first|rfl|(simp;done)|(simp [*];done)),H',⟨by have:=HK1.out;have:=HK2.out;have:=HK3.out;omega⟩,⟨by (with_reducible repeat (first|refine bN ?_ _|refine bD ?_|refine bA ?_ _));exact BK147.out⟩,⟨by (with_reducible repeat (first|refine bN ?_ _|refine bD ?_|refine bA ?_ _));exact BK149.out⟩,⟨by repeat (first|(with_reducible first|exact HB.out|apply bL|apply pN|apply bE|refine bS ?_ GE147.out|refine bS ?_ GE149.out|refine bS ?_ GE200.out)|exact HB.out)⟩⟩
end Go.Proofs.YtgidipomfbikiaaDoor.P
