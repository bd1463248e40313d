/- cut to what one law reaches -/
import Derived.Test.YtgidipomfbikiaaDoorQdShort
import Derived.Test.YtgidipomfbikiaaDoorQdP0
import Derived.Test.YtgidipomfbikiaaDoorQdP16
import Derived.Test.YtgidipomfbikiaaDoorQdP17
namespace Go.Proofs.YtgidipomfbikiaaDoor.P
open Go.RowKit Go.Proofs.YtgidipomfbikiaaDoorW.PrintWords Go.Proofs.YtgidipomfbikiaaDoorW.PrintLast Go.Proofs.YtgidipomfbikiaaDoorW.PrintMore
attribute [local go_sem] max2_int min2_int max_two min_two max_three min_three max_four min_four   -- for this text's walks alone
set_option linter.unusedVariables false
set_option linter.unusedSimpArgs false
attribute [local go_sem] isSome_setCell
mutual
def gangerref10_Print.l0 : Nat→ByteArray→Int→Int→Int→Int→Int→Int→Int→Int→Int→Int→List (S50)→List (S52)→List (S48)→Option (ByteArray × Int)
 | 0,_,_,_,_,_,_,_,_,_,_,_,_,_,_=>none
 | k + 1,x6,x7,u_0,u_1,u_2,u_3,u_4,u_5,u_6,u_7,u_8,u_9,u_10,u_11=>if x7 < (u_9.length : Int) then (if 0≤x7 then (if x6.size + 10≤9223372036854775807 then (if (x6 ++ (⟨#[112,97,114,116,105,116,105,111,110,32]⟩ : ByteArray)).size + ((rd_T50 u_9 x7).f0).size≤9223372036854775807 then ((gangerref10_num.f k (⟨#[32,111,114,100,101,114]⟩ : ByteArray) ((rd_T50 u_9 x7).f1)).bind fun t355=>(if ((x6 ++ (⟨#[112,97,114,116,105,116,105,111,110,32]⟩ : ByteArray)) ++ ((rd_T50 u_9 x7).f0)).size + t355.size≤9223372036854775807 then ((gangerref10_num.f k (⟨#[32,112,114,105,111,114,105,116,121]⟩ : ByteArray) ((rd_T50 u_9 x7).f2)).bind fun t356=>(if (((x6 ++ (⟨#[112,97,114,116,105,116,105,111,110,32]⟩ : ByteArray)) ++ ((rd_T50 u_9 x7).f0)) ++ t355).size + t356.size≤9223372036854775807 then ((gangerref10_num.f k (⟨#[32,108,105,109,105,116]⟩ : ByteArray) ((rd_T50 u_9 x7).f3)).bind fun t357=>(if ((((x6 ++ (⟨#[112,97,114,116,105,116,105,111,110,32]⟩ : ByteArray)) ++ ((rd_T50 u_9 x7).f0)) ++ t355) ++ t356).size + t357.size≤9223372036854775807 then (if (((((x6 ++ (⟨#[112,97,114,116,105,116,105,111,110,32]⟩ : ByteArray)) ++ ((rd_T50 u_9 x7).f0)) ++ t355) ++ t356) ++ t357).size + 1≤9223372036854775807 then (gangerref10_Print.l0 k ((((((x6 ++ (⟨#[112,97,114,116,105,116,105,111,110,32]⟩ : ByteArray)) ++ ((rd_T50 u_9 x7).f0)) ++ t355) ++ t356) ++ t357) ++ (⟨#[10]⟩ : ByteArray)) (wrap64 (x7 + 1)) u_0 u_1 u_2 u_3 u_4 u_5 u_6 u_7 u_8 u_9 u_10 u_11) else (none)) else (none))) else (none))) else (none))) else (none)) else (none)) else (none)) else (gangerref10_Print.l1 k x6 0 u_0 u_1 u_2 u_3 u_4 u_5 u_6 u_7 u_8 u_9 u_10 u_11)
def gangerref10_Print.l1 : Nat→ByteArray→Int→Int→Int→Int→Int→Int→Int→Int→Int→Int→List (S50)→List (S52)→List (S48)→Option (ByteArray × Int)
 | 0,_,_,_,_,_,_,_,_,_,_,_,_,_,_=>none
 | k + 1,x6,x9,u_0,u_1,u_2,u_3,u_4,u_5,u_6,u_7,u_8,u_9,u_10,u_11=>if x9 < (u_10.length : Int) then (if 0≤x9 then (if x6.size + 4≤9223372036854775807 then (if (x6 ++ (⟨#[113,111,115,32]⟩ : ByteArray)).size + ((rd_T52 u_10 x9).f0).size≤9223372036854775807 then ((gangerref10_num.f k (⟨#[32,112,114,105,111,114,105,116,121]⟩ : ByteArray) ((rd_T52 u_10 x9).f1)).bind fun t360=>(if ((x6 ++ (⟨#[113,111,115,32]⟩ : ByteArray)) ++ ((rd_T52 u_10 x9).f0)).size + t360.size≤9223372036854775807 then ((gangerref10_num.f k (⟨#[32,109,111,115,116]⟩ : ByteArray) ((rd_T52 u_10 x9).f2)).bind fun t361=>(if (((x6 ++ (⟨#[113,111,115,32]⟩ : ByteArray)) ++ ((rd_T52 u_10 x9).f0)) ++ t360).size + t361.size≤9223372036854775807 then (if ((((x6 ++ (⟨#[113,111,115,32]⟩ : ByteArray)) ++ ((rd_T52 u_10 x9).f0)) ++ t360) ++ t361).size + 1≤9223372036854775807 then (gangerref10_Print.l1 k (((((x6 ++ (⟨#[113,111,115,32]⟩ : ByteArray)) ++ ((rd_T52 u_10 x9).f0)) ++ t360) ++ t361) ++ (⟨#[10]⟩ : ByteArray)) (wrap64 (x9 + 1)) u_0 u_1 u_2 u_3 u_4 u_5 u_6 u_7 u_8 u_9 u_10 u_11) else (none)) else (none))) else (none))) else (none)) else (none)) else (none)) else (gangerref10_Print.l2 k x6 0 u_0 u_1 u_2 u_3 u_4 u_5 u_6 u_7 u_8 u_9 u_10 u_11)
def gangerref10_Print.l2 : Nat→ByteArray→Int→Int→Int→Int→Int→Int→Int→Int→Int→Int→List (S50)→List (S52)→List (S48)→Option (ByteArray × Int)
 | 0,_,_,_,_,_,_,_,_,_,_,_,_,_,_=>none
 | k + 1,x6,x11,u_0,u_1,u_2,u_3,u_4,u_5,u_6,u_7,u_8,u_9,u_10,u_11=>if x11 < (u_11.length : Int) then (if 0≤x11 then (if x6.size + 8≤9223372036854775807 then (if (x6 ++ (⟨#[97,99,99,111,117,110,116,32]⟩ : ByteArray)).size + ((rd_T48 u_11 x11).f0).size≤9223372036854775807 then (if x11 > 0 then (if ((x6 ++ (⟨#[97,99,99,111,117,110,116,32]⟩ : ByteArray)) ++ ((rd_T48 u_11 x11).f0)).size + 8≤9223372036854775807 then (if (((x6 ++ (⟨#[97,99,99,111,117,110,116,32]⟩ : ByteArray)) ++ ((rd_T48 u_11 x11).f0)) ++ (⟨#[32,112,97,114,101,110,116,32]⟩ : ByteArray)).size + ((rd_T48 u_11 x11).f1).size≤9223372036854775807 then ((gangerref10_num.f k (⟨#[32,115,104,97,114,101,115]⟩ : ByteArray) ((rd_T48 u_11 x11).f2)).bind fun t364=>(if ((((x6 ++ (⟨#[97,99,99,111,117,110,116,32]⟩ : ByteArray)) ++ ((rd_T48 u_11 x11).f0)) ++ (⟨#[32,112,97,114,101,110,116,32]⟩ : ByteArray)) ++ ((rd_T48 u_11 x11).f1)).size + t364.size≤9223372036854775807 then (if (((((x6 ++ (⟨#[97,99,99,111,117,110,116,32]⟩ : ByteArray)) ++ ((rd_T48 u_11 x11).f0)) ++ (⟨#[32,112,97,114,101,110,116,32]⟩ : ByteArray)) ++ ((rd_T48 u_11 x11).f1)) ++ t364).size + 1≤9223372036854775807 then (gangerref10_Print.l2 k ((((((x6 ++ (⟨#[97,99,99,111,117,110,116,32]⟩ : ByteArray)) ++ ((rd_T48 u_11 x11).f0)) ++ (⟨#[32,112,97,114,101,110,116,32]⟩ : ByteArray)) ++ ((rd_T48 u_11 x11).f1)) ++ t364) ++ (⟨#[10]⟩ : ByteArray)) (wrap64 (x11 + 1)) u_0 u_1 u_2 u_3 u_4 u_5 u_6 u_7 u_8 u_9 u_10 u_11) else (none)) else (none))) else (none)) else (none)) else ((gangerref10_num.f k (⟨#[32,115,104,97,114,101,115]⟩ : ByteArray) ((rd_T48 u_11 x11).f2)).bind fun t365=>(if ((x6 ++ (⟨#[97,99,99,111,117,110,116,32]⟩ : ByteArray)) ++ ((rd_T48 u_11 x11).f0)).size + t365.size≤9223372036854775807 then (if (((x6 ++ (⟨#[97,99,99,111,117,110,116,32]⟩ : ByteArray)) ++ ((rd_T48 u_11 x11).f0)) ++ t365).size + 1≤9223372036854775807 then (gangerref10_Print.l2 k ((((x6 ++ (⟨#[97,99,99,111,117,110,116,32]⟩ : ByteArray)) ++ ((rd_T48 u_11 x11).f0)) ++ t365) ++ (⟨#[10]⟩ : ByteArray)) (wrap64 (x11 + 1)) u_0 u_1 u_2 u_3 u_4 u_5 u_6 u_7 u_8 u_9 u_10 u_11) else (none)) else (none)))) else (none)) else (none)) else (none)) else (some (x6,0))
end
def gangerref10_Print.f (k : Nat) (a0_0 : Int) (a0_1 : Int) (a0_2 : Int) (a0_3 : Int) (a0_4 : Int) (a0_5 : Int) (a0_6 : Int) (a0_7 : Int) (a0_8 : Int) (l0_9 : List (S50)) (l0_10 : List (S52)) (l0_11 : List (S48)) : Option (ByteArray × Int):=(gangerref10_Check.f k a0_0 a0_1 a0_2 a0_3 a0_4 a0_5 a0_6 a0_7 a0_8 l0_9 l0_10 l0_11).bind fun t342=>(if t342 = 0 then ((gangerref10_policy.f a0_0).bind fun t344=>(if 7 + t344.size≤9223372036854775807 then (if ((⟨#[112,111,108,105,99,121,32]⟩ : ByteArray) ++ t344).size + 1≤9223372036854775807 then ((gangerref10_num.f k (⟨#[104,97,108,102]⟩ : ByteArray) a0_1).bind fun t345=>(if (((⟨#[112,111,108,105,99,121,32]⟩ : ByteArray) ++ t344) ++ (⟨#[10]⟩ : ByteArray)).size + t345.size≤9223372036854775807 then (if ((((⟨#[112,111,108,105,99,121,32]⟩ : ByteArray) ++ t344) ++ (⟨#[10]⟩ : ByteArray)) ++ t345).size + 1≤9223372036854775807 then ((gangerref10_num.f k (⟨#[113,117,97,110,116,117,109]⟩ : ByteArray) a0_2).bind fun t346=>(if (((((⟨#[112,111,108,105,99,121,32]⟩ : ByteArray) ++ t344) ++ (⟨#[10]⟩ : ByteArray)) ++ t345) ++ (⟨#[10]⟩ : ByteArray)).size + t346.size≤9223372036854775807 then (if ((((((⟨#[112,111,108,105,99,121,32]⟩ : ByteArray) ++ t344) ++ (⟨#[10]⟩ : ByteArray)) ++ t345) ++ (⟨#[10]⟩ : ByteArray)) ++ t346).size + 1≤9223372036854775807 then ((gangerref10_num.f k (⟨#[114,101,113,117,101,117,101,115]⟩ : ByteArray) a0_3).bind fun t347=>(if (((((((⟨#[112,111,108,105,99,121,32]⟩ : ByteArray) ++ t344) ++ (⟨#[10]⟩ : ByteArray)) ++ t345) ++ (⟨#[10]⟩ : ByteArray)) ++ t346) ++ (⟨#[10]⟩ : ByteArray)).size + t347.size≤9223372036854775807 then (if ((((((((⟨#[112,111,108,105,99,121,32]⟩ : ByteArray) ++ t344) ++ (⟨#[10]⟩ : ByteArray)) ++ t345) ++ (⟨#[10]⟩ : ByteArray)) ++ t346) ++ (⟨#[10]⟩ : ByteArray)) ++ t347).size + 1≤9223372036854775807 then ((gangerref10_num.f k (⟨#[119,101,105,103,104,116,115]⟩ : ByteArray) a0_4).bind fun t348=>(if (((((((((⟨#[112,111,108,105,99,121,32]⟩ : ByteArray) ++ t344) ++ (⟨#[10]⟩ : ByteArray)) ++ t345) ++ (⟨#[10]⟩ : ByteArray)) ++ t346) ++ (⟨#[10]⟩ : ByteArray)) ++ t347) ++ (⟨#[10]⟩ : ByteArray)).size + t348.size≤9223372036854775807 then ((gangerref10_num.f k (⟨#[]⟩ : ByteArray) a0_5).bind fun t349=>(if ((((((((((⟨#[112,111,108,105,99,121,32]⟩ : ByteArray) ++ t344) ++ (⟨#[10]⟩ : ByteArray)) ++ t345) ++ (⟨#[10]⟩ : ByteArray)) ++ t346) ++ (⟨#[10]⟩ : ByteArray)) ++ t347) ++ (⟨#[10]⟩ : ByteArray)) ++ t348).size + t349.size≤9223372036854775807 then ((gangerref10_num.f k (⟨#[]⟩ : ByteArray) a0_6).bind fun t350=>(if (((((((((((⟨#[112,111,108,105,99,121,32]⟩ : ByteArray) ++ t344) ++ (⟨#[10]⟩ : ByteArray)) ++ t345) ++ (⟨#[10]⟩ : ByteArray)) ++ t346) ++ (⟨#[10]⟩ : ByteArray)) ++ t347) ++ (⟨#[10]⟩ : ByteArray)) ++ t348) ++ t349).size + t350.size≤9223372036854775807 then ((gangerref10_num.f k (⟨#[]⟩ : ByteArray) a0_7).bind fun t351=>(if ((((((((((((⟨#[112,111,108,105,99,121,32]⟩ : ByteArray) ++ t344) ++ (⟨#[10]⟩ : ByteArray)) ++ t345) ++ (⟨#[10]⟩ : ByteArray)) ++ t346) ++ (⟨#[10]⟩ : ByteArray)) ++ t347) ++ (⟨#[10]⟩ : ByteArray)) ++ t348) ++ t349) ++ t350).size + t351.size≤9223372036854775807 then ((gangerref10_num.f k (⟨#[]⟩ : ByteArray) a0_8).bind fun t352=>(if (((((((((((((⟨#[112,111,108,105,99,121,32]⟩ : ByteArray) ++ t344) ++ (⟨#[10]⟩ : ByteArray)) ++ t345) ++ (⟨#[10]⟩ : ByteArray)) ++ t346) ++ (⟨#[10]⟩ : ByteArray)) ++ t347) ++ (⟨#[10]⟩ : ByteArray)) ++ t348) ++ t349) ++ t350) ++ t351).size + t352.size≤9223372036854775807 then (if ((((((((((((((⟨#[112,111,108,105,99,121,32]⟩ : ByteArray) ++ t344) ++ (⟨#[10]⟩ : ByteArray)) ++ t345) ++ (⟨#[10]⟩ : ByteArray)) ++ t346) ++ (⟨#[10]⟩ : ByteArray)) ++ t347) ++ (⟨#[10]⟩ : ByteArray)) ++ t348) ++ t349) ++ t350) ++ t351) ++ t352).size + 1≤9223372036854775807 then (gangerref10_Print.l0 k (((((((((((((((⟨#[112,111,108,105,99,121,32]⟩ : ByteArray) ++ t344) ++ (⟨#[10]⟩ : ByteArray)) ++ t345) ++ (⟨#[10]⟩ : ByteArray)) ++ t346) ++ (⟨#[10]⟩ : ByteArray)) ++ t347) ++ (⟨#[10]⟩ : ByteArray)) ++ t348) ++ t349) ++ t350) ++ t351) ++ t352) ++ (⟨#[10]⟩ : ByteArray)) 0 a0_0 a0_1 a0_2 a0_3 a0_4 a0_5 a0_6 a0_7 a0_8 l0_9 l0_10 l0_11) else (none)) else (none))) else (none))) else (none))) else (none))) else (none))) else (none)) else (none))) else (none)) else (none))) else (none)) else (none))) else (none)) else (none))) else (some ((⟨#[]⟩ : ByteArray),t342)))
def gangerref10_Print.T5 : Bool × List (List Nat × List Nat):=(true,[([],[]),([0],[0]),([1],[1]),([2],[2]),([3],[3]),([],[]),([5],[5]),([6,2],[6]),([4,7],[4,7]),([8],[8]),([],[]),([10],[10]),([11,7],[11]),([9,12],[9,12]),([13],[13]),([],[]),([15],[15]),([16,12],[16]),([14,17],[14,17]),([18],[18]),([19,17,0,1,2,3,4,5,6,7,8,9,10,11,12,13,14,15,16,17,18,19],[19])])
def gangerref10_Print.B5 : List Nat:=[0,1,3,7,15,0,32,103,255,511,0,1024,3303,8191,16383,0,32768,105703,262143,524287,1048575]
theorem gangerref10_Print.tab5 : rtab .any (opsOf Tryd.f14 5) = gangerref10_Print.T5:=by kernel_rfl
theorem gangerref10_Print.bits5 : waitsOk gangerref10_Print.T5.2 gangerref10_Print.B5 = true:=by kernel_rfl
def gangerref10_Print.T6 : Bool × List (List Nat × List Nat):=(true,[([],[]),([],[]),([1],[1]),([2],[2]),([0,3],[0,3]),([],[]),([5],[5]),([6,3],[6]),([4,7],[4,7]),([],[]),([9],[9]),([10,7],[10]),([8,11],[8,11]),([],[]),([13],[13]),([14,11],[14]),([12,15],[12,15]),([],[]),([17],[17]),([18,15],[18]),([16,19],[16,19]),([20],[20]),([21,19,0,1,2,3,4,5,6,7,8,9,10,11,12,13,14,15,16,17,18,19,20,21],[0,21])])
def gangerref10_Print.B6 : List Nat:=[0,0,2,6,15,0,32,110,255,0,512,1774,4095,0,8192,28398,65535,0,131072,454382,1048575,2097151,4194303]
theorem gangerref10_Print.tab6 : rtab .any (opsOf Tryd.f14 6) = gangerref10_Print.T6:=by kernel_rfl
theorem gangerref10_Print.bits6 : waitsOk gangerref10_Print.T6.2 gangerref10_Print.B6 = true:=by kernel_rfl
def gangerref10_Print.T11 : Bool × List (List Nat × List Nat):=(true,[([],[]),([0],[0]),([],[]),([2],[2]),([1,3],[1,3]),([],[]),([5],[5]),([6],[6]),([4,7],[4,7]),([],[]),([9],[9]),([10,7],[10]),([8,11],[8,11]),([],[]),([13],[13]),([14,11],[14]),([12,15],[12,15]),([16],[16]),([17,15,0,1,2,3,4,5,6,7,8,9,10,11,12,13,14,15,16,17],[0,17])])
def gangerref10_Print.B11 : List Nat:=[0,1,0,4,15,0,32,96,255,0,512,1760,4095,0,8192,28384,65535,131071,262143]
theorem gangerref10_Print.tab11 : rtab .any (opsOf Tryd.f14 11) = gangerref10_Print.T11:=by kernel_rfl
theorem gangerref10_Print.bits11 : waitsOk gangerref10_Print.T11.2 gangerref10_Print.B11 = true:=by kernel_rfl
def gangerref10_Print.T16 : Bool × List (List Nat × List Nat):=(true,[([],[]),([0],[0]),([],[]),([2],[2]),([1,3],[1,3]),([],[]),([5],[5]),([6],[6]),([4,7],[4,7]),([],[]),([9],[9]),([10,7],[10]),([8,11],[8,11]),([12],[12]),([13,11,0,1,2,3,4,5,6,7,8,9,10,11,12,13],[0,13])])
def gangerref10_Print.B16 : List Nat:=[0,1,0,4,15,0,32,96,255,0,512,1760,4095,8191,16383]
theorem gangerref10_Print.tab16 : rtab .any (opsOf Tryd.f14 16) = gangerref10_Print.T16:=by kernel_rfl
theorem gangerref10_Print.bits16 : waitsOk gangerref10_Print.T16.2 gangerref10_Print.B16 = true:=by kernel_rfl
set_option maxHeartbeats 8000000 in
set_option maxRecDepth 100000 in
theorem gangerref10_Print.calls (k : Nat) (a0_0 : Int) (a0_1 : Int) (a0_2 : Int) (a0_3 : Int) (a0_4 : Int) (a0_5 : Int) (a0_6 : Int) (a0_7 : Int) (a0_8 : Int) (A0_9 : Option Addr) (c0_9 : Nat) (l0_9 : List (S50)) (A0_10 : Option Addr) (c0_10 : Nat) (l0_10 : List (S52)) (A0_11 : Option Addr) (c0_11 : Nat) (l0_11 : List (S48)) (r1 : ByteArray) (r2 : Int) (w : World) (hr0_9 : Kd.C k50 w A0_9 l0_9.length l0_9) (hc0_9 : l0_9.length≤c0_9) (hr0_10 : Kd.C k52 w A0_10 l0_10.length l0_10) (hc0_10 : l0_10.length≤c0_10) (hr0_11 : Kd.C k48 w A0_11 l0_11.length l0_11) (hc0_11 : l0_11.length≤c0_11) (h : gangerref10_Print.f k a0_0 a0_1 a0_2 a0_3 a0_4 a0_5 a0_6 a0_7 a0_8 l0_9 l0_10 l0_11 = some (r1,r2)) :
  Calls Tryd.prog 14 #[.agg #[.int .i64 a0_0,.int .i64 a0_1,.int .i64 a0_2,.int .i64 a0_3,.int .i64 a0_4,.int .i64 a0_5,.int .i64 a0_6,.int .i64 a0_7,.int .i64 a0_8,.slice A0_9 l0_9.length c0_9,.slice A0_10 l0_10.length c0_10,.slice A0_11 l0_11.length c0_11]] w fun e w'=>e = .returned (.tuple #[.string r1,.int .i64 r2])∧Below w.heap.size w w':=by
 have hu28:=Tryd.underlying28
 have hu23:=Tryd.underlying23
 have hu50:=Tryd.underlying50
 have hu52:=Tryd.underlying52
 have hu48:=Tryd.underlying48
 have HR0_9:=Am hr0_9
 have HC0_9:=Am hc0_9
 clear hr0_9 hc0_9
 have HR0_10:=Am hr0_10
 have HC0_10:=Am hc0_10
 clear hr0_10 hc0_10
 have HR0_11:=Am hr0_11
 have HC0_11:=Am hc0_11
 clear hr0_11 hc0_11
 have HB:=Am (Below.refl w.heap.size w)
 have H : ((gangerref10_Check.f k a0_0 a0_1 a0_2 a0_3 a0_4 a0_5 a0_6 a0_7 a0_8 l0_9 l0_10 l0_11).bind fun t342=>(if t342 = 0 then ((gangerref10_policy.f a0_0).bind fun t344=>(if 7 + t344.size≤9223372036854775807 then (if ((⟨#[112,111,108,105,99,121,32]⟩ : ByteArray) ++ t344).size + 1≤9223372036854775807 then ((gangerref10_num.f k (⟨#[104,97,108,102]⟩ : ByteArray) a0_1).bind fun t345=>(if (((⟨#[112,111,108,105,99,121,32]⟩ : ByteArray) ++ t344) ++ (⟨#[10]⟩ : ByteArray)).size + t345.size≤9223372036854775807 then (if ((((⟨#[112,111,108,105,99,121,32]⟩ : ByteArray) ++ t344) ++ (⟨#[10]⟩ : ByteArray)) ++ t345).size + 1≤9223372036854775807 then ((gangerref10_num.f k (⟨#[113,117,97,110,116,117,109]⟩ : ByteArray) a0_2).bind fun t346=>(if (((((⟨#[112,111,108,105,99,121,32]⟩ : ByteArray) ++ t344) ++ (⟨#[10]⟩ : ByteArray)) ++ t345) ++ (⟨#[10]⟩ : ByteArray)).size + t346.size≤9223372036854775807 then (if ((((((⟨#[112,111,108,105,99,121,32]⟩ : ByteArray) ++ t344) ++ (⟨#[10]⟩ : ByteArray)) ++ t345) ++ (⟨#[10]⟩ : ByteArray)) ++ t346).size + 1≤9223372036854775807 then ((gangerref10_num.f k (⟨#[114,101,113,117,101,117,101,115]⟩ : ByteArray) a0_3).bind fun t347=>(if (((((((⟨#[112,111,108,105,99,121,32]⟩ : ByteArray) ++ t344) ++ (⟨#[10]⟩ : ByteArray)) ++ t345) ++ (⟨#[10]⟩ : ByteArray)) ++ t346) ++ (⟨#[10]⟩ : ByteArray)).size + t347.size≤9223372036854775807 then (if ((((((((⟨#[112,111,108,105,99,121,32]⟩ : ByteArray) ++ t344) ++ (⟨#[10]⟩ : ByteArray)) ++ t345) ++ (⟨#[10]⟩ : ByteArray)) ++ t346) ++ (⟨#[10]⟩ : ByteArray)) ++ t347).size + 1≤9223372036854775807 then ((gangerref10_num.f k (⟨#[119,101,105,103,104,116,115]⟩ : ByteArray) a0_4).bind fun t348=>(if (((((((((⟨#[112,111,108,105,99,121,32]⟩ : ByteArray) ++ t344) ++ (⟨#[10]⟩ : ByteArray)) ++ t345) ++ (⟨#[10]⟩ : ByteArray)) ++ t346) ++ (⟨#[10]⟩ : ByteArray)) ++ t347) ++ (⟨#[10]⟩ : ByteArray)).size + t348.size≤9223372036854775807 then ((gangerref10_num.f k (⟨#[]⟩ : ByteArray) a0_5).bind fun t349=>(if ((((((((((⟨#[112,111,108,105,99,121,32]⟩ : ByteArray) ++ t344) ++ (⟨#[10]⟩ : ByteArray)) ++ t345) ++ (⟨#[10]⟩ : ByteArray)) ++ t346) ++ (⟨#[10]⟩ : ByteArray)) ++ t347) ++ (⟨#[10]⟩ : ByteArray)) ++ t348).size + t349.size≤9223372036854775807 then ((gangerref10_num.f k (⟨#[]⟩ : ByteArray) a0_6).bind fun t350=>(if (((((((((((⟨#[112,111,108,105,99,121,32]⟩ : ByteArray) ++ t344) ++ (⟨#[10]⟩ : ByteArray)) ++ t345) ++ (⟨#[10]⟩ : ByteArray)) ++ t346) ++ (⟨#[10]⟩ : ByteArray)) ++ t347) ++ (⟨#[10]⟩ : ByteArray)) ++ t348) ++ t349).size + t350.size≤9223372036854775807 then ((gangerref10_num.f k (⟨#[]⟩ : ByteArray) a0_7).bind fun t351=>(if ((((((((((((⟨#[112,111,108,105,99,121,32]⟩ : ByteArray) ++ t344) ++ (⟨#[10]⟩ : ByteArray)) ++ t345) ++ (⟨#[10]⟩ : ByteArray)) ++ t346) ++ (⟨#[10]⟩ : ByteArray)) ++ t347) ++ (⟨#[10]⟩ : ByteArray)) ++ t348) ++ t349) ++ t350).size + t351.size≤9223372036854775807 then ((gangerref10_num.f k (⟨#[]⟩ : ByteArray) a0_8).bind fun t352=>(if (((((((((((((⟨#[112,111,108,105,99,121,32]⟩ : ByteArray) ++ t344) ++ (⟨#[10]⟩ : ByteArray)) ++ t345) ++ (⟨#[10]⟩ : ByteArray)) ++ t346) ++ (⟨#[10]⟩ : ByteArray)) ++ t347) ++ (⟨#[10]⟩ : ByteArray)) ++ t348) ++ t349) ++ t350) ++ t351).size + t352.size≤9223372036854775807 then (if ((((((((((((((⟨#[112,111,108,105,99,121,32]⟩ : ByteArray) ++ t344) ++ (⟨#[10]⟩ : ByteArray)) ++ t345) ++ (⟨#[10]⟩ : ByteArray)) ++ t346) ++ (⟨#[10]⟩ : ByteArray)) ++ t347) ++ (⟨#[10]⟩ : ByteArray)) ++ t348) ++ t349) ++ t350) ++ t351) ++ t352).size + 1≤9223372036854775807 then (gangerref10_Print.l0 k (((((((((((((((⟨#[112,111,108,105,99,121,32]⟩ : ByteArray) ++ t344) ++ (⟨#[10]⟩ : ByteArray)) ++ t345) ++ (⟨#[10]⟩ : ByteArray)) ++ t346) ++ (⟨#[10]⟩ : ByteArray)) ++ t347) ++ (⟨#[10]⟩ : ByteArray)) ++ t348) ++ t349) ++ t350) ++ t351) ++ t352) ++ (⟨#[10]⟩ : ByteArray)) 0 a0_0 a0_1 a0_2 a0_3 a0_4 a0_5 a0_6 a0_7 a0_8 l0_9 l0_10 l0_11) else (none)) else (none))) else (none))) else (none))) else (none))) else (none))) else (none)) else (none))) else (none)) else (none))) else (none)) else (none))) else (none)) else (none))) else (some ((⟨#[]⟩ : ByteArray),t342)))) = some (r1,r2):=h
 clear h
 replace H:=oB H
 obtain ⟨t342,A20,H⟩:=H
 try dsimp only at H
 have A2:=Am A20
 clear A20
 by_cases c3 : t342 = 0
 rotate_left
 ·rw [if_neg c3] at H
  have c3b0 : (t342 == 0) = false:=beq_eq_false_iff_ne.mpr c3
  have c3b1 : (t342 != 0) = true:=bne_iff_ne.mpr c3
  simp only [Option.some.injEq,Prod.mk.injEq] at H
  obtain ⟨rfl,rfl⟩:=H
  go_enter Tryd.func14,Tryd.ntmps14
  go_wp2_with (first|((with_reducible refine gD (N:=1) rfl ?_);refine box_event ?hg (N:=1) ?hd (cs:=#[.int .i64 a0_0,.int .i64 a0_1,.int .i64 a0_2,.int .i64 a0_3,.int .i64 a0_4,.int .i64 a0_5,.int .i64 a0_6,.int .i64 a0_7,.int .i64 a0_8,.slice A0_9 l0_9.length c0_9,.slice A0_10 l0_10.length c0_10,.slice A0_11 l0_11.length c0_11]) (t:=28) ?hr ?_;(case hd=>rfl);(case hg=>rfl);(case hr=>first|(go_simp;done)|(go_simp;rfl));intro gb341 hg w120 hbox hb;have n0_:=Am (below_step (by repeat (first|(with_reducible first|exact HB.out|apply bL|apply pN|apply bE)|exact HB.out)) hb);have n1_:=Am (hbox);have n2_:=Am ((by rw [hg];exact (bZ (by repeat (first|(with_reducible first|exact HB.out|apply bL|apply pN|apply bE)|exact HB.out))) : w.heap.size≤gb341));have n3_:=n2_;clear HB;have HB:=n0_;have BK341:=n1_;have GW341:=n2_;have GE341:=n3_;clear n0_ n1_ n2_ n3_;clear hb hbox hg;obtain ⟨X121_0,X121_1,X121_2,X121_3,X121_4,X121_5,X121_6,X121_7,X121_8,X121_9,X121_10,X121_11,Y121_0,Y121_1,Y121_2,Y121_3,Y121_4,Y121_5,Y121_6,Y121_7,Y121_8,Y121_9,Y121_10,Y121_11⟩:=kc12 (w:=w120) (g:=gb341) BK341.out)|((with_reducible refine gC (f:=15) rfl ?_);refine goesL_ (some 14) rfl rfl Tryd.func15 (by kernel_rfl) rfl #[.agg #[.int .i64 a0_0,.int .i64 a0_1,.int .i64 a0_2,.int .i64 a0_3,.int .i64 a0_4,.int .i64 a0_5,.int .i64 a0_6,.int .i64 a0_7,.int .i64 a0_8,.slice A0_9 l0_9.length c0_9,.slice A0_10 l0_10.length c0_10,.slice A0_11 l0_11.length c0_11]] rfl (by (try simp only [mT,mC,mN]);first|done|rfl|(simp only [lD,lT];rfl)) ?_;(with_reducible refine (gangerref10_Check.calls k a0_0 a0_1 a0_2 a0_3 a0_4 a0_5 a0_6 a0_7 a0_8 _ _ l0_9 _ _ l0_10 _ _ l0_11 t342 _ ?side1 ?side2 ?side3 ?side4 ?side5 ?side6 A2.out).mono ?_);(case side1=>repeat (first|exact (Kd.C_below HR0_9.out HB.out)|(with_reducible refine Kd.C_alloc ?_ _)|(with_reducible refine Kd.C_drewN ?_ _)|(with_reducible refine Kd.C_drew ?_)));(case side2=>exact HC0_9.out);(case side3=>repeat (first|exact (Kd.C_below HR0_10.out HB.out)|(with_reducible refine Kd.C_alloc ?_ _)|(with_reducible refine Kd.C_drewN ?_ _)|(with_reducible refine Kd.C_drew ?_)));(case side4=>exact HC0_10.out);(case side5=>repeat (first|exact (Kd.C_below HR0_11.out HB.out)|(with_reducible refine Kd.C_alloc ?_ _)|(with_reducible refine Kd.C_drewN ?_ _)|(with_reducible refine Kd.C_drew ?_)));(case side6=>exact HC0_11.out);rintro e w122 ⟨rfl,hb⟩;refine ⟨_,rfl,?_⟩;have n0_:=Am (blk_below (g:=gb341) (by (with_reducible repeat (first|refine bN ?_ _|refine bD ?_|refine bA ?_ _));exact BK341.out) hb);have n1_:=Am (below_step (by repeat (first|(with_reducible first|exact HB.out|apply bL|apply pN|apply bE|refine bS ?_ GE341.out)|exact HB.out)) hb);clear BK341;clear HB;have BK341:=n0_;have HB:=n1_;clear n0_ n1_))
  go_ret2
  exact ⟨by first|rfl|(simp [errW_none,errW_some] <;> rfl)|(simp [*,errW_none,errW_some] <;> rfl),by repeat (first|(with_reducible first|exact HB.out|apply bL|apply pN|apply bE|refine bS ?_ GE341.out)|exact HB.out)⟩
 rw [if_pos c3] at H
 have c3b0 : (t342 == 0) = true:=beq_iff_eq.mpr c3
 have c3b1 : (t342 != 0) = false:=bne_eq_false_iff_eq.mpr c3
 clear c3
 replace H:=oB H
 obtain ⟨t344,A40,H⟩:=H
 try dsimp only at H
 have A4:=Am A40
 clear A40
 by_cases c5 : 7 + t344.size≤9223372036854775807
 rotate_left
 ·rw [if_neg c5] at H
  exact absurd H (by simp)
 rw [if_pos c5] at H
 have c5b0:=eq_true c5
 have c5b1 : decide (7 + t344.size≤9223372036854775807) = true:=decide_eq_true c5
 try have c5b2 : (9223372036854775807 < 7 + t344.size) = False:=eq_false (Nat.not_lt.2 c5)
 try (have c5b3:=c5b2;simp only [ByteArray.size_append,size_lit1,size_lit0,Nat.add_zero] at c5b3)
 try (have c5b5:=c5b2;simp only [ByteArray.size_append,size_litA,List.size_toArray,List.length_cons,List.length_nil,Nat.zero_add,Nat.reduceAdd] at c5b5)
 by_cases c6 : ((⟨#[112,111,108,105,99,121,32]⟩ : ByteArray) ++ t344).size + 1≤9223372036854775807
 rotate_left
 ·rw [if_neg c6] at H
  exact absurd H (by simp)
 rw [if_pos c6] at H
 have c6b0:=eq_true c6
 have c6b1 : decide (((⟨#[112,111,108,105,99,121,32]⟩ : ByteArray) ++ t344).size + 1≤9223372036854775807) = true:=decide_eq_true c6
 try have c6b2 : (9223372036854775807 < ((⟨#[112,111,108,105,99,121,32]⟩ : ByteArray) ++ t344).size + 1) = False:=eq_false (Nat.not_lt.2 c6)
 try (have c6b3:=c6b2;simp only [ByteArray.size_append,size_lit1,size_lit0,Nat.add_zero] at c6b3)
 try (have c6b5:=c6b2;simp only [ByteArray.size_append,size_litA,List.size_toArray,List.length_cons,List.length_nil,Nat.zero_add,Nat.reduceAdd] at c6b5)
 replace H:=oB H
 obtain ⟨t345,A70,H⟩:=H
 try dsimp only at H
 have A7:=Am A70
 clear A70
 by_cases c8 : (((⟨#[112,111,108,105,99,121,32]⟩ : ByteArray) ++ t344) ++ (⟨#[10]⟩ : ByteArray)).size + t345.size≤9223372036854775807
 rotate_left
 ·rw [if_neg c8] at H
  exact absurd H (by simp)
 rw [if_pos c8] at H
 have c8b0:=eq_true c8
 have c8b1 : decide ((((⟨#[112,111,108,105,99,121,32]⟩ : ByteArray) ++ t344) ++ (⟨#[10]⟩ : ByteArray)).size + t345.size≤9223372036854775807) = true:=decide_eq_true c8
 try have c8b2 : (9223372036854775807 < (((⟨#[112,111,108,105,99,121,32]⟩ : ByteArray) ++ t344) ++ (⟨#[10]⟩ : ByteArray)).size + t345.size) = False:=eq_false (Nat.not_lt.2 c8)
 try (have c8b3:=c8b2;simp only [ByteArray.size_append,size_lit1,size_lit0,Nat.add_zero] at c8b3)
 try (have c8b5:=c8b2;simp only [ByteArray.size_append,size_litA,List.size_toArray,List.length_cons,List.length_nil,Nat.zero_add,Nat.reduceAdd] at c8b5)
 by_cases c9 : ((((⟨#[112,111,108,105,99,121,32]⟩ : ByteArray) ++ t344) ++ (⟨#[10]⟩ : ByteArray)) ++ t345).size + 1≤9223372036854775807
 rotate_left
 ·rw [if_neg c9] at H
  exact absurd H (by simp)
 rw [if_pos c9] at H
 have c9b0:=eq_true c9
 have c9b1 : decide (((((⟨#[112,111,108,105,99,121,32]⟩ : ByteArray) ++ t344) ++ (⟨#[10]⟩ : ByteArray)) ++ t345).size + 1≤9223372036854775807) = true:=decide_eq_true c9
 try have c9b2 : (9223372036854775807 < ((((⟨#[112,111,108,105,99,121,32]⟩ : ByteArray) ++ t344) ++ (⟨#[10]⟩ : ByteArray)) ++ t345).size + 1) = False:=eq_false (Nat.not_lt.2 c9)
 try (have c9b3:=c9b2;simp only [ByteArray.size_append,size_lit1,size_lit0,Nat.add_zero] at c9b3)
 try (have c9b5:=c9b2;simp only [ByteArray.size_append,size_litA,List.size_toArray,List.length_cons,List.length_nil,Nat.zero_add,Nat.reduceAdd] at c9b5)
 replace H:=oB H
 obtain ⟨t346,A100,H⟩:=H
 try dsimp only at H
 have A10:=Am A100
 clear A100
 by_cases c11 : (((((⟨#[112,111,108,105,99,121,32]⟩ : ByteArray) ++ t344) ++ (⟨#[10]⟩ : ByteArray)) ++ t345) ++ (⟨#[10]⟩ : ByteArray)).size + t346.size≤9223372036854775807
 rotate_left
 ·rw [if_neg c11] at H
  exact absurd H (by simp)
 rw [if_pos c11] at H
 have c11b0:=eq_true c11
 have c11b1 : decide ((((((⟨#[112,111,108,105,99,121,32]⟩ : ByteArray) ++ t344) ++ (⟨#[10]⟩ : ByteArray)) ++ t345) ++ (⟨#[10]⟩ : ByteArray)).size + t346.size≤9223372036854775807) = true:=decide_eq_true c11
 try have c11b2 : (9223372036854775807 < (((((⟨#[112,111,108,105,99,121,32]⟩ : ByteArray) ++ t344) ++ (⟨#[10]⟩ : ByteArray)) ++ t345) ++ (⟨#[10]⟩ : ByteArray)).size + t346.size) = False:=eq_false (Nat.not_lt.2 c11)
 try (have c11b3:=c11b2;simp only [ByteArray.size_append,size_lit1,size_lit0,Nat.add_zero] at c11b3)
 try (have c11b5:=c11b2;simp only [ByteArray.size_append,size_litA,List.size_toArray,List.length_cons,List.length_nil,Nat.zero_add,Nat.reduceAdd] at c11b5)
 by_cases c12 : ((((((⟨#[112,111,108,105,99,121,32]⟩ : ByteArray) ++ t344) ++ (⟨#[10]⟩ : ByteArray)) ++ t345) ++ (⟨#[10]⟩ : ByteArray)) ++ t346).size + 1≤9223372036854775807
 rotate_left
 ·rw [if_neg c12] at H
  exact absurd H (by simp)
 rw [if_pos c12] at H
 have c12b0:=eq_true c12
 have c12b1 : decide (((((((⟨#[112,111,108,105,99,121,32]⟩ : ByteArray) ++ t344) ++ (⟨#[10]⟩ : ByteArray)) ++ t345) ++ (⟨#[10]⟩ : ByteArray)) ++ t346).size + 1≤9223372036854775807) = true:=decide_eq_true c12
 try have c12b2 : (9223372036854775807 < ((((((⟨#[112,111,108,105,99,121,32]⟩ : ByteArray) ++ t344) ++ (⟨#[10]⟩ : ByteArray)) ++ t345) ++ (⟨#[10]⟩ : ByteArray)) ++ t346).size + 1) = False:=eq_false (Nat.not_lt.2 c12)
 try (have c12b3:=c12b2;simp only [ByteArray.size_append,size_lit1,size_lit0,Nat.add_zero] at c12b3)
 try (have c12b5:=c12b2;simp only [ByteArray.size_append,size_litA,List.size_toArray,List.length_cons,List.length_nil,Nat.zero_add,Nat.reduceAdd] at c12b5)
 replace H:=oB H
 obtain ⟨t347,A130,H⟩:=H
 try dsimp only at H
 have A13:=Am A130
 clear A130
 by_cases c14 : (((((((⟨#[112,111,108,105,99,121,32]⟩ : ByteArray) ++ t344) ++ (⟨#[10]⟩ : ByteArray)) ++ t345) ++ (⟨#[10]⟩ : ByteArray)) ++ t346) ++ (⟨#[10]⟩ : ByteArray)).size + t347.size≤9223372036854775807
 rotate_left
 ·rw [if_neg c14] at H
  exact absurd H (by simp)
 rw [if_pos c14] at H
 have c14b0:=eq_true c14
 have c14b1 : decide ((((((((⟨#[112,111,108,105,99,121,32]⟩ : ByteArray) ++ t344) ++ (⟨#[10]⟩ : ByteArray)) ++ t345) ++ (⟨#[10]⟩ : ByteArray)) ++ t346) ++ (⟨#[10]⟩ : ByteArray)).size + t347.size≤9223372036854775807) = true:=decide_eq_true c14
 try have c14b2 : (9223372036854775807 < (((((((⟨#[112,111,108,105,99,121,32]⟩ : ByteArray) ++ t344) ++ (⟨#[10]⟩ : ByteArray)) ++ t345) ++ (⟨#[10]⟩ : ByteArray)) ++ t346) ++ (⟨#[10]⟩ : ByteArray)).size + t347.size) = False:=eq_false (Nat.not_lt.2 c14)
 try (have c14b3:=c14b2;simp only [ByteArray.size_append,size_lit1,size_lit0,Nat.add_zero] at c14b3)
 try (have c14b5:=c14b2;simp only [ByteArray.size_append,size_litA,List.size_toArray,List.length_cons,List.length_nil,Nat.zero_add,Nat.reduceAdd] at c14b5)
 by_cases c15 : ((((((((⟨#[112,111,108,105,99,121,32]⟩ : ByteArray) ++ t344) ++ (⟨#[10]⟩ : ByteArray)) ++ t345) ++ (⟨#[10]⟩ : ByteArray)) ++ t346) ++ (⟨#[10]⟩ : ByteArray)) ++ t347).size + 1≤9223372036854775807
 rotate_left
 ·rw [if_neg c15] at H
  exact absurd H (by simp)
 rw [if_pos c15] at H
 have c15b0:=eq_true c15
 have c15b1 : decide (((((((((⟨#[112,111,108,105,99,121,32]⟩ : ByteArray) ++ t344) ++ (⟨#[10]⟩ : ByteArray)) ++ t345) ++ (⟨#[10]⟩ : ByteArray)) ++ t346) ++ (⟨#[10]⟩ : ByteArray)) ++ t347).size + 1≤9223372036854775807) = true:=decide_eq_true c15
 try have c15b2 : (9223372036854775807 < ((((((((⟨#[112,111,108,105,99,121,32]⟩ : ByteArray) ++ t344) ++ (⟨#[10]⟩ : ByteArray)) ++ t345) ++ (⟨#[10]⟩ : ByteArray)) ++ t346) ++ (⟨#[10]⟩ : ByteArray)) ++ t347).size + 1) = False:=eq_false (Nat.not_lt.2 c15)
 try (have c15b3:=c15b2;simp only [ByteArray.size_append,size_lit1,size_lit0,Nat.add_zero] at c15b3)
 try (have c15b5:=c15b2;simp only [ByteArray.size_append,size_litA,List.size_toArray,List.length_cons,List.length_nil,Nat.zero_add,Nat.reduceAdd] at c15b5)
 replace H:=oB H
 obtain ⟨t348,A160,H⟩:=H
 try dsimp only at H
 have A16:=Am A160
 clear A160
 by_cases c17 : (((((((((⟨#[112,111,108,105,99,121,32]⟩ : ByteArray) ++ t344) ++ (⟨#[10]⟩ : ByteArray)) ++ t345) ++ (⟨#[10]⟩ : ByteArray)) ++ t346) ++ (⟨#[10]⟩ : ByteArray)) ++ t347) ++ (⟨#[10]⟩ : ByteArray)).size + t348.size≤9223372036854775807
 rotate_left
 ·rw [if_neg c17] at H
  exact absurd H (by simp)
 rw [if_pos c17] at H
 have c17b0:=eq_true c17
 have c17b1 : decide ((((((((((⟨#[112,111,108,105,99,121,32]⟩ : ByteArray) ++ t344) ++ (⟨#[10]⟩ : ByteArray)) ++ t345) ++ (⟨#[10]⟩ : ByteArray)) ++ t346) ++ (⟨#[10]⟩ : ByteArray)) ++ t347) ++ (⟨#[10]⟩ : ByteArray)).size + t348.size≤9223372036854775807) = true:=decide_eq_true c17
 try have c17b2 : (9223372036854775807 < (((((((((⟨#[112,111,108,105,99,121,32]⟩ : ByteArray) ++ t344) ++ (⟨#[10]⟩ : ByteArray)) ++ t345) ++ (⟨#[10]⟩ : ByteArray)) ++ t346) ++ (⟨#[10]⟩ : ByteArray)) ++ t347) ++ (⟨#[10]⟩ : ByteArray)).size + t348.size) = False:=eq_false (Nat.not_lt.2 c17)
 try (have c17b3:=c17b2;simp only [ByteArray.size_append,size_lit1,size_lit0,Nat.add_zero] at c17b3)
 try (have c17b5:=c17b2;simp only [ByteArray.size_append,size_litA,List.size_toArray,List.length_cons,List.length_nil,Nat.zero_add,Nat.reduceAdd] at c17b5)
 replace H:=oB H
 obtain ⟨t349,A180,H⟩:=H
 try dsimp only at H
 have A18:=Am A180
 clear A180
 by_cases c19 : ((((((((((⟨#[112,111,108,105,99,121,32]⟩ : ByteArray) ++ t344) ++ (⟨#[10]⟩ : ByteArray)) ++ t345) ++ (⟨#[10]⟩ : ByteArray)) ++ t346) ++ (⟨#[10]⟩ : ByteArray)) ++ t347) ++ (⟨#[10]⟩ : ByteArray)) ++ t348).size + t349.size≤9223372036854775807
 rotate_left
 ·rw [if_neg c19] at H
  exact absurd H (by simp)
 rw [if_pos c19] at H
 have c19b0:=eq_true c19
 have c19b1 : decide (((((((((((⟨#[112,111,108,105,99,121,32]⟩ : ByteArray) ++ t344) ++ (⟨#[10]⟩ : ByteArray)) ++ t345) ++ (⟨#[10]⟩ : ByteArray)) ++ t346) ++ (⟨#[10]⟩ : ByteArray)) ++ t347) ++ (⟨#[10]⟩ : ByteArray)) ++ t348).size + t349.size≤9223372036854775807) = true:=decide_eq_true c19
 try have c19b2 : (9223372036854775807 < ((((((((((⟨#[112,111,108,105,99,121,32]⟩ : ByteArray) ++ t344) ++ (⟨#[10]⟩ : ByteArray)) ++ t345) ++ (⟨#[10]⟩ : ByteArray)) ++ t346) ++ (⟨#[10]⟩ : ByteArray)) ++ t347) ++ (⟨#[10]⟩ : ByteArray)) ++ t348).size + t349.size) = False:=eq_false (Nat.not_lt.2 c19)
 try (have c19b3:=c19b2;simp only [ByteArray.size_append,size_lit1,size_lit0,Nat.add_zero] at c19b3)
 try (have c19b5:=c19b2;simp only [ByteArray.size_append,size_litA,List.size_toArray,List.length_cons,List.length_nil,Nat.zero_add,Nat.reduceAdd] at c19b5)
 replace H:=oB H
 obtain ⟨t350,A200,H⟩:=H
 try dsimp only at H
 have A20:=Am A200
 clear A200
 by_cases c21 : (((((((((((⟨#[112,111,108,105,99,121,32]⟩ : ByteArray) ++ t344) ++ (⟨#[10]⟩ : ByteArray)) ++ t345) ++ (⟨#[10]⟩ : ByteArray)) ++ t346) ++ (⟨#[10]⟩ : ByteArray)) ++ t347) ++ (⟨#[10]⟩ : ByteArray)) ++ t348) ++ t349).size + t350.size≤9223372036854775807
 rotate_left
 ·rw [if_neg c21] at H
  exact absurd H (by simp)
 rw [if_pos c21] at H
 have c21b0:=eq_true c21
 have c21b1 : decide ((((((((((((⟨#[112,111,108,105,99,121,32]⟩ : ByteArray) ++ t344) ++ (⟨#[10]⟩ : ByteArray)) ++ t345) ++ (⟨#[10]⟩ : ByteArray)) ++ t346) ++ (⟨#[10]⟩ : ByteArray)) ++ t347) ++ (⟨#[10]⟩ : ByteArray)) ++ t348) ++ t349).size + t350.size≤9223372036854775807) = true:=decide_eq_true c21
 try have c21b2 : (9223372036854775807 < (((((((((((⟨#[112,111,108,105,99,121,32]⟩ : ByteArray) ++ t344) ++ (⟨#[10]⟩ : ByteArray)) ++ t345) ++ (⟨#[10]⟩ : ByteArray)) ++ t346) ++ (⟨#[10]⟩ : ByteArray)) ++ t347) ++ (⟨#[10]⟩ : ByteArray)) ++ t348) ++ t349).size + t350.size) = False:=eq_false (Nat.not_lt.2 c21)
 try (have c21b3:=c21b2;simp only [ByteArray.size_append,size_lit1,size_lit0,Nat.add_zero] at c21b3)
 try (have c21b5:=c21b2;simp only [ByteArray.size_append,size_litA,List.size_toArray,List.length_cons,List.length_nil,Nat.zero_add,Nat.reduceAdd] at c21b5)
 replace H:=oB H
 obtain ⟨t351,A220,H⟩:=H
 try dsimp only at H
 have A22:=Am A220
 clear A220
 by_cases c23 : ((((((((((((⟨#[112,111,108,105,99,121,32]⟩ : ByteArray) ++ t344) ++ (⟨#[10]⟩ : ByteArray)) ++ t345) ++ (⟨#[10]⟩ : ByteArray)) ++ t346) ++ (⟨#[10]⟩ : ByteArray)) ++ t347) ++ (⟨#[10]⟩ : ByteArray)) ++ t348) ++ t349) ++ t350).size + t351.size≤9223372036854775807
 rotate_left
 ·rw [if_neg c23] at H
  exact absurd H (by simp)
 rw [if_pos c23] at H
 have c23b0:=eq_true c23
 have c23b1 : decide (((((((((((((⟨#[112,111,108,105,99,121,32]⟩ : ByteArray) ++ t344) ++ (⟨#[10]⟩ : ByteArray)) ++ t345) ++ (⟨#[10]⟩ : ByteArray)) ++ t346) ++ (⟨#[10]⟩ : ByteArray)) ++ t347) ++ (⟨#[10]⟩ : ByteArray)) ++ t348) ++ t349) ++ t350).size + t351.size≤9223372036854775807) = true:=decide_eq_true c23
 try have c23b2 : (9223372036854775807 < ((((((((((((⟨#[112,111,108,105,99,121,32]⟩ : ByteArray) ++ t344) ++ (⟨#[10]⟩ : ByteArray)) ++ t345) ++ (⟨#[10]⟩ : ByteArray)) ++ t346) ++ (⟨#[10]⟩ : ByteArray)) ++ t347) ++ (⟨#[10]⟩ : ByteArray)) ++ t348) ++ t349) ++ t350).size + t351.size) = False:=eq_false (Nat.not_lt.2 c23)
 try (have c23b3:=c23b2;simp only [ByteArray.size_append,size_lit1,size_lit0,Nat.add_zero] at c23b3)
 try (have c23b5:=c23b2;simp only [ByteArray.size_append,size_litA,List.size_toArray,List.length_cons,List.length_nil,Nat.zero_add,Nat.reduceAdd] at c23b5)
 replace H:=oB H
 obtain ⟨t352,A240,H⟩:=H
 try dsimp only at H
 have A24:=Am A240
 clear A240
 by_cases c25 : (((((((((((((⟨#[112,111,108,105,99,121,32]⟩ : ByteArray) ++ t344) ++ (⟨#[10]⟩ : ByteArray)) ++ t345) ++ (⟨#[10]⟩ : ByteArray)) ++ t346) ++ (⟨#[10]⟩ : ByteArray)) ++ t347) ++ (⟨#[10]⟩ : ByteArray)) ++ t348) ++ t349) ++ t350) ++ t351).size + t352.size≤9223372036854775807
 rotate_left
 ·rw [if_neg c25] at H
  exact absurd H (by simp)
 rw [if_pos c25] at H
 have c25b0:=eq_true c25
 have c25b1 : decide ((((((((((((((⟨#[112,111,108,105,99,121,32]⟩ : ByteArray) ++ t344) ++ (⟨#[10]⟩ : ByteArray)) ++ t345) ++ (⟨#[10]⟩ : ByteArray)) ++ t346) ++ (⟨#[10]⟩ : ByteArray)) ++ t347) ++ (⟨#[10]⟩ : ByteArray)) ++ t348) ++ t349) ++ t350) ++ t351).size + t352.size≤9223372036854775807) = true:=decide_eq_true c25
 try have c25b2 : (9223372036854775807 < (((((((((((((⟨#[112,111,108,105,99,121,32]⟩ : ByteArray) ++ t344) ++ (⟨#[10]⟩ : ByteArray)) ++ t345) ++ (⟨#[10]⟩ : ByteArray)) ++ t346) ++ (⟨#[10]⟩ : ByteArray)) ++ t347) ++ (⟨#[10]⟩ : ByteArray)) ++ t348) ++ t349) ++ t350) ++ t351).size + t352.size) = False:=eq_false (Nat.not_lt.2 c25)
 try (have c25b3:=c25b2;simp only [ByteArray.size_append,size_lit1,size_lit0,Nat.add_zero] at c25b3)
 try (have c25b5:=c25b2;simp only [ByteArray.size_append,size_litA,List.size_toArray,List.length_cons,List.length_nil,Nat.zero_add,Nat.reduceAdd] at c25b5)
 by_cases c26 : ((((((((((((((⟨#[112,111,108,105,99,121,32]⟩ : ByteArray) ++ t344) ++ (⟨#[10]⟩ : ByteArray)) ++ t345) ++ (⟨#[10]⟩ : ByteArray)) ++ t346) ++ (⟨#[10]⟩ : ByteArray)) ++ t347) ++ (⟨#[10]⟩ : ByteArray)) ++ t348) ++ t349) ++ t350) ++ t351) ++ t352).size + 1≤9223372036854775807
 rotate_left
 ·rw [if_neg c26] at H
  exact absurd H (by simp)
 rw [if_pos c26] at H
 have c26b0:=eq_true c26
 have c26b1 : decide (((((((((((((((⟨#[112,111,108,105,99,121,32]⟩ : ByteArray) ++ t344) ++ (⟨#[10]⟩ : ByteArray)) ++ t345) ++ (⟨#[10]⟩ : ByteArray)) ++ t346) ++ (⟨#[10]⟩ : ByteArray)) ++ t347) ++ (⟨#[10]⟩ : ByteArray)) ++ t348) ++ t349) ++ t350) ++ t351) ++ t352).size + 1≤9223372036854775807) = true:=decide_eq_true c26
 try have c26b2 : (9223372036854775807 < ((((((((((((((⟨#[112,111,108,105,99,121,32]⟩ : ByteArray) ++ t344) ++ (⟨#[10]⟩ : ByteArray)) ++ t345) ++ (⟨#[10]⟩ : ByteArray)) ++ t346) ++ (⟨#[10]⟩ : ByteArray)) ++ t347) ++ (⟨#[10]⟩ : ByteArray)) ++ t348) ++ t349) ++ t350) ++ t351) ++ t352).size + 1) = False:=eq_false (Nat.not_lt.2 c26)
 try (have c26b3:=c26b2;simp only [ByteArray.size_append,size_lit1,size_lit0,Nat.add_zero] at c26b3)
 try (have c26b5:=c26b2;simp only [ByteArray.size_append,size_litA,List.size_toArray,List.length_cons,List.length_nil,Nat.zero_add,Nat.reduceAdd] at c26b5)
 have H':=Am H
 clear H
 go_enter Tryd.func14,Tryd.ntmps14
 try go_wp2_with (first|((with_reducible refine gD (N:=1) rfl ?_);refine box_event ?hg (N:=1) ?hd (cs:=#[.int .i64 a0_0,.int .i64 a0_1,.int .i64 a0_2,.int .i64 a0_3,.int .i64 a0_4,.int .i64 a0_5,.int .i64 a0_6,.int .i64 a0_7,.int .i64 a0_8,.slice A0_9 l0_9.length c0_9,.slice A0_10 l0_10.length c0_10,.slice A0_11 l0_11.length c0_11]) (t:=28) ?hr ?_;(case hd=>rfl);(case hg=>rfl);(case hr=>first|(go_simp;done)|(go_simp;rfl));intro gb341 hg w27 hbox hb;have n0_:=Am (below_step (by repeat (first|(with_reducible first|exact HB.out|apply bL|apply pN|apply bE)|exact HB.out)) hb);have n1_:=Am (hbox);have n2_:=Am ((by rw [hg];exact (bZ (by repeat (first|(with_reducible first|exact HB.out|apply bL|apply pN|apply bE)|exact HB.out))) : w.heap.size≤gb341));have n3_:=n2_;clear HB;have HB:=n0_;have BK341:=n1_;have GW341:=n2_;have GE341:=n3_;clear n0_ n1_ n2_ n3_;clear hb hbox hg;obtain ⟨X28_0,X28_1,X28_2,X28_3,X28_4,X28_5,X28_6,X28_7,X28_8,X28_9,X28_10,X28_11,Y28_0,Y28_1,Y28_2,Y28_3,Y28_4,Y28_5,Y28_6,Y28_7,Y28_8,Y28_9,Y28_10,Y28_11⟩:=kc12 (w:=w27) (g:=gb341) BK341.out)|((with_reducible refine gC (f:=15) rfl ?_);refine goesL_ (some 14) rfl rfl Tryd.func15 (by kernel_rfl) rfl #[.agg #[.int .i64 a0_0,.int .i64 a0_1,.int .i64 a0_2,.int .i64 a0_3,.int .i64 a0_4,.int .i64 a0_5,.int .i64 a0_6,.int .i64 a0_7,.int .i64 a0_8,.slice A0_9 l0_9.length c0_9,.slice A0_10 l0_10.length c0_10,.slice A0_11 l0_11.length c0_11]] rfl (by (try simp only [mT,mC,mN]);first|done|rfl|(simp only [lD,lT];rfl)) ?_;(with_reducible refine (gangerref10_Check.calls k a0_0 a0_1 a0_2 a0_3 a0_4 a0_5 a0_6 a0_7 a0_8 _ _ l0_9 _ _ l0_10 _ _ l0_11 t342 _ ?side1 ?side2 ?side3 ?side4 ?side5 ?side6 A2.out).mono ?_);(case side1=>repeat (first|exact (Kd.C_below HR0_9.out HB.out)|(with_reducible refine Kd.C_alloc ?_ _)|(with_reducible refine Kd.C_drewN ?_ _)|(with_reducible refine Kd.C_drew ?_)));(case side2=>exact HC0_9.out);(case side3=>repeat (first|exact (Kd.C_below HR0_10.out HB.out)|(with_reducible refine Kd.C_alloc ?_ _)|(with_reducible refine Kd.C_drewN ?_ _)|(with_reducible refine Kd.C_drew ?_)));(case side4=>exact HC0_10.out);(case side5=>repeat (first|exact (Kd.C_below HR0_11.out HB.out)|(with_reducible refine Kd.C_alloc ?_ _)|(with_reducible refine Kd.C_drewN ?_ _)|(with_reducible refine Kd.C_drew ?_)));(case side6=>exact HC0_11.out);rintro e w29 ⟨rfl,hb⟩;refine ⟨_,rfl,?_⟩;have n0_:=Am (blk_below (g:=gb341) (by (with_reducible repeat (first|refine bN ?_ _|refine bD ?_|refine bA ?_ _));exact BK341.out) hb);have n1_:=Am (below_step (by repeat (first|(with_reducible first|exact HB.out|apply bL|apply pN|apply bE|refine bS ?_ GE341.out)|exact HB.out)) hb);clear BK341;clear HB;have BK341:=n0_;have HB:=n1_;clear n0_ n1_;obtain ⟨X30_0,X30_1,X30_2,X30_3,X30_4,X30_5,X30_6,X30_7,X30_8,X30_9,X30_10,X30_11,Y30_0,Y30_1,Y30_2,Y30_3,Y30_4,Y30_5,Y30_6,Y30_7,Y30_8,Y30_9,Y30_10,Y30_11⟩:=kc12 (w:=w29) (g:=gb341) BK341.out)|((with_reducible refine gD (N:=5) rfl ?_);refine box_event ?hg (N:=5) ?hd (cs:=#[.int .i64 0,.int .i64 0,.int .i64 0,.int .i64 0,.int .i64 0]) (t:=23) ?hr ?_;(case hd=>rfl);(case hg=>rfl);(case hr=>first|(go_simp;done)|(go_simp;rfl));intro gb343 hg w31 hbox hb;have n0_:=Am (blk_below (g:=gb341) (by (with_reducible repeat (first|refine bN ?_ _|refine bD ?_|refine bA ?_ _));exact BK341.out) hb);have n1_:=Am (below_step (by repeat (first|(with_reducible first|exact HB.out|apply bL|apply pN|apply bE|refine bS ?_ GE341.out)|exact HB.out)) hb);have n2_:=Am (hbox);have n3_:=Am ((by rw [hg];exact (bZ (by repeat (first|(with_reducible first|exact HB.out|apply bL|apply pN|apply bE|refine bS ?_ GE341.out)|exact HB.out))) : w.heap.size≤gb343));have n4_:=n3_;have n5_:=Am ((by rw [hg];exact Nat.ne_of_lt (blk_lt (g:=gb341) (by (with_reducible repeat (first|refine bN ?_ _|refine bD ?_|refine bA ?_ _));exact BK341.out)) : gb341 ≠ gb343));have n6_:=Am ((by rw [hg];exact Nat.ne_of_gt (blk_lt (g:=gb341) (by (with_reducible repeat (first|refine bN ?_ _|refine bD ?_|refine bA ?_ _));exact BK341.out)) : gb343 ≠ gb341));clear BK341;clear HB;have BK341:=n0_;have HB:=n1_;have BK343:=n2_;have GW343:=n3_;have GE343:=n4_;have NB341_343:=n5_;have NB343_341:=n6_;clear n0_ n1_ n2_ n3_ n4_ n5_ n6_;clear hb hbox hg;have hnb32:=NB343_341.out;have hnc32:=NB341_343.out;obtain ⟨X33_0,X33_1,X33_2,X33_3,X33_4,Y33_0,Y33_1,Y33_2,Y33_3,Y33_4⟩:=kc5 (w:=w31) (g:=gb343) BK343.out))
 have n0_ : Aside0 ((((((w31.setCell ⟨gb343,0,none⟩ (.int .i64 a0_4)).setCell ⟨gb343,1,none⟩ (.int .i64 a0_5)).setCell ⟨gb343,2,none⟩ (.int .i64 a0_6)).setCell ⟨gb343,3,none⟩ (.int .i64 a0_7)).setCell ⟨gb343,4,none⟩ (.int .i64 a0_8)).heap[gb341]? = some (.cells #[.int .i64 a0_0,.int .i64 a0_1,.int .i64 a0_2,.int .i64 a0_3,.int .i64 a0_4,.int .i64 a0_5,.int .i64 a0_6,.int .i64 a0_7,.int .i64 a0_8,.slice A0_9 l0_9.length c0_9,.slice A0_10 l0_10.length c0_10,.slice A0_11 l0_11.length c0_11] 28 (0,0))):=⟨by (with_reducible repeat (first|refine bN ?_ _|refine bD ?_|refine bA ?_ _));refine blk_far ?_ NB341_343.out _;(with_reducible repeat (first|refine bN ?_ _|refine bD ?_|refine bA ?_ _));refine blk_far ?_ NB341_343.out _;(with_reducible repeat (first|refine bN ?_ _|refine bD ?_|refine bA ?_ _));refine blk_far ?_ NB341_343.out _;(with_reducible repeat (first|refine bN ?_ _|refine bD ?_|refine bA ?_ _));refine blk_far ?_ NB341_343.out _;(with_reducible repeat (first|refine bN ?_ _|refine bD ?_|refine bA ?_ _));refine blk_far ?_ NB341_343.out _;(with_reducible repeat (first|refine bN ?_ _|refine bD ?_|refine bA ?_ _));exact BK341.out⟩
 have n1_ : Aside0 ((((((w31.setCell ⟨gb343,0,none⟩ (.int .i64 a0_4)).setCell ⟨gb343,1,none⟩ (.int .i64 a0_5)).setCell ⟨gb343,2,none⟩ (.int .i64 a0_6)).setCell ⟨gb343,3,none⟩ (.int .i64 a0_7)).setCell ⟨gb343,4,none⟩ (.int .i64 a0_8)).heap[gb343]? = some (.cells #[.int .i64 a0_4,.int .i64 a0_5,.int .i64 a0_6,.int .i64 a0_7,.int .i64 a0_8] 23 (0,0))):=⟨by (with_reducible repeat (first|refine bN ?_ _|refine bD ?_|refine bA ?_ _));refine blk_put (cs:=#[.int .i64 a0_4,.int .i64 a0_5,.int .i64 a0_6,.int .i64 a0_7,.int .i64 0]) ?_ 4 _ rfl;(with_reducible repeat (first|refine bN ?_ _|refine bD ?_|refine bA ?_ _));refine blk_put (cs:=#[.int .i64 a0_4,.int .i64 a0_5,.int .i64 a0_6,.int .i64 0,.int .i64 0]) ?_ 3 _ rfl;(with_reducible repeat (first|refine bN ?_ _|refine bD ?_|refine bA ?_ _));refine blk_put (cs:=#[.int .i64 a0_4,.int .i64 a0_5,.int .i64 0,.int .i64 0,.int .i64 0]) ?_ 2 _ rfl;(with_reducible repeat (first|refine bN ?_ _|refine bD ?_|refine bA ?_ _));refine blk_put (cs:=#[.int .i64 a0_4,.int .i64 0,.int .i64 0,.int .i64 0,.int .i64 0]) ?_ 1 _ rfl;(with_reducible repeat (first|refine bN ?_ _|refine bD ?_|refine bA ?_ _));refine blk_put (cs:=#[.int .i64 0,.int .i64 0,.int .i64 0,.int .i64 0,.int .i64 0]) ?_ 0 _ rfl;(with_reducible repeat (first|refine bN ?_ _|refine bD ?_|refine bA ?_ _));exact BK343.out⟩
 have n2_ : Aside0 (Below w.heap.size w (((((w31.setCell ⟨gb343,0,none⟩ (.int .i64 a0_4)).setCell ⟨gb343,1,none⟩ (.int .i64 a0_5)).setCell ⟨gb343,2,none⟩ (.int .i64 a0_6)).setCell ⟨gb343,3,none⟩ (.int .i64 a0_7)).setCell ⟨gb343,4,none⟩ (.int .i64 a0_8))):=⟨by repeat (first|(with_reducible first|exact HB.out|apply bL|apply pN|apply bE|refine bS ?_ GE341.out|refine bS ?_ GE343.out)|exact HB.out)⟩
 generalize (((((w31.setCell ⟨gb343,0,none⟩ (.int .i64 a0_4)).setCell ⟨gb343,1,none⟩ (.int .i64 a0_5)).setCell ⟨gb343,2,none⟩ (.int .i64 a0_6)).setCell ⟨gb343,3,none⟩ (.int .i64 a0_7)).setCell ⟨gb343,4,none⟩ (.int .i64 a0_8)) = w34 at n0_ n1_ n2_ ⊢
 have BK341:=n0_
 have BK343:=n1_
 have HB:=n2_
 clear n0_ n1_ n2_
 have n0_:=Am (bD BK341.out)
 have n1_:=Am (bD BK343.out)
 have n2_:=Am (bE HB.out)
 clear BK341
 clear BK343
 clear HB
 have BK341:=n0_
 have BK343:=n1_
 have HB:=n2_
 clear n0_ n1_ n2_
 refine start_ (n:=21) (S:=fun w'=>w'.cell? ⟨gb341,0,none⟩ = some (.int .i64 a0_0)∧w'.cell? ⟨gb341,1,none⟩ = some (.int .i64 a0_1)∧w'.cell? ⟨gb341,2,none⟩ = some (.int .i64 a0_2)∧w'.cell? ⟨gb341,3,none⟩ = some (.int .i64 a0_3)∧w'.cell? ⟨gb341,4,none⟩ = some (.int .i64 a0_4)∧w'.cell? ⟨gb341,5,none⟩ = some (.int .i64 a0_5)∧w'.cell? ⟨gb341,6,none⟩ = some (.int .i64 a0_6)∧w'.cell? ⟨gb341,7,none⟩ = some (.int .i64 a0_7)∧w'.cell? ⟨gb341,8,none⟩ = some (.int .i64 a0_8)∧w'.cell? ⟨gb341,9,none⟩ = some (.slice A0_9 l0_9.length c0_9)∧w'.cell? ⟨gb341,10,none⟩ = some (.slice A0_10 l0_10.length c0_10)∧w'.cell? ⟨gb341,11,none⟩ = some (.slice A0_11 l0_11.length c0_11)) (ds:=[]) #[O,O,O,O,O,O,O,O,O,O,O,O,O,O,O,O,O,O,O,O,O] (by kernel_rfl) rfl rfl ⟨(bC BK341.out 0).trans rfl,(bC BK341.out 1).trans rfl,(bC BK341.out 2).trans rfl,(bC BK341.out 3).trans rfl,(bC BK341.out 4).trans rfl,(bC BK341.out 5).trans rfl,(bC BK341.out 6).trans rfl,(bC BK341.out 7).trans rfl,(bC BK341.out 8).trans rfl,(bC BK341.out 9).trans rfl,(bC BK341.out 10).trans rfl,(bC BK341.out 11).trans rfl⟩ (fun hHeld=>?_);refine with_tabW gangerref10_Print.tab5 gangerref10_Print.bits5 (fun HT_ HW_=>?_)
 generalize w34.drew = w35 at BK341 BK343 HB hHeld ⊢
 refine pure_ (i:=0) (N:=some 20) (v:=?_) (a':=?_) #[J,O,O,O,O,O,O,O,O,O,O,O,O,O,O,O,O,O,O,O,O] rfl rfl (any_of HT_.out (by kernel_rfl)) (fun _ _ _ h=>h) (Or.inl ⟨by rfl,?_⟩) ?_ ?_
 rotate_left
 ·intro w'
  go_simp
  with_reducible rfl
 rotate_left
 ·simp only [Act.put,sT,sZ,sS,iW,iV]
  rfl
 refine pure_ (i:=5) (N:=some 25) (v:=?_) (a':=?_) #[J,O,O,O,O,J,O,O,O,O,O,O,O,O,O,O,O,O,O,O,O] rfl rfl (any_of HT_.out (by kernel_rfl)) (fun _ _ _ h=>h) (Or.inl ⟨by rfl,?_⟩) ?_ ?_
 rotate_left
 ·intro w'
  go_simp
  with_reducible rfl
 rotate_left
 ·simp only [Act.put,sT,sZ,sS,iW,iV]
  rfl
 refine pure_ (i:=10) (N:=some 30) (v:=?_) (a':=?_) #[J,O,O,O,O,J,O,O,O,O,J,O,O,O,O,O,O,O,O,O,O] rfl rfl (any_of HT_.out (by kernel_rfl)) (fun _ _ _ h=>h) (Or.inl ⟨by rfl,?_⟩) ?_ ?_
 rotate_left
 ·intro w'
  go_simp
  with_reducible rfl
 rotate_left
 ·simp only [Act.put,sT,sZ,sS,iW,iV]
  rfl
 refine pure_ (i:=15) (N:=some 35) (v:=?_) (a':=?_) #[J,O,O,O,O,J,O,O,O,O,J,O,O,O,O,J,O,O,O,O,O] rfl rfl (any_of HT_.out (by kernel_rfl)) (fun _ _ _ h=>h) (Or.inl ⟨by rfl,?_⟩) ?_ ?_
 rotate_left
 ·intro w'
  go_simp
  with_reducible rfl
 rotate_left
 ·simp only [Act.put,sT,sZ,sS,iW,iV]
  rfl
 refine take_ (i:=1) (N:=some 21) (v:=?_) (a':=?_) #[J,J,O,O,O,J,O,O,O,O,J,O,O,O,O,J,O,O,O,O,O] rfl rfl (take_ofW HT_.out HW_.out (by kernel_rfl)) (fun _ _ _ h=>h) (Or.inl ⟨by rfl,?_⟩) hHeld ?_ ?_
 rotate_left
 ·rintro w' ⟨s0,s1,s2,s3,s4,s5,s6,s7,s8,s9,s10,s11⟩
  go_simp
  with_reducible rfl
 rotate_left
 ·simp only [Act.put,sT,sZ,sS,iW,iV]
  rfl
 refine take_ (i:=6) (N:=some 26) (v:=?_) (a':=?_) #[J,J,O,O,O,J,J,O,O,O,J,O,O,O,O,J,O,O,O,O,O] rfl rfl (take_ofW HT_.out HW_.out (by kernel_rfl)) (fun _ _ _ h=>h) (Or.inl ⟨by rfl,?_⟩) hHeld ?_ ?_
 rotate_left
 ·rintro w' ⟨s0,s1,s2,s3,s4,s5,s6,s7,s8,s9,s10,s11⟩
  go_simp
  with_reducible rfl
 rotate_left
 ·simp only [Act.put,sT,sZ,sS,iW,iV]
  rfl
 refine take_ (i:=11) (N:=some 31) (v:=?_) (a':=?_) #[J,J,O,O,O,J,J,O,O,O,J,J,O,O,O,J,O,O,O,O,O] rfl rfl (take_ofW HT_.out HW_.out (by kernel_rfl)) (fun _ _ _ h=>h) (Or.inl ⟨by rfl,?_⟩) hHeld ?_ ?_
 rotate_left
 ·rintro w' ⟨s0,s1,s2,s3,s4,s5,s6,s7,s8,s9,s10,s11⟩
  go_simp
  with_reducible rfl
 rotate_left
 ·simp only [Act.put,sT,sZ,sS,iW,iV]
  rfl
 refine take_ (i:=16) (N:=some 36) (v:=?_) (a':=?_) #[J,J,O,O,O,J,J,O,O,O,J,J,O,O,O,J,J,O,O,O,O] rfl rfl (take_ofW HT_.out HW_.out (by kernel_rfl)) (fun _ _ _ h=>h) (Or.inl ⟨by rfl,?_⟩) hHeld ?_ ?_
 rotate_left
 ·rintro w' ⟨s0,s1,s2,s3,s4,s5,s6,s7,s8,s9,s10,s11⟩
  go_simp
  with_reducible rfl
 rotate_left
 ·simp only [Act.put,sT,sZ,sS,iW,iV]
  rfl
 refine one_ (i:=2) (N:=some 22) #[J,J,J,O,O,J,J,O,O,O,J,J,O,O,O,J,J,O,O,O,O] rfl rfl (one_of HT_.out (by kernel_rfl)) (by decide) (fun K hK=>?_)
 refine goes_ Tryd.func31 (by kernel_rfl) rfl #[.int .i64 a0_0] (by rfl) rfl rfl (by (try simp only [mT,mC,mN]);first|done|rfl|(simp only [lD,lT];rfl)) ?_
 with_reducible refine (gangerref10_policy.calls a0_0 t344 _ A4.out).mono ?_
 rintro e w36 ⟨rfl,hb⟩
 refine ⟨_,rfl,?_⟩
 have n0_:=Am (blk_below (g:=gb341) (by (with_reducible repeat (first|refine bN ?_ _|refine bD ?_|refine bA ?_ _));exact BK341.out) hb)
 have n1_:=Am (blk_below (g:=gb343) (by (with_reducible repeat (first|refine bN ?_ _|refine bD ?_|refine bA ?_ _));exact BK343.out) hb)
 have n2_:=Am (below_step (by repeat (first|(with_reducible first|exact HB.out|apply bL|apply pN|apply bE|refine bS ?_ GE341.out|refine bS ?_ GE343.out)|exact HB.out)) hb)
 clear BK341
 clear BK343
 clear HB
 have BK341:=n0_
 have BK343:=n1_
 have HB:=n2_
 clear n0_ n1_ n2_
 refine hK.out _ _ ⟨(bC BK341.out 0).trans rfl,(bC BK341.out 1).trans rfl,(bC BK341.out 2).trans rfl,(bC BK341.out 3).trans rfl,(bC BK341.out 4).trans rfl,(bC BK341.out 5).trans rfl,(bC BK341.out 6).trans rfl,(bC BK341.out 7).trans rfl,(bC BK341.out 8).trans rfl,(bC BK341.out 9).trans rfl,(bC BK341.out 10).trans rfl,(bC BK341.out 11).trans rfl⟩ (fun hHeld=>?_)
 clear hK K
 refine norm_ (a':=?_) ?_ ?_
 rotate_left
 ·show Act.put _ (some 22) _ = _
  simp only [Act.put,sT,sZ,sS,iW,iV]
  rfl
 refine pure_ (i:=3) (N:=some 23) (v:=?_) (a':=?_) #[J,J,J,J,O,J,J,O,O,O,J,J,O,O,O,J,J,O,O,O,O] rfl rfl (any_of HT_.out (by kernel_rfl)) (fun _ _ _ h=>h) (Or.inl ⟨by rfl,?_⟩) ?_ ?_
 rotate_left
 ·intro w'
  go_simp
  with_reducible rfl
 rotate_left
 ·simp only [Act.put,sT,sZ,sS,iW,iV]
  rfl
 refine pure_ (i:=4) (N:=some 24) (v:=?_) (a':=?_) #[J,J,J,J,J,J,J,O,O,O,J,J,O,O,O,J,J,O,O,O,O] rfl rfl (any_of HT_.out (by kernel_rfl)) (fun _ _ _ h=>h) (Or.inl ⟨by rfl,?_⟩) ?_ ?_
 rotate_left
 ·intro w'
  go_simp
  with_reducible rfl
 rotate_left
 ·simp only [Act.put,sT,sZ,sS,iW,iV]
  rfl
 refine one_ (i:=7) (N:=some 27) #[J,J,J,J,J,J,J,J,O,O,J,J,O,O,O,J,J,O,O,O,O] rfl rfl (one_of HT_.out (by kernel_rfl)) (by decide) (fun K hK=>?_)
 refine goes_ Tryd.func32 (by kernel_rfl) rfl #[.string (⟨#[104,97,108,102]⟩ : ByteArray),.int .i64 a0_1] (by rfl) rfl rfl (by (try simp only [mT,mC,mN]);first|done|rfl|(simp only [lD,lT];rfl)) ?_
 with_reducible refine (gangerref10_num.calls k (⟨#[104,97,108,102]⟩ : ByteArray) a0_1 t345 _ A7.out).mono ?_
 rintro e w37 ⟨rfl,hb⟩
 refine ⟨_,rfl,?_⟩
 have n0_:=Am (blk_below (g:=gb341) (by (with_reducible repeat (first|refine bN ?_ _|refine bD ?_|refine bA ?_ _));exact BK341.out) hb)
 have n1_:=Am (blk_below (g:=gb343) (by (with_reducible repeat (first|refine bN ?_ _|refine bD ?_|refine bA ?_ _));exact BK343.out) hb)
 have n2_:=Am (below_step (by repeat (first|(with_reducible first|exact HB.out|apply bL|apply pN|apply bE|refine bS ?_ GE341.out|refine bS ?_ GE343.out)|exact HB.out)) hb)
 clear BK341
 clear BK343
 clear HB
 have BK341:=n0_
 have BK343:=n1_
 have HB:=n2_
 clear n0_ n1_ n2_
 refine hK.out _ _ ⟨(bC BK341.out 0).trans rfl,(bC BK341.out 1).trans rfl,(bC BK341.out 2).trans rfl,(bC BK341.out 3).trans rfl,(bC BK341.out 4).trans rfl,(bC BK341.out 5).trans rfl,(bC BK341.out 6).trans rfl,(bC BK341.out 7).trans rfl,(bC BK341.out 8).trans rfl,(bC BK341.out 9).trans rfl,(bC BK341.out 10).trans rfl,(bC BK341.out 11).trans rfl⟩ (fun hHeld=>?_)
 clear hK K
 refine norm_ (a':=?_) ?_ ?_
 rotate_left
 ·show Act.put _ (some 27) _ = _
  simp only [Act.put,sT,sZ,sS,iW,iV]
  rfl
 refine pure_ (i:=8) (N:=some 28) (v:=?_) (a':=?_) #[J,J,J,J,J,J,J,J,J,O,J,J,O,O,O,J,J,O,O,O,O] rfl rfl (any_of HT_.out (by kernel_rfl)) (fun _ _ _ h=>h) (Or.inl ⟨by rfl,?_⟩) ?_ ?_
 rotate_left
 ·intro w'
  go_simp
  with_reducible rfl
 rotate_left
 ·simp only [Act.put,sT,sZ,sS,iW,iV]
  rfl
 refine pure_ (i:=9) (N:=some 29) (v:=?_) (a':=?_) #[J,J,J,J,J,J,J,J,J,J,J,J,O,O,O,J,J,O,O,O,O] rfl rfl (any_of HT_.out (by kernel_rfl)) (fun _ _ _ h=>h) (Or.inl ⟨by rfl,?_⟩) ?_ ?_
 rotate_left
 ·intro w'
  go_simp
  with_reducible rfl
 rotate_left
 ·simp only [Act.put,sT,sZ,sS,iW,iV]
  rfl
 refine one_ (i:=12) (N:=some 32) #[J,J,J,J,J,J,J,J,J,J,J,J,J,O,O,J,J,O,O,O,O] rfl rfl (one_of HT_.out (by kernel_rfl)) (by decide) (fun K hK=>?_)
 refine goes_ Tryd.func32 (by kernel_rfl) rfl #[.string (⟨#[113,117,97,110,116,117,109]⟩ : ByteArray),.int .i64 a0_2] (by rfl) rfl rfl (by (try simp only [mT,mC,mN]);first|done|rfl|(simp only [lD,lT];rfl)) ?_
 with_reducible refine (gangerref10_num.calls k (⟨#[113,117,97,110,116,117,109]⟩ : ByteArray) a0_2 t346 _ A10.out).mono ?_
 rintro e w38 ⟨rfl,hb⟩
 refine ⟨_,rfl,?_⟩
 have n0_:=Am (blk_below (g:=gb341) (by (with_reducible repeat (first|refine bN ?_ _|refine bD ?_|refine bA ?_ _));exact BK341.out) hb)
 have n1_:=Am (blk_below (g:=gb343) (by (with_reducible repeat (first|refine bN ?_ _|refine bD ?_|refine bA ?_ _));exact BK343.out) hb)
 have n2_:=Am (below_step (by repeat (first|(with_reducible first|exact HB.out|apply bL|apply pN|apply bE|refine bS ?_ GE341.out|refine bS ?_ GE343.out)|exact HB.out)) hb)
 clear BK341
 clear BK343
 clear HB
 have BK341:=n0_
 have BK343:=n1_
 have HB:=n2_
 clear n0_ n1_ n2_
 refine hK.out _ _ ⟨(bC BK341.out 0).trans rfl,(bC BK341.out 1).trans rfl,(bC BK341.out 2).trans rfl,(bC BK341.out 3).trans rfl,(bC BK341.out 4).trans rfl,(bC BK341.out 5).trans rfl,(bC BK341.out 6).trans rfl,(bC BK341.out 7).trans rfl,(bC BK341.out 8).trans rfl,(bC BK341.out 9).trans rfl,(bC BK341.out 10).trans rfl,(bC BK341.out 11).trans rfl⟩ (fun hHeld=>?_)
 clear hK K
 refine norm_ (a':=?_) ?_ ?_
 rotate_left
 ·show Act.put _ (some 32) _ = _
  simp only [Act.put,sT,sZ,sS,iW,iV]
  rfl
 refine pure_ (i:=13) (N:=some 33) (v:=?_) (a':=?_) #[J,J,J,J,J,J,J,J,J,J,J,J,J,J,O,J,J,O,O,O,O] rfl rfl (any_of HT_.out (by kernel_rfl)) (fun _ _ _ h=>h) (Or.inl ⟨by rfl,?_⟩) ?_ ?_
 rotate_left
 ·intro w'
  go_simp
  with_reducible rfl
 rotate_left
 ·simp only [Act.put,sT,sZ,sS,iW,iV]
  rfl
 refine pure_ (i:=14) (N:=some 34) (v:=?_) (a':=?_) #[J,J,J,J,J,J,J,J,J,J,J,J,J,J,J,J,J,O,O,O,O] rfl rfl (any_of HT_.out (by kernel_rfl)) (fun _ _ _ h=>h) (Or.inl ⟨by rfl,?_⟩) ?_ ?_
 rotate_left
 ·intro w'
  go_simp
  with_reducible rfl
 rotate_left
 ·simp only [Act.put,sT,sZ,sS,iW,iV]
  rfl
 refine one_ (i:=17) (N:=some 37) #[J,J,J,J,J,J,J,J,J,J,J,J,J,J,J,J,J,J,O,O,O] rfl rfl (one_of HT_.out (by kernel_rfl)) (by decide) (fun K hK=>?_)
 refine goes_ Tryd.func32 (by kernel_rfl) rfl #[.string (⟨#[114,101,113,117,101,117,101,115]⟩ : ByteArray),.int .i64 a0_3] (by rfl) rfl rfl (by (try simp only [mT,mC,mN]);first|done|rfl|(simp only [lD,lT];rfl)) ?_
 with_reducible refine (gangerref10_num.calls k (⟨#[114,101,113,117,101,117,101,115]⟩ : ByteArray) a0_3 t347 _ A13.out).mono ?_
 rintro e w39 ⟨rfl,hb⟩
 refine ⟨_,rfl,?_⟩
 have n0_:=Am (blk_below (g:=gb341) (by (with_reducible repeat (first|refine bN ?_ _|refine bD ?_|refine bA ?_ _));exact BK341.out) hb)
 have n1_:=Am (blk_below (g:=gb343) (by (with_reducible repeat (first|refine bN ?_ _|refine bD ?_|refine bA ?_ _));exact BK343.out) hb)
 have n2_:=Am (below_step (by repeat (first|(with_reducible first|exact HB.out|apply bL|apply pN|apply bE|refine bS ?_ GE341.out|refine bS ?_ GE343.out)|exact HB.out)) hb)
 clear BK341
 clear BK343
 clear HB
 have BK341:=n0_
 have BK343:=n1_
 have HB:=n2_
 clear n0_ n1_ n2_
 refine hK.out _ _ ⟨(bC BK341.out 0).trans rfl,(bC BK341.out 1).trans rfl,(bC BK341.out 2).trans rfl,(bC BK341.out 3).trans rfl,(bC BK341.out 4).trans rfl,(bC BK341.out 5).trans rfl,(bC BK341.out 6).trans rfl,(bC BK341.out 7).trans rfl,(bC BK341.out 8).trans rfl,(bC BK341.out 9).trans rfl,(bC BK341.out 10).trans rfl,(bC BK341.out 11).trans rfl⟩ (fun hHeld=>?_)
 clear hK K
 refine norm_ (a':=?_) ?_ ?_
 rotate_left
 ·show Act.put _ (some 37) _ = _
  simp only [Act.put,sT,sZ,sS,iW,iV]
  rfl
 refine pure_ (i:=18) (N:=some 38) (v:=?_) (a':=?_) #[J,J,J,J,J,J,J,J,J,J,J,J,J,J,J,J,J,J,J,O,O] rfl rfl (any_of HT_.out (by kernel_rfl)) (fun _ _ _ h=>h) (Or.inl ⟨by rfl,?_⟩) ?_ ?_
 rotate_left
 ·intro w'
  go_simp
  with_reducible rfl
 rotate_left
 ·simp only [Act.put,sT,sZ,sS,iW,iV]
  rfl
 refine pure_ (i:=19) (N:=some 39) (v:=?_) (a':=?_) #[J,J,J,J,J,J,J,J,J,J,J,J,J,J,J,J,J,J,J,J,O] rfl rfl (any_of HT_.out (by kernel_rfl)) (fun _ _ _ h=>h) (Or.inl ⟨by rfl,?_⟩) ?_ ?_
 rotate_left
 ·intro w'
  go_simp
  with_reducible rfl
 rotate_left
 ·simp only [Act.put,sT,sZ,sS,iW,iV]
  rfl
 refine pure_ (i:=20) (N:=some 6) (v:=?_) (a':=?_) #[J,J,J,J,J,J,J,J,J,J,J,J,J,J,J,J,J,J,J,J,J] rfl rfl (any_of HT_.out (by kernel_rfl)) (fun _ _ _ h=>h) (Or.inl ⟨by rfl,?_⟩) ?_ ?_
 rotate_left
 ·intro w'
  go_simp
  with_reducible rfl
 rotate_left
 ·simp only [Act.put,sT,sZ,sS,iW,iV]
  rfl
 refine done_ (done_of HT_.out (by kernel_rfl)) ?_
 try go_wp2
 have n0_:=Am (bD BK341.out)
 have n1_:=Am (bD BK343.out)
 have n2_:=Am (bE HB.out)
 clear BK341
 clear BK343
 clear HB
 have BK341:=n0_
 have BK343:=n1_
 have HB:=n2_
 clear n0_ n1_ n2_
 refine start_ (n:=23) (S:=fun w'=>w'.cell? ⟨gb343,0,none⟩ = some (.int .i64 a0_4)∧w'.cell? ⟨gb343,1,none⟩ = some (.int .i64 a0_5)∧w'.cell? ⟨gb343,2,none⟩ = some (.int .i64 a0_6)∧w'.cell? ⟨gb343,3,none⟩ = some (.int .i64 a0_7)∧w'.cell? ⟨gb343,4,none⟩ = some (.int .i64 a0_8)) (ds:=[]) #[O,O,O,O,O,O,O,O,O,O,O,O,O,O,O,O,O,O,O,O,O,O,O] (by kernel_rfl) rfl rfl ⟨(bC BK343.out 0).trans rfl,(bC BK343.out 1).trans rfl,(bC BK343.out 2).trans rfl,(bC BK343.out 3).trans rfl,(bC BK343.out 4).trans rfl⟩ (fun hHeld=>?_);refine with_tabW gangerref10_Print.tab6 gangerref10_Print.bits6 (fun HT_ HW_=>?_)
 generalize w39.drew = w40 at BK341 BK343 HB hHeld ⊢
 refine pure_ (i:=0) (N:=some 40) (v:=?_) (a':=?_) #[J,O,O,O,O,O,O,O,O,O,O,O,O,O,O,O,O,O,O,O,O,O,O] rfl rfl (any_of HT_.out (by kernel_rfl)) (fun _ _ _ h=>h) (Or.inl ⟨by rfl,?_⟩) ?_ ?_
 rotate_left
 ·intro w'
  go_simp
  with_reducible rfl
 rotate_left
 ·simp only [Act.put,sT,sZ,sS,iW,iV]
  rfl
 refine pure_ (i:=1) (N:=some 41) (v:=?_) (a':=?_) #[J,J,O,O,O,O,O,O,O,O,O,O,O,O,O,O,O,O,O,O,O,O,O] rfl rfl (any_of HT_.out (by kernel_rfl)) (fun _ _ _ h=>h) (Or.inl ⟨by rfl,?_⟩) ?_ ?_
 rotate_left
 ·intro w'
  go_simp
  with_reducible rfl
 rotate_left
 ·simp only [Act.put,sT,sZ,sS,iW,iV]
  rfl
 refine pure_ (i:=5) (N:=some 45) (v:=?_) (a':=?_) #[J,J,O,O,O,J,O,O,O,O,O,O,O,O,O,O,O,O,O,O,O,O,O] rfl rfl (any_of HT_.out (by kernel_rfl)) (fun _ _ _ h=>h) (Or.inl ⟨by rfl,?_⟩) ?_ ?_
 rotate_left
 ·intro w'
  go_simp
  with_reducible rfl
 rotate_left
 ·simp only [Act.put,sT,sZ,sS,iW,iV]
  rfl
 refine pure_ (i:=9) (N:=some 49) (v:=?_) (a':=?_) #[J,J,O,O,O,J,O,O,O,J,O,O,O,O,O,O,O,O,O,O,O,O,O] rfl rfl (any_of HT_.out (by kernel_rfl)) (fun _ _ _ h=>h) (Or.inl ⟨by rfl,?_⟩) ?_ ?_
 rotate_left
 ·intro w'
  go_simp
  with_reducible rfl
 rotate_left
 ·simp only [Act.put,sT,sZ,sS,iW,iV]
  rfl
 refine pure_ (i:=13) (N:=some 53) (v:=?_) (a':=?_) #[J,J,O,O,O,J,O,O,O,J,O,O,O,J,O,O,O,O,O,O,O,O,O] rfl rfl (any_of HT_.out (by kernel_rfl)) (fun _ _ _ h=>h) (Or.inl ⟨by rfl,?_⟩) ?_ ?_
 rotate_left
 ·intro w'
  go_simp
  with_reducible rfl
 rotate_left
 ·simp only [Act.put,sT,sZ,sS,iW,iV]
  rfl
 refine pure_ (i:=17) (N:=some 57) (v:=?_) (a':=?_) #[J,J,O,O,O,J,O,O,O,J,O,O,O,J,O,O,O,J,O,O,O,O,O] rfl rfl (any_of HT_.out (by kernel_rfl)) (fun _ _ _ h=>h) (Or.inl ⟨by rfl,?_⟩) ?_ ?_
 rotate_left
 ·intro w'
  go_simp
  with_reducible rfl
 rotate_left
 ·simp only [Act.put,sT,sZ,sS,iW,iV]
  rfl
 refine take_ (i:=2) (N:=some 42) (v:=?_) (a':=?_) #[J,J,J,O,O,J,O,O,O,J,O,O,O,J,O,O,O,J,O,O,O,O,O] rfl rfl (take_ofW HT_.out HW_.out (by kernel_rfl)) (fun _ _ _ h=>h) (Or.inl ⟨by rfl,?_⟩) hHeld ?_ ?_
 rotate_left
 ·rintro w' ⟨s0,s1,s2,s3,s4⟩
  go_simp
  with_reducible rfl
 rotate_left
 ·simp only [Act.put,sT,sZ,sS,iW,iV]
  rfl
 refine take_ (i:=6) (N:=some 46) (v:=?_) (a':=?_) #[J,J,J,O,O,J,J,O,O,J,O,O,O,J,O,O,O,J,O,O,O,O,O] rfl rfl (take_ofW HT_.out HW_.out (by kernel_rfl)) (fun _ _ _ h=>h) (Or.inl ⟨by rfl,?_⟩) hHeld ?_ ?_
 rotate_left
 ·rintro w' ⟨s0,s1,s2,s3,s4⟩
  go_simp
  with_reducible rfl
 rotate_left
 ·simp only [Act.put,sT,sZ,sS,iW,iV]
  rfl
 refine take_ (i:=10) (N:=some 50) (v:=?_) (a':=?_) #[J,J,J,O,O,J,J,O,O,J,J,O,O,J,O,O,O,J,O,O,O,O,O] rfl rfl (take_ofW HT_.out HW_.out (by kernel_rfl)) (fun _ _ _ h=>h) (Or.inl ⟨by rfl,?_⟩) hHeld ?_ ?_
 rotate_left
 ·rintro w' ⟨s0,s1,s2,s3,s4⟩
  go_simp
  with_reducible rfl
 rotate_left
 ·simp only [Act.put,sT,sZ,sS,iW,iV]
  rfl
 refine take_ (i:=14) (N:=some 54) (v:=?_) (a':=?_) #[J,J,J,O,O,J,J,O,O,J,J,O,O,J,J,O,O,J,O,O,O,O,O] rfl rfl (take_ofW HT_.out HW_.out (by kernel_rfl)) (fun _ _ _ h=>h) (Or.inl ⟨by rfl,?_⟩) hHeld ?_ ?_
 rotate_left
 ·rintro w' ⟨s0,s1,s2,s3,s4⟩
  go_simp
  with_reducible rfl
 rotate_left
 ·simp only [Act.put,sT,sZ,sS,iW,iV]
  rfl
 refine take_ (i:=18) (N:=some 58) (v:=?_) (a':=?_) #[J,J,J,O,O,J,J,O,O,J,J,O,O,J,J,O,O,J,J,O,O,O,O] rfl rfl (take_ofW HT_.out HW_.out (by kernel_rfl)) (fun _ _ _ h=>h) (Or.inl ⟨by rfl,?_⟩) hHeld ?_ ?_
 rotate_left
 ·rintro w' ⟨s0,s1,s2,s3,s4⟩
  go_simp
  with_reducible rfl
 rotate_left
 ·simp only [Act.put,sT,sZ,sS,iW,iV]
  rfl
 refine one_ (i:=3) (N:=some 43) #[J,J,J,J,O,J,J,O,O,J,J,O,O,J,J,O,O,J,J,O,O,O,O] rfl rfl (one_of HT_.out (by kernel_rfl)) (by decide) (fun K hK=>?_)
 refine goes_ Tryd.func32 (by kernel_rfl) rfl #[.string (⟨#[119,101,105,103,104,116,115]⟩ : ByteArray),.int .i64 a0_4] (by rfl) rfl rfl (by (try simp only [mT,mC,mN]);first|done|rfl|(simp only [lD,lT];rfl)) ?_
 with_reducible refine (gangerref10_num.calls k (⟨#[119,101,105,103,104,116,115]⟩ : ByteArray) a0_4 t348 _ A16.out).mono ?_
 rintro e w41 ⟨rfl,hb⟩
 refine ⟨_,rfl,?_⟩
 have n0_:=Am (blk_below (g:=gb341) (by (with_reducible repeat (first|refine bN ?_ _|refine bD ?_|refine bA ?_ _));exact BK341.out) hb)
 have n1_:=Am (blk_below (g:=gb343) (by (with_reducible repeat (first|refine bN ?_ _|refine bD ?_|refine bA ?_ _));exact BK343.out) hb)
 have n2_:=Am (below_step (by repeat (first|(with_reducible first|exact HB.out|apply bL|apply pN|apply bE|refine bS ?_ GE341.out|refine bS ?_ GE343.out)|exact HB.out)) hb)
 clear BK341
 clear BK343
 clear HB
 have BK341:=n0_
 have BK343:=n1_
 have HB:=n2_
 clear n0_ n1_ n2_
 refine hK.out _ _ ⟨(bC BK343.out 0).trans rfl,(bC BK343.out 1).trans rfl,(bC BK343.out 2).trans rfl,(bC BK343.out 3).trans rfl,(bC BK343.out 4).trans rfl⟩ (fun hHeld=>?_)
 clear hK K
 refine norm_ (a':=?_) ?_ ?_
 rotate_left
 ·show Act.put _ (some 43) _ = _
  simp only [Act.put,sT,sZ,sS,iW,iV]
  rfl
 refine pure_ (i:=4) (N:=some 44) (v:=?_) (a':=?_) #[J,J,J,J,J,J,J,O,O,J,J,O,O,J,J,O,O,J,J,O,O,O,O] rfl rfl (any_of HT_.out (by kernel_rfl)) (fun _ _ _ h=>h) (Or.inl ⟨by rfl,?_⟩) ?_ ?_
 rotate_left
 ·intro w'
  go_simp
  with_reducible rfl
 rotate_left
 ·simp only [Act.put,sT,sZ,sS,iW,iV]
  rfl
 refine one_ (i:=7) (N:=some 47) #[J,J,J,J,J,J,J,J,O,J,J,O,O,J,J,O,O,J,J,O,O,O,O] rfl rfl (one_of HT_.out (by kernel_rfl)) (by decide) (fun K hK=>?_)
 refine goes_ Tryd.func32 (by kernel_rfl) rfl #[.string (⟨#[]⟩ : ByteArray),.int .i64 a0_5] (by rfl) rfl rfl (by (try simp only [mT,mC,mN]);first|done|rfl|(simp only [lD,lT];rfl)) ?_
 with_reducible refine (gangerref10_num.calls k (⟨#[]⟩ : ByteArray) a0_5 t349 _ A18.out).mono ?_
 rintro e w42 ⟨rfl,hb⟩
 refine ⟨_,rfl,?_⟩
 have n0_:=Am (blk_below (g:=gb341) (by (with_reducible repeat (first|refine bN ?_ _|refine bD ?_|refine bA ?_ _));exact BK341.out) hb)
 have n1_:=Am (blk_below (g:=gb343) (by (with_reducible repeat (first|refine bN ?_ _|refine bD ?_|refine bA ?_ _));exact BK343.out) hb)
 have n2_:=Am (below_step (by repeat (first|(with_reducible first|exact HB.out|apply bL|apply pN|apply bE|refine bS ?_ GE341.out|refine bS ?_ GE343.out)|exact HB.out)) hb)
 clear BK341
 clear BK343
 clear HB
 have BK341:=n0_
 have BK343:=n1_
 have HB:=n2_
 clear n0_ n1_ n2_
 refine hK.out _ _ ⟨(bC BK343.out 0).trans rfl,(bC BK343.out 1).trans rfl,(bC BK343.out 2).trans rfl,(bC BK343.out 3).trans rfl,(bC BK343.out 4).trans rfl⟩ (fun hHeld=>?_)
 clear hK K
 refine norm_ (a':=?_) ?_ ?_
 rotate_left
 ·show Act.put _ (some 47) _ = _
  simp only [Act.put,sT,sZ,sS,iW,iV]
  rfl
 refine pure_ (i:=8) (N:=some 48) (v:=?_) (a':=?_) #[J,J,J,J,J,J,J,J,J,J,J,O,O,J,J,O,O,J,J,O,O,O,O] rfl rfl (any_of HT_.out (by kernel_rfl)) (fun _ _ _ h=>h) (Or.inl ⟨by rfl,?_⟩) ?_ ?_
 rotate_left
 ·intro w'
  go_simp
  with_reducible rfl
 rotate_left
 ·simp only [Act.put,sT,sZ,sS,iW,iV]
  rfl
 refine one_ (i:=11) (N:=some 51) #[J,J,J,J,J,J,J,J,J,J,J,J,O,J,J,O,O,J,J,O,O,O,O] rfl rfl (one_of HT_.out (by kernel_rfl)) (by decide) (fun K hK=>?_)
 refine goes_ Tryd.func32 (by kernel_rfl) rfl #[.string (⟨#[]⟩ : ByteArray),.int .i64 a0_6] (by rfl) rfl rfl (by (try simp only [mT,mC,mN]);first|done|rfl|(simp only [lD,lT];rfl)) ?_
 with_reducible refine (gangerref10_num.calls k (⟨#[]⟩ : ByteArray) a0_6 t350 _ A20.out).mono ?_
 rintro e w43 ⟨rfl,hb⟩
 refine ⟨_,rfl,?_⟩
 have n0_:=Am (blk_below (g:=gb341) (by (with_reducible repeat (first|refine bN ?_ _|refine bD ?_|refine bA ?_ _));exact BK341.out) hb)
 have n1_:=Am (blk_below (g:=gb343) (by (with_reducible repeat (first|refine bN ?_ _|refine bD ?_|refine bA ?_ _));exact BK343.out) hb)
 have n2_:=Am (below_step (by repeat (first|(with_reducible first|exact HB.out|apply bL|apply pN|apply bE|refine bS ?_ GE341.out|refine bS ?_ GE343.out)|exact HB.out)) hb)
 clear BK341
 clear BK343
 clear HB
 have BK341:=n0_
 have BK343:=n1_
 have HB:=n2_
 clear n0_ n1_ n2_
 refine hK.out _ _ ⟨(bC BK343.out 0).trans rfl,(bC BK343.out 1).trans rfl,(bC BK343.out 2).trans rfl,(bC BK343.out 3).trans rfl,(bC BK343.out 4).trans rfl⟩ (fun hHeld=>?_)
 clear hK K
 refine norm_ (a':=?_) ?_ ?_
 rotate_left
 ·show Act.put _ (some 51) _ = _
  simp only [Act.put,sT,sZ,sS,iW,iV]
  rfl
 refine pure_ (i:=12) (N:=some 52) (v:=?_) (a':=?_) #[J,J,J,J,J,J,J,J,J,J,J,J,J,J,J,O,O,J,J,O,O,O,O] rfl rfl (any_of HT_.out (by kernel_rfl)) (fun _ _ _ h=>h) (Or.inl ⟨by rfl,?_⟩) ?_ ?_
 rotate_left
 ·intro w'
  go_simp
  with_reducible rfl
 rotate_left
 ·simp only [Act.put,sT,sZ,sS,iW,iV]
  rfl
 refine one_ (i:=15) (N:=some 55) #[J,J,J,J,J,J,J,J,J,J,J,J,J,J,J,J,O,J,J,O,O,O,O] rfl rfl (one_of HT_.out (by kernel_rfl)) (by decide) (fun K hK=>?_)
 refine goes_ Tryd.func32 (by kernel_rfl) rfl #[.string (⟨#[]⟩ : ByteArray),.int .i64 a0_7] (by rfl) rfl rfl (by (try simp only [mT,mC,mN]);first|done|rfl|(simp only [lD,lT];rfl)) ?_
 with_reducible refine (gangerref10_num.calls k (⟨#[]⟩ : ByteArray) a0_7 t351 _ A22.out).mono ?_
 rintro e w44 ⟨rfl,hb⟩
 refine ⟨_,rfl,?_⟩
 have n0_:=Am (blk_below (g:=gb341) (by (with_reducible repeat (first|refine bN ?_ _|refine bD ?_|refine bA ?_ _));exact BK341.out) hb)
 have n1_:=Am (blk_below (g:=gb343) (by (with_reducible repeat (first|refine bN ?_ _|refine bD ?_|refine bA ?_ _));exact BK343.out) hb)
 have n2_:=Am (below_step (by repeat (first|(with_reducible first|exact HB.out|apply bL|apply pN|apply bE|refine bS ?_ GE341.out|refine bS ?_ GE343.out)|exact HB.out)) hb)
 clear BK341
 clear BK343
 clear HB
 have BK341:=n0_
 have BK343:=n1_
 have HB:=n2_
 clear n0_ n1_ n2_
 refine hK.out _ _ ⟨(bC BK343.out 0).trans rfl,(bC BK343.out 1).trans rfl,(bC BK343.out 2).trans rfl,(bC BK343.out 3).trans rfl,(bC BK343.out 4).trans rfl⟩ (fun hHeld=>?_)
 clear hK K
 refine norm_ (a':=?_) ?_ ?_
 rotate_left
 ·show Act.put _ (some 55) _ = _
  simp only [Act.put,sT,sZ,sS,iW,iV]
  rfl
 refine pure_ (i:=16) (N:=some 56) (v:=?_) (a':=?_) #[J,J,J,J,J,J,J,J,J,J,J,J,J,J,J,J,J,J,J,O,O,O,O] rfl rfl (any_of HT_.out (by kernel_rfl)) (fun _ _ _ h=>h) (Or.inl ⟨by rfl,?_⟩) ?_ ?_
 rotate_left
 ·intro w'
  go_simp
  with_reducible rfl
 rotate_left
 ·simp only [Act.put,sT,sZ,sS,iW,iV]
  rfl
 refine one_ (i:=19) (N:=some 59) #[J,J,J,J,J,J,J,J,J,J,J,J,J,J,J,J,J,J,J,J,O,O,O] rfl rfl (one_of HT_.out (by kernel_rfl)) (by decide) (fun K hK=>?_)
 refine goes_ Tryd.func32 (by kernel_rfl) rfl #[.string (⟨#[]⟩ : ByteArray),.int .i64 a0_8] (by rfl) rfl rfl (by (try simp only [mT,mC,mN]);first|done|rfl|(simp only [lD,lT];rfl)) ?_
 with_reducible refine (gangerref10_num.calls k (⟨#[]⟩ : ByteArray) a0_8 t352 _ A24.out).mono ?_
 rintro e w45 ⟨rfl,hb⟩
 refine ⟨_,rfl,?_⟩
 have n0_:=Am (blk_below (g:=gb341) (by (with_reducible repeat (first|refine bN ?_ _|refine bD ?_|refine bA ?_ _));exact BK341.out) hb)
 have n1_:=Am (blk_below (g:=gb343) (by (with_reducible repeat (first|refine bN ?_ _|refine bD ?_|refine bA ?_ _));exact BK343.out) hb)
 have n2_:=Am (below_step (by repeat (first|(with_reducible first|exact HB.out|apply bL|apply pN|apply bE|refine bS ?_ GE341.out|refine bS ?_ GE343.out)|exact HB.out)) hb)
 clear BK341
 clear BK343
 clear HB
 have BK341:=n0_
 have BK343:=n1_
 have HB:=n2_
 clear n0_ n1_ n2_
 refine hK.out _ _ ⟨(bC BK343.out 0).trans rfl,(bC BK343.out 1).trans rfl,(bC BK343.out 2).trans rfl,(bC BK343.out 3).trans rfl,(bC BK343.out 4).trans rfl⟩ (fun hHeld=>?_)
 clear hK K
 refine norm_ (a':=?_) ?_ ?_
 rotate_left
 ·show Act.put _ (some 59) _ = _
  simp only [Act.put,sT,sZ,sS,iW,iV]
  rfl
 refine pure_ (i:=20) (N:=some 60) (v:=?_) (a':=?_) #[J,J,J,J,J,J,J,J,J,J,J,J,J,J,J,J,J,J,J,J,J,O,O] rfl rfl (any_of HT_.out (by kernel_rfl)) (fun _ _ _ h=>h) (Or.inl ⟨by rfl,?_⟩) ?_ ?_
 rotate_left
 ·intro w'
  go_simp
  with_reducible rfl
 rotate_left
 ·simp only [Act.put,sT,sZ,sS,iW,iV]
  rfl
 refine pure_ (i:=21) (N:=some 61) (v:=?_) (a':=?_) #[J,J,J,J,J,J,J,J,J,J,J,J,J,J,J,J,J,J,J,J,J,J,O] rfl rfl (any_of HT_.out (by kernel_rfl)) (fun _ _ _ h=>h) (Or.inl ⟨by rfl,?_⟩) ?_ ?_
 rotate_left
 ·intro w'
  go_simp
  with_reducible rfl
 rotate_left
 ·simp only [Act.put,sT,sZ,sS,iW,iV]
  rfl
 refine pure_ (i:=22) (N:=some 6) (v:=?_) (a':=?_) #[J,J,J,J,J,J,J,J,J,J,J,J,J,J,J,J,J,J,J,J,J,J,J] rfl rfl (any_of HT_.out (by kernel_rfl)) (fun _ _ _ h=>h) (Or.inl ⟨by rfl,?_⟩) ?_ ?_
 rotate_left
 ·intro w'
  go_simp
  with_reducible rfl
 rotate_left
 ·simp only [Act.put,sT,sZ,sS,iW,iV]
  rfl
 refine done_ (done_of HT_.out (by kernel_rfl)) ?_
 try go_wp2
 go_loopg [6,7] k (fun kq v6 v7 w'=>∃ (x6_1 : ByteArray) (x7_1 : Int),v6 = .string x6_1∧v7 = .int .i64 x7_1∧Aside0 (gangerref10_Print.l0 kq x6_1 x7_1 a0_0 a0_1 a0_2 a0_3 a0_4 a0_5 a0_6 a0_7 a0_8 l0_9 l0_10 l0_11 = some (r1,r2))∧Aside0 (kq≤k)∧Aside0 (w'.heap[gb341]? = some (.cells #[.int .i64 a0_0,.int .i64 a0_1,.int .i64 a0_2,.int .i64 a0_3,.int .i64 a0_4,.int .i64 a0_5,.int .i64 a0_6,.int .i64 a0_7,.int .i64 a0_8,(.slice A0_9 l0_9.length c0_9),(.slice A0_10 l0_10.length c0_10),(.slice A0_11 l0_11.length c0_11)] 28 (0,0)))∧Aside0 (w'.heap[gb343]? = some (.cells #[.int .i64 a0_4,.int .i64 a0_5,.int .i64 a0_6,.int .i64 a0_7,.int .i64 a0_8] 23 (0,0)))∧Aside0 (Below w.heap.size w w'))
 case atStart=>exact ⟨(((((((((((((((⟨#[112,111,108,105,99,121,32]⟩ : ByteArray) ++ t344) ++ (⟨#[10]⟩ : ByteArray)) ++ t345) ++ (⟨#[10]⟩ : ByteArray)) ++ t346) ++ (⟨#[10]⟩ : ByteArray)) ++ t347) ++ (⟨#[10]⟩ : ByteArray)) ++ t348) ++ t349) ++ t350) ++ t351) ++ t352) ++ (⟨#[10]⟩ : ByteArray)),(0),(by first|rfl|(simp;done)|(simp [*];done)),(by first|rfl|(simp;done)|(simp [*];done)),H',⟨Nat.le_refl _⟩,⟨by (with_reducible repeat (first|refine bN ?_ _|refine bD ?_|refine bA ?_ _));exact BK341.out⟩,⟨by (with_reducible repeat (first|refine bN ?_ _|refine bD ?_|refine bA ?_ _));exact BK343.out⟩,⟨by repeat (first|(with_reducible first|exact HB.out|apply bL|apply pN|apply bE|refine bS ?_ GE341.out|refine bS ?_ GE343.out)|exact HB.out)⟩⟩
 case round =>
  clear H'
  obtain ⟨x6_1,x7_1,rfl,rfl,HA,HK1,BK341,BK343,HB⟩:=hrel
  cases gk with
  | zero=>exact absurd HA.out (by simp [gangerref10_Print.l0])
  | succ k1 =>
   have H:=HA.out
   clear HA
   simp only [gangerref10_Print.l0] at H
   by_cases c46 : x7_1 < (l0_9.length : Int)
   ·rw [if_pos c46] at H
    have c46b0 : decide (x7_1 < (l0_9.length : Int)) = true:=decide_eq_true c46
    clear c46
    by_cases c47 : 0≤x7_1
    rotate_left
    ·rw [if_neg c47] at H
     exact absurd H (by simp)
    rw [if_pos c47] at H
    have c47b0 : decide (0≤x7_1) = true:=decide_eq_true c47
    clear c47
    by_cases c48 : x6_1.size + 10≤9223372036854775807
    rotate_left
    ·rw [if_neg c48] at H
     exact absurd H (by simp)
    rw [if_pos c48] at H
    have c48b0:=eq_true c48
    have c48b1 : decide (x6_1.size + 10≤9223372036854775807) = true:=decide_eq_true c48
    try have c48b2 : (9223372036854775807 < x6_1.size + 10) = False:=eq_false (Nat.not_lt.2 c48)
    try (have c48b3:=c48b2;simp only [ByteArray.size_append,size_lit1,size_lit0,Nat.add_zero] at c48b3)
    try (have c48b5:=c48b2;simp only [ByteArray.size_append,size_litA,List.size_toArray,List.length_cons,List.length_nil,Nat.zero_add,Nat.reduceAdd] at c48b5)
    by_cases c49 : (x6_1 ++ (⟨#[112,97,114,116,105,116,105,111,110,32]⟩ : ByteArray)).size + ((rd_T50 l0_9 x7_1).f0).size≤9223372036854775807
    rotate_left
    ·rw [if_neg c49] at H
     exact absurd H (by simp)
    rw [if_pos c49] at H
    have c49b0:=eq_true c49
    have c49b1 : decide ((x6_1 ++ (⟨#[112,97,114,116,105,116,105,111,110,32]⟩ : ByteArray)).size + ((rd_T50 l0_9 x7_1).f0).size≤9223372036854775807) = true:=decide_eq_true c49
    try have c49b2 : (9223372036854775807 < (x6_1 ++ (⟨#[112,97,114,116,105,116,105,111,110,32]⟩ : ByteArray)).size + ((rd_T50 l0_9 x7_1).f0).size) = False:=eq_false (Nat.not_lt.2 c49)
    try (have c49b3:=c49b2;simp only [ByteArray.size_append,size_lit1,size_lit0,Nat.add_zero] at c49b3)
    try (have c49b5:=c49b2;simp only [ByteArray.size_append,size_litA,List.size_toArray,List.length_cons,List.length_nil,Nat.zero_add,Nat.reduceAdd] at c49b5)
    replace H:=oB H
    obtain ⟨t355,A500,H⟩:=H
    try dsimp only at H
    have A50:=Am A500
    clear A500
    by_cases c51 : ((x6_1 ++ (⟨#[112,97,114,116,105,116,105,111,110,32]⟩ : ByteArray)) ++ ((rd_T50 l0_9 x7_1).f0)).size + t355.size≤9223372036854775807
    rotate_left
    ·rw [if_neg c51] at H
     exact absurd H (by simp)
    rw [if_pos c51] at H
    have c51b0:=eq_true c51
    have c51b1 : decide (((x6_1 ++ (⟨#[112,97,114,116,105,116,105,111,110,32]⟩ : ByteArray)) ++ ((rd_T50 l0_9 x7_1).f0)).size + t355.size≤9223372036854775807) = true:=decide_eq_true c51
    try have c51b2 : (9223372036854775807 < ((x6_1 ++ (⟨#[112,97,114,116,105,116,105,111,110,32]⟩ : ByteArray)) ++ ((rd_T50 l0_9 x7_1).f0)).size + t355.size) = False:=eq_false (Nat.not_lt.2 c51)
    try (have c51b3:=c51b2;simp only [ByteArray.size_append,size_lit1,size_lit0,Nat.add_zero] at c51b3)
    try (have c51b5:=c51b2;simp only [ByteArray.size_append,size_litA,List.size_toArray,List.length_cons,List.length_nil,Nat.zero_add,Nat.reduceAdd] at c51b5)
    replace H:=oB H
    obtain ⟨t356,A520,H⟩:=H
    try dsimp only at H
    have A52:=Am A520
    clear A520
    by_cases c53 : (((x6_1 ++ (⟨#[112,97,114,116,105,116,105,111,110,32]⟩ : ByteArray)) ++ ((rd_T50 l0_9 x7_1).f0)) ++ t355).size + t356.size≤9223372036854775807
    rotate_left
    ·rw [if_neg c53] at H
     exact absurd H (by simp)
    rw [if_pos c53] at H
    have c53b0:=eq_true c53
    have c53b1 : decide ((((x6_1 ++ (⟨#[112,97,114,116,105,116,105,111,110,32]⟩ : ByteArray)) ++ ((rd_T50 l0_9 x7_1).f0)) ++ t355).size + t356.size≤9223372036854775807) = true:=decide_eq_true c53
    try have c53b2 : (9223372036854775807 < (((x6_1 ++ (⟨#[112,97,114,116,105,116,105,111,110,32]⟩ : ByteArray)) ++ ((rd_T50 l0_9 x7_1).f0)) ++ t355).size + t356.size) = False:=eq_false (Nat.not_lt.2 c53)
    try (have c53b3:=c53b2;simp only [ByteArray.size_append,size_lit1,size_lit0,Nat.add_zero] at c53b3)
    try (have c53b5:=c53b2;simp only [ByteArray.size_append,size_litA,List.size_toArray,List.length_cons,List.length_nil,Nat.zero_add,Nat.reduceAdd] at c53b5)
    replace H:=oB H
    obtain ⟨t357,A540,H⟩:=H
    try dsimp only at H
    have A54:=Am A540
    clear A540
    by_cases c55 : ((((x6_1 ++ (⟨#[112,97,114,116,105,116,105,111,110,32]⟩ : ByteArray)) ++ ((rd_T50 l0_9 x7_1).f0)) ++ t355) ++ t356).size + t357.size≤9223372036854775807
    rotate_left
    ·rw [if_neg c55] at H
     exact absurd H (by simp)
    rw [if_pos c55] at H
    have c55b0:=eq_true c55
    have c55b1 : decide (((((x6_1 ++ (⟨#[112,97,114,116,105,116,105,111,110,32]⟩ : ByteArray)) ++ ((rd_T50 l0_9 x7_1).f0)) ++ t355) ++ t356).size + t357.size≤9223372036854775807) = true:=decide_eq_true c55
    try have c55b2 : (9223372036854775807 < ((((x6_1 ++ (⟨#[112,97,114,116,105,116,105,111,110,32]⟩ : ByteArray)) ++ ((rd_T50 l0_9 x7_1).f0)) ++ t355) ++ t356).size + t357.size) = False:=eq_false (Nat.not_lt.2 c55)
    try (have c55b3:=c55b2;simp only [ByteArray.size_append,size_lit1,size_lit0,Nat.add_zero] at c55b3)
    try (have c55b5:=c55b2;simp only [ByteArray.size_append,size_litA,List.size_toArray,List.length_cons,List.length_nil,Nat.zero_add,Nat.reduceAdd] at c55b5)
    by_cases c56 : (((((x6_1 ++ (⟨#[112,97,114,116,105,116,105,111,110,32]⟩ : ByteArray)) ++ ((rd_T50 l0_9 x7_1).f0)) ++ t355) ++ t356) ++ t357).size + 1≤9223372036854775807
    rotate_left
    ·rw [if_neg c56] at H
     exact absurd H (by simp)
    rw [if_pos c56] at H
    have c56b0:=eq_true c56
    have c56b1 : decide ((((((x6_1 ++ (⟨#[112,97,114,116,105,116,105,111,110,32]⟩ : ByteArray)) ++ ((rd_T50 l0_9 x7_1).f0)) ++ t355) ++ t356) ++ t357).size + 1≤9223372036854775807) = true:=decide_eq_true c56
    try have c56b2 : (9223372036854775807 < (((((x6_1 ++ (⟨#[112,97,114,116,105,116,105,111,110,32]⟩ : ByteArray)) ++ ((rd_T50 l0_9 x7_1).f0)) ++ t355) ++ t356) ++ t357).size + 1) = False:=eq_false (Nat.not_lt.2 c56)
    try (have c56b3:=c56b2;simp only [ByteArray.size_append,size_lit1,size_lit0,Nat.add_zero] at c56b3)
    try (have c56b5:=c56b2;simp only [ByteArray.size_append,size_litA,List.size_toArray,List.length_cons,List.length_nil,Nat.zero_add,Nat.reduceAdd] at c56b5)
    have H':=Am H
    clear H
    have hnb57:=NB341_343.out
    have hnc57:=NB343_341.out
    obtain ⟨X58_0,X58_1,X58_2,X58_3,X58_4,X58_5,X58_6,X58_7,X58_8,X58_9,X58_10,X58_11,Y58_0,Y58_1,Y58_2,Y58_3,Y58_4,Y58_5,Y58_6,Y58_7,Y58_8,Y58_9,Y58_10,Y58_11⟩:=kc12 (w:=wr) (g:=gb341) BK341.out
    have p353 : 0≤(x7_1 : Int):=of_decide_eq_true (by first|(with_reducible assumption)|assumption)
    have q353 : x7_1 < (l0_9.length : Int):=of_decide_eq_true (by first|(with_reducible assumption)|assumption)
    obtain ⟨ad353,e353,hx353_0,hx353_1,hx353_2,hx353_3⟩:=at_T50 HR0_9.out x7_1 p353 q353
    cases e353
    replace hx353_0:=(HB.out.cell (wB w _ hx353_0)).trans hx353_0
    replace hx353_1:=(HB.out.cell (wB w _ hx353_1)).trans hx353_1
    replace hx353_2:=(HB.out.cell (wB w _ hx353_2)).trans hx353_2
    replace hx353_3:=(HB.out.cell (wB w _ hx353_3)).trans hx353_3
    replace p353:=eq_true p353
    replace q353:=eq_true q353
    try go_wp2_with (first|((with_reducible refine gD (N:=8) rfl ?_);refine box_event ?hg (N:=8) ?hd (cs:=#[.string (⟨#[]⟩ : ByteArray),.int .i64 0,.int .i64 0,.int .i64 0]) (t:=50) ?hr ?_;(case hd=>rfl);(case hg=>rfl);(case hr=>first|(go_simp;done)|(go_simp;rfl));intro gb354 hg w59 hbox hb;have n0_:=Am (blk_below (g:=gb341) (by (with_reducible repeat (first|refine bN ?_ _|refine bD ?_|refine bA ?_ _));exact BK341.out) hb);have n1_:=Am (blk_below (g:=gb343) (by (with_reducible repeat (first|refine bN ?_ _|refine bD ?_|refine bA ?_ _));exact BK343.out) hb);have n2_:=Am (below_step (by repeat (first|(with_reducible first|exact HB.out|apply bL|apply pN|apply bE|refine bS ?_ GE341.out|refine bS ?_ GE343.out)|exact HB.out)) hb);have n3_:=Am (hbox);have n4_:=Am ((by rw [hg];exact (bZ (by repeat (first|(with_reducible first|exact HB.out|apply bL|apply pN|apply bE|refine bS ?_ GE341.out|refine bS ?_ GE343.out)|exact HB.out))) : w.heap.size≤gb354));have n5_:=n4_;have n6_:=Am ((by rw [hg];exact Nat.ne_of_lt (blk_lt (g:=gb341) (by (with_reducible repeat (first|refine bN ?_ _|refine bD ?_|refine bA ?_ _));exact BK341.out)) : gb341 ≠ gb354));have n7_:=Am ((by rw [hg];exact Nat.ne_of_gt (blk_lt (g:=gb341) (by (with_reducible repeat (first|refine bN ?_ _|refine bD ?_|refine bA ?_ _));exact BK341.out)) : gb354 ≠ gb341));have n8_:=Am ((by rw [hg];exact Nat.ne_of_lt (blk_lt (g:=gb343) (by (with_reducible repeat (first|refine bN ?_ _|refine bD ?_|refine bA ?_ _));exact BK343.out)) : gb343 ≠ gb354));have n9_:=Am ((by rw [hg];exact Nat.ne_of_gt (blk_lt (g:=gb343) (by (with_reducible repeat (first|refine bN ?_ _|refine bD ?_|refine bA ?_ _));exact BK343.out)) : gb354 ≠ gb343));clear BK341;clear BK343;clear HB;have BK341:=n0_;have BK343:=n1_;have HB:=n2_;have BK354:=n3_;have GW354:=n4_;have GE354:=n5_;have NB341_354:=n6_;have NB354_341:=n7_;have NB343_354:=n8_;have NB354_343:=n9_;clear n0_ n1_ n2_ n3_ n4_ n5_ n6_ n7_ n8_ n9_;clear hb hbox hg;have hnb60:=NB354_341.out;have hnc60:=NB341_354.out;have hnb61:=NB354_343.out;have hnc61:=NB343_354.out;obtain ⟨X62_0,X62_1,X62_2,X62_3,Y62_0,Y62_1,Y62_2,Y62_3⟩:=kc4 (w:=w59) (g:=gb354) BK354.out))
    have n0_ : Aside0 (((((w59.setCell ⟨gb354,0,none⟩ (.string ((rd_T50 l0_9 x7_1).f0))).setCell ⟨gb354,1,none⟩ (.int .i64 ((rd_T50 l0_9 x7_1).f1))).setCell ⟨gb354,2,none⟩ (.int .i64 ((rd_T50 l0_9 x7_1).f2))).setCell ⟨gb354,3,none⟩ (.int .i64 ((rd_T50 l0_9 x7_1).f3))).heap[gb341]? = some (.cells #[.int .i64 a0_0,.int .i64 a0_1,.int .i64 a0_2,.int .i64 a0_3,.int .i64 a0_4,.int .i64 a0_5,.int .i64 a0_6,.int .i64 a0_7,.int .i64 a0_8,.slice (some ad353) l0_9.length c0_9,.slice A0_10 l0_10.length c0_10,.slice A0_11 l0_11.length c0_11] 28 (0,0))):=⟨by (with_reducible repeat (first|refine bN ?_ _|refine bD ?_|refine bA ?_ _));refine blk_far ?_ NB341_354.out _;(with_reducible repeat (first|refine bN ?_ _|refine bD ?_|refine bA ?_ _));refine blk_far ?_ NB341_354.out _;(with_reducible repeat (first|refine bN ?_ _|refine bD ?_|refine bA ?_ _));refine blk_far ?_ NB341_354.out _;(with_reducible repeat (first|refine bN ?_ _|refine bD ?_|refine bA ?_ _));refine blk_far ?_ NB341_354.out _;(with_reducible repeat (first|refine bN ?_ _|refine bD ?_|refine bA ?_ _));exact BK341.out⟩
    have n1_ : Aside0 (((((w59.setCell ⟨gb354,0,none⟩ (.string ((rd_T50 l0_9 x7_1).f0))).setCell ⟨gb354,1,none⟩ (.int .i64 ((rd_T50 l0_9 x7_1).f1))).setCell ⟨gb354,2,none⟩ (.int .i64 ((rd_T50 l0_9 x7_1).f2))).setCell ⟨gb354,3,none⟩ (.int .i64 ((rd_T50 l0_9 x7_1).f3))).heap[gb343]? = some (.cells #[.int .i64 a0_4,.int .i64 a0_5,.int .i64 a0_6,.int .i64 a0_7,.int .i64 a0_8] 23 (0,0))):=⟨by (with_reducible repeat (first|refine bN ?_ _|refine bD ?_|refine bA ?_ _));refine blk_far ?_ NB343_354.out _;(with_reducible repeat (first|refine bN ?_ _|refine bD ?_|refine bA ?_ _));refine blk_far ?_ NB343_354.out _;(with_reducible repeat (first|refine bN ?_ _|refine bD ?_|refine bA ?_ _));refine blk_far ?_ NB343_354.out _;(with_reducible repeat (first|refine bN ?_ _|refine bD ?_|refine bA ?_ _));refine blk_far ?_ NB343_354.out _;(with_reducible repeat (first|refine bN ?_ _|refine bD ?_|refine bA ?_ _));exact BK343.out⟩
    have n2_ : Aside0 (((((w59.setCell ⟨gb354,0,none⟩ (.string ((rd_T50 l0_9 x7_1).f0))).setCell ⟨gb354,1,none⟩ (.int .i64 ((rd_T50 l0_9 x7_1).f1))).setCell ⟨gb354,2,none⟩ (.int .i64 ((rd_T50 l0_9 x7_1).f2))).setCell ⟨gb354,3,none⟩ (.int .i64 ((rd_T50 l0_9 x7_1).f3))).heap[gb354]? = some (.cells #[.string ((rd_T50 l0_9 x7_1).f0),.int .i64 ((rd_T50 l0_9 x7_1).f1),.int .i64 ((rd_T50 l0_9 x7_1).f2),.int .i64 ((rd_T50 l0_9 x7_1).f3)] 50 (0,0))):=⟨by (with_reducible repeat (first|refine bN ?_ _|refine bD ?_|refine bA ?_ _));refine blk_put (cs:=#[.string ((rd_T50 l0_9 x7_1).f0),.int .i64 ((rd_T50 l0_9 x7_1).f1),.int .i64 ((rd_T50 l0_9 x7_1).f2),.int .i64 0]) ?_ 3 _ rfl;(with_reducible repeat (first|refine bN ?_ _|refine bD ?_|refine bA ?_ _));refine blk_put (cs:=#[.string ((rd_T50 l0_9 x7_1).f0),.int .i64 ((rd_T50 l0_9 x7_1).f1),.int .i64 0,.int .i64 0]) ?_ 2 _ rfl;(with_reducible repeat (first|refine bN ?_ _|refine bD ?_|refine bA ?_ _));refine blk_put (cs:=#[.string ((rd_T50 l0_9 x7_1).f0),.int .i64 0,.int .i64 0,.int .i64 0]) ?_ 1 _ rfl;(with_reducible repeat (first|refine bN ?_ _|refine bD ?_|refine bA ?_ _));refine blk_put (cs:=#[.string (⟨#[]⟩ : ByteArray),.int .i64 0,.int .i64 0,.int .i64 0]) ?_ 0 _ rfl;(with_reducible repeat (first|refine bN ?_ _|refine bD ?_|refine bA ?_ _));exact BK354.out⟩
    have n3_ : Aside0 (Below w.heap.size w ((((w59.setCell ⟨gb354,0,none⟩ (.string ((rd_T50 l0_9 x7_1).f0))).setCell ⟨gb354,1,none⟩ (.int .i64 ((rd_T50 l0_9 x7_1).f1))).setCell ⟨gb354,2,none⟩ (.int .i64 ((rd_T50 l0_9 x7_1).f2))).setCell ⟨gb354,3,none⟩ (.int .i64 ((rd_T50 l0_9 x7_1).f3)))):=⟨by repeat (first|(with_reducible first|exact HB.out|apply bL|apply pN|apply bE|refine bS ?_ GE341.out|refine bS ?_ GE343.out|refine bS ?_ GE354.out)|exact HB.out)⟩
    generalize ((((w59.setCell ⟨gb354,0,none⟩ (.string ((rd_T50 l0_9 x7_1).f0))).setCell ⟨gb354,1,none⟩ (.int .i64 ((rd_T50 l0_9 x7_1).f1))).setCell ⟨gb354,2,none⟩ (.int .i64 ((rd_T50 l0_9 x7_1).f2))).setCell ⟨gb354,3,none⟩ (.int .i64 ((rd_T50 l0_9 x7_1).f3))) = w63 at n0_ n1_ n2_ n3_ ⊢
    have BK341:=n0_
    have BK343:=n1_
    have BK354:=n2_
    have HB:=n3_
    clear n0_ n1_ n2_ n3_
    have n0_:=Am (bD BK341.out)
    have n1_:=Am (bD BK343.out)
    have n2_:=Am (bD BK354.out)
    have n3_:=Am (bE HB.out)
    clear BK341
    clear BK343
    clear BK354
    clear HB
    have BK341:=n0_
    have BK343:=n1_
    have BK354:=n2_
    have HB:=n3_
    clear n0_ n1_ n2_ n3_
    refine start_ (n:=19) (S:=fun w'=>w'.cell? ⟨gb354,0,none⟩ = some (.string ((rd_T50 l0_9 x7_1).f0))∧w'.cell? ⟨gb354,1,none⟩ = some (.int .i64 ((rd_T50 l0_9 x7_1).f1))∧w'.cell? ⟨gb354,2,none⟩ = some (.int .i64 ((rd_T50 l0_9 x7_1).f2))∧w'.cell? ⟨gb354,3,none⟩ = some (.int .i64 ((rd_T50 l0_9 x7_1).f3))) (ds:=[]) #[O,O,O,O,O,O,O,O,O,O,O,O,O,O,O,O,O,O,O] (by kernel_rfl) rfl rfl ⟨(bC BK354.out 0).trans rfl,(bC BK354.out 1).trans rfl,(bC BK354.out 2).trans rfl,(bC BK354.out 3).trans rfl⟩ (fun hHeld=>?_);refine with_tabW gangerref10_Print.tab11 gangerref10_Print.bits11 (fun HT_ HW_=>?_)
    generalize w63.drew = w64 at BK341 BK343 BK354 HB hHeld ⊢
    refine pure_ (i:=0) (N:=some 74) (v:=?_) (a':=?_) #[J,O,O,O,O,O,O,O,O,O,O,O,O,O,O,O,O,O,O] rfl rfl (any_of HT_.out (by kernel_rfl)) (fun _ _ _ h=>h) (Or.inl ⟨by rfl,?_⟩) ?_ ?_
    rotate_left
    ·intro w'
     go_simp
     with_reducible rfl
    rotate_left
    ·simp only [Act.put,sT,sZ,sS,iW,iV]
     rfl
    refine pure_ (i:=1) (N:=some 75) (v:=?_) (a':=?_) #[J,J,O,O,O,O,O,O,O,O,O,O,O,O,O,O,O,O,O] rfl rfl (any_of HT_.out (by kernel_rfl)) (fun _ _ _ h=>h) (Or.inl ⟨by rfl,?_⟩) ?_ ?_
    rotate_left
    ·intro w'
     go_simp
     with_reducible rfl
    rotate_left
    ·simp only [Act.put,sT,sZ,sS,iW,iV]
     rfl
    refine pure_ (i:=2) (N:=some 76) (v:=?_) (a':=?_) #[J,J,J,O,O,O,O,O,O,O,O,O,O,O,O,O,O,O,O] rfl rfl (any_of HT_.out (by kernel_rfl)) (fun _ _ _ h=>h) (Or.inl ⟨by rfl,?_⟩) ?_ ?_
    rotate_left
    ·intro w'
     go_simp
     with_reducible rfl
    rotate_left
    ·simp only [Act.put,sT,sZ,sS,iW,iV]
     rfl
    refine pure_ (i:=5) (N:=some 79) (v:=?_) (a':=?_) #[J,J,J,O,O,J,O,O,O,O,O,O,O,O,O,O,O,O,O] rfl rfl (any_of HT_.out (by kernel_rfl)) (fun _ _ _ h=>h) (Or.inl ⟨by rfl,?_⟩) ?_ ?_
    rotate_left
    ·intro w'
     go_simp
     with_reducible rfl
    rotate_left
    ·simp only [Act.put,sT,sZ,sS,iW,iV]
     rfl
    refine pure_ (i:=9) (N:=some 83) (v:=?_) (a':=?_) #[J,J,J,O,O,J,O,O,O,J,O,O,O,O,O,O,O,O,O] rfl rfl (any_of HT_.out (by kernel_rfl)) (fun _ _ _ h=>h) (Or.inl ⟨by rfl,?_⟩) ?_ ?_
    rotate_left
    ·intro w'
     go_simp
     with_reducible rfl
    rotate_left
    ·simp only [Act.put,sT,sZ,sS,iW,iV]
     rfl
    refine pure_ (i:=13) (N:=some 87) (v:=?_) (a':=?_) #[J,J,J,O,O,J,O,O,O,J,O,O,O,J,O,O,O,O,O] rfl rfl (any_of HT_.out (by kernel_rfl)) (fun _ _ _ h=>h) (Or.inl ⟨by rfl,?_⟩) ?_ ?_
    rotate_left
    ·intro w'
     go_simp
     with_reducible rfl
    rotate_left
    ·simp only [Act.put,sT,sZ,sS,iW,iV]
     rfl
    refine take_ (i:=3) (N:=some 77) (v:=?_) (a':=?_) #[J,J,J,J,O,J,O,O,O,J,O,O,O,J,O,O,O,O,O] rfl rfl (take_ofW HT_.out HW_.out (by kernel_rfl)) (fun _ _ _ h=>h) (Or.inl ⟨by rfl,?_⟩) hHeld ?_ ?_
    rotate_left
    ·rintro w' ⟨s0,s1,s2,s3⟩
     go_simp
     with_reducible rfl
    rotate_left
    ·simp only [Act.put,sT,sZ,sS,iW,iV]
     rfl
    refine pure_ (i:=4) (N:=some 78) (v:=?_) (a':=?_) #[J,J,J,J,J,J,O,O,O,J,O,O,O,J,O,O,O,O,O] rfl rfl (any_of HT_.out (by kernel_rfl)) (fun _ _ _ h=>h) (Or.inl ⟨by rfl,?_⟩) ?_ ?_
    rotate_left
    ·intro w'
     go_simp
     with_reducible rfl
    rotate_left
    ·simp only [Act.put,sT,sZ,sS,iW,iV]
     rfl
    refine take_ (i:=6) (N:=some 80) (v:=?_) (a':=?_) #[J,J,J,J,J,J,J,O,O,J,O,O,O,J,O,O,O,O,O] rfl rfl (take_ofW HT_.out HW_.out (by kernel_rfl)) (fun _ _ _ h=>h) (Or.inl ⟨by rfl,?_⟩) hHeld ?_ ?_
    rotate_left
    ·rintro w' ⟨s0,s1,s2,s3⟩
     go_simp
     with_reducible rfl
    rotate_left
    ·simp only [Act.put,sT,sZ,sS,iW,iV]
     rfl
    refine take_ (i:=10) (N:=some 84) (v:=?_) (a':=?_) #[J,J,J,J,J,J,J,O,O,J,J,O,O,J,O,O,O,O,O] rfl rfl (take_ofW HT_.out HW_.out (by kernel_rfl)) (fun _ _ _ h=>h) (Or.inl ⟨by rfl,?_⟩) hHeld ?_ ?_
    rotate_left
    ·rintro w' ⟨s0,s1,s2,s3⟩
     go_simp
     with_reducible rfl
    rotate_left
    ·simp only [Act.put,sT,sZ,sS,iW,iV]
     rfl
    refine take_ (i:=14) (N:=some 88) (v:=?_) (a':=?_) #[J,J,J,J,J,J,J,O,O,J,J,O,O,J,J,O,O,O,O] rfl rfl (take_ofW HT_.out HW_.out (by kernel_rfl)) (fun _ _ _ h=>h) (Or.inl ⟨by rfl,?_⟩) hHeld ?_ ?_
    rotate_left
    ·rintro w' ⟨s0,s1,s2,s3⟩
     go_simp
     with_reducible rfl
    rotate_left
    ·simp only [Act.put,sT,sZ,sS,iW,iV]
     rfl
    refine one_ (i:=7) (N:=some 81) #[J,J,J,J,J,J,J,J,O,J,J,O,O,J,J,O,O,O,O] rfl rfl (one_of HT_.out (by kernel_rfl)) (by decide) (fun K hK=>?_)
    refine goes_ Tryd.func32 (by kernel_rfl) rfl #[.string (⟨#[32,111,114,100,101,114]⟩ : ByteArray),.int .i64 ((rd_T50 l0_9 x7_1).f1)] (by rfl) rfl rfl (by (try simp only [mT,mC,mN]);first|done|rfl|(simp only [lD,lT];rfl)) ?_
    with_reducible refine (gangerref10_num.calls k1 (⟨#[32,111,114,100,101,114]⟩ : ByteArray) ((rd_T50 l0_9 x7_1).f1) t355 _ A50.out).mono ?_
    rintro e w65 ⟨rfl,hb⟩
    refine ⟨_,rfl,?_⟩
    have n0_:=Am (blk_below (g:=gb341) (by (with_reducible repeat (first|refine bN ?_ _|refine bD ?_|refine bA ?_ _));exact BK341.out) hb)
    have n1_:=Am (blk_below (g:=gb343) (by (with_reducible repeat (first|refine bN ?_ _|refine bD ?_|refine bA ?_ _));exact BK343.out) hb)
    have n2_:=Am (blk_below (g:=gb354) (by (with_reducible repeat (first|refine bN ?_ _|refine bD ?_|refine bA ?_ _));exact BK354.out) hb)
    have n3_:=Am (below_step (by repeat (first|(with_reducible first|exact HB.out|apply bL|apply pN|apply bE|refine bS ?_ GE341.out|refine bS ?_ GE343.out|refine bS ?_ GE354.out)|exact HB.out)) hb)
    clear BK341
    clear BK343
    clear BK354
    clear HB
    have BK341:=n0_
    have BK343:=n1_
    have BK354:=n2_
    have HB:=n3_
    clear n0_ n1_ n2_ n3_
    refine hK.out _ _ ⟨(bC BK354.out 0).trans rfl,(bC BK354.out 1).trans rfl,(bC BK354.out 2).trans rfl,(bC BK354.out 3).trans rfl⟩ (fun hHeld=>?_)
    clear hK K
    refine norm_ (a':=?_) ?_ ?_
    rotate_left
    ·show Act.put _ (some 81) _ = _
     simp only [Act.put,sT,sZ,sS,iW,iV]
     rfl
    refine pure_ (i:=8) (N:=some 82) (v:=?_) (a':=?_) #[J,J,J,J,J,J,J,J,J,J,J,O,O,J,J,O,O,O,O] rfl rfl (any_of HT_.out (by kernel_rfl)) (fun _ _ _ h=>h) (Or.inl ⟨by rfl,?_⟩) ?_ ?_
    rotate_left
    ·intro w'
     go_simp
     with_reducible rfl
    rotate_left
    ·simp only [Act.put,sT,sZ,sS,iW,iV]
     rfl
    refine one_ (i:=11) (N:=some 85) #[J,J,J,J,J,J,J,J,J,J,J,J,O,J,J,O,O,O,O] rfl rfl (one_of HT_.out (by kernel_rfl)) (by decide) (fun K hK=>?_)
    refine goes_ Tryd.func32 (by kernel_rfl) rfl #[.string (⟨#[32,112,114,105,111,114,105,116,121]⟩ : ByteArray),.int .i64 ((rd_T50 l0_9 x7_1).f2)] (by rfl) rfl rfl (by (try simp only [mT,mC,mN]);first|done|rfl|(simp only [lD,lT];rfl)) ?_
    with_reducible refine (gangerref10_num.calls k1 (⟨#[32,112,114,105,111,114,105,116,121]⟩ : ByteArray) ((rd_T50 l0_9 x7_1).f2) t356 _ A52.out).mono ?_
    rintro e w66 ⟨rfl,hb⟩
    refine ⟨_,rfl,?_⟩
    have n0_:=Am (blk_below (g:=gb341) (by (with_reducible repeat (first|refine bN ?_ _|refine bD ?_|refine bA ?_ _));exact BK341.out) hb)
    have n1_:=Am (blk_below (g:=gb343) (by (with_reducible repeat (first|refine bN ?_ _|refine bD ?_|refine bA ?_ _));exact BK343.out) hb)
    have n2_:=Am (blk_below (g:=gb354) (by (with_reducible repeat (first|refine bN ?_ _|refine bD ?_|refine bA ?_ _));exact BK354.out) hb)
    have n3_:=Am (below_step (by repeat (first|(with_reducible first|exact HB.out|apply bL|apply pN|apply bE|refine bS ?_ GE341.out|refine bS ?_ GE343.out|refine bS ?_ GE354.out)|exact HB.out)) hb)
    clear BK341
    clear BK343
    clear BK354
    clear HB
    have BK341:=n0_
    have BK343:=n1_
    have BK354:=n2_
    have HB:=n3_
    clear n0_ n1_ n2_ n3_
    refine hK.out _ _ ⟨(bC BK354.out 0).trans rfl,(bC BK354.out 1).trans rfl,(bC BK354.out 2).trans rfl,(bC BK354.out 3).trans rfl⟩ (fun hHeld=>?_)
    clear hK K
    refine norm_ (a':=?_) ?_ ?_
    rotate_left
    ·show Act.put _ (some 85) _ = _
     simp only [Act.put,sT,sZ,sS,iW,iV]
     rfl
    refine pure_ (i:=12) (N:=some 86) (v:=?_) (a':=?_) #[J,J,J,J,J,J,J,J,J,J,J,J,J,J,J,O,O,O,O] rfl rfl (any_of HT_.out (by kernel_rfl)) (fun _ _ _ h=>h) (Or.inl ⟨by rfl,?_⟩) ?_ ?_
    rotate_left
    ·intro w'
     go_simp
     with_reducible rfl
    rotate_left
    ·simp only [Act.put,sT,sZ,sS,iW,iV]
     rfl
    refine one_ (i:=15) (N:=some 89) #[J,J,J,J,J,J,J,J,J,J,J,J,J,J,J,J,O,O,O] rfl rfl (one_of HT_.out (by kernel_rfl)) (by decide) (fun K hK=>?_)
    refine goes_ Tryd.func32 (by kernel_rfl) rfl #[.string (⟨#[32,108,105,109,105,116]⟩ : ByteArray),.int .i64 ((rd_T50 l0_9 x7_1).f3)] (by rfl) rfl rfl (by (try simp only [mT,mC,mN]);first|done|rfl|(simp only [lD,lT];rfl)) ?_
    with_reducible refine (gangerref10_num.calls k1 (⟨#[32,108,105,109,105,116]⟩ : ByteArray) ((rd_T50 l0_9 x7_1).f3) t357 _ A54.out).mono ?_
    rintro e w67 ⟨rfl,hb⟩
    refine ⟨_,rfl,?_⟩
    have n0_:=Am (blk_below (g:=gb341) (by (with_reducible repeat (first|refine bN ?_ _|refine bD ?_|refine bA ?_ _));exact BK341.out) hb)
    have n1_:=Am (blk_below (g:=gb343) (by (with_reducible repeat (first|refine bN ?_ _|refine bD ?_|refine bA ?_ _));exact BK343.out) hb)
    have n2_:=Am (blk_below (g:=gb354) (by (with_reducible repeat (first|refine bN ?_ _|refine bD ?_|refine bA ?_ _));exact BK354.out) hb)
    have n3_:=Am (below_step (by repeat (first|(with_reducible first|exact HB.out|apply bL|apply pN|apply bE|refine bS ?_ GE341.out|refine bS ?_ GE343.out|refine bS ?_ GE354.out)|exact HB.out)) hb)
    clear BK341
    clear BK343
    clear BK354
    clear HB
    have BK341:=n0_
    have BK343:=n1_
    have BK354:=n2_
    have HB:=n3_
    clear n0_ n1_ n2_ n3_
    refine hK.out _ _ ⟨(bC BK354.out 0).trans rfl,(bC BK354.out 1).trans rfl,(bC BK354.out 2).trans rfl,(bC BK354.out 3).trans rfl⟩ (fun hHeld=>?_)
    clear hK K
    refine norm_ (a':=?_) ?_ ?_
    rotate_left
    ·show Act.put _ (some 89) _ = _
     simp only [Act.put,sT,sZ,sS,iW,iV]
     rfl
    refine pure_ (i:=16) (N:=some 90) (v:=?_) (a':=?_) #[J,J,J,J,J,J,J,J,J,J,J,J,J,J,J,J,J,O,O] rfl rfl (any_of HT_.out (by kernel_rfl)) (fun _ _ _ h=>h) (Or.inl ⟨by rfl,?_⟩) ?_ ?_
    rotate_left
    ·intro w'
     go_simp
     with_reducible rfl
    rotate_left
    ·simp only [Act.put,sT,sZ,sS,iW,iV]
     rfl
    refine pure_ (i:=17) (N:=some 91) (v:=?_) (a':=?_) #[J,J,J,J,J,J,J,J,J,J,J,J,J,J,J,J,J,J,O] rfl rfl (any_of HT_.out (by kernel_rfl)) (fun _ _ _ h=>h) (Or.inl ⟨by rfl,?_⟩) ?_ ?_
    rotate_left
    ·intro w'
     go_simp
     with_reducible rfl
    rotate_left
    ·simp only [Act.put,sT,sZ,sS,iW,iV]
     rfl
    refine pure_ (i:=18) (N:=some 6) (v:=?_) (a':=?_) #[J,J,J,J,J,J,J,J,J,J,J,J,J,J,J,J,J,J,J] rfl rfl (any_of HT_.out (by kernel_rfl)) (fun _ _ _ h=>h) (Or.inl ⟨by rfl,?_⟩) ?_ ?_
    rotate_left
    ·intro w'
     go_simp
     with_reducible rfl
    rotate_left
    ·simp only [Act.put,sT,sZ,sS,iW,iV]
     rfl
    refine done_ (done_of HT_.out (by kernel_rfl)) ?_
    try go_wp2
    go_roundg k1
    case measure=>have:=HK1.out;omega
    case rel=>exact ⟨((((((x6_1 ++ (⟨#[112,97,114,116,105,116,105,111,110,32]⟩ : ByteArray)) ++ ((rd_T50 l0_9 x7_1).f0)) ++ t355) ++ t356) ++ t357) ++ (⟨#[10]⟩ : ByteArray)),(wrap64 (x7_1 + 1)),(by first|rfl|(simp;done)|(simp [*];done)),(by first|rfl|(simp;done)|(simp [*];done)),H',⟨by have:=HK1.out;omega⟩,⟨by (with_reducible repeat (first|refine bN ?_ _|refine bD ?_|refine bA ?_ _));exact BK341.out⟩,⟨by (with_reducible repeat (first|refine bN ?_ _|refine bD ?_|refine bA ?_ _));exact BK343.out⟩,⟨by repeat (first|(with_reducible first|exact HB.out|apply bL|apply pN|apply bE|refine bS ?_ GE341.out|refine bS ?_ GE343.out|refine bS ?_ GE354.out)|exact HB.out)⟩⟩
   rw [if_neg c46] at H
   have c46b0 : decide (x7_1 < (l0_9.length : Int)) = false:=decide_eq_false c46
   clear c46
   have H':=Am H
   clear H
   have hnb68:=NB341_343.out
   have hnc68:=NB343_341.out
   obtain ⟨X69_0,X69_1,X69_2,X69_3,X69_4,X69_5,X69_6,X69_7,X69_8,X69_9,X69_10,X69_11,Y69_0,Y69_1,Y69_2,Y69_3,Y69_4,Y69_5,Y69_6,Y69_7,Y69_8,Y69_9,Y69_10,Y69_11⟩:=kc12 (w:=wr) (g:=gb341) BK341.out
   go_wp2
   go_loopg [6,9] k1 (fun kq v6 v9 w'=>∃ (x6_2 : ByteArray) (x9_2 : Int),v6 = .string x6_2∧v9 = .int .i64 x9_2∧Aside0 (gangerref10_Print.l1 kq x6_2 x9_2 a0_0 a0_1 a0_2 a0_3 a0_4 a0_5 a0_6 a0_7 a0_8 l0_9 l0_10 l0_11 = some (r1,r2))∧Aside0 (kq≤k1)∧Aside0 (w'.heap[gb341]? = some (.cells #[.int .i64 a0_0,.int .i64 a0_1,.int .i64 a0_2,.int .i64 a0_3,.int .i64 a0_4,.int .i64 a0_5,.int .i64 a0_6,.int .i64 a0_7,.int .i64 a0_8,(.slice A0_9 l0_9.length c0_9),(.slice A0_10 l0_10.length c0_10),(.slice A0_11 l0_11.length c0_11)] 28 (0,0)))∧Aside0 (w'.heap[gb343]? = some (.cells #[.int .i64 a0_4,.int .i64 a0_5,.int .i64 a0_6,.int .i64 a0_7,.int .i64 a0_8] 23 (0,0)))∧Aside0 (Below w.heap.size w w'))
   case atStart=>exact ⟨(x6_1),(0),(by first|rfl|(simp;done)|(simp [*];done)),(by first|rfl|(simp;done)|(simp [*];done)),H',⟨Nat.le_refl _⟩,⟨by (with_reducible repeat (first|refine bN ?_ _|refine bD ?_|refine bA ?_ _));exact BK341.out⟩,⟨by (with_reducible repeat (first|refine bN ?_ _|refine bD ?_|refine bA ?_ _));exact BK343.out⟩,⟨by repeat (first|(with_reducible first|exact HB.out|apply bL|apply pN|apply bE|refine bS ?_ GE341.out|refine bS ?_ GE343.out)|exact HB.out)⟩⟩
   case round =>
    clear H'
    obtain ⟨x6_2,x9_2,rfl,rfl,HA,HK2,BK341,BK343,HB⟩:=hrel
    cases gk with
    | zero=>exact absurd HA.out (by simp [gangerref10_Print.l1])
    | succ k2 =>
     have H:=HA.out
     clear HA
     simp only [gangerref10_Print.l1] at H
     by_cases c70 : x9_2 < (l0_10.length : Int)
     ·rw [if_pos c70] at H
      have c70b0 : decide (x9_2 < (l0_10.length : Int)) = true:=decide_eq_true c70
      clear c70
      by_cases c71 : 0≤x9_2
      rotate_left
      ·rw [if_neg c71] at H
       exact absurd H (by simp)
      rw [if_pos c71] at H
      have c71b0 : decide (0≤x9_2) = true:=decide_eq_true c71
      clear c71
      by_cases c72 : x6_2.size + 4≤9223372036854775807
      rotate_left
      ·rw [if_neg c72] at H
       exact absurd H (by simp)
      rw [if_pos c72] at H
      have c72b0:=eq_true c72
      have c72b1 : decide (x6_2.size + 4≤9223372036854775807) = true:=decide_eq_true c72
      try have c72b2 : (9223372036854775807 < x6_2.size + 4) = False:=eq_false (Nat.not_lt.2 c72)
      try (have c72b3:=c72b2;simp only [ByteArray.size_append,size_lit1,size_lit0,Nat.add_zero] at c72b3)
      try (have c72b5:=c72b2;simp only [ByteArray.size_append,size_litA,List.size_toArray,List.length_cons,List.length_nil,Nat.zero_add,Nat.reduceAdd] at c72b5)
      by_cases c73 : (x6_2 ++ (⟨#[113,111,115,32]⟩ : ByteArray)).size + ((rd_T52 l0_10 x9_2).f0).size≤9223372036854775807
      rotate_left
      ·rw [if_neg c73] at H
       exact absurd H (by simp)
      rw [if_pos c73] at H
      have c73b0:=eq_true c73
      have c73b1 : decide ((x6_2 ++ (⟨#[113,111,115,32]⟩ : ByteArray)).size + ((rd_T52 l0_10 x9_2).f0).size≤9223372036854775807) = true:=decide_eq_true c73
      try have c73b2 : (9223372036854775807 < (x6_2 ++ (⟨#[113,111,115,32]⟩ : ByteArray)).size + ((rd_T52 l0_10 x9_2).f0).size) = False:=eq_false (Nat.not_lt.2 c73)
      try (have c73b3:=c73b2;simp only [ByteArray.size_append,size_lit1,size_lit0,Nat.add_zero] at c73b3)
      try (have c73b5:=c73b2;simp only [ByteArray.size_append,size_litA,List.size_toArray,List.length_cons,List.length_nil,Nat.zero_add,Nat.reduceAdd] at c73b5)
      replace H:=oB H
      obtain ⟨t360,A740,H⟩:=H
      try dsimp only at H
      have A74:=Am A740
      clear A740
      by_cases c75 : ((x6_2 ++ (⟨#[113,111,115,32]⟩ : ByteArray)) ++ ((rd_T52 l0_10 x9_2).f0)).size + t360.size≤9223372036854775807
      rotate_left
      ·rw [if_neg c75] at H
       exact absurd H (by simp)
      rw [if_pos c75] at H
      have c75b0:=eq_true c75
      have c75b1 : decide (((x6_2 ++ (⟨#[113,111,115,32]⟩ : ByteArray)) ++ ((rd_T52 l0_10 x9_2).f0)).size + t360.size≤9223372036854775807) = true:=decide_eq_true c75
      try have c75b2 : (9223372036854775807 < ((x6_2 ++ (⟨#[113,111,115,32]⟩ : ByteArray)) ++ ((rd_T52 l0_10 x9_2).f0)).size + t360.size) = False:=eq_false (Nat.not_lt.2 c75)
      try (have c75b3:=c75b2;simp only [ByteArray.size_append,size_lit1,size_lit0,Nat.add_zero] at c75b3)
      try (have c75b5:=c75b2;simp only [ByteArray.size_append,size_litA,List.size_toArray,List.length_cons,List.length_nil,Nat.zero_add,Nat.reduceAdd] at c75b5)
      replace H:=oB H
      obtain ⟨t361,A760,H⟩:=H
      try dsimp only at H
      have A76:=Am A760
      clear A760
      by_cases c77 : (((x6_2 ++ (⟨#[113,111,115,32]⟩ : ByteArray)) ++ ((rd_T52 l0_10 x9_2).f0)) ++ t360).size + t361.size≤9223372036854775807
      rotate_left
      ·rw [if_neg c77] at H
       exact absurd H (by simp)
      rw [if_pos c77] at H
      have c77b0:=eq_true c77
      have c77b1 : decide ((((x6_2 ++ (⟨#[113,111,115,32]⟩ : ByteArray)) ++ ((rd_T52 l0_10 x9_2).f0)) ++ t360).size + t361.size≤9223372036854775807) = true:=decide_eq_true c77
      try have c77b2 : (9223372036854775807 < (((x6_2 ++ (⟨#[113,111,115,32]⟩ : ByteArray)) ++ ((rd_T52 l0_10 x9_2).f0)) ++ t360).size + t361.size) = False:=eq_false (Nat.not_lt.2 c77)
      try (have c77b3:=c77b2;simp only [ByteArray.size_append,size_lit1,size_lit0,Nat.add_zero] at c77b3)
      try (have c77b5:=c77b2;simp only [ByteArray.size_append,size_litA,List.size_toArray,List.length_cons,List.length_nil,Nat.zero_add,Nat.reduceAdd] at c77b5)
      by_cases c78 : ((((x6_2 ++ (⟨#[113,111,115,32]⟩ : ByteArray)) ++ ((rd_T52 l0_10 x9_2).f0)) ++ t360) ++ t361).size + 1≤9223372036854775807
      rotate_left
      ·rw [if_neg c78] at H
       exact absurd H (by simp)
      rw [if_pos c78] at H
      have c78b0:=eq_true c78
      have c78b1 : decide (((((x6_2 ++ (⟨#[113,111,115,32]⟩ : ByteArray)) ++ ((rd_T52 l0_10 x9_2).f0)) ++ t360) ++ t361).size + 1≤9223372036854775807) = true:=decide_eq_true c78
      try have c78b2 : (9223372036854775807 < ((((x6_2 ++ (⟨#[113,111,115,32]⟩ : ByteArray)) ++ ((rd_T52 l0_10 x9_2).f0)) ++ t360) ++ t361).size + 1) = False:=eq_false (Nat.not_lt.2 c78)
      try (have c78b3:=c78b2;simp only [ByteArray.size_append,size_lit1,size_lit0,Nat.add_zero] at c78b3)
      try (have c78b5:=c78b2;simp only [ByteArray.size_append,size_litA,List.size_toArray,List.length_cons,List.length_nil,Nat.zero_add,Nat.reduceAdd] at c78b5)
      have H':=Am H
      clear H
      have hnb79:=NB341_343.out
      have hnc79:=NB343_341.out
      obtain ⟨X80_0,X80_1,X80_2,X80_3,X80_4,X80_5,X80_6,X80_7,X80_8,X80_9,X80_10,X80_11,Y80_0,Y80_1,Y80_2,Y80_3,Y80_4,Y80_5,Y80_6,Y80_7,Y80_8,Y80_9,Y80_10,Y80_11⟩:=kc12 (w:=wr) (g:=gb341) BK341.out
      have p358 : 0≤(x9_2 : Int):=of_decide_eq_true (by first|(with_reducible assumption)|assumption)
      have q358 : x9_2 < (l0_10.length : Int):=of_decide_eq_true (by first|(with_reducible assumption)|assumption)
      obtain ⟨ad358,e358,hx358_0,hx358_1,hx358_2⟩:=at_T52 HR0_10.out x9_2 p358 q358
      cases e358
      replace hx358_0:=(HB.out.cell (wB w _ hx358_0)).trans hx358_0
      replace hx358_1:=(HB.out.cell (wB w _ hx358_1)).trans hx358_1
      replace hx358_2:=(HB.out.cell (wB w _ hx358_2)).trans hx358_2
      replace p358:=eq_true p358
      replace q358:=eq_true q358
      try go_wp2_with (first|((with_reducible refine gD (N:=10) rfl ?_);refine box_event ?hg (N:=10) ?hd (cs:=#[.string (⟨#[]⟩ : ByteArray),.int .i64 0,.int .i64 0]) (t:=52) ?hr ?_;(case hd=>rfl);(case hg=>rfl);(case hr=>first|(go_simp;done)|(go_simp;rfl));intro gb359 hg w81 hbox hb;have n0_:=Am (blk_below (g:=gb341) (by (with_reducible repeat (first|refine bN ?_ _|refine bD ?_|refine bA ?_ _));exact BK341.out) hb);have n1_:=Am (blk_below (g:=gb343) (by (with_reducible repeat (first|refine bN ?_ _|refine bD ?_|refine bA ?_ _));exact BK343.out) hb);have n2_:=Am (below_step (by repeat (first|(with_reducible first|exact HB.out|apply bL|apply pN|apply bE|refine bS ?_ GE341.out|refine bS ?_ GE343.out)|exact HB.out)) hb);have n3_:=Am (hbox);have n4_:=Am ((by rw [hg];exact (bZ (by repeat (first|(with_reducible first|exact HB.out|apply bL|apply pN|apply bE|refine bS ?_ GE341.out|refine bS ?_ GE343.out)|exact HB.out))) : w.heap.size≤gb359));have n5_:=n4_;have n6_:=Am ((by rw [hg];exact Nat.ne_of_lt (blk_lt (g:=gb341) (by (with_reducible repeat (first|refine bN ?_ _|refine bD ?_|refine bA ?_ _));exact BK341.out)) : gb341 ≠ gb359));have n7_:=Am ((by rw [hg];exact Nat.ne_of_gt (blk_lt (g:=gb341) (by (with_reducible repeat (first|refine bN ?_ _|refine bD ?_|refine bA ?_ _));exact BK341.out)) : gb359 ≠ gb341));have n8_:=Am ((by rw [hg];exact Nat.ne_of_lt (blk_lt (g:=gb343) (by (with_reducible repeat (first|refine bN ?_ _|refine bD ?_|refine bA ?_ _));exact BK343.out)) : gb343 ≠ gb359));have n9_:=Am ((by rw [hg];exact Nat.ne_of_gt (blk_lt (g:=gb343) (by (with_reducible repeat (first|refine bN ?_ _|refine bD ?_|refine bA ?_ _));exact BK343.out)) : gb359 ≠ gb343));clear BK341;clear BK343;clear HB;have BK341:=n0_;have BK343:=n1_;have HB:=n2_;have BK359:=n3_;have GW359:=n4_;have GE359:=n5_;have NB341_359:=n6_;have NB359_341:=n7_;have NB343_359:=n8_;have NB359_343:=n9_;clear n0_ n1_ n2_ n3_ n4_ n5_ n6_ n7_ n8_ n9_;clear hb hbox hg;have hnb82:=NB359_341.out;have hnc82:=NB341_359.out;have hnb83:=NB359_343.out;have hnc83:=NB343_359.out;obtain ⟨X84_0,X84_1,X84_2,Y84_0,Y84_1,Y84_2⟩:=kc3 (w:=w81) (g:=gb359) BK359.out))
      have n0_ : Aside0 ((((w81.setCell ⟨gb359,0,none⟩ (.string ((rd_T52 l0_10 x9_2).f0))).setCell ⟨gb359,1,none⟩ (.int .i64 ((rd_T52 l0_10 x9_2).f1))).setCell ⟨gb359,2,none⟩ (.int .i64 ((rd_T52 l0_10 x9_2).f2))).heap[gb341]? = some (.cells #[.int .i64 a0_0,.int .i64 a0_1,.int .i64 a0_2,.int .i64 a0_3,.int .i64 a0_4,.int .i64 a0_5,.int .i64 a0_6,.int .i64 a0_7,.int .i64 a0_8,.slice A0_9 l0_9.length c0_9,.slice (some ad358) l0_10.length c0_10,.slice A0_11 l0_11.length c0_11] 28 (0,0))):=⟨by (with_reducible repeat (first|refine bN ?_ _|refine bD ?_|refine bA ?_ _));refine blk_far ?_ NB341_359.out _;(with_reducible repeat (first|refine bN ?_ _|refine bD ?_|refine bA ?_ _));refine blk_far ?_ NB341_359.out _;(with_reducible repeat (first|refine bN ?_ _|refine bD ?_|refine bA ?_ _));refine blk_far ?_ NB341_359.out _;(with_reducible repeat (first|refine bN ?_ _|refine bD ?_|refine bA ?_ _));exact BK341.out⟩
      have n1_ : Aside0 ((((w81.setCell ⟨gb359,0,none⟩ (.string ((rd_T52 l0_10 x9_2).f0))).setCell ⟨gb359,1,none⟩ (.int .i64 ((rd_T52 l0_10 x9_2).f1))).setCell ⟨gb359,2,none⟩ (.int .i64 ((rd_T52 l0_10 x9_2).f2))).heap[gb343]? = some (.cells #[.int .i64 a0_4,.int .i64 a0_5,.int .i64 a0_6,.int .i64 a0_7,.int .i64 a0_8] 23 (0,0))):=⟨by (with_reducible repeat (first|refine bN ?_ _|refine bD ?_|refine bA ?_ _));refine blk_far ?_ NB343_359.out _;(with_reducible repeat (first|refine bN ?_ _|refine bD ?_|refine bA ?_ _));refine blk_far ?_ NB343_359.out _;(with_reducible repeat (first|refine bN ?_ _|refine bD ?_|refine bA ?_ _));refine blk_far ?_ NB343_359.out _;(with_reducible repeat (first|refine bN ?_ _|refine bD ?_|refine bA ?_ _));exact BK343.out⟩
      have n2_ : Aside0 ((((w81.setCell ⟨gb359,0,none⟩ (.string ((rd_T52 l0_10 x9_2).f0))).setCell ⟨gb359,1,none⟩ (.int .i64 ((rd_T52 l0_10 x9_2).f1))).setCell ⟨gb359,2,none⟩ (.int .i64 ((rd_T52 l0_10 x9_2).f2))).heap[gb359]? = some (.cells #[.string ((rd_T52 l0_10 x9_2).f0),.int .i64 ((rd_T52 l0_10 x9_2).f1),.int .i64 ((rd_T52 l0_10 x9_2).f2)] 52 (0,0))):=⟨by (with_reducible repeat (first|refine bN ?_ _|refine bD ?_|refine bA ?_ _));refine blk_put (cs:=#[.string ((rd_T52 l0_10 x9_2).f0),.int .i64 ((rd_T52 l0_10 x9_2).f1),.int .i64 0]) ?_ 2 _ rfl;(with_reducible repeat (first|refine bN ?_ _|refine bD ?_|refine bA ?_ _));refine blk_put (cs:=#[.string ((rd_T52 l0_10 x9_2).f0),.int .i64 0,.int .i64 0]) ?_ 1 _ rfl;(with_reducible repeat (first|refine bN ?_ _|refine bD ?_|refine bA ?_ _));refine blk_put (cs:=#[.string (⟨#[]⟩ : ByteArray),.int .i64 0,.int .i64 0]) ?_ 0 _ rfl;(with_reducible repeat (first|refine bN ?_ _|refine bD ?_|refine bA ?_ _));exact BK359.out⟩
      have n3_ : Aside0 (Below w.heap.size w (((w81.setCell ⟨gb359,0,none⟩ (.string ((rd_T52 l0_10 x9_2).f0))).setCell ⟨gb359,1,none⟩ (.int .i64 ((rd_T52 l0_10 x9_2).f1))).setCell ⟨gb359,2,none⟩ (.int .i64 ((rd_T52 l0_10 x9_2).f2)))):=⟨by repeat (first|(with_reducible first|exact HB.out|apply bL|apply pN|apply bE|refine bS ?_ GE341.out|refine bS ?_ GE343.out|refine bS ?_ GE359.out)|exact HB.out)⟩
      generalize (((w81.setCell ⟨gb359,0,none⟩ (.string ((rd_T52 l0_10 x9_2).f0))).setCell ⟨gb359,1,none⟩ (.int .i64 ((rd_T52 l0_10 x9_2).f1))).setCell ⟨gb359,2,none⟩ (.int .i64 ((rd_T52 l0_10 x9_2).f2))) = w85 at n0_ n1_ n2_ n3_ ⊢
      have BK341:=n0_
      have BK343:=n1_
      have BK359:=n2_
      have HB:=n3_
      clear n0_ n1_ n2_ n3_
      have n0_:=Am (bD BK341.out)
      have n1_:=Am (bD BK343.out)
      have n2_:=Am (bD BK359.out)
      have n3_:=Am (bE HB.out)
      clear BK341
      clear BK343
      clear BK359
      clear HB
      have BK341:=n0_
      have BK343:=n1_
      have BK359:=n2_
      have HB:=n3_
      clear n0_ n1_ n2_ n3_
      refine start_ (n:=15) (S:=fun w'=>w'.cell? ⟨gb359,0,none⟩ = some (.string ((rd_T52 l0_10 x9_2).f0))∧w'.cell? ⟨gb359,1,none⟩ = some (.int .i64 ((rd_T52 l0_10 x9_2).f1))∧w'.cell? ⟨gb359,2,none⟩ = some (.int .i64 ((rd_T52 l0_10 x9_2).f2))) (ds:=[]) #[O,O,O,O,O,O,O,O,O,O,O,O,O,O,O] (by kernel_rfl) rfl rfl ⟨(bC BK359.out 0).trans rfl,(bC BK359.out 1).trans rfl,(bC BK359.out 2).trans rfl⟩ (fun hHeld=>?_);refine with_tabW gangerref10_Print.tab16 gangerref10_Print.bits16 (fun HT_ HW_=>?_)
      generalize w85.drew = w86 at BK341 BK343 BK359 HB hHeld ⊢
      refine pure_ (i:=0) (N:=some 104) (v:=?_) (a':=?_) #[J,O,O,O,O,O,O,O,O,O,O,O,O,O,O] rfl rfl (any_of HT_.out (by kernel_rfl)) (fun _ _ _ h=>h) (Or.inl ⟨by rfl,?_⟩) ?_ ?_
      rotate_left
      ·intro w'
       go_simp
       with_reducible rfl
      rotate_left
      ·simp only [Act.put,sT,sZ,sS,iW,iV]
       rfl
      refine pure_ (i:=1) (N:=some 105) (v:=?_) (a':=?_) #[J,J,O,O,O,O,O,O,O,O,O,O,O,O,O] rfl rfl (any_of HT_.out (by kernel_rfl)) (fun _ _ _ h=>h) (Or.inl ⟨by rfl,?_⟩) ?_ ?_
      rotate_left
      ·intro w'
       go_simp
       with_reducible rfl
      rotate_left
      ·simp only [Act.put,sT,sZ,sS,iW,iV]
       rfl
      refine pure_ (i:=2) (N:=some 106) (v:=?_) (a':=?_) #[J,J,J,O,O,O,O,O,O,O,O,O,O,O,O] rfl rfl (any_of HT_.out (by kernel_rfl)) (fun _ _ _ h=>h) (Or.inl ⟨by rfl,?_⟩) ?_ ?_
      rotate_left
      ·intro w'
       go_simp
       with_reducible rfl
      rotate_left
      ·simp only [Act.put,sT,sZ,sS,iW,iV]
       rfl
      refine pure_ (i:=5) (N:=some 109) (v:=?_) (a':=?_) #[J,J,J,O,O,J,O,O,O,O,O,O,O,O,O] rfl rfl (any_of HT_.out (by kernel_rfl)) (fun _ _ _ h=>h) (Or.inl ⟨by rfl,?_⟩) ?_ ?_
      rotate_left
      ·intro w'
       go_simp
       with_reducible rfl
      rotate_left
      ·simp only [Act.put,sT,sZ,sS,iW,iV]
       rfl
      refine pure_ (i:=9) (N:=some 113) (v:=?_) (a':=?_) #[J,J,J,O,O,J,O,O,O,J,O,O,O,O,O] rfl rfl (any_of HT_.out (by kernel_rfl)) (fun _ _ _ h=>h) (Or.inl ⟨by rfl,?_⟩) ?_ ?_
      rotate_left
      ·intro w'
       go_simp
       with_reducible rfl
      rotate_left
      ·simp only [Act.put,sT,sZ,sS,iW,iV]
       rfl
      refine take_ (i:=3) (N:=some 107) (v:=?_) (a':=?_) #[J,J,J,J,O,J,O,O,O,J,O,O,O,O,O] rfl rfl (take_ofW HT_.out HW_.out (by kernel_rfl)) (fun _ _ _ h=>h) (Or.inl ⟨by rfl,?_⟩) hHeld ?_ ?_
      rotate_left
      ·rintro w' ⟨s0,s1,s2⟩
       go_simp
       with_reducible rfl
      rotate_left
      ·simp only [Act.put,sT,sZ,sS,iW,iV]
       rfl
      refine pure_ (i:=4) (N:=some 108) (v:=?_) (a':=?_) #[J,J,J,J,J,J,O,O,O,J,O,O,O,O,O] rfl rfl (any_of HT_.out (by kernel_rfl)) (fun _ _ _ h=>h) (Or.inl ⟨by rfl,?_⟩) ?_ ?_
      rotate_left
      ·intro w'
       go_simp
       with_reducible rfl
      rotate_left
      ·simp only [Act.put,sT,sZ,sS,iW,iV]
       rfl
      refine take_ (i:=6) (N:=some 110) (v:=?_) (a':=?_) #[J,J,J,J,J,J,J,O,O,J,O,O,O,O,O] rfl rfl (take_ofW HT_.out HW_.out (by kernel_rfl)) (fun _ _ _ h=>h) (Or.inl ⟨by rfl,?_⟩) hHeld ?_ ?_
      rotate_left
      ·rintro w' ⟨s0,s1,s2⟩
       go_simp
       with_reducible rfl
      rotate_left
      ·simp only [Act.put,sT,sZ,sS,iW,iV]
       rfl
      refine take_ (i:=10) (N:=some 114) (v:=?_) (a':=?_) #[J,J,J,J,J,J,J,O,O,J,J,O,O,O,O] rfl rfl (take_ofW HT_.out HW_.out (by kernel_rfl)) (fun _ _ _ h=>h) (Or.inl ⟨by rfl,?_⟩) hHeld ?_ ?_
      rotate_left
      ·rintro w' ⟨s0,s1,s2⟩
       go_simp
       with_reducible rfl
      rotate_left
      ·simp only [Act.put,sT,sZ,sS,iW,iV]
       rfl
      refine one_ (i:=7) (N:=some 111) #[J,J,J,J,J,J,J,J,O,J,J,O,O,O,O] rfl rfl (one_of HT_.out (by kernel_rfl)) (by decide) (fun K hK=>?_)
      refine goes_ Tryd.func32 (by kernel_rfl) rfl #[.string (⟨#[32,112,114,105,111,114,105,116,121]⟩ : ByteArray),.int .i64 ((rd_T52 l0_10 x9_2).f1)] (by rfl) rfl rfl (by (try simp only [mT,mC,mN]);first|done|rfl|(simp only [lD,lT];rfl)) ?_
      with_reducible refine (gangerref10_num.calls k2 (⟨#[32,112,114,105,111,114,105,116,121]⟩ : ByteArray) ((rd_T52 l0_10 x9_2).f1) t360 _ A74.out).mono ?_
      rintro e w87 ⟨rfl,hb⟩
      refine ⟨_,rfl,?_⟩
      have n0_:=Am (blk_below (g:=gb341) (by (with_reducible repeat (first|refine bN ?_ _|refine bD ?_|refine bA ?_ _));exact BK341.out) hb)
      have n1_:=Am (blk_below (g:=gb343) (by (with_reducible repeat (first|refine bN ?_ _|refine bD ?_|refine bA ?_ _));exact BK343.out) hb)
      have n2_:=Am (blk_below (g:=gb359) (by (with_reducible repeat (first|refine bN ?_ _|refine bD ?_|refine bA ?_ _));exact BK359.out) hb)
      have n3_:=Am (below_step (by repeat (first|(with_reducible first|exact HB.out|apply bL|apply pN|apply bE|refine bS ?_ GE341.out|refine bS ?_ GE343.out|refine bS ?_ GE359.out)|exact HB.out)) hb)
      clear BK341
      clear BK343
      clear BK359
      clear HB
      have BK341:=n0_
      have BK343:=n1_
      have BK359:=n2_
      have HB:=n3_
      clear n0_ n1_ n2_ n3_
      refine hK.out _ _ ⟨(bC BK359.out 0).trans rfl,(bC BK359.out 1).trans rfl,(bC BK359.out 2).trans rfl⟩ (fun hHeld=>?_)
      clear hK K
      refine norm_ (a':=?_) ?_ ?_
      rotate_left
      ·show Act.put _ (some 111) _ = _
       simp only [Act.put,sT,sZ,sS,iW,iV]
       rfl
      refine pure_ (i:=8) (N:=some 112) (v:=?_) (a':=?_) #[J,J,J,J,J,J,J,J,J,J,J,O,O,O,O] rfl rfl (any_of HT_.out (by kernel_rfl)) (fun _ _ _ h=>h) (Or.inl ⟨by rfl,?_⟩) ?_ ?_
      rotate_left
      ·intro w'
       go_simp
       with_reducible rfl
      rotate_left
      ·simp only [Act.put,sT,sZ,sS,iW,iV]
       rfl
      refine one_ (i:=11) (N:=some 115) #[J,J,J,J,J,J,J,J,J,J,J,J,O,O,O] rfl rfl (one_of HT_.out (by kernel_rfl)) (by decide) (fun K hK=>?_)
      refine goes_ Tryd.func32 (by kernel_rfl) rfl #[.string (⟨#[32,109,111,115,116]⟩ : ByteArray),.int .i64 ((rd_T52 l0_10 x9_2).f2)] (by rfl) rfl rfl (by (try simp only [mT,mC,mN]);first|done|rfl|(simp only [lD,lT];rfl)) ?_
      with_reducible refine (gangerref10_num.calls k2 (⟨#[32,109,111,115,116]⟩ : ByteArray) ((rd_T52 l0_10 x9_2).f2) t361 _ A76.out).mono ?_
      rintro e w88 ⟨rfl,hb⟩
      refine ⟨_,rfl,?_⟩
      have n0_:=Am (blk_below (g:=gb341) (by (with_reducible repeat (first|refine bN ?_ _|refine bD ?_|refine bA ?_ _));exact BK341.out) hb)
      have n1_:=Am (blk_below (g:=gb343) (by (with_reducible repeat (first|refine bN ?_ _|refine bD ?_|refine bA ?_ _));exact BK343.out) hb)
      have n2_:=Am (blk_below (g:=gb359) (by (with_reducible repeat (first|refine bN ?_ _|refine bD ?_|refine bA ?_ _));exact BK359.out) hb)
      have n3_:=Am (below_step (by repeat (first|(with_reducible first|exact HB.out|apply bL|apply pN|apply bE|refine bS ?_ GE341.out|refine bS ?_ GE343.out|refine bS ?_ GE359.out)|exact HB.out)) hb)
      clear BK341
      clear BK343
      clear BK359
      clear HB
      have BK341:=n0_
      have BK343:=n1_
      have BK359:=n2_
      have HB:=n3_
      clear n0_ n1_ n2_ n3_
      refine hK.out _ _ ⟨(bC BK359.out 0).trans rfl,(bC BK359.out 1).trans rfl,(bC BK359.out 2).trans rfl⟩ (fun hHeld=>?_)
      clear hK K
      refine norm_ (a':=?_) ?_ ?_
      rotate_left
      ·show Act.put _ (some 115) _ = _
       simp only [Act.put,sT,sZ,sS,iW,iV]
       rfl
      refine pure_ (i:=12) (N:=some 116) (v:=?_) (a':=?_) #[J,J,J,J,J,J,J,J,J,J,J,J,J,O,O] rfl rfl (any_of HT_.out (by kernel_rfl)) (fun _ _ _ h=>h) (Or.inl ⟨by rfl,?_⟩) ?_ ?_
      rotate_left
      ·intro w'
       go_simp
       with_reducible rfl
      rotate_left
      ·simp only [Act.put,sT,sZ,sS,iW,iV]
       rfl
      refine pure_ (i:=13) (N:=some 117) (v:=?_) (a':=?_) #[J,J,J,J,J,J,J,J,J,J,J,J,J,J,O] rfl rfl (any_of HT_.out (by kernel_rfl)) (fun _ _ _ h=>h) (Or.inl ⟨by rfl,?_⟩) ?_ ?_
      rotate_left
      ·intro w'
       go_simp
       with_reducible rfl
      rotate_left
      ·simp only [Act.put,sT,sZ,sS,iW,iV]
       rfl
      refine pure_ (i:=14) (N:=some 6) (v:=?_) (a':=?_) #[J,J,J,J,J,J,J,J,J,J,J,J,J,J,J] rfl rfl (any_of HT_.out (by kernel_rfl)) (fun _ _ _ h=>h) (Or.inl ⟨by rfl,?_⟩) ?_ ?_
      rotate_left
      ·intro w'
       go_simp
       with_reducible rfl
      rotate_left
      ·simp only [Act.put,sT,sZ,sS,iW,iV]
       rfl
      refine done_ (done_of HT_.out (by kernel_rfl)) ?_
      try go_wp2
      go_roundg k2
      case measure=>have:=HK1.out;have:=HK2.out;omega
      case rel=>exact ⟨(((((x6_2 ++ (⟨#[113,111,115,32]⟩ : ByteArray)) ++ ((rd_T52 l0_10 x9_2).f0)) ++ t360) ++ t361) ++ (⟨#[10]⟩ : ByteArray)),(wrap64 (x9_2 + 1)),(by first|rfl|(simp;done)|(simp [*];done)),(by first|rfl|(simp;done)|(simp [*];done)),H',⟨by have:=HK1.out;have:=HK2.out;omega⟩,⟨by (with_reducible repeat (first|refine bN ?_ _|refine bD ?_|refine bA ?_ _));exact BK341.out⟩,⟨by (with_reducible repeat (first|refine bN ?_ _|refine bD ?_|refine bA ?_ _));exact BK343.out⟩,⟨by repeat (first|(with_reducible first|exact HB.out|apply bL|apply pN|apply bE|refine bS ?_ GE341.out|refine bS ?_ GE343.out|refine bS ?_ GE359.out)|exact HB.out)⟩⟩
     rw [if_neg c70] at H
     have c70b0 : decide (x9_2 < (l0_10.length : Int)) = false:=decide_eq_false c70
     clear c70
     have H':=Am H
     clear H
     have hnb89:=NB341_343.out
     have hnc89:=NB343_341.out
     obtain ⟨X90_0,X90_1,X90_2,X90_3,X90_4,X90_5,X90_6,X90_7,X90_8,X90_9,X90_10,X90_11,Y90_0,Y90_1,Y90_2,Y90_3,Y90_4,Y90_5,Y90_6,Y90_7,Y90_8,Y90_9,Y90_10,Y90_11⟩:=kc12 (w:=wr) (g:=gb341) BK341.out
     go_wp2
     go_loopg [6,11] k2 (fun kq v6 v11 w'=>∃ (x6_3 : ByteArray) (x11_3 : Int),v6 = .string x6_3∧v11 = .int .i64 x11_3∧Aside0 (gangerref10_Print.l2 kq x6_3 x11_3 a0_0 a0_1 a0_2 a0_3 a0_4 a0_5 a0_6 a0_7 a0_8 l0_9 l0_10 l0_11 = some (r1,r2))∧Aside0 (kq≤k2)∧Aside0 (w'.heap[gb341]? = some (.cells #[.int .i64 a0_0,.int .i64 a0_1,.int .i64 a0_2,.int .i64 a0_3,.int .i64 a0_4,.int .i64 a0_5,.int .i64 a0_6,.int .i64 a0_7,.int .i64 a0_8,(.slice A0_9 l0_9.length c0_9),(.slice A0_10 l0_10.length c0_10),(.slice A0_11 l0_11.length c0_11)] 28 (0,0)))∧Aside0 (w'.heap[gb343]? = some (.cells #[.int .i64 a0_4,.int .i64 a0_5,.int .i64 a0_6,.int .i64 a0_7,.int .i64 a0_8] 23 (0,0)))∧Aside0 (Below w.heap.size w w'))
     case atStart=>exact ⟨(x6_2),(0),(by first|rfl|(simp;done)|(simp [*];done)),(by first|rfl|(simp;done)|(simp [*];done)),H',⟨Nat.le_refl _⟩,⟨by (with_reducible repeat (first|refine bN ?_ _|refine bD ?_|refine bA ?_ _));exact BK341.out⟩,⟨by (with_reducible repeat (first|refine bN ?_ _|refine bD ?_|refine bA ?_ _));exact BK343.out⟩,⟨by repeat (first|(with_reducible first|exact HB.out|apply bL|apply pN|apply bE|refine bS ?_ GE341.out|refine bS ?_ GE343.out)|exact HB.out)⟩⟩
     case round =>
      clear H'
      obtain ⟨x6_3,x11_3,rfl,rfl,HA,HK3,BK341,BK343,HB⟩:=hrel
      cases gk with
      | zero=>exact absurd HA.out (by simp [gangerref10_Print.l2])
      | succ k3 =>
       have H:=HA.out
       clear HA
       simp only [gangerref10_Print.l2] at H
       by_cases c91 : x11_3 < (l0_11.length : Int)
       rotate_left
       ·rw [if_neg c91] at H
        have c91b0 : decide (x11_3 < (l0_11.length : Int)) = false:=decide_eq_false c91
        clear c91
        simp only [Option.some.injEq,Prod.mk.injEq] at H
        obtain ⟨rfl,rfl⟩:=H
        have hnb118:=NB341_343.out
        have hnc118:=NB343_341.out
        obtain ⟨X119_0,X119_1,X119_2,X119_3,X119_4,X119_5,X119_6,X119_7,X119_8,X119_9,X119_10,X119_11,Y119_0,Y119_1,Y119_2,Y119_3,Y119_4,Y119_5,Y119_6,Y119_7,Y119_8,Y119_9,Y119_10,Y119_11⟩:=kc12 (w:=wr) (g:=gb341) BK341.out
        go_wp2
        go_ret2
        exact ⟨by first|rfl|(simp [errW_none,errW_some] <;> rfl)|(simp [*,errW_none,errW_some] <;> rfl),by repeat (first|(with_reducible first|exact HB.out|apply bL|apply pN|apply bE|refine bS ?_ GE341.out|refine bS ?_ GE343.out)|exact HB.out)⟩
       rw [if_pos c91] at H
       have c91b0 : decide (x11_3 < (l0_11.length : Int)) = true:=decide_eq_true c91
       clear c91
       by_cases c92 : 0≤x11_3
       rotate_left
       ·rw [if_neg c92] at H
        exact absurd H (by simp)
       rw [if_pos c92] at H
       have c92b0 : decide (0≤x11_3) = true:=decide_eq_true c92
       clear c92
       by_cases c93 : x6_3.size + 8≤9223372036854775807
       rotate_left
       ·rw [if_neg c93] at H
        exact absurd H (by simp)
       rw [if_pos c93] at H
       have c93b0:=eq_true c93
       have c93b1 : decide (x6_3.size + 8≤9223372036854775807) = true:=decide_eq_true c93
       try have c93b2 : (9223372036854775807 < x6_3.size + 8) = False:=eq_false (Nat.not_lt.2 c93)
       try (have c93b3:=c93b2;simp only [ByteArray.size_append,size_lit1,size_lit0,Nat.add_zero] at c93b3)
       try (have c93b5:=c93b2;simp only [ByteArray.size_append,size_litA,List.size_toArray,List.length_cons,List.length_nil,Nat.zero_add,Nat.reduceAdd] at c93b5)
       by_cases c94 : (x6_3 ++ (⟨#[97,99,99,111,117,110,116,32]⟩ : ByteArray)).size + ((rd_T48 l0_11 x11_3).f0).size≤9223372036854775807
       rotate_left
       ·rw [if_neg c94] at H
        exact absurd H (by simp)
       rw [if_pos c94] at H
       have c94b0:=eq_true c94
       have c94b1 : decide ((x6_3 ++ (⟨#[97,99,99,111,117,110,116,32]⟩ : ByteArray)).size + ((rd_T48 l0_11 x11_3).f0).size≤9223372036854775807) = true:=decide_eq_true c94
       try have c94b2 : (9223372036854775807 < (x6_3 ++ (⟨#[97,99,99,111,117,110,116,32]⟩ : ByteArray)).size + ((rd_T48 l0_11 x11_3).f0).size) = False:=eq_false (Nat.not_lt.2 c94)
       try (have c94b3:=c94b2;simp only [ByteArray.size_append,size_lit1,size_lit0,Nat.add_zero] at c94b3)
       try (have c94b5:=c94b2;simp only [ByteArray.size_append,size_litA,List.size_toArray,List.length_cons,List.length_nil,Nat.zero_add,Nat.reduceAdd] at c94b5)
       by_cases c95 : x11_3 > 0
       rotate_left
       ·rw [if_neg c95] at H
        have c95b0 : decide (0 < x11_3) = false:=decide_eq_false c95
        clear c95
        replace H:=oB H
        obtain ⟨t365,A1080,H⟩:=H
        try dsimp only at H
        have A108:=Am A1080
        clear A1080
        by_cases c109 : ((x6_3 ++ (⟨#[97,99,99,111,117,110,116,32]⟩ : ByteArray)) ++ ((rd_T48 l0_11 x11_3).f0)).size + t365.size≤9223372036854775807
        rotate_left
        ·rw [if_neg c109] at H
         exact absurd H (by simp)
        rw [if_pos c109] at H
        have c109b0:=eq_true c109
        have c109b1 : decide (((x6_3 ++ (⟨#[97,99,99,111,117,110,116,32]⟩ : ByteArray)) ++ ((rd_T48 l0_11 x11_3).f0)).size + t365.size≤9223372036854775807) = true:=decide_eq_true c109
        try have c109b2 : (9223372036854775807 < ((x6_3 ++ (⟨#[97,99,99,111,117,110,116,32]⟩ : ByteArray)) ++ ((rd_T48 l0_11 x11_3).f0)).size + t365.size) = False:=eq_false (Nat.not_lt.2 c109)
        try (have c109b3:=c109b2;simp only [ByteArray.size_append,size_lit1,size_lit0,Nat.add_zero] at c109b3)
        try (have c109b5:=c109b2;simp only [ByteArray.size_append,size_litA,List.size_toArray,List.length_cons,List.length_nil,Nat.zero_add,Nat.reduceAdd] at c109b5)
        by_cases c110 : (((x6_3 ++ (⟨#[97,99,99,111,117,110,116,32]⟩ : ByteArray)) ++ ((rd_T48 l0_11 x11_3).f0)) ++ t365).size + 1≤9223372036854775807
        rotate_left
        ·rw [if_neg c110] at H
         exact absurd H (by simp)
        rw [if_pos c110] at H
        have c110b0:=eq_true c110
        have c110b1 : decide ((((x6_3 ++ (⟨#[97,99,99,111,117,110,116,32]⟩ : ByteArray)) ++ ((rd_T48 l0_11 x11_3).f0)) ++ t365).size + 1≤9223372036854775807) = true:=decide_eq_true c110
        try have c110b2 : (9223372036854775807 < (((x6_3 ++ (⟨#[97,99,99,111,117,110,116,32]⟩ : ByteArray)) ++ ((rd_T48 l0_11 x11_3).f0)) ++ t365).size + 1) = False:=eq_false (Nat.not_lt.2 c110)
        try (have c110b3:=c110b2;simp only [ByteArray.size_append,size_lit1,size_lit0,Nat.add_zero] at c110b3)
        try (have c110b5:=c110b2;simp only [ByteArray.size_append,size_litA,List.size_toArray,List.length_cons,List.length_nil,Nat.zero_add,Nat.reduceAdd] at c110b5)
        have H':=Am H
        clear H
        have hnb111:=NB341_343.out
        have hnc111:=NB343_341.out
        obtain ⟨X112_0,X112_1,X112_2,X112_3,X112_4,X112_5,X112_6,X112_7,X112_8,X112_9,X112_10,X112_11,Y112_0,Y112_1,Y112_2,Y112_3,Y112_4,Y112_5,Y112_6,Y112_7,Y112_8,Y112_9,Y112_10,Y112_11⟩:=kc12 (w:=wr) (g:=gb341) BK341.out
        have p362 : 0≤(x11_3 : Int):=of_decide_eq_true (by first|(with_reducible assumption)|assumption)
        have q362 : x11_3 < (l0_11.length : Int):=of_decide_eq_true (by first|(with_reducible assumption)|assumption)
        obtain ⟨ad362,e362,hx362_0,hx362_1,hx362_2⟩:=at_T48 HR0_11.out x11_3 p362 q362
        cases e362
        replace hx362_0:=(HB.out.cell (wB w _ hx362_0)).trans hx362_0
        replace hx362_1:=(HB.out.cell (wB w _ hx362_1)).trans hx362_1
        replace hx362_2:=(HB.out.cell (wB w _ hx362_2)).trans hx362_2
        replace p362:=eq_true p362
        replace q362:=eq_true q362
        go_wp2_with (first|((with_reducible refine gD (N:=12) rfl ?_);refine box_event ?hg (N:=12) ?hd (cs:=#[.string (⟨#[]⟩ : ByteArray),.string (⟨#[]⟩ : ByteArray),.int .i64 0]) (t:=48) ?hr ?_;(case hd=>rfl);(case hg=>rfl);(case hr=>first|(go_simp;done)|(go_simp;rfl));intro gb363 hg w113 hbox hb;have n0_:=Am (blk_below (g:=gb341) (by (with_reducible repeat (first|refine bN ?_ _|refine bD ?_|refine bA ?_ _));exact BK341.out) hb);have n1_:=Am (blk_below (g:=gb343) (by (with_reducible repeat (first|refine bN ?_ _|refine bD ?_|refine bA ?_ _));exact BK343.out) hb);have n2_:=Am (below_step (by repeat (first|(with_reducible first|exact HB.out|apply bL|apply pN|apply bE|refine bS ?_ GE341.out|refine bS ?_ GE343.out)|exact HB.out)) hb);have n3_:=Am (hbox);have n4_:=Am ((by rw [hg];exact (bZ (by repeat (first|(with_reducible first|exact HB.out|apply bL|apply pN|apply bE|refine bS ?_ GE341.out|refine bS ?_ GE343.out)|exact HB.out))) : w.heap.size≤gb363));have n5_:=n4_;have n6_:=Am ((by rw [hg];exact Nat.ne_of_lt (blk_lt (g:=gb341) (by (with_reducible repeat (first|refine bN ?_ _|refine bD ?_|refine bA ?_ _));exact BK341.out)) : gb341 ≠ gb363));have n7_:=Am ((by rw [hg];exact Nat.ne_of_gt (blk_lt (g:=gb341) (by (with_reducible repeat (first|refine bN ?_ _|refine bD ?_|refine bA ?_ _));exact BK341.out)) : gb363 ≠ gb341));have n8_:=Am ((by rw [hg];exact Nat.ne_of_lt (blk_lt (g:=gb343) (by (with_reducible repeat (first|refine bN ?_ _|refine bD ?_|refine bA ?_ _));exact BK343.out)) : gb343 ≠ gb363));have n9_:=Am ((by rw [hg];exact Nat.ne_of_gt (blk_lt (g:=gb343) (by (with_reducible repeat (first|refine bN ?_ _|refine bD ?_|refine bA ?_ _));exact BK343.out)) : gb363 ≠ gb343));clear BK341;clear BK343;clear HB;have BK341:=n0_;have BK343:=n1_;have HB:=n2_;have BK363:=n3_;have GW363:=n4_;have GE363:=n5_;have NB341_363:=n6_;have NB363_341:=n7_;have NB343_363:=n8_;have NB363_343:=n9_;clear n0_ n1_ n2_ n3_ n4_ n5_ n6_ n7_ n8_ n9_;clear hb hbox hg;have hnb114:=NB363_341.out;have hnc114:=NB341_363.out;have hnb115:=NB363_343.out;have hnc115:=NB343_363.out;obtain ⟨X116_0,X116_1,X116_2,Y116_0,Y116_1,Y116_2⟩:=kc3 (w:=w113) (g:=gb363) BK363.out)|((with_reducible refine gC (f:=32) rfl ?_);refine goesL_ (some 145) rfl rfl Tryd.func32 (by kernel_rfl) rfl #[.string (⟨#[32,115,104,97,114,101,115]⟩ : ByteArray),.int .i64 ((rd_T48 l0_11 x11_3).f2)] rfl (by (try simp only [mT,mC,mN]);first|done|rfl|(simp only [lD,lT];rfl)) ?_;(with_reducible refine (gangerref10_num.calls k3 (⟨#[32,115,104,97,114,101,115]⟩ : ByteArray) ((rd_T48 l0_11 x11_3).f2) t365 _ A108.out).mono ?_);rintro e w117 ⟨rfl,hb⟩;refine ⟨_,rfl,?_⟩;have n0_:=Am (blk_below (g:=gb341) (o:=.cells #[.int .i64 a0_0,.int .i64 a0_1,.int .i64 a0_2,.int .i64 a0_3,.int .i64 a0_4,.int .i64 a0_5,.int .i64 a0_6,.int .i64 a0_7,.int .i64 a0_8,.slice A0_9 l0_9.length c0_9,.slice A0_10 l0_10.length c0_10,.slice (some ad362) l0_11.length c0_11] 28 (0,0)) (by (with_reducible repeat (first|refine bN ?_ _|refine bD ?_|refine bA ?_ _));refine blk_far ?_ NB341_363.out _;(with_reducible repeat (first|refine bN ?_ _|refine bD ?_|refine bA ?_ _));refine blk_far ?_ NB341_363.out _;(with_reducible repeat (first|refine bN ?_ _|refine bD ?_|refine bA ?_ _));refine blk_far ?_ NB341_363.out _;(with_reducible repeat (first|refine bN ?_ _|refine bD ?_|refine bA ?_ _));exact BK341.out) hb);have n1_:=Am (blk_below (g:=gb343) (o:=.cells #[.int .i64 a0_4,.int .i64 a0_5,.int .i64 a0_6,.int .i64 a0_7,.int .i64 a0_8] 23 (0,0)) (by (with_reducible repeat (first|refine bN ?_ _|refine bD ?_|refine bA ?_ _));refine blk_far ?_ NB343_363.out _;(with_reducible repeat (first|refine bN ?_ _|refine bD ?_|refine bA ?_ _));refine blk_far ?_ NB343_363.out _;(with_reducible repeat (first|refine bN ?_ _|refine bD ?_|refine bA ?_ _));refine blk_far ?_ NB343_363.out _;(with_reducible repeat (first|refine bN ?_ _|refine bD ?_|refine bA ?_ _));exact BK343.out) hb);have n2_:=Am (blk_below (g:=gb363) (o:=.cells #[.string ((rd_T48 l0_11 x11_3).f0),.string ((rd_T48 l0_11 x11_3).f1),.int .i64 ((rd_T48 l0_11 x11_3).f2)] 48 (0,0)) (by (with_reducible repeat (first|refine bN ?_ _|refine bD ?_|refine bA ?_ _));refine blk_put (cs:=#[.string ((rd_T48 l0_11 x11_3).f0),.string ((rd_T48 l0_11 x11_3).f1),.int .i64 0]) ?_ 2 _ rfl;(with_reducible repeat (first|refine bN ?_ _|refine bD ?_|refine bA ?_ _));refine blk_put (cs:=#[.string ((rd_T48 l0_11 x11_3).f0),.string (⟨#[]⟩ : ByteArray),.int .i64 0]) ?_ 1 _ rfl;(with_reducible repeat (first|refine bN ?_ _|refine bD ?_|refine bA ?_ _));refine blk_put (cs:=#[.string (⟨#[]⟩ : ByteArray),.string (⟨#[]⟩ : ByteArray),.int .i64 0]) ?_ 0 _ rfl;(with_reducible repeat (first|refine bN ?_ _|refine bD ?_|refine bA ?_ _));exact BK363.out) hb);have n3_:=Am (below_step (by repeat (first|(with_reducible first|exact HB.out|apply bL|apply pN|apply bE|refine bS ?_ GE341.out|refine bS ?_ GE343.out|refine bS ?_ GE363.out)|exact HB.out)) hb);clear BK341;clear BK343;clear BK363;clear HB;have BK341:=n0_;have BK343:=n1_;have BK363:=n2_;have HB:=n3_;clear n0_ n1_ n2_ n3_))
        go_roundg k3
        case measure=>have:=HK1.out;have:=HK2.out;have:=HK3.out;omega
        case rel=>exact ⟨((((x6_3 ++ (⟨#[97,99,99,111,117,110,116,32]⟩ : ByteArray)) ++ ((rd_T48 l0_11 x11_3).f0)) ++ t365) ++ (⟨#[10]⟩ : ByteArray)),(wrap64 (x11_3 + 1)),(by first|rfl|(simp;done)|(simp [*];done)),(by first|rfl|(simp;done)|(simp [*];done)),H',⟨by have:=HK1.out;have:=HK2.out;have:=HK3.out;omega⟩,⟨by (with_reducible repeat (first|refine bN ?_ _|refine bD ?_|refine bA ?_ _));exact BK341.out⟩,⟨by (with_reducible repeat (first|refine bN ?_ _|refine bD ?_|refine bA ?_ _));exact BK343.out⟩,⟨by repeat (first|(with_reducible first|exact HB.out|apply bL|apply pN|apply bE|refine bS ?_ GE341.out|refine bS ?_ GE343.out|refine bS ?_ GE363.out)|exact HB.out)⟩⟩
       rw [if_pos c95] at H
       have c95b0 : decide (0 < x11_3) = true:=decide_eq_true c95
       clear c95
       by_cases c96 : ((x6_3 ++ (⟨#[97,99,99,111,117,110,116,32]⟩ : ByteArray)) ++ ((rd_T48 l0_11 x11_3).f0)).size + 8≤9223372036854775807
       rotate_left
       ·rw [if_neg c96] at H
        exact absurd H (by simp)
       rw [if_pos c96] at H
       have c96b0:=eq_true c96
       have c96b1 : decide (((x6_3 ++ (⟨#[97,99,99,111,117,110,116,32]⟩ : ByteArray)) ++ ((rd_T48 l0_11 x11_3).f0)).size + 8≤9223372036854775807) = true:=decide_eq_true c96
       try have c96b2 : (9223372036854775807 < ((x6_3 ++ (⟨#[97,99,99,111,117,110,116,32]⟩ : ByteArray)) ++ ((rd_T48 l0_11 x11_3).f0)).size + 8) = False:=eq_false (Nat.not_lt.2 c96)
       try (have c96b3:=c96b2;simp only [ByteArray.size_append,size_lit1,size_lit0,Nat.add_zero] at c96b3)
       try (have c96b5:=c96b2;simp only [ByteArray.size_append,size_litA,List.size_toArray,List.length_cons,List.length_nil,Nat.zero_add,Nat.reduceAdd] at c96b5)
       by_cases c97 : (((x6_3 ++ (⟨#[97,99,99,111,117,110,116,32]⟩ : ByteArray)) ++ ((rd_T48 l0_11 x11_3).f0)) ++ (⟨#[32,112,97,114,101,110,116,32]⟩ : ByteArray)).size + ((rd_T48 l0_11 x11_3).f1).size≤9223372036854775807
       rotate_left
       ·rw [if_neg c97] at H
        exact absurd H (by simp)
       rw [if_pos c97] at H
       have c97b0:=eq_true c97
       have c97b1 : decide ((((x6_3 ++ (⟨#[97,99,99,111,117,110,116,32]⟩ : ByteArray)) ++ ((rd_T48 l0_11 x11_3).f0)) ++ (⟨#[32,112,97,114,101,110,116,32]⟩ : ByteArray)).size + ((rd_T48 l0_11 x11_3).f1).size≤9223372036854775807) = true:=decide_eq_true c97
       try have c97b2 : (9223372036854775807 < (((x6_3 ++ (⟨#[97,99,99,111,117,110,116,32]⟩ : ByteArray)) ++ ((rd_T48 l0_11 x11_3).f0)) ++ (⟨#[32,112,97,114,101,110,116,32]⟩ : ByteArray)).size + ((rd_T48 l0_11 x11_3).f1).size) = False:=eq_false (Nat.not_lt.2 c97)
       try (have c97b3:=c97b2;simp only [ByteArray.size_append,size_lit1,size_lit0,Nat.add_zero] at c97b3)
       try (have c97b5:=c97b2;simp only [ByteArray.size_append,size_litA,List.size_toArray,List.length_cons,List.length_nil,Nat.zero_add,Nat.reduceAdd] at c97b5)
       replace H:=oB H
       obtain ⟨t364,A980,H⟩:=H
       try dsimp only at H
       have A98:=Am A980
       clear A980
       by_cases c99 : ((((x6_3 ++ (⟨#[97,99,99,111,117,110,116,32]⟩ : ByteArray)) ++ ((rd_T48 l0_11 x11_3).f0)) ++ (⟨#[32,112,97,114,101,110,116,32]⟩ : ByteArray)) ++ ((rd_T48 l0_11 x11_3).f1)).size + t364.size≤9223372036854775807
       rotate_left
       ·rw [if_neg c99] at H
        exact absurd H (by simp)
       rw [if_pos c99] at H
       have c99b0:=eq_true c99
       have c99b1 : decide (((((x6_3 ++ (⟨#[97,99,99,111,117,110,116,32]⟩ : ByteArray)) ++ ((rd_T48 l0_11 x11_3).f0)) ++ (⟨#[32,112,97,114,101,110,116,32]⟩ : ByteArray)) ++ ((rd_T48 l0_11 x11_3).f1)).size + t364.size≤9223372036854775807) = true:=decide_eq_true c99
       try have c99b2 : (9223372036854775807 < ((((x6_3 ++ (⟨#[97,99,99,111,117,110,116,32]⟩ : ByteArray)) ++ ((rd_T48 l0_11 x11_3).f0)) ++ (⟨#[32,112,97,114,101,110,116,32]⟩ : ByteArray)) ++ ((rd_T48 l0_11 x11_3).f1)).size + t364.size) = False:=eq_false (Nat.not_lt.2 c99)
       try (have c99b3:=c99b2;simp only [ByteArray.size_append,size_lit1,size_lit0,Nat.add_zero] at c99b3)
       try (have c99b5:=c99b2;simp only [ByteArray.size_append,size_litA,List.size_toArray,List.length_cons,List.length_nil,Nat.zero_add,Nat.reduceAdd] at c99b5)
       by_cases c100 : (((((x6_3 ++ (⟨#[97,99,99,111,117,110,116,32]⟩ : ByteArray)) ++ ((rd_T48 l0_11 x11_3).f0)) ++ (⟨#[32,112,97,114,101,110,116,32]⟩ : ByteArray)) ++ ((rd_T48 l0_11 x11_3).f1)) ++ t364).size + 1≤9223372036854775807
       rotate_left
       ·rw [if_neg c100] at H
        exact absurd H (by simp)
       rw [if_pos c100] at H
       have c100b0:=eq_true c100
       have c100b1 : decide ((((((x6_3 ++ (⟨#[97,99,99,111,117,110,116,32]⟩ : ByteArray)) ++ ((rd_T48 l0_11 x11_3).f0)) ++ (⟨#[32,112,97,114,101,110,116,32]⟩ : ByteArray)) ++ ((rd_T48 l0_11 x11_3).f1)) ++ t364).size + 1≤9223372036854775807) = true:=decide_eq_true c100
       try have c100b2 : (9223372036854775807 < (((((x6_3 ++ (⟨#[97,99,99,111,117,110,116,32]⟩ : ByteArray)) ++ ((rd_T48 l0_11 x11_3).f0)) ++ (⟨#[32,112,97,114,101,110,116,32]⟩ : ByteArray)) ++ ((rd_T48 l0_11 x11_3).f1)) ++ t364).size + 1) = False:=eq_false (Nat.not_lt.2 c100)
       try (have c100b3:=c100b2;simp only [ByteArray.size_append,size_lit1,size_lit0,Nat.add_zero] at c100b3)
       try (have c100b5:=c100b2;simp only [ByteArray.size_append,size_litA,List.size_toArray,List.length_cons,List.length_nil,Nat.zero_add,Nat.reduceAdd] at c100b5)
       have H':=Am H
       clear H
       have hnb101:=NB341_343.out
       have hnc101:=NB343_341.out
       obtain ⟨X102_0,X102_1,X102_2,X102_3,X102_4,X102_5,X102_6,X102_7,X102_8,X102_9,X102_10,X102_11,Y102_0,Y102_1,Y102_2,Y102_3,Y102_4,Y102_5,Y102_6,Y102_7,Y102_8,Y102_9,Y102_10,Y102_11⟩:=kc12 (w:=wr) (g:=gb341) BK341.out
       have p362 : 0≤(x11_3 : Int):=of_decide_eq_true (by first|(with_reducible assumption)|assumption)
       have q362 : x11_3 < (l0_11.length : Int):=of_decide_eq_true (by first|(with_reducible assumption)|assumption)
       obtain ⟨ad362,e362,hx362_0,hx362_1,hx362_2⟩:=at_T48 HR0_11.out x11_3 p362 q362
       cases e362
       replace hx362_0:=(HB.out.cell (wB w _ hx362_0)).trans hx362_0
       replace hx362_1:=(HB.out.cell (wB w _ hx362_1)).trans hx362_1
       replace hx362_2:=(HB.out.cell (wB w _ hx362_2)).trans hx362_2
       replace p362:=eq_true p362
       replace q362:=eq_true q362
       go_wp2_with (first|((with_reducible refine gD (N:=12) rfl ?_);refine box_event ?hg (N:=12) ?hd (cs:=#[.string (⟨#[]⟩ : ByteArray),.string (⟨#[]⟩ : ByteArray),.int .i64 0]) (t:=48) ?hr ?_;(case hd=>rfl);(case hg=>rfl);(case hr=>first|(go_simp;done)|(go_simp;rfl));intro gb363 hg w103 hbox hb;have n0_:=Am (blk_below (g:=gb341) (by (with_reducible repeat (first|refine bN ?_ _|refine bD ?_|refine bA ?_ _));exact BK341.out) hb);have n1_:=Am (blk_below (g:=gb343) (by (with_reducible repeat (first|refine bN ?_ _|refine bD ?_|refine bA ?_ _));exact BK343.out) hb);have n2_:=Am (below_step (by repeat (first|(with_reducible first|exact HB.out|apply bL|apply pN|apply bE|refine bS ?_ GE341.out|refine bS ?_ GE343.out)|exact HB.out)) hb);have n3_:=Am (hbox);have n4_:=Am ((by rw [hg];exact (bZ (by repeat (first|(with_reducible first|exact HB.out|apply bL|apply pN|apply bE|refine bS ?_ GE341.out|refine bS ?_ GE343.out)|exact HB.out))) : w.heap.size≤gb363));have n5_:=n4_;have n6_:=Am ((by rw [hg];exact Nat.ne_of_lt (blk_lt (g:=gb341) (by (with_reducible repeat (first|refine bN ?_ _|refine bD ?_|refine bA ?_ _));exact BK341.out)) : gb341 ≠ gb363));have n7_:=Am ((by rw [hg];exact Nat.ne_of_gt (blk_lt (g:=gb341) (by (with_reducible repeat (first|refine bN ?_ _|refine bD ?_|refine bA ?_ _));exact BK341.out)) : gb363 ≠ gb341));have n8_:=Am ((by rw [hg];exact Nat.ne_of_lt (blk_lt (g:=gb343) (by (with_reducible repeat (first|refine bN ?_ _|refine bD ?_|refine bA ?_ _));exact BK343.out)) : gb343 ≠ gb363));have n9_:=Am ((by rw [hg];exact Nat.ne_of_gt (blk_lt (g:=gb343) (by (with_reducible repeat (first|refine bN ?_ _|refine bD ?_|refine bA ?_ _));exact BK343.out)) : gb363 ≠ gb343));clear BK341;clear BK343;clear HB;have BK341:=n0_;have BK343:=n1_;have HB:=n2_;have BK363:=n3_;have GW363:=n4_;have GE363:=n5_;have NB341_363:=n6_;have NB363_341:=n7_;have NB343_363:=n8_;have NB363_343:=n9_;clear n0_ n1_ n2_ n3_ n4_ n5_ n6_ n7_ n8_ n9_;clear hb hbox hg;have hnb104:=NB363_341.out;have hnc104:=NB341_363.out;have hnb105:=NB363_343.out;have hnc105:=NB343_363.out;obtain ⟨X106_0,X106_1,X106_2,Y106_0,Y106_1,Y106_2⟩:=kc3 (w:=w103) (g:=gb363) BK363.out)|((with_reducible refine gC (f:=32) rfl ?_);refine goesL_ (some 145) rfl rfl Tryd.func32 (by kernel_rfl) rfl #[.string (⟨#[32,115,104,97,114,101,115]⟩ : ByteArray),.int .i64 ((rd_T48 l0_11 x11_3).f2)] rfl (by (try simp only [mT,mC,mN]);first|done|rfl|(simp only [lD,lT];rfl)) ?_;(with_reducible refine (gangerref10_num.calls k3 (⟨#[32,115,104,97,114,101,115]⟩ : ByteArray) ((rd_T48 l0_11 x11_3).f2) t364 _ A98.out).mono ?_);rintro e w107 ⟨rfl,hb⟩;refine ⟨_,rfl,?_⟩;have n0_:=Am (blk_below (g:=gb341) (o:=.cells #[.int .i64 a0_0,.int .i64 a0_1,.int .i64 a0_2,.int .i64 a0_3,.int .i64 a0_4,.int .i64 a0_5,.int .i64 a0_6,.int .i64 a0_7,.int .i64 a0_8,.slice A0_9 l0_9.length c0_9,.slice A0_10 l0_10.length c0_10,.slice (some ad362) l0_11.length c0_11] 28 (0,0)) (by (with_reducible repeat (first|refine bN ?_ _|refine bD ?_|refine bA ?_ _));refine blk_far ?_ NB341_363.out _;(with_reducible repeat (first|refine bN ?_ _|refine bD ?_|refine bA ?_ _));refine blk_far ?_ NB341_363.out _;(with_reducible repeat (first|refine bN ?_ _|refine bD ?_|refine bA ?_ _));refine blk_far ?_ NB341_363.out _;(with_reducible repeat (first|refine bN ?_ _|refine bD ?_|refine bA ?_ _));exact BK341.out) hb);have n1_:=Am (blk_below (g:=gb343) (o:=.cells #[.int .i64 a0_4,.int .i64 a0_5,.int .i64 a0_6,.int .i64 a0_7,.int .i64 a0_8] 23 (0,0)) (by (with_reducible repeat (first|refine bN ?_ _|refine bD ?_|refine bA ?_ _));refine blk_far ?_ NB343_363.out _;(with_reducible repeat (first|refine bN ?_ _|refine bD ?_|refine bA ?_ _));refine blk_far ?_ NB343_363.out _;(with_reducible repeat (first|refine bN ?_ _|refine bD ?_|refine bA ?_ _));refine blk_far ?_ NB343_363.out _;(with_reducible repeat (first|refine bN ?_ _|refine bD ?_|refine bA ?_ _));exact BK343.out) hb);have n2_:=Am (blk_below (g:=gb363) (o:=.cells #[.string ((rd_T48 l0_11 x11_3).f0),.string ((rd_T48 l0_11 x11_3).f1),.int .i64 ((rd_T48 l0_11 x11_3).f2)] 48 (0,0)) (by (with_reducible repeat (first|refine bN ?_ _|refine bD ?_|refine bA ?_ _));refine blk_put (cs:=#[.string ((rd_T48 l0_11 x11_3).f0),.string ((rd_T48 l0_11 x11_3).f1),.int .i64 0]) ?_ 2 _ rfl;(with_reducible repeat (first|refine bN ?_ _|refine bD ?_|refine bA ?_ _));refine blk_put (cs:=#[.string ((rd_T48 l0_11 x11_3).f0),.string (⟨#[]⟩ : ByteArray),.int .i64 0]) ?_ 1 _ rfl;(with_reducible repeat (first|refine bN ?_ _|refine bD ?_|refine bA ?_ _));refine blk_put (cs:=#[.string (⟨#[]⟩ : ByteArray),.string (⟨#[]⟩ : ByteArray),.int .i64 0]) ?_ 0 _ rfl;(with_reducible repeat (first|refine bN ?_ _|refine bD ?_|refine bA ?_ _));exact BK363.out) hb);have n3_:=Am (below_step (by repeat (first|(with_reducible first|exact HB.out|apply bL|apply pN|apply bE|refine bS ?_ GE341.out|refine bS ?_ GE343.out|refine bS ?_ GE363.out)|exact HB.out)) hb);clear BK341;clear BK343;clear BK363;clear HB;have BK341:=n0_;have BK343:=n1_;have BK363:=n2_;have HB:=n3_;clear n0_ n1_ n2_ n3_))
       go_roundg k3
       case measure=>have:=HK1.out;have:=HK2.out;have:=HK3.out;omega
       case rel=>exact ⟨((((((x6_3 ++ (⟨#[97,99,99,111,117,110,116,32]⟩ : ByteArray)) ++ ((rd_T48 l0_11 x11_3).f0)) ++ (⟨#[32,112,97,114,101,110,116,32]⟩ : ByteArray)) ++ ((rd_T48 l0_11 x11_3).f1)) ++ t364) ++ (⟨#[10]⟩ : ByteArray)),(wrap64 (x11_3 + 1)),(by first|rfl|(simp;done)|(simp [*];done)),(by first|rfl|(simp;done)|(simp [*];done)),H',⟨by have:=HK1.out;have:=HK2.out;have:=HK3.out;omega⟩,⟨by (with_reducible repeat (first|refine bN ?_ _|refine bD ?_|refine bA ?_ _));exact BK341.out⟩,⟨by (with_reducible repeat (first|refine bN ?_ _|refine bD ?_|refine bA ?_ _));exact BK343.out⟩,⟨by repeat (first|(with_reducible first|exact HB.out|apply bL|apply pN|apply bE|refine bS ?_ GE341.out|refine bS ?_ GE343.out|refine bS ?_ GE363.out)|exact HB.out)⟩⟩
end Go.Proofs.YtgidipomfbikiaaDoor.P
