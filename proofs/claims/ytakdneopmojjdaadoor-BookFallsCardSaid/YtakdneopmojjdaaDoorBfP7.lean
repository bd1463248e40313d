/- cut to what one law reaches -/
import Derived.Test.YtakdneopmojjdaaDoorBfShort
import Derived.Test.YtakdneopmojjdaaDoorBfP0
import Derived.Test.YtakdneopmojjdaaDoorBfP4
import Derived.Test.YtakdneopmojjdaaDoorBfP6
namespace Go.Proofs.YtakdneopmojjdaaDoor.P
open Go.RowKit Go.Proofs.YtakdneopmojjdaaDoorW.PrintWords Go.Proofs.YtakdneopmojjdaaDoorW.PrintLast Go.Proofs.YtakdneopmojjdaaDoorW.PrintMore
attribute [local go_sem] max2_int min2_int max_two min_two max_three min_three max_four min_four   -- for this text's walks alone
set_option linter.unusedVariables false
set_option linter.unusedSimpArgs false
attribute [local go_sem] isSome_setCell
def num_Add.f (a0 : Int) (a1 : Int) : Option (Int × Int):=if ((decide ((wrap64 (a0 + a1)) > a0)) != (decide (a1 > 0))) = true then (if a1 = 0 then (some (wrap64 (a0 + a1),0)) else (some (0,10))) else (some (wrap64 (a0 + a1),0))
set_option maxHeartbeats 8000000 in
set_option maxRecDepth 100000 in
theorem num_Add.calls (a0 : Int) (a1 : Int) (r1 : Int) (r2 : Int) (w : World) (h : num_Add.f a0 a1 = some (r1,r2)) :
  Calls Tryd.prog 42 #[.int .i64 a0,.int .i64 a1] w fun e w'=>e = .returned (.tuple #[.int .i64 r1,.int .i64 r2])∧Drawn0 w w':=by
 have H : (if ((decide ((wrap64 (a0 + a1)) > a0)) != (decide (a1 > 0))) = true then (if a1 = 0 then (some (wrap64 (a0 + a1),0)) else (some (0,10))) else (some (wrap64 (a0 + a1),0))) = some (r1,r2):=h
 clear h
 by_cases c3 : ((decide ((wrap64 (a0 + a1)) > a0)) != (decide (a1 > 0))) = true
 rotate_left
 ·rw [if_neg c3] at H
  have c3b0 : ((decide ((wrap64 (a0 + a1)) > a0)) != (decide (a1 > 0))) = false:=by simpa using c3
  (try (have c3b1 : decide ((decide ((wrap64 (a0 + a1)) > a0)) = (decide (a1 > 0))) = true:=by simpa using c3))
  (try (have c3b2 : ((decide ((wrap64 (a0 + a1)) > a0)) == (decide (a1 > 0))) = true:=by simpa using c3))
  clear c3
  simp only [Option.some.injEq,Prod.mk.injEq] at H
  obtain ⟨rfl,rfl⟩:=H
  go_enter Tryd.func42,Tryd.ntmps42
  go_wp2
  go_ret2
  exact ⟨by first|rfl|(simp;done)|(simp [*];done),by repeat (first|exact Drawn0.refl _|apply Drawn0.step)⟩
 rw [if_pos c3] at H
 have c3b0 : ((decide ((wrap64 (a0 + a1)) > a0)) != (decide (a1 > 0))) = true:=c3
 (try (have c3b1 : decide ((decide ((wrap64 (a0 + a1)) > a0)) = (decide (a1 > 0))) = false:=by simpa using c3))
 (try (have c3b2 : ((decide ((wrap64 (a0 + a1)) > a0)) == (decide (a1 > 0))) = false:=by simpa using c3))
 (try (have c3b3 : ¬ ((decide ((wrap64 (a0 + a1)) > a0)) = (decide (a1 > 0))):=by simpa using c3))
 clear c3
 by_cases c4 : a1 = 0
 rotate_left
 ·rw [if_neg c4] at H
  have c4b0 : (a1 == 0) = false:=beq_eq_false_iff_ne.mpr c4
  have c4b1 : (a1 != 0) = true:=bne_iff_ne.mpr c4
  simp only [Option.some.injEq,Prod.mk.injEq] at H
  obtain ⟨rfl,rfl⟩:=H
  go_enter Tryd.func42,Tryd.ntmps42
  go_wp2
  go_ret2
  exact ⟨by first|rfl|(simp;done)|(simp [*];done),by repeat (first|exact Drawn0.refl _|apply Drawn0.step)⟩
 rw [if_pos c4] at H
 have c4b0 : (a1 == 0) = true:=beq_iff_eq.mpr c4
 have c4b1 : (a1 != 0) = false:=bne_eq_false_iff_eq.mpr c4
 clear c4
 simp only [Option.some.injEq,Prod.mk.injEq] at H
 obtain ⟨rfl,rfl⟩:=H
 go_enter Tryd.func42,Tryd.ntmps42
 go_wp2
 go_ret2
 exact ⟨by first|rfl|(simp;done)|(simp [*];done),by repeat (first|exact Drawn0.refl _|apply Drawn0.step)⟩
def num_Sum.l0 : Nat→Int→List Int→Int→Int→Option (Int)
 | 0,_,_,_,_=>none
 | k + 1,x3,x8,x9,x10=>if x10 < x9 then (if 0≤x10 then (if x10 < (x8.length : Int) then ((num_Add.f x3 (rd x8 x10)).bind fun bt140=>(if bt140.2 = 0 then (num_Sum.l0 k bt140.1 x8 x9 (wrap64 (x10 + 1))) else (if (rd x8 x10) > 0 then (num_Sum.l0 k 9223372036854775807 x8 x9 (wrap64 (x10 + 1))) else (num_Sum.l0 k (-9223372036854775808) x8 x9 (wrap64 (x10 + 1)))))) else (none)) else (none)) else (some x3)
def num_Sum.f (k : Nat) (l0 : List Int) : Option (Int):=num_Sum.l0 k 0 l0 (l0.length : Int) 0
theorem num_Sum.mono_l : ∀ k,(∀ y0 y1 y2 y3,LeO (num_Sum.l0 k y0 y1 y2 y3) (num_Sum.l0 (k + 1) y0 y1 y2 y3))
 | 0=>fun _ _ _ _ r h=>by simp [num_Sum.l0] at h
 | k + 1=>by
  have ih0:=num_Sum.mono_l k
  ·intro y0 y1 y2 y3
   unfold num_Sum.l0
   repeat' first
   | (with_reducible exact ih0 _ _ _ _)
   | (with_reducible exact LeO.refl _)
   | (with_reducible exact LeO.none _)
   | (with_reducible refine LeO.ite ?_ ?_)
   | (with_reducible refine LeO.bind ?_ (fun _=>?_))
   | exact ih0 _ _ _ _
   | exact LeO.none _
   | refine LeO.ite ?_ ?_
   | refine LeO.bind ?_ (fun _=>?_)
theorem num_Sum.mono : ∀ a0 k,LeO (num_Sum.f k a0) (num_Sum.f (k + 1) a0):=by
 intro a0 k
 have ih0:=num_Sum.mono_l k
 unfold num_Sum.f
 repeat' first
   | (with_reducible exact ih0 _ _ _ _)
   | (with_reducible exact LeO.refl _)
   | (with_reducible exact LeO.none _)
   | (with_reducible refine LeO.ite ?_ ?_)
   | (with_reducible refine LeO.bind ?_ (fun _=>?_))
   | exact ih0 _ _ _ _
   | exact LeO.none _
   | refine LeO.ite ?_ ?_
   | refine LeO.bind ?_ (fun _=>?_)
set_option maxHeartbeats 8000000 in
set_option maxRecDepth 100000 in
theorem num_Sum.calls (k : Nat) (A0 : Option Addr) (c0 : Nat) (l0 : List Int) (r : Int) (w : World) (hr0 : Kd.C (Kd.int .i64) w A0 l0.length l0) (hc0 : l0.length≤c0) (h : num_Sum.f k l0 = some r) :
  Calls Tryd.prog 28 #[.slice A0 l0.length c0] w fun e w'=>e = .returned (.int .i64 r)∧Drawn0 w w':=by
 have HR0:=Am hr0
 have HC0:=Am hc0
 clear hr0 hc0
 have H : (num_Sum.l0 k 0 l0 (l0.length : Int) 0) = some r:=h
 clear h
 have H':=Am H
 clear H
 go_enter Tryd.func28,Tryd.ntmps28
 go_wp2
 go_loopg [3,10] k (fun kq v3 v10 w'=>∃ (x3_1 : Int) (x10_1 : Int),v3 = .int .i64 x3_1∧v10 = .int .i64 x10_1∧Aside0 (num_Sum.l0 kq x3_1 l0 (l0.length : Int) x10_1 = some r)∧Aside0 (kq≤k)∧Drawn0 w w')
 case atStart=>exact ⟨(0),(0),(by first|rfl|(simp;done)|(simp [*];done)),(by first|rfl|(simp;done)|(simp [*];done)),H',⟨Nat.le_refl _⟩,by repeat (first|exact Drawn0.refl _|apply Drawn0.step)⟩
 case round =>
  clear H'
  obtain ⟨x3_1,x10_1,rfl,rfl,HA,HK1,⟨m1,rfl⟩⟩:=hrel
  cases gk with
  | zero=>exact absurd HA.out (by simp [num_Sum.l0])
  | succ k1 =>
   have H:=HA.out
   clear HA
   simp only [num_Sum.l0] at H
   by_cases c2 : x10_1 < (l0.length : Int)
   rotate_left
   ·rw [if_neg c2] at H
    have c2b0 : decide (x10_1 < (l0.length : Int)) = false:=decide_eq_false c2
    clear c2
    obtain rfl:=Option.some.inj H
    go_wp2
    go_ret
    exact ⟨by first|rfl|(simp;done)|(simp [*];done),by repeat (first|exact Drawn0.refl _|apply Drawn0.step)⟩
   rw [if_pos c2] at H
   have c2b0 : decide (x10_1 < (l0.length : Int)) = true:=decide_eq_true c2
   clear c2
   by_cases c3 : 0≤x10_1
   rotate_left
   ·rw [if_neg c3] at H
    exact absurd H (by simp)
   rw [if_pos c3] at H
   have c3b0 : decide (0≤x10_1) = true:=decide_eq_true c3
   clear c3
   by_cases c4 : x10_1 < (l0.length : Int)
   rotate_left
   ·rw [if_neg c4] at H
    exact absurd H (by simp)
   rw [if_pos c4] at H
   have c4b0 : decide (x10_1 < (l0.length : Int)) = true:=decide_eq_true c4
   clear c4
   replace H:=oB H
   obtain ⟨⟨t140,t141⟩,A50,H⟩:=H
   replace H : (if t141 = 0 then (num_Sum.l0 k1 t140 l0 (l0.length : Int) (wrap64 (x10_1 + 1))) else (if (rd l0 x10_1) > 0 then (num_Sum.l0 k1 9223372036854775807 l0 (l0.length : Int) (wrap64 (x10_1 + 1))) else (num_Sum.l0 k1 (-9223372036854775808) l0 (l0.length : Int) (wrap64 (x10_1 + 1))))) = some r:=H
   have A5:=Am A50
   clear A50
   by_cases c6 : t141 = 0
   ·rw [if_pos c6] at H
    have c6b0 : (t141 == 0) = true:=beq_iff_eq.mpr c6
    have c6b1 : (t141 != 0) = false:=bne_eq_false_iff_eq.mpr c6
    clear c6
    have H':=Am H
    clear H
    have p139 : 0≤(x10_1 : Int):=of_decide_eq_true (by first|(with_reducible assumption)|assumption)
    have q139 : x10_1 < (l0.length : Int):=of_decide_eq_true (by first|(with_reducible assumption)|assumption)
    obtain ⟨ad139,e139,hx139_0⟩:=Kd.at_int HR0.out x10_1 p139 q139
    cases e139
    replace p139:=eq_true p139
    replace q139:=eq_true q139
    go_wp2_with (first|((with_reducible refine gC (f:=42) rfl ?_);refine goesL_ (some 17) rfl rfl Tryd.func42 (by kernel_rfl) rfl #[.int .i64 x3_1,.int .i64 (rd l0 x10_1)] rfl (by (try simp only [mT,mC,mN]);first|done|rfl|(simp only [lD,lT];rfl)) ?_;(with_reducible refine (num_Add.calls x3_1 (rd l0 x10_1) t140 t141 _ A5.out).mono ?_);rintro e w' ⟨rfl,⟨nd,rfl⟩⟩;refine ⟨_,rfl,?_⟩))
    go_roundg k1
    case measure=>have:=HK1.out;omega
    case rel=>exact ⟨(t140),(wrap64 (x10_1 + 1)),(by first|rfl|(simp;done)|(simp [*];done)),(by first|rfl|(simp;done)|(simp [*];done)),H',⟨by have:=HK1.out;omega⟩,by repeat (first|exact Drawn0.refl _|apply Drawn0.step)⟩
   rw [if_neg c6] at H
   have c6b0 : (t141 == 0) = false:=beq_eq_false_iff_ne.mpr c6
   have c6b1 : (t141 != 0) = true:=bne_iff_ne.mpr c6
   by_cases c7 : (rd l0 x10_1) > 0
   ·rw [if_pos c7] at H
    have c7b0 : decide (0 < (rd l0 x10_1)) = true:=decide_eq_true c7
    clear c7
    have H':=Am H
    clear H
    have p139 : 0≤(x10_1 : Int):=of_decide_eq_true (by first|(with_reducible assumption)|assumption)
    have q139 : x10_1 < (l0.length : Int):=of_decide_eq_true (by first|(with_reducible assumption)|assumption)
    obtain ⟨ad139,e139,hx139_0⟩:=Kd.at_int HR0.out x10_1 p139 q139
    cases e139
    replace p139:=eq_true p139
    replace q139:=eq_true q139
    go_wp2_with (first|((with_reducible refine gC (f:=42) rfl ?_);refine goesL_ (some 17) rfl rfl Tryd.func42 (by kernel_rfl) rfl #[.int .i64 x3_1,.int .i64 (rd l0 x10_1)] rfl (by (try simp only [mT,mC,mN]);first|done|rfl|(simp only [lD,lT];rfl)) ?_;(with_reducible refine (num_Add.calls x3_1 (rd l0 x10_1) t140 t141 _ A5.out).mono ?_);rintro e w' ⟨rfl,⟨nd,rfl⟩⟩;refine ⟨_,rfl,?_⟩))
    go_roundg k1
    case measure=>have:=HK1.out;omega
    case rel=>exact ⟨(9223372036854775807),(wrap64 (x10_1 + 1)),(by first|rfl|(simp;done)|(simp [*];done)),(by first|rfl|(simp;done)|(simp [*];done)),H',⟨by have:=HK1.out;omega⟩,by repeat (first|exact Drawn0.refl _|apply Drawn0.step)⟩
   rw [if_neg c7] at H
   have c7b0 : decide (0 < (rd l0 x10_1)) = false:=decide_eq_false c7
   clear c7
   have H':=Am H
   clear H
   have p139 : 0≤(x10_1 : Int):=of_decide_eq_true (by first|(with_reducible assumption)|assumption)
   have q139 : x10_1 < (l0.length : Int):=of_decide_eq_true (by first|(with_reducible assumption)|assumption)
   obtain ⟨ad139,e139,hx139_0⟩:=Kd.at_int HR0.out x10_1 p139 q139
   cases e139
   replace p139:=eq_true p139
   replace q139:=eq_true q139
   go_wp2_with (first|((with_reducible refine gC (f:=42) rfl ?_);refine goesL_ (some 17) rfl rfl Tryd.func42 (by kernel_rfl) rfl #[.int .i64 x3_1,.int .i64 (rd l0 x10_1)] rfl (by (try simp only [mT,mC,mN]);first|done|rfl|(simp only [lD,lT];rfl)) ?_;(with_reducible refine (num_Add.calls x3_1 (rd l0 x10_1) t140 t141 _ A5.out).mono ?_);rintro e w' ⟨rfl,⟨nd,rfl⟩⟩;refine ⟨_,rfl,?_⟩))
   go_roundg k1
   case measure=>have:=HK1.out;omega
   case rel=>exact ⟨((-9223372036854775808)),(wrap64 (x10_1 + 1)),(by first|rfl|(simp;done)|(simp [*];done)),(by first|rfl|(simp;done)|(simp [*];done)),H',⟨by have:=HK1.out;omega⟩,by repeat (first|exact Drawn0.refl _|apply Drawn0.step)⟩
def book_Total.l0 : Nat→ByteArray→Int→List (S24)→Int→Int→Option (Int)
 | 0,_,_,_,_,_=>none
 | k + 1,x1,x5,x11,x12,x13=>if x13 < x12 then (if 0≤x13 then (if x13 < (x11.length : Int) then (if ((rd_T24 x11 x13).f1).toList = x1.toList then ((num_Sum.f k (([x5,wrap64 (((rd_T24 x11 x13).f2) * ((rd_T24 x11 x13).f3))] : List Int))).bind fun t148=>(book_Total.l0 k x1 t148 x11 x12 (wrap64 (x13 + 1)))) else (book_Total.l0 k x1 x5 x11 x12 (wrap64 (x13 + 1)))) else (none)) else (none)) else (some x5)
def book_Total.f (k : Nat) (l0 : List (S24)) (a1 : ByteArray) : Option (Int):=(book_Check.f k l0).bind fun t142=>(if t142 = 0 then (book_Total.l0 k a1 0 l0 (l0.length : Int) 0) else (some 0))
theorem book_Total.mono_l : ∀ k,(∀ y0 y1 y2 y3 y4,LeO (book_Total.l0 k y0 y1 y2 y3 y4) (book_Total.l0 (k + 1) y0 y1 y2 y3 y4))
 | 0=>fun _ _ _ _ _ r h=>by simp [book_Total.l0] at h
 | k + 1=>by
  have ih0:=book_Total.mono_l k
  ·intro y0 y1 y2 y3 y4
   unfold book_Total.l0
   repeat' first
   | (with_reducible exact ih0 _ _ _ _ _)
   | (with_reducible exact book_Check.mono _ _)
   | (with_reducible exact num_Sum.mono _ _)
   | (with_reducible exact LeO.refl _)
   | (with_reducible exact LeO.none _)
   | (with_reducible refine LeO.ite ?_ ?_)
   | (with_reducible refine LeO.bind ?_ (fun _=>?_))
   | exact ih0 _ _ _ _ _
   | exact book_Check.mono _ _
   | exact num_Sum.mono _ _
   | exact LeO.none _
   | refine LeO.ite ?_ ?_
   | refine LeO.bind ?_ (fun _=>?_)
theorem book_Total.mono : ∀ a0 a1 k,LeO (book_Total.f k a0 a1) (book_Total.f (k + 1) a0 a1):=by
 intro a0 a1 k
 have ih0:=book_Total.mono_l k
 unfold book_Total.f
 repeat' first
   | (with_reducible exact ih0 _ _ _ _ _)
   | (with_reducible exact book_Check.mono _ _)
   | (with_reducible exact num_Sum.mono _ _)
   | (with_reducible exact LeO.refl _)
   | (with_reducible exact LeO.none _)
   | (with_reducible refine LeO.ite ?_ ?_)
   | (with_reducible refine LeO.bind ?_ (fun _=>?_))
   | exact ih0 _ _ _ _ _
   | exact book_Check.mono _ _
   | exact num_Sum.mono _ _
   | exact LeO.none _
   | refine LeO.ite ?_ ?_
   | refine LeO.bind ?_ (fun _=>?_)
set_option maxHeartbeats 8000000 in
set_option maxRecDepth 100000 in
theorem book_Total.calls (k : Nat) (A0 : Option Addr) (c0 : Nat) (l0 : List (S24)) (a1 : ByteArray) (r : Int) (w : World) (hG : Glob w) (hr0 : Kd.C k24 w A0 l0.length l0) (hc0 : l0.length≤c0) (h : book_Total.f k l0 a1 = some r) :
  Calls Tryd.prog 13 #[.slice A0 l0.length c0,.string a1] w fun e w'=>e = .returned (.int .i64 r)∧Below w.heap.size w w':=by
 have hu24:=Tryd.underlying24
 have HG:=Am hG
 clear hG
 have HR0:=Am hr0
 have HC0:=Am hc0
 clear hr0 hc0
 have HB:=Am (Below.refl w.heap.size w)
 have H : ((book_Check.f k l0).bind fun t142=>(if t142 = 0 then (book_Total.l0 k a1 0 l0 (l0.length : Int) 0) else (some 0))) = some r:=h
 clear h
 replace H:=oB H
 obtain ⟨t142,A30,H⟩:=H
 try dsimp only at H
 have A3:=Am A30
 clear A30
 by_cases c4 : t142 = 0
 rotate_left
 ·rw [if_neg c4] at H
  have c4b0 : (t142 == 0) = false:=beq_eq_false_iff_ne.mpr c4
  have c4b1 : (t142 != 0) = true:=bne_iff_ne.mpr c4
  obtain rfl:=Option.some.inj H
  go_enter Tryd.func13,Tryd.ntmps13
  go_wp2_with (first|((with_reducible refine gC (f:=12) rfl ?_);refine goesL_ (some 9) rfl rfl Tryd.func12 (by kernel_rfl) rfl #[.slice A0 l0.length c0] rfl (by (try simp only [mT,mC,mN]);first|done|rfl|(simp only [lD,lT];rfl)) ?_;(with_reducible refine (book_Check.calls k _ _ l0 t142 _ ?side1 ?side2 ?side3 A3.out).mono ?_);(case side1=>exact Glob.below HG.out (by repeat (first|(with_reducible first|exact HB.out|apply bL|apply pN|apply bE)|exact HB.out)));(case side2=>repeat (first|exact HR0.out|(with_reducible refine Kd.C_alloc ?_ _)|(with_reducible refine Kd.C_drewN ?_ _)|(with_reducible refine Kd.C_drew ?_)));(case side3=>exact HC0.out);rintro e w18 ⟨rfl,hb⟩;refine ⟨_,rfl,?_⟩;have n0_:=Am (below_step (by repeat (first|(with_reducible first|exact HB.out|apply bL|apply pN|apply bE)|exact HB.out)) hb);clear HB;have HB:=n0_;clear n0_))
  go_ret
  exact ⟨by first|rfl|(simp [errW_none,errW_some] <;> rfl)|(simp [*,errW_none,errW_some] <;> rfl),by repeat (first|(with_reducible first|exact HB.out|apply bL|apply pN|apply bE)|exact HB.out)⟩
 rw [if_pos c4] at H
 have c4b0 : (t142 == 0) = true:=beq_iff_eq.mpr c4
 have c4b1 : (t142 != 0) = false:=bne_eq_false_iff_eq.mpr c4
 clear c4
 have H':=Am H
 clear H
 go_enter Tryd.func13,Tryd.ntmps13
 go_wp2_with (first|((with_reducible refine gC (f:=12) rfl ?_);refine goesL_ (some 9) rfl rfl Tryd.func12 (by kernel_rfl) rfl #[.slice A0 l0.length c0] rfl (by (try simp only [mT,mC,mN]);first|done|rfl|(simp only [lD,lT];rfl)) ?_;(with_reducible refine (book_Check.calls k _ _ l0 t142 _ ?side1 ?side2 ?side3 A3.out).mono ?_);(case side1=>exact Glob.below HG.out (by repeat (first|(with_reducible first|exact HB.out|apply bL|apply pN|apply bE)|exact HB.out)));(case side2=>repeat (first|exact HR0.out|(with_reducible refine Kd.C_alloc ?_ _)|(with_reducible refine Kd.C_drewN ?_ _)|(with_reducible refine Kd.C_drew ?_)));(case side3=>exact HC0.out);rintro e w5 ⟨rfl,hb⟩;refine ⟨_,rfl,?_⟩;have n0_:=Am (below_step (by repeat (first|(with_reducible first|exact HB.out|apply bL|apply pN|apply bE)|exact HB.out)) hb);clear HB;have HB:=n0_;clear n0_))
 go_loopg [5,13] k (fun kq v5 v13 w'=>∃ (x5_1 : Int) (x13_1 : Int),v5 = .int .i64 x5_1∧v13 = .int .i64 x13_1∧Aside0 (book_Total.l0 kq a1 x5_1 l0 (l0.length : Int) x13_1 = some r)∧Aside0 (kq≤k)∧Aside0 (Below w.heap.size w w'))
 case atStart=>exact ⟨(0),(0),(by first|rfl|(simp;done)|(simp [*];done)),(by first|rfl|(simp;done)|(simp [*];done)),H',⟨Nat.le_refl _⟩,⟨by repeat (first|(with_reducible first|exact HB.out|apply bL|apply pN|apply bE)|exact HB.out)⟩⟩
 case round =>
  clear H'
  obtain ⟨x5_1,x13_1,rfl,rfl,HA,HK1,HB⟩:=hrel
  cases gk with
  | zero=>exact absurd HA.out (by simp [book_Total.l0])
  | succ k1 =>
   have H:=HA.out
   clear HA
   simp only [book_Total.l0] at H
   by_cases c6 : x13_1 < (l0.length : Int)
   rotate_left
   ·rw [if_neg c6] at H
    have c6b0 : decide (x13_1 < (l0.length : Int)) = false:=decide_eq_false c6
    clear c6
    obtain rfl:=Option.some.inj H
    go_wp2
    go_ret
    exact ⟨by first|rfl|(simp [errW_none,errW_some] <;> rfl)|(simp [*,errW_none,errW_some] <;> rfl),by repeat (first|(with_reducible first|exact HB.out|apply bL|apply pN|apply bE)|exact HB.out)⟩
   rw [if_pos c6] at H
   have c6b0 : decide (x13_1 < (l0.length : Int)) = true:=decide_eq_true c6
   clear c6
   by_cases c7 : 0≤x13_1
   rotate_left
   ·rw [if_neg c7] at H
    exact absurd H (by simp)
   rw [if_pos c7] at H
   have c7b0 : decide (0≤x13_1) = true:=decide_eq_true c7
   clear c7
   by_cases c8 : x13_1 < (l0.length : Int)
   rotate_left
   ·rw [if_neg c8] at H
    exact absurd H (by simp)
   rw [if_pos c8] at H
   have c8b0 : decide (x13_1 < (l0.length : Int)) = true:=decide_eq_true c8
   clear c8
   by_cases c9 : ((rd_T24 l0 x13_1).f1).toList = a1.toList
   rotate_left
   ·rw [if_neg c9] at H
    have c9b0 : (((rd_T24 l0 x13_1).f1).toList == a1.toList) = false:=beq_eq_false_iff_ne.mpr c9
    have c9b1 : (((rd_T24 l0 x13_1).f1).toList != a1.toList) = true:=bne_iff_ne.mpr c9
    have H':=Am H
    clear H
    have p143 : 0≤(x13_1 : Int):=of_decide_eq_true (by first|(with_reducible assumption)|assumption)
    have q143 : x13_1 < (l0.length : Int):=of_decide_eq_true (by first|(with_reducible assumption)|assumption)
    obtain ⟨ad143,e143,hx143_0,hx143_1,hx143_2,hx143_3,hx143_4,hx143_5⟩:=at_T24 HR0.out x13_1 p143 q143
    cases e143
    replace hx143_0:=(HB.out.cell (wB w _ hx143_0)).trans hx143_0
    replace hx143_1:=(HB.out.cell (wB w _ hx143_1)).trans hx143_1
    replace hx143_2:=(HB.out.cell (wB w _ hx143_2)).trans hx143_2
    replace hx143_3:=(HB.out.cell (wB w _ hx143_3)).trans hx143_3
    replace hx143_4:=(HB.out.cell (wB w _ hx143_4)).trans hx143_4
    replace hx143_5:=(HB.out.cell (wB w _ hx143_5)).trans hx143_5
    replace p143:=eq_true p143
    replace q143:=eq_true q143
    go_wp2_with (first|((with_reducible refine gD (N:=7) rfl ?_);refine box_event ?hg (N:=7) ?hd (cs:=#[.int .u32 0,.string (⟨#[]⟩ : ByteArray),.int .i64 0,.int .i64 0,.int .i64 0,.int .i64 0]) (t:=24) ?hr ?_;(case hd=>rfl);(case hg=>rfl);(case hr=>first|(go_simp;done)|(go_simp;rfl));intro gb144 hg w16 hbox hb;have n0_:=Am (below_step (by repeat (first|(with_reducible first|exact HB.out|apply bL|apply pN|apply bE)|exact HB.out)) hb);have n1_:=Am (hbox);have n2_:=Am ((by rw [hg];exact (bZ (by repeat (first|(with_reducible first|exact HB.out|apply bL|apply pN|apply bE)|exact HB.out))) : w.heap.size≤gb144));have n3_:=n2_;clear HB;have HB:=n0_;have BK144:=n1_;have GW144:=n2_;have GE144:=n3_;clear n0_ n1_ n2_ n3_;clear hb hbox hg;obtain ⟨X17_0,X17_1,X17_2,X17_3,X17_4,X17_5,Y17_0,Y17_1,Y17_2,Y17_3,Y17_4,Y17_5⟩:=kc6 (w:=w16) (g:=gb144) BK144.out))
    go_roundg k1
    case measure=>have:=HK1.out;omega
    case rel=>exact ⟨(x5_1),(wrap64 (x13_1 + 1)),(by first|rfl|(simp;done)|(simp [*];done)),(by first|rfl|(simp;done)|(simp [*];done)),H',⟨by have:=HK1.out;omega⟩,⟨by repeat (first|(with_reducible first|exact HB.out|apply bL|apply pN|apply bE|refine bS ?_ GE144.out)|exact HB.out)⟩⟩
   rw [if_pos c9] at H
   have c9b0 : (((rd_T24 l0 x13_1).f1).toList == a1.toList) = true:=beq_iff_eq.mpr c9
   have c9b1 : (((rd_T24 l0 x13_1).f1).toList != a1.toList) = false:=bne_eq_false_iff_eq.mpr c9
   clear c9
   obtain ⟨y145,hy145⟩ : ∃ y_ : List Int,y_ = (([x5_1,wrap64 (((rd_T24 l0 x13_1).f2) * ((rd_T24 l0 x13_1).f3))] : List Int)):=⟨_,rfl⟩
   replace H : ((num_Sum.f k1 y145).bind fun t148=>(book_Total.l0 k1 a1 t148 l0 (l0.length : Int) (wrap64 (x13_1 + 1)))) = some r:=by first|(rw [hy145];with_reducible exact H)|(have H2_:=(Option.bind_some _ _).symm.trans H;rw [hy145];with_reducible exact H2_)|(have H2_:=(Option.bind_some _ _).symm.trans H;with_reducible exact H2_)|with_reducible exact H|(rw [hy145];exact H)|exact H
   have Ny145:=Am hy145
   clear hy145
   replace H:=oB H
   obtain ⟨t148,A100,H⟩:=H
   try dsimp only at H
   have A10:=Am A100
   clear A100
   have H':=Am H
   clear H
   have p143 : 0≤(x13_1 : Int):=of_decide_eq_true (by first|(with_reducible assumption)|assumption)
   have q143 : x13_1 < (l0.length : Int):=of_decide_eq_true (by first|(with_reducible assumption)|assumption)
   obtain ⟨ad143,e143,hx143_0,hx143_1,hx143_2,hx143_3,hx143_4,hx143_5⟩:=at_T24 HR0.out x13_1 p143 q143
   cases e143
   replace hx143_0:=(HB.out.cell (wB w _ hx143_0)).trans hx143_0
   replace hx143_1:=(HB.out.cell (wB w _ hx143_1)).trans hx143_1
   replace hx143_2:=(HB.out.cell (wB w _ hx143_2)).trans hx143_2
   replace hx143_3:=(HB.out.cell (wB w _ hx143_3)).trans hx143_3
   replace hx143_4:=(HB.out.cell (wB w _ hx143_4)).trans hx143_4
   replace hx143_5:=(HB.out.cell (wB w _ hx143_5)).trans hx143_5
   replace p143:=eq_true p143
   replace q143:=eq_true q143
   go_wp2_with (first|((with_reducible refine gD (N:=7) rfl ?_);refine box_event ?hg (N:=7) ?hd (cs:=#[.int .u32 0,.string (⟨#[]⟩ : ByteArray),.int .i64 0,.int .i64 0,.int .i64 0,.int .i64 0]) (t:=24) ?hr ?_;(case hd=>rfl);(case hg=>rfl);(case hr=>first|(go_simp;done)|(go_simp;rfl));intro gb144 hg w11 hbox hb;have n0_:=Am (below_step (by repeat (first|(with_reducible first|exact HB.out|apply bL|apply pN|apply bE)|exact HB.out)) hb);have n1_:=Am (hbox);have n2_:=Am ((by rw [hg];exact (bZ (by repeat (first|(with_reducible first|exact HB.out|apply bL|apply pN|apply bE)|exact HB.out))) : w.heap.size≤gb144));have n3_:=n2_;clear HB;have HB:=n0_;have BK144:=n1_;have GW144:=n2_;have GE144:=n3_;clear n0_ n1_ n2_ n3_;clear hb hbox hg;obtain ⟨X12_0,X12_1,X12_2,X12_3,X12_4,X12_5,Y12_0,Y12_1,Y12_2,Y12_3,Y12_4,Y12_5⟩:=kc6 (w:=w11) (g:=gb144) BK144.out)|((with_reducible refine gD (N:=27) rfl ?_);refine Kd.R_lit (Kd.int .i64) _ 3 ?hg (N:=27) ?hd (xs:=([x5_1,wrap64 (((rd_T24 l0 x13_1).f2) * ((rd_T24 l0 x13_1).f3))] : List Int)) (inner:=[.int .i64 x5_1,.int .i64 (wrap64 (((rd_T24 l0 x13_1).f2) * ((rd_T24 l0 x13_1).f3)))]) (ok:=fun _=>True) (okp:=fun _=>True) ?hr ?hp (fun _ hk=>hk) trivial (Below.refl _ _) (Nat.le_refl _) (by simp) ?_;(case hd=>rfl);(case hg=>rfl);(case hr=>first|(go_simp;done)|(go_simp;rfl));(case hp=>exact (Reps.one (show Kd.M (Kd.int .i64) _ _ _ x5_1 [.int .i64 x5_1] from rfl) (Reps.one (show Kd.M (Kd.int .i64) _ _ _ (wrap64 (((rd_T24 l0 x13_1).f2) * ((rd_T24 l0 x13_1).f3))) [.int .i64 (wrap64 (((rd_T24 l0 x13_1).f2) * ((rd_T24 l0 x13_1).f3)))] from rfl) (Reps.none _ _))));intro v146 w13 ho14 hb hg_ hnew_;clear hg_ hnew_;(first|rw [← Ny145.out] at ho14|(simp only [Int.reduceToNat] at ho14;rw [← Ny145.out] at ho14));have n0_:=Am (Kd.R_lower ho14 (bZ (by repeat (first|(with_reducible first|exact HB.out|apply bL|apply pN|apply bE|refine bS ?_ GE144.out)|exact HB.out))));have n1_:=Am (blk_below (g:=gb144) (o:=.cells #[.int .u32 ((rd_T24 l0 x13_1).f0),.string ((rd_T24 l0 x13_1).f1),.int .i64 ((rd_T24 l0 x13_1).f2),.int .i64 ((rd_T24 l0 x13_1).f3),.int .i64 ((rd_T24 l0 x13_1).f4),.int .i64 ((rd_T24 l0 x13_1).f5)] 24 (0,0)) (by (with_reducible repeat (first|refine bN ?_ _|refine bD ?_|refine bA ?_ _));refine blk_put (cs:=#[.int .u32 ((rd_T24 l0 x13_1).f0),.string ((rd_T24 l0 x13_1).f1),.int .i64 ((rd_T24 l0 x13_1).f2),.int .i64 ((rd_T24 l0 x13_1).f3),.int .i64 ((rd_T24 l0 x13_1).f4),.int .i64 0]) ?_ 5 _ rfl;(with_reducible repeat (first|refine bN ?_ _|refine bD ?_|refine bA ?_ _));refine blk_put (cs:=#[.int .u32 ((rd_T24 l0 x13_1).f0),.string ((rd_T24 l0 x13_1).f1),.int .i64 ((rd_T24 l0 x13_1).f2),.int .i64 ((rd_T24 l0 x13_1).f3),.int .i64 0,.int .i64 0]) ?_ 4 _ rfl;(with_reducible repeat (first|refine bN ?_ _|refine bD ?_|refine bA ?_ _));refine blk_put (cs:=#[.int .u32 ((rd_T24 l0 x13_1).f0),.string ((rd_T24 l0 x13_1).f1),.int .i64 ((rd_T24 l0 x13_1).f2),.int .i64 0,.int .i64 0,.int .i64 0]) ?_ 3 _ rfl;(with_reducible repeat (first|refine bN ?_ _|refine bD ?_|refine bA ?_ _));refine blk_put (cs:=#[.int .u32 ((rd_T24 l0 x13_1).f0),.string ((rd_T24 l0 x13_1).f1),.int .i64 0,.int .i64 0,.int .i64 0,.int .i64 0]) ?_ 2 _ rfl;(with_reducible repeat (first|refine bN ?_ _|refine bD ?_|refine bA ?_ _));refine blk_put (cs:=#[.int .u32 ((rd_T24 l0 x13_1).f0),.string (⟨#[]⟩ : ByteArray),.int .i64 0,.int .i64 0,.int .i64 0,.int .i64 0]) ?_ 1 _ rfl;(with_reducible repeat (first|refine bN ?_ _|refine bD ?_|refine bA ?_ _));refine blk_put (cs:=#[.int .u32 0,.string (⟨#[]⟩ : ByteArray),.int .i64 0,.int .i64 0,.int .i64 0,.int .i64 0]) ?_ 0 _ rfl;(with_reducible repeat (first|refine bN ?_ _|refine bD ?_|refine bA ?_ _));exact BK144.out) hb);have n2_:=Am (below_step (by repeat (first|(with_reducible first|exact HB.out|apply bL|apply pN|apply bE|refine bS ?_ GE144.out)|exact HB.out)) hb);clear BK144;clear HB;have HO147:=n0_;have BK144:=n1_;have HB:=n2_;clear n0_ n1_ n2_;clear hb ho14;obtain ⟨Ao15,co15,eo15⟩:=Kd.R_slice HO147.out;subst eo15)|((with_reducible refine gC (f:=28) rfl ?_);refine goesL_ (some 28) rfl rfl Tryd.func28 (by kernel_rfl) rfl #[.slice Ao15 y145.length co15] rfl (by (try simp only [mT,mC,mN]);first|done|rfl|(simp only [lD,lT];rfl)) ?_;(with_reducible refine (num_Sum.calls k1 _ _ y145 t148 _ ?side1 ?side2 A10.out).mono ?_);(case side1=>repeat (first|exact (Kd.R_reads' HO147.out).2.2|(with_reducible refine Kd.C_alloc ?_ _)|(with_reducible refine Kd.C_drewN ?_ _)|(with_reducible refine Kd.C_drew ?_)));(case side2=>exact (Kd.R_reads' HO147.out).2.1);rintro e w' ⟨rfl,⟨nd,rfl⟩⟩;refine ⟨_,rfl,?_⟩))
   go_roundg k1
   case measure=>have:=HK1.out;omega
   case rel=>exact ⟨(t148),(wrap64 (x13_1 + 1)),(by first|rfl|(simp;done)|(simp [*];done)),(by first|rfl|(simp;done)|(simp [*];done)),H',⟨by have:=HK1.out;omega⟩,⟨by repeat (first|(with_reducible first|exact HB.out|apply bL|apply pN|apply bE|refine bS ?_ GE144.out)|exact HB.out)⟩⟩
def decay_steps.f (a0 : Int) : Option (Int):=if 0≤a0 then (if a0 < 16 then some (rd [65536,62757,60097,57549,55109,52773,50535,48393,46341,44376,42495,40693,38968,37316,35734,34219] a0) else none) else none
theorem decay_steps.at0 (w : World) : Calls Tryd.prog 73 #[.int .i64 0] w fun e w'=>e = .returned (.int .i64 65536)∧Drawn0 w w':=by
 have hI : ∀ W : World,(Instr.index 125 (Value.agg #[Value.int IntKind.i64 65536,Value.int IntKind.i64 62757,Value.int IntKind.i64 60097,Value.int IntKind.i64 57549,Value.int IntKind.i64 55109,Value.int IntKind.i64 52773,Value.int IntKind.i64 50535,Value.int IntKind.i64 48393,Value.int IntKind.i64 46341,Value.int IntKind.i64 44376,Value.int IntKind.i64 42495,Value.int IntKind.i64 40693,Value.int IntKind.i64 38968,Value.int IntKind.i64 37316,Value.int IntKind.i64 35734,Value.int IntKind.i64 34219]) (.int .i64 0)).run Tryd.prog W = .ok (.int .i64 65536) W:=fun W=>by kernel_rfl
 go_enter Tryd.func73,Tryd.ntmps73
 go_wp2
 go_ret
 exact ⟨rfl,Drawn0.refl _⟩
theorem decay_steps.at1 (w : World) : Calls Tryd.prog 73 #[.int .i64 1] w fun e w'=>e = .returned (.int .i64 62757)∧Drawn0 w w':=by
 have hI : ∀ W : World,(Instr.index 125 (Value.agg #[Value.int IntKind.i64 65536,Value.int IntKind.i64 62757,Value.int IntKind.i64 60097,Value.int IntKind.i64 57549,Value.int IntKind.i64 55109,Value.int IntKind.i64 52773,Value.int IntKind.i64 50535,Value.int IntKind.i64 48393,Value.int IntKind.i64 46341,Value.int IntKind.i64 44376,Value.int IntKind.i64 42495,Value.int IntKind.i64 40693,Value.int IntKind.i64 38968,Value.int IntKind.i64 37316,Value.int IntKind.i64 35734,Value.int IntKind.i64 34219]) (.int .i64 1)).run Tryd.prog W = .ok (.int .i64 62757) W:=fun W=>by kernel_rfl
 go_enter Tryd.func73,Tryd.ntmps73
 go_wp2
 go_ret
 exact ⟨rfl,Drawn0.refl _⟩
theorem decay_steps.at2 (w : World) : Calls Tryd.prog 73 #[.int .i64 2] w fun e w'=>e = .returned (.int .i64 60097)∧Drawn0 w w':=by
 have hI : ∀ W : World,(Instr.index 125 (Value.agg #[Value.int IntKind.i64 65536,Value.int IntKind.i64 62757,Value.int IntKind.i64 60097,Value.int IntKind.i64 57549,Value.int IntKind.i64 55109,Value.int IntKind.i64 52773,Value.int IntKind.i64 50535,Value.int IntKind.i64 48393,Value.int IntKind.i64 46341,Value.int IntKind.i64 44376,Value.int IntKind.i64 42495,Value.int IntKind.i64 40693,Value.int IntKind.i64 38968,Value.int IntKind.i64 37316,Value.int IntKind.i64 35734,Value.int IntKind.i64 34219]) (.int .i64 2)).run Tryd.prog W = .ok (.int .i64 60097) W:=fun W=>by kernel_rfl
 go_enter Tryd.func73,Tryd.ntmps73
 go_wp2
 go_ret
 exact ⟨rfl,Drawn0.refl _⟩
theorem decay_steps.at3 (w : World) : Calls Tryd.prog 73 #[.int .i64 3] w fun e w'=>e = .returned (.int .i64 57549)∧Drawn0 w w':=by
 have hI : ∀ W : World,(Instr.index 125 (Value.agg #[Value.int IntKind.i64 65536,Value.int IntKind.i64 62757,Value.int IntKind.i64 60097,Value.int IntKind.i64 57549,Value.int IntKind.i64 55109,Value.int IntKind.i64 52773,Value.int IntKind.i64 50535,Value.int IntKind.i64 48393,Value.int IntKind.i64 46341,Value.int IntKind.i64 44376,Value.int IntKind.i64 42495,Value.int IntKind.i64 40693,Value.int IntKind.i64 38968,Value.int IntKind.i64 37316,Value.int IntKind.i64 35734,Value.int IntKind.i64 34219]) (.int .i64 3)).run Tryd.prog W = .ok (.int .i64 57549) W:=fun W=>by kernel_rfl
 go_enter Tryd.func73,Tryd.ntmps73
 go_wp2
 go_ret
 exact ⟨rfl,Drawn0.refl _⟩
theorem decay_steps.at4 (w : World) : Calls Tryd.prog 73 #[.int .i64 4] w fun e w'=>e = .returned (.int .i64 55109)∧Drawn0 w w':=by
 have hI : ∀ W : World,(Instr.index 125 (Value.agg #[Value.int IntKind.i64 65536,Value.int IntKind.i64 62757,Value.int IntKind.i64 60097,Value.int IntKind.i64 57549,Value.int IntKind.i64 55109,Value.int IntKind.i64 52773,Value.int IntKind.i64 50535,Value.int IntKind.i64 48393,Value.int IntKind.i64 46341,Value.int IntKind.i64 44376,Value.int IntKind.i64 42495,Value.int IntKind.i64 40693,Value.int IntKind.i64 38968,Value.int IntKind.i64 37316,Value.int IntKind.i64 35734,Value.int IntKind.i64 34219]) (.int .i64 4)).run Tryd.prog W = .ok (.int .i64 55109) W:=fun W=>by kernel_rfl
 go_enter Tryd.func73,Tryd.ntmps73
 go_wp2
 go_ret
 exact ⟨rfl,Drawn0.refl _⟩
theorem decay_steps.at5 (w : World) : Calls Tryd.prog 73 #[.int .i64 5] w fun e w'=>e = .returned (.int .i64 52773)∧Drawn0 w w':=by
 have hI : ∀ W : World,(Instr.index 125 (Value.agg #[Value.int IntKind.i64 65536,Value.int IntKind.i64 62757,Value.int IntKind.i64 60097,Value.int IntKind.i64 57549,Value.int IntKind.i64 55109,Value.int IntKind.i64 52773,Value.int IntKind.i64 50535,Value.int IntKind.i64 48393,Value.int IntKind.i64 46341,Value.int IntKind.i64 44376,Value.int IntKind.i64 42495,Value.int IntKind.i64 40693,Value.int IntKind.i64 38968,Value.int IntKind.i64 37316,Value.int IntKind.i64 35734,Value.int IntKind.i64 34219]) (.int .i64 5)).run Tryd.prog W = .ok (.int .i64 52773) W:=fun W=>by kernel_rfl
 go_enter Tryd.func73,Tryd.ntmps73
 go_wp2
 go_ret
 exact ⟨rfl,Drawn0.refl _⟩
theorem decay_steps.at6 (w : World) : Calls Tryd.prog 73 #[.int .i64 6] w fun e w'=>e = .returned (.int .i64 50535)∧Drawn0 w w':=by
 have hI : ∀ W : World,(Instr.index 125 (Value.agg #[Value.int IntKind.i64 65536,Value.int IntKind.i64 62757,Value.int IntKind.i64 60097,Value.int IntKind.i64 57549,Value.int IntKind.i64 55109,Value.int IntKind.i64 52773,Value.int IntKind.i64 50535,Value.int IntKind.i64 48393,Value.int IntKind.i64 46341,Value.int IntKind.i64 44376,Value.int IntKind.i64 42495,Value.int IntKind.i64 40693,Value.int IntKind.i64 38968,Value.int IntKind.i64 37316,Value.int IntKind.i64 35734,Value.int IntKind.i64 34219]) (.int .i64 6)).run Tryd.prog W = .ok (.int .i64 50535) W:=fun W=>by kernel_rfl
 go_enter Tryd.func73,Tryd.ntmps73
 go_wp2
 go_ret
 exact ⟨rfl,Drawn0.refl _⟩
theorem decay_steps.at7 (w : World) : Calls Tryd.prog 73 #[.int .i64 7] w fun e w'=>e = .returned (.int .i64 48393)∧Drawn0 w w':=by
 have hI : ∀ W : World,(Instr.index 125 (Value.agg #[Value.int IntKind.i64 65536,Value.int IntKind.i64 62757,Value.int IntKind.i64 60097,Value.int IntKind.i64 57549,Value.int IntKind.i64 55109,Value.int IntKind.i64 52773,Value.int IntKind.i64 50535,Value.int IntKind.i64 48393,Value.int IntKind.i64 46341,Value.int IntKind.i64 44376,Value.int IntKind.i64 42495,Value.int IntKind.i64 40693,Value.int IntKind.i64 38968,Value.int IntKind.i64 37316,Value.int IntKind.i64 35734,Value.int IntKind.i64 34219]) (.int .i64 7)).run Tryd.prog W = .ok (.int .i64 48393) W:=fun W=>by kernel_rfl
 go_enter Tryd.func73,Tryd.ntmps73
 go_wp2
 go_ret
 exact ⟨rfl,Drawn0.refl _⟩
theorem decay_steps.at8 (w : World) : Calls Tryd.prog 73 #[.int .i64 8] w fun e w'=>e = .returned (.int .i64 46341)∧Drawn0 w w':=by
 have hI : ∀ W : World,(Instr.index 125 (Value.agg #[Value.int IntKind.i64 65536,Value.int IntKind.i64 62757,Value.int IntKind.i64 60097,Value.int IntKind.i64 57549,Value.int IntKind.i64 55109,Value.int IntKind.i64 52773,Value.int IntKind.i64 50535,Value.int IntKind.i64 48393,Value.int IntKind.i64 46341,Value.int IntKind.i64 44376,Value.int IntKind.i64 42495,Value.int IntKind.i64 40693,Value.int IntKind.i64 38968,Value.int IntKind.i64 37316,Value.int IntKind.i64 35734,Value.int IntKind.i64 34219]) (.int .i64 8)).run Tryd.prog W = .ok (.int .i64 46341) W:=fun W=>by kernel_rfl
 go_enter Tryd.func73,Tryd.ntmps73
 go_wp2
 go_ret
 exact ⟨rfl,Drawn0.refl _⟩
theorem decay_steps.at9 (w : World) : Calls Tryd.prog 73 #[.int .i64 9] w fun e w'=>e = .returned (.int .i64 44376)∧Drawn0 w w':=by
 have hI : ∀ W : World,(Instr.index 125 (Value.agg #[Value.int IntKind.i64 65536,Value.int IntKind.i64 62757,Value.int IntKind.i64 60097,Value.int IntKind.i64 57549,Value.int IntKind.i64 55109,Value.int IntKind.i64 52773,Value.int IntKind.i64 50535,Value.int IntKind.i64 48393,Value.int IntKind.i64 46341,Value.int IntKind.i64 44376,Value.int IntKind.i64 42495,Value.int IntKind.i64 40693,Value.int IntKind.i64 38968,Value.int IntKind.i64 37316,Value.int IntKind.i64 35734,Value.int IntKind.i64 34219]) (.int .i64 9)).run Tryd.prog W = .ok (.int .i64 44376) W:=fun W=>by kernel_rfl
 go_enter Tryd.func73,Tryd.ntmps73
 go_wp2
 go_ret
 exact ⟨rfl,Drawn0.refl _⟩
theorem decay_steps.at10 (w : World) : Calls Tryd.prog 73 #[.int .i64 10] w fun e w'=>e = .returned (.int .i64 42495)∧Drawn0 w w':=by
 have hI : ∀ W : World,(Instr.index 125 (Value.agg #[Value.int IntKind.i64 65536,Value.int IntKind.i64 62757,Value.int IntKind.i64 60097,Value.int IntKind.i64 57549,Value.int IntKind.i64 55109,Value.int IntKind.i64 52773,Value.int IntKind.i64 50535,Value.int IntKind.i64 48393,Value.int IntKind.i64 46341,Value.int IntKind.i64 44376,Value.int IntKind.i64 42495,Value.int IntKind.i64 40693,Value.int IntKind.i64 38968,Value.int IntKind.i64 37316,Value.int IntKind.i64 35734,Value.int IntKind.i64 34219]) (.int .i64 10)).run Tryd.prog W = .ok (.int .i64 42495) W:=fun W=>by kernel_rfl
 go_enter Tryd.func73,Tryd.ntmps73
 go_wp2
 go_ret
 exact ⟨rfl,Drawn0.refl _⟩
theorem decay_steps.at11 (w : World) : Calls Tryd.prog 73 #[.int .i64 11] w fun e w'=>e = .returned (.int .i64 40693)∧Drawn0 w w':=by
 have hI : ∀ W : World,(Instr.index 125 (Value.agg #[Value.int IntKind.i64 65536,Value.int IntKind.i64 62757,Value.int IntKind.i64 60097,Value.int IntKind.i64 57549,Value.int IntKind.i64 55109,Value.int IntKind.i64 52773,Value.int IntKind.i64 50535,Value.int IntKind.i64 48393,Value.int IntKind.i64 46341,Value.int IntKind.i64 44376,Value.int IntKind.i64 42495,Value.int IntKind.i64 40693,Value.int IntKind.i64 38968,Value.int IntKind.i64 37316,Value.int IntKind.i64 35734,Value.int IntKind.i64 34219]) (.int .i64 11)).run Tryd.prog W = .ok (.int .i64 40693) W:=fun W=>by kernel_rfl
 go_enter Tryd.func73,Tryd.ntmps73
 go_wp2
 go_ret
 exact ⟨rfl,Drawn0.refl _⟩
theorem decay_steps.at12 (w : World) : Calls Tryd.prog 73 #[.int .i64 12] w fun e w'=>e = .returned (.int .i64 38968)∧Drawn0 w w':=by
 have hI : ∀ W : World,(Instr.index 125 (Value.agg #[Value.int IntKind.i64 65536,Value.int IntKind.i64 62757,Value.int IntKind.i64 60097,Value.int IntKind.i64 57549,Value.int IntKind.i64 55109,Value.int IntKind.i64 52773,Value.int IntKind.i64 50535,Value.int IntKind.i64 48393,Value.int IntKind.i64 46341,Value.int IntKind.i64 44376,Value.int IntKind.i64 42495,Value.int IntKind.i64 40693,Value.int IntKind.i64 38968,Value.int IntKind.i64 37316,Value.int IntKind.i64 35734,Value.int IntKind.i64 34219]) (.int .i64 12)).run Tryd.prog W = .ok (.int .i64 38968) W:=fun W=>by kernel_rfl
 go_enter Tryd.func73,Tryd.ntmps73
 go_wp2
 go_ret
 exact ⟨rfl,Drawn0.refl _⟩
theorem decay_steps.at13 (w : World) : Calls Tryd.prog 73 #[.int .i64 13] w fun e w'=>e = .returned (.int .i64 37316)∧Drawn0 w w':=by
 have hI : ∀ W : World,(Instr.index 125 (Value.agg #[Value.int IntKind.i64 65536,Value.int IntKind.i64 62757,Value.int IntKind.i64 60097,Value.int IntKind.i64 57549,Value.int IntKind.i64 55109,Value.int IntKind.i64 52773,Value.int IntKind.i64 50535,Value.int IntKind.i64 48393,Value.int IntKind.i64 46341,Value.int IntKind.i64 44376,Value.int IntKind.i64 42495,Value.int IntKind.i64 40693,Value.int IntKind.i64 38968,Value.int IntKind.i64 37316,Value.int IntKind.i64 35734,Value.int IntKind.i64 34219]) (.int .i64 13)).run Tryd.prog W = .ok (.int .i64 37316) W:=fun W=>by kernel_rfl
 go_enter Tryd.func73,Tryd.ntmps73
 go_wp2
 go_ret
 exact ⟨rfl,Drawn0.refl _⟩
theorem decay_steps.at14 (w : World) : Calls Tryd.prog 73 #[.int .i64 14] w fun e w'=>e = .returned (.int .i64 35734)∧Drawn0 w w':=by
 have hI : ∀ W : World,(Instr.index 125 (Value.agg #[Value.int IntKind.i64 65536,Value.int IntKind.i64 62757,Value.int IntKind.i64 60097,Value.int IntKind.i64 57549,Value.int IntKind.i64 55109,Value.int IntKind.i64 52773,Value.int IntKind.i64 50535,Value.int IntKind.i64 48393,Value.int IntKind.i64 46341,Value.int IntKind.i64 44376,Value.int IntKind.i64 42495,Value.int IntKind.i64 40693,Value.int IntKind.i64 38968,Value.int IntKind.i64 37316,Value.int IntKind.i64 35734,Value.int IntKind.i64 34219]) (.int .i64 14)).run Tryd.prog W = .ok (.int .i64 35734) W:=fun W=>by kernel_rfl
 go_enter Tryd.func73,Tryd.ntmps73
 go_wp2
 go_ret
 exact ⟨rfl,Drawn0.refl _⟩
theorem decay_steps.at15 (w : World) : Calls Tryd.prog 73 #[.int .i64 15] w fun e w'=>e = .returned (.int .i64 34219)∧Drawn0 w w':=by
 have hI : ∀ W : World,(Instr.index 125 (Value.agg #[Value.int IntKind.i64 65536,Value.int IntKind.i64 62757,Value.int IntKind.i64 60097,Value.int IntKind.i64 57549,Value.int IntKind.i64 55109,Value.int IntKind.i64 52773,Value.int IntKind.i64 50535,Value.int IntKind.i64 48393,Value.int IntKind.i64 46341,Value.int IntKind.i64 44376,Value.int IntKind.i64 42495,Value.int IntKind.i64 40693,Value.int IntKind.i64 38968,Value.int IntKind.i64 37316,Value.int IntKind.i64 35734,Value.int IntKind.i64 34219]) (.int .i64 15)).run Tryd.prog W = .ok (.int .i64 34219) W:=fun W=>by kernel_rfl
 go_enter Tryd.func73,Tryd.ntmps73
 go_wp2
 go_ret
 exact ⟨rfl,Drawn0.refl _⟩
theorem decay_steps.calls (a0 : Int) (r : Int) (w : World) (h : decay_steps.f a0 = some r) :
  Calls Tryd.prog 73 #[.int .i64 a0] w fun e w'=>e = .returned (.int .i64 r)∧Drawn0 w w':=by
 unfold decay_steps.f at h
 by_cases h0 : 0≤a0
 rotate_left
 ·rw [if_neg h0] at h;cases h
 rw [if_pos h0] at h
 by_cases h1 : a0 < 16
 rotate_left
 ·rw [if_neg h1] at h;cases h
 rw [if_pos h1] at h
 injection h with h
 subst h
 obtain rfl|rfl|rfl|rfl|rfl|rfl|rfl|rfl|rfl|rfl|rfl|rfl|rfl|rfl|rfl|rfl : a0 = 0 ∨ a0 = 1 ∨ a0 = 2 ∨ a0 = 3 ∨ a0 = 4 ∨ a0 = 5 ∨ a0 = 6 ∨ a0 = 7 ∨ a0 = 8 ∨ a0 = 9 ∨ a0 = 10 ∨ a0 = 11 ∨ a0 = 12 ∨ a0 = 13 ∨ a0 = 14 ∨ a0 = 15:=by omega
 ·exact decay_steps.at0 w
 ·exact decay_steps.at1 w
 ·exact decay_steps.at2 w
 ·exact decay_steps.at3 w
 ·exact decay_steps.at4 w
 ·exact decay_steps.at5 w
 ·exact decay_steps.at6 w
 ·exact decay_steps.at7 w
 ·exact decay_steps.at8 w
 ·exact decay_steps.at9 w
 ·exact decay_steps.at10 w
 ·exact decay_steps.at11 w
 ·exact decay_steps.at12 w
 ·exact decay_steps.at13 w
 ·exact decay_steps.at14 w
 ·exact decay_steps.at15 w
def decay_Factor.f (a0 : Int) (a1 : Int) : Option (Int × Int × Int):=if a0 < 0 then (some (0,0,2)) else (if a0 > 1099511627776 then (some (0,0,2)) else (if a1 < 1 then (some (0,0,2)) else (if a1 > 1099511627776 then (some (0,0,2)) else (if a1 = 0 then (none) else ((decay_steps.f (wrap64 (Int.tdiv (wrap64 ((Int.tmod a0 a1) * 16)) a1))).bind fun t149=>(some (wrap64 (Int.tdiv a0 a1),t149,0)))))))
set_option maxHeartbeats 8000000 in
set_option maxRecDepth 100000 in
theorem decay_Factor.calls (a0 : Int) (a1 : Int) (r1 : Int) (r2 : Int) (r3 : Int) (w : World) (h : decay_Factor.f a0 a1 = some (r1,r2,r3)) :
  Calls Tryd.prog 59 #[.int .i64 a0,.int .i64 a1] w fun e w'=>e = .returned (.tuple #[.int .i64 r1,.int .i64 r2,.int .i64 r3])∧Drawn0 w w':=by
 have H : (if a0 < 0 then (some (0,0,2)) else (if a0 > 1099511627776 then (some (0,0,2)) else (if a1 < 1 then (some (0,0,2)) else (if a1 > 1099511627776 then (some (0,0,2)) else (if a1 = 0 then (none) else ((decay_steps.f (wrap64 (Int.tdiv (wrap64 ((Int.tmod a0 a1) * 16)) a1))).bind fun t149=>(some (wrap64 (Int.tdiv a0 a1),t149,0)))))))) = some (r1,r2,r3):=h
 clear h
 by_cases c3 : a0 < 0
 ·rw [if_pos c3] at H
  have c3b0 : decide (a0 < 0) = true:=decide_eq_true c3
  clear c3
  simp only [Option.some.injEq,Prod.mk.injEq] at H
  obtain ⟨rfl,rfl,rfl⟩:=H
  go_enter Tryd.func59,Tryd.ntmps59
  go_wp2
  repeat (go_quiet (fail);try go_wp2)
  go_ret3
  exact ⟨by first|rfl|(simp;done)|(simp [*];done),by repeat (first|exact Drawn0.refl _|apply Drawn0.step)⟩
 rw [if_neg c3] at H
 have c3b0 : decide (a0 < 0) = false:=decide_eq_false c3
 clear c3
 by_cases c4 : a0 > 1099511627776
 ·rw [if_pos c4] at H
  have c4b0 : decide (1099511627776 < a0) = true:=decide_eq_true c4
  clear c4
  simp only [Option.some.injEq,Prod.mk.injEq] at H
  obtain ⟨rfl,rfl,rfl⟩:=H
  go_enter Tryd.func59,Tryd.ntmps59
  go_wp2
  repeat (go_quiet (fail);try go_wp2)
  go_ret3
  exact ⟨by first|rfl|(simp;done)|(simp [*];done),by repeat (first|exact Drawn0.refl _|apply Drawn0.step)⟩
 rw [if_neg c4] at H
 have c4b0 : decide (1099511627776 < a0) = false:=decide_eq_false c4
 clear c4
 by_cases c5 : a1 < 1
 ·rw [if_pos c5] at H
  have c5b0 : decide (a1 < 1) = true:=decide_eq_true c5
  clear c5
  simp only [Option.some.injEq,Prod.mk.injEq] at H
  obtain ⟨rfl,rfl,rfl⟩:=H
  go_enter Tryd.func59,Tryd.ntmps59
  go_wp2
  repeat (go_quiet (fail);try go_wp2)
  go_ret3
  exact ⟨by first|rfl|(simp;done)|(simp [*];done),by repeat (first|exact Drawn0.refl _|apply Drawn0.step)⟩
 rw [if_neg c5] at H
 have c5b0 : decide (a1 < 1) = false:=decide_eq_false c5
 clear c5
 by_cases c6 : a1 > 1099511627776
 ·rw [if_pos c6] at H
  have c6b0 : decide (1099511627776 < a1) = true:=decide_eq_true c6
  clear c6
  simp only [Option.some.injEq,Prod.mk.injEq] at H
  obtain ⟨rfl,rfl,rfl⟩:=H
  go_enter Tryd.func59,Tryd.ntmps59
  go_wp2
  repeat (go_quiet (fail);try go_wp2)
  go_ret3
  exact ⟨by first|rfl|(simp;done)|(simp [*];done),by repeat (first|exact Drawn0.refl _|apply Drawn0.step)⟩
 rw [if_neg c6] at H
 have c6b0 : decide (1099511627776 < a1) = false:=decide_eq_false c6
 clear c6
 by_cases c7 : a1 = 0
 ·rw [if_pos c7] at H
  exact absurd H (by simp)
 rw [if_neg c7] at H
 have c7b0 : (a1 == 0) = false:=beq_eq_false_iff_ne.mpr c7
 have c7b1 : (a1 != 0) = true:=bne_iff_ne.mpr c7
 replace H:=oB H
 obtain ⟨t149,A80,H⟩:=H
 try dsimp only at H
 have A8:=Am A80
 clear A80
 simp only [Option.some.injEq,Prod.mk.injEq] at H
 obtain ⟨rfl,rfl,rfl⟩:=H
 go_enter Tryd.func59,Tryd.ntmps59
 go_wp2_with (first|(go_at_call 73;(with_reducible refine (decay_steps.calls (wrap64 (Int.tdiv (wrap64 ((Int.tmod a0 a1) * 16)) a1)) t149 _ A8.out).mono ?_);rintro e w' ⟨rfl,⟨nd,rfl⟩⟩;(try first|exact ⟨rfl,_,wD _ _ _⟩|exact ⟨rfl,_,wE _ _ _ _⟩)))
 repeat (go_quiet (first|(go_at_call 73;(with_reducible refine (decay_steps.calls (wrap64 (Int.tdiv (wrap64 ((Int.tmod a0 a1) * 16)) a1)) t149 _ A8.out).mono ?_);rintro e w' ⟨rfl,⟨nd,rfl⟩⟩;(try first|exact ⟨rfl,_,wD _ _ _⟩|exact ⟨rfl,_,wE _ _ _ _⟩)));try go_wp2_with (first|(go_at_call 73;(with_reducible refine (decay_steps.calls (wrap64 (Int.tdiv (wrap64 ((Int.tmod a0 a1) * 16)) a1)) t149 _ A8.out).mono ?_);rintro e w' ⟨rfl,⟨nd,rfl⟩⟩;(try first|exact ⟨rfl,_,wD _ _ _⟩|exact ⟨rfl,_,wE _ _ _ _⟩))))
 go_ret3
 exact ⟨by first|rfl|(simp;done)|(simp [*];done),by repeat (first|exact Drawn0.refl _|apply Drawn0.step)⟩
def bits_Mul64.f (a0 : Int) (a1 : Int) : Option (Int × Int):=if 0≤a0 then (if a0 < 18446744073709551616 then (if 0≤a1 then (if a1 < 18446744073709551616 then some (a0 * a1 / 18446744073709551616,a0 * a1 % 18446744073709551616) else none) else none) else none) else none
theorem bits_Mul64.calls (a0 : Int) (a1 : Int) (r1 : Int) (r2 : Int) (w : World) (h : bits_Mul64.f a0 a1 = some (r1,r2)) :
  Calls Tryd.prog 74 #[.int .u64 a0,.int .u64 a1] w fun e w'=>e = .returned (.tuple #[.int .u64 r1,.int .u64 r2])∧Drawn0 w w':=by
 unfold bits_Mul64.f at h
 by_cases h0 : 0≤a0
 rotate_left
 ·rw [if_neg h0] at h;cases h
 rw [if_pos h0] at h
 by_cases h1 : a0 < 18446744073709551616
 rotate_left
 ·rw [if_neg h1] at h;cases h
 rw [if_pos h1] at h
 by_cases h2 : 0≤a1
 rotate_left
 ·rw [if_neg h2] at h;cases h
 rw [if_pos h2] at h
 by_cases h3 : a1 < 18446744073709551616
 rotate_left
 ·rw [if_neg h3] at h;cases h
 rw [if_pos h3] at h
 obtain ⟨x,rfl⟩ : ∃ x : Nat,a0 = x:=⟨a0.toNat,by omega⟩
 obtain ⟨y,rfl⟩ : ∃ y : Nat,a1 = y:=⟨a1.toNat,by omega⟩
 simp only [Option.some.injEq,Prod.mk.injEq] at h
 obtain ⟨rfl,rfl⟩:=h
 refine (Tryd.bits_Mul64 x y (by omega) (by omega) w).mono ?_
 rintro e w' ⟨rfl,rfl⟩
 refine ⟨?_,Drawn0.refl _⟩
 rw [Int.natCast_ediv,Int.natCast_emod,Int.natCast_mul]
 rfl
def bits_LeadingZeros64.f (a0 : Int) : Option (Int):=(bits_Len64.f a0).bind fun t150=>(some (wrap64 (64 - t150)))
set_option maxHeartbeats 8000000 in
set_option maxRecDepth 100000 in
theorem bits_LeadingZeros64.calls (a0 : Int) (r : Int) (w : World) (h : bits_LeadingZeros64.f a0 = some r) :
  Calls Tryd.prog 84 #[.int .u64 a0] w fun e w'=>e = .returned (.int .i64 r)∧Drawn0 w w':=by
 have H : ((bits_Len64.f a0).bind fun t150=>(some (wrap64 (64 - t150)))) = some r:=h
 clear h
 replace H:=oB H
 obtain ⟨t150,A20,H⟩:=H
 try dsimp only at H
 have A2:=Am A20
 clear A20
 obtain rfl:=Option.some.inj H
 go_enter Tryd.func84,Tryd.ntmps84
 go_wp2_with (first|((with_reducible refine gC (f:=78) rfl ?_);refine goesL_ (some 4) rfl rfl Tryd.func78 (by kernel_rfl) rfl #[.int .u64 a0] rfl (by (try simp only [mT,mC,mN]);first|done|rfl|(simp only [lD,lT];rfl)) ?_;(with_reducible refine (bits_Len64.calls a0 t150 _ A2.out).mono ?_);rintro e w' ⟨rfl,⟨nd,rfl⟩⟩;refine ⟨_,rfl,?_⟩))
 go_ret
 exact ⟨by first|rfl|(simp;done)|(simp [*];done),by repeat (first|exact Drawn0.refl _|apply Drawn0.step)⟩
end Go.Proofs.YtakdneopmojjdaaDoor.P
