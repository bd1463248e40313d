/- cut to what one law reaches -/
import Derived.Test.YtakdneopmojjdaaDoorBfShort
import Derived.Test.YtakdneopmojjdaaDoorBfP0
import Derived.Test.YtakdneopmojjdaaDoorBfP7
import Derived.Test.YtakdneopmojjdaaDoorBfP9
import Derived.Test.YtakdneopmojjdaaDoorBfP10
namespace Go.Proofs.YtakdneopmojjdaaDoor.P
open Go.RowKit Go.Proofs.YtakdneopmojjdaaDoorW.PrintWords Go.Proofs.YtakdneopmojjdaaDoorW.PrintLast Go.Proofs.YtakdneopmojjdaaDoorW.PrintMore
attribute [local go_sem] max2_int min2_int max_two min_two max_three min_three max_four min_four   -- for this text's walks alone
set_option linter.unusedVariables false
set_option linter.unusedSimpArgs false
attribute [local go_sem] isSome_setCell
mutual
def gangerlaw20_BookFalls.j0 : Nat→List (S24)→ByteArray→Int→Int→Int→Bool→Int→ByteArray→Int→Int→Int→Int→Option (Bool)
 | 0,_,_,_,_,_,_,_,_,_,_,_,_=>none
 | k + 1,x0,x1,x2,x3,x4,x30,u_0,u_1,u_2,u_3,u_4,u_5=>if x30 = true then ((gangerlaw20_known.f k).bind fun t327=>(some t327)) else ((book_Usage.f k x0 x1 x2 x4).bind fun bt328=>(if bt328.2 = 0 then ((book_Total.f k x0 x1).bind fun t331=>(if bt328.1 > t331 then (gangerlaw20_BookFalls.j1 k x0 x1 x2 x3 x4 bt328.1 true u_0 u_1 u_2 u_3 u_4 u_5) else (gangerlaw20_BookFalls.j1 k x0 x1 x2 x3 x4 bt328.1 (decide (bt328.1 < 0)) u_0 u_1 u_2 u_3 u_4 u_5))) else (if bt328.1 = 0 then ((gangerlaw20_known.f k).bind fun t330=>(some t330)) else (none))))
def gangerlaw20_BookFalls.j1 : Nat→List (S24)→ByteArray→Int→Int→Int→Int→Bool→Int→ByteArray→Int→Int→Int→Int→Option (Bool)
 | 0,_,_,_,_,_,_,_,_,_,_,_,_,_=>none
 | k + 1,x0,x1,x2,x3,x4,x13,x55,u_0,u_1,u_2,u_3,u_4,u_5=>if x55 = true then (none) else ((book_Usage.f k x0 x1 (wrap64 (x2 + (wrap64 (x3)))) x4).bind fun bt332=>(if bt332.2 = 0 then (gangerlaw20_BookFalls.j2 k x0 x1 x2 x4 x13 (decide (bt332.1 > x13)) u_0 u_1 u_2 u_3 u_4 u_5) else (gangerlaw20_BookFalls.j2 k x0 x1 x2 x4 x13 false u_0 u_1 u_2 u_3 u_4 u_5)))
def gangerlaw20_BookFalls.j2 : Nat→List (S24)→ByteArray→Int→Int→Int→Bool→Int→ByteArray→Int→Int→Int→Int→Option (Bool)
 | 0,_,_,_,_,_,_,_,_,_,_,_,_=>none
 | k + 1,x0,x1,x2,x4,x13,x73,u_0,u_1,u_2,u_3,u_4,u_5=>if x73 = true then (none) else (if ([] : List (S24)).length + x0.length < 2513169434916 then ((some (([] : List (S24)) ++ x0 : List (S24))).bind fun y334=>(if y334.length < 2513169434916 then ((book_Usage.f k (y334 ++ [(⟨u_0,u_1,u_2,u_3,u_4,x2⟩ : S24)]) x1 x2 x4).bind fun bt340=>(if bt340.2 = 0 then (gangerlaw20_BookFalls.j3 k x0 x2 x4 (decide (bt340.1 < x13))) else (gangerlaw20_BookFalls.j3 k x0 x2 x4 false))) else (none))) else (none))
def gangerlaw20_BookFalls.j3 : Nat→List (S24)→Int→Int→Bool→Option (Bool)
 | 0,_,_,_,_=>none
 | k + 1,x0,x2,x4,x97=>if x97 = true then (none) else ((book_Usage.f k x0 (⟨#[]⟩ : ByteArray) x2 x4).bind fun bt342=>(if bt342.1 = 0 then (if bt342.2 = 0 then ((gangerlaw20_known.f k).bind fun t344=>(some t344)) else (none)) else (none)))
end
def gangerlaw20_BookFalls.f (k : Nat) (l0 : List (S24)) (a1 : ByteArray) (a2 : Int) (a3 : Int) (a4 : Int) (a5_0 : Int) (a5_1 : ByteArray) (a5_2 : Int) (a5_3 : Int) (a5_4 : Int) (a5_5 : Int) : Option (Bool):=(gangerlaw20_many.f k l0 a1).bind fun t326=>(if t326 = true then (gangerlaw20_BookFalls.j0 k l0 a1 a2 a3 a4 true a5_0 a5_1 a5_2 a5_3 a5_4 a5_5) else (gangerlaw20_BookFalls.j0 k l0 a1 a2 a3 a4 (decide ((a5_1.size : Int) > 300)) a5_0 a5_1 a5_2 a5_3 a5_4 a5_5))
set_option maxHeartbeats 8000000 in
set_option maxRecDepth 100000 in
theorem gangerlaw20_BookFalls.calls (k : Nat) (A0 : Option Addr) (c0 : Nat) (l0 : List (S24)) (a1 : ByteArray) (a2 : Int) (a3 : Int) (a4 : Int) (a5_0 : Int) (a5_1 : ByteArray) (a5_2 : Int) (a5_3 : Int) (a5_4 : Int) (a5_5 : Int) (r : Bool) (w : World) (hG : Glob w) (hr0 : Kd.C k24 w A0 l0.length l0) (hc0 : l0.length≤c0) (h : gangerlaw20_BookFalls.f k l0 a1 a2 a3 a4 a5_0 a5_1 a5_2 a5_3 a5_4 a5_5 = some r) :
  Calls Tryd.prog 5 #[.slice A0 l0.length c0,.string a1,.int .i64 a2,.int .u16 a3,.int .i64 a4,.agg #[.int .u32 a5_0,.string a5_1,.int .i64 a5_2,.int .i64 a5_3,.int .i64 a5_4,.int .i64 a5_5]] w fun e w'=>e = .returned (.bool r)∧Below w.heap.size w w':=by
 have hu24:=Tryd.underlying24
 have HG:=Am hG
 clear hG
 have HR0:=Am hr0
 have HC0:=Am hc0
 clear hr0 hc0
 have HB:=Am (Below.refl w.heap.size w)
 have H : ((gangerlaw20_many.f k l0 a1).bind fun t326=>(if t326 = true then (gangerlaw20_BookFalls.j0 k l0 a1 a2 a3 a4 true a5_0 a5_1 a5_2 a5_3 a5_4 a5_5) else (gangerlaw20_BookFalls.j0 k l0 a1 a2 a3 a4 (decide ((a5_1.size : Int) > 300)) a5_0 a5_1 a5_2 a5_3 a5_4 a5_5))) = some r:=h
 clear h
 have HC7:=Am H
 clear H
 go_enter Tryd.func5,Tryd.ntmps5
 go_upto_region 1 with (first|((with_reducible refine gD (N:=11) rfl ?_);(try (refine gate_guard (by rfl) ?_;dsimp only));refine box_event ?hg (N:=11) ?hd (cs:=#[.int .u32 a5_0,.string a5_1,.int .i64 a5_2,.int .i64 a5_3,.int .i64 a5_4,.int .i64 a5_5]) (t:=24) ?hr ?_;(case hd=>rfl);(case hg=>rfl);(case hr=>first|(go_simp;done)|(go_simp;rfl));intro gb325 hg w8 hbox hb;have n0_:=Am (below_step (by repeat (first|(with_reducible first|exact HB.out|apply bL|apply pN|apply bE)|exact HB.out)) hb);have n1_:=Am (hbox);have n2_:=Am ((by rw [hg];exact (bZ (by repeat (first|(with_reducible first|exact HB.out|apply bL|apply pN|apply bE)|exact HB.out))) : w.heap.size≤gb325));have n3_:=n2_;clear HB;have HB:=n0_;have BK325:=n1_;have GW325:=n2_;have GE325:=n3_;clear n0_ n1_ n2_ n3_;clear hb hbox hg))
 (try simp only [Act.put,sT,sZ,sS])
 go_cut [30] (fun v30 wc=>∃ (kq : Nat) (x30_6 : Bool),v30 = .bool x30_6∧Aside0 (gangerlaw20_BookFalls.j0 kq l0 a1 a2 a3 a4 x30_6 a5_0 a5_1 a5_2 a5_3 a5_4 a5_5 = some r)∧Aside0 (kq≤k)∧Aside0 (wc.heap[gb325]? = some (.cells #[.int .u32 a5_0,.string a5_1,.int .i64 a5_2,.int .i64 a5_3,.int .i64 a5_4,.int .i64 a5_5] 24 (0,0)))∧Aside0 (Below w.heap.size w wc))
 case first =>
  have H:=HC7.out
  clear HC7
  replace H:=oB H
  obtain ⟨t326,A90,H⟩:=H
  try dsimp only at H
  have A9:=Am A90
  clear A90
  by_cases c10 : t326 = true
  ·subst c10
   have H1 : (gangerlaw20_BookFalls.j0 k l0 a1 a2 a3 a4 true a5_0 a5_1 a5_2 a5_3 a5_4 a5_5) = some r:=by rw [if_pos rfl] at H;exact H
   clear H
   have H:=H1
   clear H1
   have H':=Am H
   clear H
   go_wp2_with (first|((with_reducible refine gC (f:=11) rfl ?_);refine goesL_ (some 24) rfl rfl Tryd.func11 (by kernel_rfl) rfl #[.slice A0 l0.length c0,.string a1] rfl (by (try simp only [mT,mC,mN]);first|done|rfl|(simp only [lD,lT];rfl)) ?_;(with_reducible refine (gangerlaw20_many.calls k _ _ l0 a1 true _ ?side1 ?side2 A9.out).mono ?_);(case side1=>repeat (first|exact (Kd.C_below HR0.out HB.out)|(with_reducible refine Kd.C_alloc ?_ _)|(with_reducible refine Kd.C_drewN ?_ _)|(with_reducible refine Kd.C_drew ?_)));(case side2=>exact HC0.out);rintro e w' ⟨rfl,⟨nd,rfl⟩⟩;refine ⟨_,rfl,?_⟩))
   go_meet
   case rel=>exact ⟨_,(true),(by first|rfl|(simp;done)|(simp [*];done)),H',⟨by first|omega|exact Nat.le_refl _⟩,⟨by (with_reducible repeat (first|refine bN ?_ _|refine bD ?_|refine bA ?_ _));exact BK325.out⟩,⟨by repeat (first|(with_reducible first|exact HB.out|apply bL|apply pN|apply bE|refine bS ?_ GE325.out)|exact HB.out)⟩⟩
  replace c10:=Bool.eq_false_iff.mpr c10
  subst c10
  have H1 : (gangerlaw20_BookFalls.j0 k l0 a1 a2 a3 a4 (decide ((a5_1.size : Int) > 300)) a5_0 a5_1 a5_2 a5_3 a5_4 a5_5) = some r:=by rw [if_neg (show ¬ (false = true) by decide)] at H;exact H
  clear H
  have H:=H1
  clear H1
  have H':=Am H
  clear H
  go_wp2_with (first|((with_reducible refine gC (f:=11) rfl ?_);refine goesL_ (some 24) rfl rfl Tryd.func11 (by kernel_rfl) rfl #[.slice A0 l0.length c0,.string a1] rfl (by (try simp only [mT,mC,mN]);first|done|rfl|(simp only [lD,lT];rfl)) ?_;(with_reducible refine (gangerlaw20_many.calls k _ _ l0 a1 false _ ?side1 ?side2 A9.out).mono ?_);(case side1=>repeat (first|exact (Kd.C_below HR0.out HB.out)|(with_reducible refine Kd.C_alloc ?_ _)|(with_reducible refine Kd.C_drewN ?_ _)|(with_reducible refine Kd.C_drew ?_)));(case side2=>exact HC0.out);rintro e w' ⟨rfl,⟨nd,rfl⟩⟩;refine ⟨_,rfl,?_⟩;obtain ⟨X11_0,X11_1,X11_2,X11_3,X11_4,X11_5,Y11_0,Y11_1,Y11_2,Y11_3,Y11_4,Y11_5⟩:=kc6 (w:=w8) (g:=gb325) BK325.out))
  go_meet
  case rel=>exact ⟨_,(decide ((a5_1.size : Int) > 300)),(by first|rfl|(simp;done)|(simp [*];done)),H',⟨by first|omega|exact Nat.le_refl _⟩,⟨by (with_reducible repeat (first|refine bN ?_ _|refine bD ?_|refine bA ?_ _));exact BK325.out⟩,⟨by repeat (first|(with_reducible first|exact HB.out|apply bL|apply pN|apply bE|refine bS ?_ GE325.out)|exact HB.out)⟩⟩
 case rest =>
  clear HC7
  obtain ⟨kq,x30_6,rfl,HA,HJ6,BK325,HB⟩:=hcut
  cases kq with
  | zero=>exact absurd HA.out (by simp [gangerlaw20_BookFalls.j0])
  | succ kj6 =>
   have H:=HA.out
   clear HA
   simp only [gangerlaw20_BookFalls.j0] at H
   by_cases c12 : x30_6 = true
   ·subst c12
    have H1 : ((gangerlaw20_known.f kj6).bind fun t327=>(some t327)) = some r:=by rw [if_pos rfl] at H;exact H
    clear H
    have H:=H1
    clear H1
    replace H:=oB H
    obtain ⟨t327,A130,H⟩:=H
    try dsimp only at H
    have A13:=Am A130
    clear A130
    obtain rfl:=Option.some.inj H
    go_wp2_with (first|((with_reducible refine gC (f:=8) rfl ?_);refine goesL_ (some 31) rfl rfl Tryd.func8 (by kernel_rfl) rfl #[] rfl (by (try simp only [mT,mC,mN]);first|done|rfl|(simp only [lD,lT];rfl)) ?_;(with_reducible refine (gangerlaw20_known.calls kj6  t327 _ ?side1 A13.out).mono ?_);(case side1=>exact Glob.below HG.out (by repeat (first|(with_reducible first|exact HB.out|apply bL|apply pN|apply bE|refine bS ?_ GE325.out)|exact HB.out)));rintro e w14 ⟨rfl,hb⟩;refine ⟨_,rfl,?_⟩;have n0_:=Am (blk_below (g:=gb325) (by (with_reducible repeat (first|refine bN ?_ _|refine bD ?_|refine bA ?_ _));exact BK325.out) hb);have n1_:=Am (below_step (by repeat (first|(with_reducible first|exact HB.out|apply bL|apply pN|apply bE|refine bS ?_ GE325.out)|exact HB.out)) hb);clear BK325;clear HB;have BK325:=n0_;have HB:=n1_;clear n0_ n1_))
    go_ret
    exact ⟨by first|rfl|(simp [errW_none,errW_some] <;> rfl)|(simp [*,errW_none,errW_some] <;> rfl)|(simp [bne,isE_]),by repeat (first|(with_reducible first|exact HB.out|apply bL|apply pN|apply bE|refine bS ?_ GE325.out)|exact HB.out)⟩
   replace c12:=Bool.eq_false_iff.mpr c12
   subst c12
   have H1 : ((book_Usage.f kj6 l0 a1 a2 a4).bind fun bt328=>(if bt328.2 = 0 then ((book_Total.f kj6 l0 a1).bind fun t331=>(if bt328.1 > t331 then (gangerlaw20_BookFalls.j1 kj6 l0 a1 a2 a3 a4 bt328.1 true a5_0 a5_1 a5_2 a5_3 a5_4 a5_5) else (gangerlaw20_BookFalls.j1 kj6 l0 a1 a2 a3 a4 bt328.1 (decide (bt328.1 < 0)) a5_0 a5_1 a5_2 a5_3 a5_4 a5_5))) else (if bt328.1 = 0 then ((gangerlaw20_known.f kj6).bind fun t330=>(some t330)) else (none)))) = some r:=by rw [if_neg (show ¬ (false = true) by decide)] at H;exact H
   clear H
   have H:=H1
   clear H1
   replace H:=oB H
   obtain ⟨⟨t328,t329⟩,A150,H⟩:=H
   replace H : (if t329 = 0 then ((book_Total.f kj6 l0 a1).bind fun t331=>(if t328 > t331 then (gangerlaw20_BookFalls.j1 kj6 l0 a1 a2 a3 a4 t328 true a5_0 a5_1 a5_2 a5_3 a5_4 a5_5) else (gangerlaw20_BookFalls.j1 kj6 l0 a1 a2 a3 a4 t328 (decide (t328 < 0)) a5_0 a5_1 a5_2 a5_3 a5_4 a5_5))) else (if t328 = 0 then ((gangerlaw20_known.f kj6).bind fun t330=>(some t330)) else (none))) = some r:=H
   have A15:=Am A150
   clear A150
   by_cases c16 : t329 = 0
   rotate_left
   ·rw [if_neg c16] at H
    have c16b0 : (t329 == 0) = false:=beq_eq_false_iff_ne.mpr c16
    have c16b1 : (t329 != 0) = true:=bne_iff_ne.mpr c16
    by_cases c46 : t328 = 0
    rotate_left
    ·rw [if_neg c46] at H
     exact absurd H (by simp)
    rw [if_pos c46] at H
    have c46b0 : (t328 == 0) = true:=beq_iff_eq.mpr c46
    have c46b1 : (t328 != 0) = false:=bne_eq_false_iff_eq.mpr c46
    clear c46
    replace H:=oB H
    obtain ⟨t330,A470,H⟩:=H
    try dsimp only at H
    have A47:=Am A470
    clear A470
    obtain rfl:=Option.some.inj H
    go_wp2_with (first|((with_reducible refine gC (f:=14) rfl ?_);refine goesL_ (some 37) rfl rfl Tryd.func14 (by kernel_rfl) rfl #[.slice A0 l0.length c0,.string a1,.int .i64 a2,.int .i64 a4] rfl (by (try simp only [mT,mC,mN]);first|done|rfl|(simp only [lD,lT];rfl)) ?_;(with_reducible refine (book_Usage.calls kj6 _ _ l0 a1 a2 a4 t328 t329 _ ?side1 ?side2 ?side3 A15.out).mono ?_);(case side1=>exact Glob.below HG.out (by repeat (first|(with_reducible first|exact HB.out|apply bL|apply pN|apply bE|refine bS ?_ GE325.out)|exact HB.out)));(case side2=>repeat (first|exact (Kd.C_below HR0.out HB.out)|(with_reducible refine Kd.C_alloc ?_ _)|(with_reducible refine Kd.C_drewN ?_ _)|(with_reducible refine Kd.C_drew ?_)));(case side3=>exact HC0.out);rintro e w48 ⟨rfl,hb⟩;refine ⟨_,rfl,?_⟩;have n0_:=Am (blk_below (g:=gb325) (by (with_reducible repeat (first|refine bN ?_ _|refine bD ?_|refine bA ?_ _));exact BK325.out) hb);have n1_:=Am (below_step (by repeat (first|(with_reducible first|exact HB.out|apply bL|apply pN|apply bE|refine bS ?_ GE325.out)|exact HB.out)) hb);clear BK325;clear HB;have BK325:=n0_;have HB:=n1_;clear n0_ n1_)|(go_at_call 8;(with_reducible refine (gangerlaw20_known.calls kj6  t330 _ ?side1 A47.out).mono ?_);(case side1=>exact Glob.below HG.out (by repeat (first|(with_reducible first|exact HB.out|apply bL|apply pN|apply bE|refine bS ?_ GE325.out)|exact HB.out)));rintro e w49 ⟨rfl,hb⟩;have n0_:=Am (blk_below (g:=gb325) (by (with_reducible repeat (first|refine bN ?_ _|refine bD ?_|refine bA ?_ _));exact BK325.out) hb);have n1_:=Am (below_step (by repeat (first|(with_reducible first|exact HB.out|apply bL|apply pN|apply bE|refine bS ?_ GE325.out)|exact HB.out)) hb);clear BK325;clear HB;have BK325:=n0_;have HB:=n1_;clear n0_ n1_))
    go_ret
    exact ⟨by first|rfl|(simp [errW_none,errW_some] <;> rfl)|(simp [*,errW_none,errW_some] <;> rfl)|(simp [bne,isE_]),by repeat (first|(with_reducible first|exact HB.out|apply bL|apply pN|apply bE|refine bS ?_ GE325.out)|exact HB.out)⟩
   rw [if_pos c16] at H
   have c16b0 : (t329 == 0) = true:=beq_iff_eq.mpr c16
   have c16b1 : (t329 != 0) = false:=bne_eq_false_iff_eq.mpr c16
   clear c16
   have HC17:=Am H
   clear H
   go_upto_region 6 with (first|((with_reducible refine gC (f:=14) rfl ?_);refine goesL_ (some 37) rfl rfl Tryd.func14 (by kernel_rfl) rfl #[.slice A0 l0.length c0,.string a1,.int .i64 a2,.int .i64 a4] rfl (by (try simp only [mT,mC,mN]);first|done|rfl|(simp only [lD,lT];rfl)) ?_;(with_reducible refine (book_Usage.calls kj6 _ _ l0 a1 a2 a4 t328 t329 _ ?side1 ?side2 ?side3 A15.out).mono ?_);(case side1=>exact Glob.below HG.out (by repeat (first|(with_reducible first|exact HB.out|apply bL|apply pN|apply bE|refine bS ?_ GE325.out)|exact HB.out)));(case side2=>repeat (first|exact (Kd.C_below HR0.out HB.out)|(with_reducible refine Kd.C_alloc ?_ _)|(with_reducible refine Kd.C_drewN ?_ _)|(with_reducible refine Kd.C_drew ?_)));(case side3=>exact HC0.out);rintro e w18 ⟨rfl,hb⟩;refine ⟨_,rfl,?_⟩;have n0_:=Am (blk_below (g:=gb325) (by (with_reducible repeat (first|refine bN ?_ _|refine bD ?_|refine bA ?_ _));exact BK325.out) hb);have n1_:=Am (below_step (by repeat (first|(with_reducible first|exact HB.out|apply bL|apply pN|apply bE|refine bS ?_ GE325.out)|exact HB.out)) hb);clear BK325;clear HB;have BK325:=n0_;have HB:=n1_;clear n0_ n1_))
   (try simp only [Act.put,sT,sZ,sS])
   go_cut [55] (fun v55 wc=>∃ (kq : Nat) (x55_16 : Bool),v55 = .bool x55_16∧Aside0 (gangerlaw20_BookFalls.j1 kq l0 a1 a2 a3 a4 t328 x55_16 a5_0 a5_1 a5_2 a5_3 a5_4 a5_5 = some r)∧Aside0 (kq≤kj6)∧Aside0 (wc.heap[gb325]? = some (.cells #[.int .u32 a5_0,.string a5_1,.int .i64 a5_2,.int .i64 a5_3,.int .i64 a5_4,.int .i64 a5_5] 24 (0,0)))∧Aside0 (Below w.heap.size w wc))
   case first =>
    have H:=HC17.out
    clear HC17
    replace H:=oB H
    obtain ⟨t331,A190,H⟩:=H
    try dsimp only at H
    have A19:=Am A190
    clear A190
    by_cases c20 : t328 > t331
    ·rw [if_pos c20] at H
     have c20b0 : decide (t331 < t328) = true:=decide_eq_true c20
     clear c20
     (first|rw [c20b0]|(simp only [iW,iV];rw [c20b0])|skip)
     have H':=Am H
     clear H
     go_wp2_with (first|((with_reducible refine gC (f:=13) rfl ?_);refine goesL_ (some 50) rfl rfl Tryd.func13 (by kernel_rfl) rfl #[.slice A0 l0.length c0,.string a1] rfl (by (try simp only [mT,mC,mN]);first|done|rfl|(simp only [lD,lT];rfl)) ?_;(with_reducible refine (book_Total.calls kj6 _ _ l0 a1 t331 _ ?side1 ?side2 ?side3 A19.out).mono ?_);(case side1=>exact Glob.below HG.out (by repeat (first|(with_reducible first|exact HB.out|apply bL|apply pN|apply bE|refine bS ?_ GE325.out)|exact HB.out)));(case side2=>repeat (first|exact (Kd.C_below HR0.out HB.out)|(with_reducible refine Kd.C_alloc ?_ _)|(with_reducible refine Kd.C_drewN ?_ _)|(with_reducible refine Kd.C_drew ?_)));(case side3=>exact HC0.out);rintro e w21 ⟨rfl,hb⟩;refine ⟨_,rfl,?_⟩;have n0_:=Am (blk_below (g:=gb325) (by (with_reducible repeat (first|refine bN ?_ _|refine bD ?_|refine bA ?_ _));exact BK325.out) hb);have n1_:=Am (below_step (by repeat (first|(with_reducible first|exact HB.out|apply bL|apply pN|apply bE|refine bS ?_ GE325.out)|exact HB.out)) hb);clear BK325;clear HB;have BK325:=n0_;have HB:=n1_;clear n0_ n1_))
     go_meet
     case rel=>exact ⟨_,(true),(by first|rfl|(simp;done)|(simp [*];done)),H',⟨by have:=HJ6.out;first|omega|exact Nat.le_refl _⟩,⟨by (with_reducible repeat (first|refine bN ?_ _|refine bD ?_|refine bA ?_ _));exact BK325.out⟩,⟨by repeat (first|(with_reducible first|exact HB.out|apply bL|apply pN|apply bE|refine bS ?_ GE325.out)|exact HB.out)⟩⟩
    rw [if_neg c20] at H
    have c20b0 : decide (t331 < t328) = false:=decide_eq_false c20
    clear c20
    (first|rw [c20b0]|(simp only [iW,iV];rw [c20b0])|skip)
    have H':=Am H
    clear H
    go_wp2_with (first|((with_reducible refine gC (f:=13) rfl ?_);refine goesL_ (some 50) rfl rfl Tryd.func13 (by kernel_rfl) rfl #[.slice A0 l0.length c0,.string a1] rfl (by (try simp only [mT,mC,mN]);first|done|rfl|(simp only [lD,lT];rfl)) ?_;(with_reducible refine (book_Total.calls kj6 _ _ l0 a1 t331 _ ?side1 ?side2 ?side3 A19.out).mono ?_);(case side1=>exact Glob.below HG.out (by repeat (first|(with_reducible first|exact HB.out|apply bL|apply pN|apply bE|refine bS ?_ GE325.out)|exact HB.out)));(case side2=>repeat (first|exact (Kd.C_below HR0.out HB.out)|(with_reducible refine Kd.C_alloc ?_ _)|(with_reducible refine Kd.C_drewN ?_ _)|(with_reducible refine Kd.C_drew ?_)));(case side3=>exact HC0.out);rintro e w22 ⟨rfl,hb⟩;refine ⟨_,rfl,?_⟩;have n0_:=Am (blk_below (g:=gb325) (by (with_reducible repeat (first|refine bN ?_ _|refine bD ?_|refine bA ?_ _));exact BK325.out) hb);have n1_:=Am (below_step (by repeat (first|(with_reducible first|exact HB.out|apply bL|apply pN|apply bE|refine bS ?_ GE325.out)|exact HB.out)) hb);clear BK325;clear HB;have BK325:=n0_;have HB:=n1_;clear n0_ n1_))
    go_meet
    case rel=>exact ⟨_,(decide (t328 < 0)),(by first|rfl|(simp;done)|(simp [*];done)),H',⟨by have:=HJ6.out;first|omega|exact Nat.le_refl _⟩,⟨by (with_reducible repeat (first|refine bN ?_ _|refine bD ?_|refine bA ?_ _));exact BK325.out⟩,⟨by repeat (first|(with_reducible first|exact HB.out|apply bL|apply pN|apply bE|refine bS ?_ GE325.out)|exact HB.out)⟩⟩
   case rest =>
    clear HC17
    obtain ⟨kq,x55_16,rfl,HA,HJ16,BK325,HB⟩:=hcut
    cases kq with
    | zero=>exact absurd HA.out (by simp [gangerlaw20_BookFalls.j1])
    | succ kj16 =>
     have H:=HA.out
     clear HA
     simp only [gangerlaw20_BookFalls.j1] at H
     by_cases c23 : x55_16 = true
     ·subst c23
      have H1 : (none) = some r:=by rw [if_pos rfl] at H;exact H
      clear H
      have H:=H1
      clear H1
      exact absurd H (by simp)
     replace c23:=Bool.eq_false_iff.mpr c23
     subst c23
     have H1 : ((book_Usage.f kj16 l0 a1 (wrap64 (a2 + (wrap64 (a3)))) a4).bind fun bt332=>(if bt332.2 = 0 then (gangerlaw20_BookFalls.j2 kj16 l0 a1 a2 a4 t328 (decide (bt332.1 > t328)) a5_0 a5_1 a5_2 a5_3 a5_4 a5_5) else (gangerlaw20_BookFalls.j2 kj16 l0 a1 a2 a4 t328 false a5_0 a5_1 a5_2 a5_3 a5_4 a5_5))) = some r:=by rw [if_neg (show ¬ (false = true) by decide)] at H;exact H
     clear H
     have H:=H1
     clear H1
     replace H:=oB H
     obtain ⟨⟨t332,t333⟩,A240,H⟩:=H
     replace H : (if t333 = 0 then (gangerlaw20_BookFalls.j2 kj16 l0 a1 a2 a4 t328 (decide (t332 > t328)) a5_0 a5_1 a5_2 a5_3 a5_4 a5_5) else (gangerlaw20_BookFalls.j2 kj16 l0 a1 a2 a4 t328 false a5_0 a5_1 a5_2 a5_3 a5_4 a5_5)) = some r:=H
     have A24:=Am A240
     clear A240
     have HC25:=Am H
     clear H
     go_upto_region 9 with (first|((with_reducible refine gC (f:=14) rfl ?_);refine goesL_ (some 64) rfl rfl Tryd.func14 (by kernel_rfl) rfl #[.slice A0 l0.length c0,.string a1,.int .i64 (wrap64 (a2 + (wrap64 (a3)))),.int .i64 a4] rfl (by (try simp only [mT,mC,mN]);first|done|rfl|(simp only [lD,lT];rfl)) ?_;(with_reducible refine (book_Usage.calls kj16 _ _ l0 a1 (wrap64 (a2 + (wrap64 (a3)))) a4 t332 t333 _ ?side1 ?side2 ?side3 A24.out).mono ?_);(case side1=>exact Glob.below HG.out (by repeat (first|(with_reducible first|exact HB.out|apply bL|apply pN|apply bE|refine bS ?_ GE325.out)|exact HB.out)));(case side2=>repeat (first|exact (Kd.C_below HR0.out HB.out)|(with_reducible refine Kd.C_alloc ?_ _)|(with_reducible refine Kd.C_drewN ?_ _)|(with_reducible refine Kd.C_drew ?_)));(case side3=>exact HC0.out);rintro e w26 ⟨rfl,hb⟩;refine ⟨_,rfl,?_⟩;have n0_:=Am (blk_below (g:=gb325) (by (with_reducible repeat (first|refine bN ?_ _|refine bD ?_|refine bA ?_ _));exact BK325.out) hb);have n1_:=Am (below_step (by repeat (first|(with_reducible first|exact HB.out|apply bL|apply pN|apply bE|refine bS ?_ GE325.out)|exact HB.out)) hb);clear BK325;clear HB;have BK325:=n0_;have HB:=n1_;clear n0_ n1_))
     (try simp only [Act.put,sT,sZ,sS])
     go_cut [73] (fun v73 wc=>∃ (kq : Nat) (x73_24 : Bool),v73 = .bool x73_24∧Aside0 (gangerlaw20_BookFalls.j2 kq l0 a1 a2 a4 t328 x73_24 a5_0 a5_1 a5_2 a5_3 a5_4 a5_5 = some r)∧Aside0 (kq≤kj16)∧Aside0 (wc.heap[gb325]? = some (.cells #[.int .u32 a5_0,.string a5_1,.int .i64 a5_2,.int .i64 a5_3,.int .i64 a5_4,.int .i64 a5_5] 24 (0,0)))∧Aside0 (Below w.heap.size w wc))
     case first =>
      have H:=HC25.out
      clear HC25
      by_cases c27 : t333 = 0
      rotate_left
      ·rw [if_neg c27] at H
       have c27b0 : (t333 == 0) = false:=beq_eq_false_iff_ne.mpr c27
       have c27b1 : (t333 != 0) = true:=bne_iff_ne.mpr c27
       (first|rw [c27b0]|(simp only [iW,iV];rw [c27b0])|skip)
       have H':=Am H
       clear H
       go_wp2
       go_meet
       case rel=>exact ⟨_,(false),(by first|rfl|(simp;done)|(simp [*];done)),H',⟨by have:=HJ6.out;have:=HJ16.out;first|omega|exact Nat.le_refl _⟩,⟨by (with_reducible repeat (first|refine bN ?_ _|refine bD ?_|refine bA ?_ _));exact BK325.out⟩,⟨by repeat (first|(with_reducible first|exact HB.out|apply bL|apply pN|apply bE|refine bS ?_ GE325.out)|exact HB.out)⟩⟩
      rw [if_pos c27] at H
      have c27b0 : (t333 == 0) = true:=beq_iff_eq.mpr c27
      have c27b1 : (t333 != 0) = false:=bne_eq_false_iff_eq.mpr c27
      clear c27
      (first|rw [c27b0]|(simp only [iW,iV];rw [c27b0])|skip)
      have H':=Am H
      clear H
      go_wp2
      go_meet
      case rel=>exact ⟨_,(decide (t332 > t328)),(by first|rfl|(simp;done)|(simp [*];done)),H',⟨by have:=HJ6.out;have:=HJ16.out;first|omega|exact Nat.le_refl _⟩,⟨by (with_reducible repeat (first|refine bN ?_ _|refine bD ?_|refine bA ?_ _));exact BK325.out⟩,⟨by repeat (first|(with_reducible first|exact HB.out|apply bL|apply pN|apply bE|refine bS ?_ GE325.out)|exact HB.out)⟩⟩
     case rest =>
      clear HC25
      obtain ⟨kq,x73_24,rfl,HA,HJ24,BK325,HB⟩:=hcut
      cases kq with
      | zero=>exact absurd HA.out (by simp [gangerlaw20_BookFalls.j2])
      | succ kj24 =>
       have H:=HA.out
       clear HA
       simp only [gangerlaw20_BookFalls.j2] at H
       by_cases c28 : x73_24 = true
       ·subst c28
        have H1 : (none) = some r:=by rw [if_pos rfl] at H;exact H
        clear H
        have H:=H1
        clear H1
        exact absurd H (by simp)
       replace c28:=Bool.eq_false_iff.mpr c28
       subst c28
       have H1 : (if ([] : List (S24)).length + l0.length < 2513169434916 then ((some (([] : List (S24)) ++ l0 : List (S24))).bind fun y334=>(if y334.length < 2513169434916 then ((book_Usage.f kj24 (y334 ++ [(⟨a5_0,a5_1,a5_2,a5_3,a5_4,a2⟩ : S24)]) a1 a2 a4).bind fun bt340=>(if bt340.2 = 0 then (gangerlaw20_BookFalls.j3 kj24 l0 a2 a4 (decide (bt340.1 < t328))) else (gangerlaw20_BookFalls.j3 kj24 l0 a2 a4 false))) else (none))) else (none)) = some r:=by rw [if_neg (show ¬ (false = true) by decide)] at H;exact H
       clear H
       have H:=H1
       clear H1
       by_cases c29 : ([] : List (S24)).length + l0.length < 2513169434916
       rotate_left
       ·rw [if_neg c29] at H
        exact absurd H (by simp)
       rw [if_pos c29] at H
       have LMc29:=Am c29
       clear c29
       obtain ⟨y334,hy334⟩ : ∃ y_ : List (S24),y_ = (([] : List (S24)) ++ l0):=⟨_,rfl⟩
       replace H : (if y334.length < 2513169434916 then ((book_Usage.f kj24 (y334 ++ [(⟨a5_0,a5_1,a5_2,a5_3,a5_4,a2⟩ : S24)]) a1 a2 a4).bind fun bt340=>(if bt340.2 = 0 then (gangerlaw20_BookFalls.j3 kj24 l0 a2 a4 (decide (bt340.1 < t328))) else (gangerlaw20_BookFalls.j3 kj24 l0 a2 a4 false))) else (none)) = some r:=by first|(rw [hy334];with_reducible exact H)|(have H2_:=(Option.bind_some _ _).symm.trans H;rw [hy334];with_reducible exact H2_)|(have H2_:=(Option.bind_some _ _).symm.trans H;with_reducible exact H2_)|with_reducible exact H|(rw [hy334];exact H)|exact H
       have Ny334:=Am hy334
       clear hy334
       by_cases c30 : y334.length < 2513169434916
       rotate_left
       ·rw [if_neg c30] at H
        exact absurd H (by simp)
       rw [if_pos c30] at H
       have LMc30:=Am c30
       clear c30
       obtain ⟨y337,hy337⟩ : ∃ y_ : List (S24),y_ = (y334 ++ [(⟨a5_0,a5_1,a5_2,a5_3,a5_4,a2⟩ : S24)]):=⟨_,rfl⟩
       replace H : ((book_Usage.f kj24 y337 a1 a2 a4).bind fun bt340=>(if bt340.2 = 0 then (gangerlaw20_BookFalls.j3 kj24 l0 a2 a4 (decide (bt340.1 < t328))) else (gangerlaw20_BookFalls.j3 kj24 l0 a2 a4 false))) = some r:=by first|(rw [hy337];with_reducible exact H)|(have H2_:=(Option.bind_some _ _).symm.trans H;rw [hy337];with_reducible exact H2_)|(have H2_:=(Option.bind_some _ _).symm.trans H;with_reducible exact H2_)|with_reducible exact H|(rw [hy337];exact H)|exact H
       have Ny337:=Am hy337
       clear hy337
       replace H:=oB H
       obtain ⟨⟨t340,t341⟩,A310,H⟩:=H
       replace H : (if t341 = 0 then (gangerlaw20_BookFalls.j3 kj24 l0 a2 a4 (decide (t340 < t328))) else (gangerlaw20_BookFalls.j3 kj24 l0 a2 a4 false)) = some r:=H
       have A31:=Am A310
       clear A310
       have HC32:=Am H
       clear H
       go_upto_region 16 with (first|((with_reducible refine gate_builtin (b:=.append) (xs:=#[.tmp 74,.tmp 75]) rfl ?_);(try (refine gate_guard (by rfl) ?_;dsimp only));at_builtin;refine Kd.R_append_rows k24 (w0:=w) w.heap.size rfl (.tmp 74) (.tmp 75) 32 24 (.agg #[(.int .u32 0),(.string ⟨#[]⟩),(.int .i64 0),(.int .i64 0),(.int .i64 0),(.int .i64 0)]) 56 rfl Tryd.underlying32 info24 rfl (by decide) (by omega) (.slice none 0 0) ([] : List (S24)) l0 _ _ _ (fun k_=>k_ ≠ gb325) (fun _=>False) rfl rfl ?aO ?aR (fun _ _ h=>h) (fun _ h=>h.elim) ?aF ?aB ?aS ?aL ?_;(case aR=>repeat (first|exact (Kd.C_below HR0.out HB.out)|(with_reducible refine Kd.C_alloc ?_ _)|(with_reducible refine Kd.C_drewN ?_ _)|(with_reducible refine Kd.C_drew ?_)));(case aB=>exact (by repeat (first|(with_reducible first|exact HB.out|apply bL|apply pN|apply bE|refine bS ?_ GE325.out)|exact HB.out)));(case aF=>exact (fun k_ hk=>Kd.freshB (g:=gb325) (by (with_reducible repeat (first|refine bN ?_ _|refine bD ?_|refine bA ?_ _));exact BK325.out) k_ hk));(case aO=>exact ((Kd.R_nil _ _ _ _ (fun k_=>k_ ≠ gb325))));(case aS=>exact (bZ (by repeat (first|(with_reducible first|exact HB.out|apply bL|apply pN|apply bE|refine bS ?_ GE325.out)|exact HB.out))));(case aL=>have:=LMc29.out;omega);intro v335 w33 ho hb hg hat;rw [← Ny334.out] at ho;have n0_:=Am (blk_grown (g:=gb325) (by (with_reducible repeat (first|refine bN ?_ _|refine bD ?_|refine bA ?_ _));exact BK325.out) hg (by simp [Value.ownBlock]));have n1_:=Am (hb);have n2_:=Am (ho);clear BK325;clear HB;have BK325:=n0_;have HB:=n1_;have HO336:=n2_;clear n0_ n1_ n2_;clear ho hb hg hat;obtain ⟨X34_0,X34_1,X34_2,X34_3,X34_4,X34_5,Y34_0,Y34_1,Y34_2,Y34_3,Y34_4,Y34_5⟩:=kc6 (w:=w33) (g:=gb325) BK325.out)|((with_reducible refine gate_builtin (b:=.append) (xs:=#[.tmp 79,.tmp 81]) rfl ?_);(try (refine gate_guard (by rfl) ?_;dsimp only));at_builtin;refine Kd.R_append k24 (w0:=w) w.heap.size rfl (.tmp 79) (.tmp 81) 32 24 (.agg #[(.int .u32 0),(.string ⟨#[]⟩),(.int .i64 0),(.int .i64 0),(.int .i64 0),(.int .i64 0)]) 56 rfl Tryd.underlying32 info24 rfl (by decide) (by omega) v335 y334 (⟨a5_0,a5_1,a5_2,a5_3,a5_4,a2⟩ : S24) [.int .u32 a5_0,.string a5_1,.int .i64 a5_2,.int .i64 a5_3,.int .i64 a5_4,.int .i64 a2] (fun k_=>k_ ≠ gb325) (fun _=>False) rfl (by first|(go_simp;done)|(go_simp;rfl)) ?aP (fun _ hk=>hk.elim) ?aF ?aO ?aB ?aS ?aL ?_;(case aP=>exact k24_mkM _ _ _ (⟨a5_0,a5_1,a5_2,a5_3,a5_4,a2⟩ : S24));(case aB=>exact (by repeat (first|(with_reducible first|exact HB.out|apply bL|apply pN|apply bE|refine bS ?_ GE325.out)|exact HB.out)));(case aF=>exact (fun k_ hk=>Kd.freshB (g:=gb325) (o:=.cells #[.int .u32 a5_0,.string a5_1,.int .i64 a5_2,.int .i64 a5_3,.int .i64 a5_4,.int .i64 a2] 24 (0,0)) (by (with_reducible repeat (first|refine bN ?_ _|refine bD ?_|refine bA ?_ _));refine blk_put (cs:=#[.int .u32 a5_0,.string a5_1,.int .i64 a5_2,.int .i64 a5_3,.int .i64 a5_4,.int .i64 a5_5]) ?_ 5 _ rfl;(with_reducible repeat (first|refine bN ?_ _|refine bD ?_|refine bA ?_ _));exact BK325.out) k_ hk));(case aO=>exact (by (with_reducible repeat (first|apply Kd.R_alloc|apply Kd.R_drewN|apply Kd.R_drew));exact Kd.R_mono (Kd.R_far (p:=⟨gb325,5,none⟩) (Kd.R_mono HO336.out (fun k_ hk=>(⟨hk,hk⟩ : _∧k_ ≠ gb325))) (fun _ hk=>hk.2) (.int .i64 a2)) (fun _ hk=>hk.1)));(case aS=>exact (bZ (by repeat (first|(with_reducible first|exact HB.out|apply bL|apply pN|apply bE|refine bS ?_ GE325.out)|exact HB.out))));(case aL=>have:=LMc30.out;omega);intro v338 w35 ho hb hg hat;rw [← Ny337.out] at ho;have n0_:=Am (blk_grown (g:=gb325) (o:=.cells #[.int .u32 a5_0,.string a5_1,.int .i64 a5_2,.int .i64 a5_3,.int .i64 a5_4,.int .i64 a2] 24 (0,0)) (by (with_reducible repeat (first|refine bN ?_ _|refine bD ?_|refine bA ?_ _));refine blk_put (cs:=#[.int .u32 a5_0,.string a5_1,.int .i64 a5_2,.int .i64 a5_3,.int .i64 a5_4,.int .i64 a5_5]) ?_ 5 _ rfl;(with_reducible repeat (first|refine bN ?_ _|refine bD ?_|refine bA ?_ _));exact BK325.out) hg (Kd.R_away HO336.out (fun _ hk=>hk)));have n1_:=Am (hb);have n2_:=Am (ho);clear BK325;clear HB;clear HO336;have BK325:=n0_;have HB:=n1_;have HO339:=n2_;clear n0_ n1_ n2_;clear ho hb hg hat;obtain ⟨Ao36,co36,eo36⟩:=Kd.R_slice HO339.out;subst eo36)|((with_reducible refine gC (f:=14) rfl ?_);refine goesL_ (some 88) rfl rfl Tryd.func14 (by kernel_rfl) rfl #[.slice Ao36 y337.length co36,.string a1,.int .i64 a2,.int .i64 a4] rfl (by (try simp only [mT,mC,mN]);first|done|rfl|(simp only [lD,lT];rfl)) ?_;(with_reducible refine (book_Usage.calls kj24 _ _ y337 a1 a2 a4 t340 t341 _ ?side1 ?side2 ?side3 A31.out).mono ?_);(case side1=>exact Glob.below HG.out (by repeat (first|(with_reducible first|exact HB.out|apply bL|apply pN|apply bE|refine bS ?_ GE325.out)|exact HB.out)));(case side2=>repeat (first|exact (Kd.R_reads' HO339.out).2.2|(with_reducible refine Kd.C_alloc ?_ _)|(with_reducible refine Kd.C_drewN ?_ _)|(with_reducible refine Kd.C_drew ?_)));(case side3=>exact (Kd.R_reads' HO339.out).2.1);rintro e w37 ⟨rfl,hb⟩;refine ⟨_,rfl,?_⟩;have n0_:=Am (Kd.R_below (by (with_reducible repeat (first|apply Kd.R_alloc|apply Kd.R_drewN|apply Kd.R_drew));exact HO339.out) hb);have n1_:=Am (blk_below (g:=gb325) (by (with_reducible repeat (first|refine bN ?_ _|refine bD ?_|refine bA ?_ _));exact BK325.out) hb);have n2_:=Am (below_step (by repeat (first|(with_reducible first|exact HB.out|apply bL|apply pN|apply bE|refine bS ?_ GE325.out)|exact HB.out)) hb);clear HO339;clear BK325;clear HB;have HO339:=n0_;have BK325:=n1_;have HB:=n2_;clear n0_ n1_ n2_))
       (try simp only [Act.put,sT,sZ,sS])
       go_cut [97] (fun v97 wc=>∃ (kq : Nat) (x97_31 : Bool),v97 = .bool x97_31∧Aside0 (gangerlaw20_BookFalls.j3 kq l0 a2 a4 x97_31 = some r)∧Aside0 (kq≤kj24)∧Aside0 (wc.heap[gb325]? = some (.cells #[.int .u32 a5_0,.string a5_1,.int .i64 a5_2,.int .i64 a5_3,.int .i64 a5_4,.int .i64 a2] 24 (0,0)))∧Aside0 (Below w.heap.size w wc))
       case first =>
        have H:=HC32.out
        clear HC32
        by_cases c38 : t341 = 0
        rotate_left
        ·rw [if_neg c38] at H
         have c38b0 : (t341 == 0) = false:=beq_eq_false_iff_ne.mpr c38
         have c38b1 : (t341 != 0) = true:=bne_iff_ne.mpr c38
         (first|rw [c38b0]|(simp only [iW,iV];rw [c38b0])|skip)
         have H':=Am H
         clear H
         go_wp2
         go_meet
         case rel=>exact ⟨_,(false),(by first|rfl|(simp;done)|(simp [*];done)),H',⟨by have:=HJ6.out;have:=HJ16.out;have:=HJ24.out;first|omega|exact Nat.le_refl _⟩,⟨by (with_reducible repeat (first|refine bN ?_ _|refine bD ?_|refine bA ?_ _));exact BK325.out⟩,⟨by repeat (first|(with_reducible first|exact HB.out|apply bL|apply pN|apply bE|refine bS ?_ GE325.out)|exact HB.out)⟩⟩
        rw [if_pos c38] at H
        have c38b0 : (t341 == 0) = true:=beq_iff_eq.mpr c38
        have c38b1 : (t341 != 0) = false:=bne_eq_false_iff_eq.mpr c38
        clear c38
        (first|rw [c38b0]|(simp only [iW,iV];rw [c38b0])|skip)
        have H':=Am H
        clear H
        go_wp2
        go_meet
        case rel=>exact ⟨_,(decide (t340 < t328)),(by first|rfl|(simp;done)|(simp [*];done)),H',⟨by have:=HJ6.out;have:=HJ16.out;have:=HJ24.out;first|omega|exact Nat.le_refl _⟩,⟨by (with_reducible repeat (first|refine bN ?_ _|refine bD ?_|refine bA ?_ _));exact BK325.out⟩,⟨by repeat (first|(with_reducible first|exact HB.out|apply bL|apply pN|apply bE|refine bS ?_ GE325.out)|exact HB.out)⟩⟩
       case rest =>
        clear HC32
        obtain ⟨kq,x97_31,rfl,HA,HJ31,BK325,HB⟩:=hcut
        cases kq with
        | zero=>exact absurd HA.out (by simp [gangerlaw20_BookFalls.j3])
        | succ kj31 =>
         have H:=HA.out
         clear HA
         simp only [gangerlaw20_BookFalls.j3] at H
         by_cases c39 : x97_31 = true
         ·subst c39
          have H1 : (none) = some r:=by rw [if_pos rfl] at H;exact H
          clear H
          have H:=H1
          clear H1
          exact absurd H (by simp)
         replace c39:=Bool.eq_false_iff.mpr c39
         subst c39
         have H1 : ((book_Usage.f kj31 l0 (⟨#[]⟩ : ByteArray) a2 a4).bind fun bt342=>(if bt342.1 = 0 then (if bt342.2 = 0 then ((gangerlaw20_known.f kj31).bind fun t344=>(some t344)) else (none)) else (none))) = some r:=by rw [if_neg (show ¬ (false = true) by decide)] at H;exact H
         clear H
         have H:=H1
         clear H1
         replace H:=oB H
         obtain ⟨⟨t342,t343⟩,A400,H⟩:=H
         replace H : (if t342 = 0 then (if t343 = 0 then ((gangerlaw20_known.f kj31).bind fun t344=>(some t344)) else (none)) else (none)) = some r:=H
         have A40:=Am A400
         clear A400
         by_cases c41 : t342 = 0
         rotate_left
         ·rw [if_neg c41] at H
          exact absurd H (by simp)
         rw [if_pos c41] at H
         have c41b0 : (t342 == 0) = true:=beq_iff_eq.mpr c41
         have c41b1 : (t342 != 0) = false:=bne_eq_false_iff_eq.mpr c41
         clear c41
         by_cases c42 : t343 = 0
         rotate_left
         ·rw [if_neg c42] at H
          exact absurd H (by simp)
         rw [if_pos c42] at H
         have c42b0 : (t343 == 0) = true:=beq_iff_eq.mpr c42
         have c42b1 : (t343 != 0) = false:=bne_eq_false_iff_eq.mpr c42
         clear c42
         replace H:=oB H
         obtain ⟨t344,A430,H⟩:=H
         try dsimp only at H
         have A43:=Am A430
         clear A430
         obtain rfl:=Option.some.inj H
         go_wp2_with (first|((with_reducible refine gC (f:=14) rfl ?_);refine goesL_ (some 102) rfl rfl Tryd.func14 (by kernel_rfl) rfl #[.slice A0 l0.length c0,.string (⟨#[]⟩ : ByteArray),.int .i64 a2,.int .i64 a4] rfl (by (try simp only [mT,mC,mN]);first|done|rfl|(simp only [lD,lT];rfl)) ?_;(with_reducible refine (book_Usage.calls kj31 _ _ l0 (⟨#[]⟩ : ByteArray) a2 a4 t342 t343 _ ?side1 ?side2 ?side3 A40.out).mono ?_);(case side1=>exact Glob.below HG.out (by repeat (first|(with_reducible first|exact HB.out|apply bL|apply pN|apply bE|refine bS ?_ GE325.out)|exact HB.out)));(case side2=>repeat (first|exact (Kd.C_below HR0.out HB.out)|(with_reducible refine Kd.C_alloc ?_ _)|(with_reducible refine Kd.C_drewN ?_ _)|(with_reducible refine Kd.C_drew ?_)));(case side3=>exact HC0.out);rintro e w44 ⟨rfl,hb⟩;refine ⟨_,rfl,?_⟩;have n0_:=Am (blk_below (g:=gb325) (by (with_reducible repeat (first|refine bN ?_ _|refine bD ?_|refine bA ?_ _));exact BK325.out) hb);have n1_:=Am (below_step (by repeat (first|(with_reducible first|exact HB.out|apply bL|apply pN|apply bE|refine bS ?_ GE325.out)|exact HB.out)) hb);clear BK325;clear HB;have BK325:=n0_;have HB:=n1_;clear n0_ n1_)|(go_at_call 8;(with_reducible refine (gangerlaw20_known.calls kj31  t344 _ ?side1 A43.out).mono ?_);(case side1=>exact Glob.below HG.out (by repeat (first|(with_reducible first|exact HB.out|apply bL|apply pN|apply bE|refine bS ?_ GE325.out)|exact HB.out)));rintro e w45 ⟨rfl,hb⟩;have n0_:=Am (blk_below (g:=gb325) (by (with_reducible repeat (first|refine bN ?_ _|refine bD ?_|refine bA ?_ _));exact BK325.out) hb);have n1_:=Am (below_step (by repeat (first|(with_reducible first|exact HB.out|apply bL|apply pN|apply bE|refine bS ?_ GE325.out)|exact HB.out)) hb);clear BK325;clear HB;have BK325:=n0_;have HB:=n1_;clear n0_ n1_))
         go_ret
         exact ⟨by first|rfl|(simp [errW_none,errW_some] <;> rfl)|(simp [*,errW_none,errW_some] <;> rfl)|(simp [bne,isE_]),by repeat (first|(with_reducible first|exact HB.out|apply bL|apply pN|apply bE|refine bS ?_ GE325.out)|exact HB.out)⟩
def gangerlaw20_BookFalls.Pure : Prop:=∀ (l0 : List (S24)) (a1 : ByteArray) (a2 : Int) (a3 : Int) (a4 : Int) (a5_0 : Int) (a5_1 : ByteArray) (a5_2 : Int) (a5_3 : Int) (a5_4 : Int) (a5_5 : Int),(l0.length≤maxLen∧∀ x2 ∈ l0,(((Lit.int .u32 x2.f0).wf = true)∧((x2.f1.size≤maxLen)∧(((Lit.int .i64 x2.f2).wf = true)∧(((Lit.int .i64 x2.f3).wf = true)∧(((Lit.int .i64 x2.f4).wf = true)∧((Lit.int .i64 x2.f5).wf = true)))))))→a1.size≤140737488351232→((Lit.int .i64 a2).wf = true)→((Lit.int .u16 a3).wf = true)→((Lit.int .i64 a4).wf = true)→(((Lit.int .u32 a5_0).wf = true)∧((a5_1.size≤maxLen)∧(((Lit.int .i64 a5_2).wf = true)∧(((Lit.int .i64 a5_3).wf = true)∧(((Lit.int .i64 a5_4).wf = true)∧((Lit.int .i64 a5_5).wf = true))))))→∃ k,gangerlaw20_BookFalls.f k l0 a1 a2 a3 a4 a5_0 a5_1 a5_2 a5_3 a5_4 a5_5 = some true
end Go.Proofs.YtakdneopmojjdaaDoor.P
