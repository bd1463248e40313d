/- cut to what one law reaches -/
import Derived.Test.YtakdneopmojjdaaDoorBkShort
import Derived.Test.YtakdneopmojjdaaDoorBkP0
import Derived.Test.YtakdneopmojjdaaDoorBkP1
import Derived.Test.YtakdneopmojjdaaDoorBkP4
import Derived.Test.YtakdneopmojjdaaDoorBkP5
import Derived.Test.YtakdneopmojjdaaDoorBkP9
namespace Go.Proofs.YtakdneopmojjdaaDoor.P
open Go.RowKit Go.Proofs.YtakdneopmojjdaaDoorW.PrintWords Go.Proofs.YtakdneopmojjdaaDoorW.PrintLast Go.Proofs.YtakdneopmojjdaaDoorW.PrintMore
attribute [local go_sem] max2_int min2_int max_two min_two max_three min_three max_four min_four   -- for this text's walks alone
set_option linter.unusedVariables false
set_option linter.unusedSimpArgs false
attribute [local go_sem high] eqA24
attribute [local go_sem] isSome_setCell
mutual
def gangerlaw20_BookBack.j0 : Nat→ByteArray→Bool→Int→ByteArray→Int→Int→Int→Int→Option (Bool)
 | 0,_,_,_,_,_,_,_,_=>none
 | k + 1,x1,x21,u_0,u_1,u_2,u_3,u_4,u_5=>if x21 = true then ((gangerlaw20_known.f k).bind fun t346=>(some t346)) else ((book_Line.f u_0 u_1 u_2 u_3 u_4 u_5).bind fun bt347=>(if bt347.2 = 0 then ((book_Parse.f k bt347.1).bind fun bt349=>(if bt349.2.2.2.2.2.2 = 0 then (if (!(bt349.1 == u_0) || (!(bt349.2.1.toList == u_1.toList) || (!(bt349.2.2.1 == u_2) || (!(bt349.2.2.2.1 == u_3) || (!(bt349.2.2.2.2.1 == u_4) || (!(bt349.2.2.2.2.2.1 == u_5))))))) = true then (none) else (gangerlaw20_BookBack.j1 k x1)) else (none))) else (gangerlaw20_BookBack.j1 k x1)))
def gangerlaw20_BookBack.j1 : Nat→ByteArray→Option (Bool)
 | 0,_=>none
 | k + 1,x1=>(book_Parse.f k x1).bind fun bt357=>(if bt357.2.2.2.2.2.2 = 0 then ((book_Line.f bt357.1 bt357.2.1 bt357.2.2.1 bt357.2.2.2.1 bt357.2.2.2.2.1 bt357.2.2.2.2.2.1).bind fun bt365=>(if bt365.2 = 0 then (if bt365.1.toList = x1.toList then ((gangerlaw20_known.f k).bind fun t367=>(some t367)) else (none)) else (none))) else (if (bt357.1 == 0 && (bt357.2.1.toList == ([] : List UInt8) && (bt357.2.2.1 == 0 && (bt357.2.2.2.1 == 0 && (bt357.2.2.2.2.1 == 0 && (bt357.2.2.2.2.2.1 == 0)))))) = true then (if bt357.2.2.2.2.2.2 = 60 then ((gangerlaw20_known.f k).bind fun t368=>(some t368)) else (if bt357.2.2.2.2.2.2 = 200 then ((gangerlaw20_known.f k).bind fun t369=>(some t369)) else (none))) else (none)))
end
def gangerlaw20_BookBack.f (k : Nat) (a0_0 : Int) (a0_1 : ByteArray) (a0_2 : Int) (a0_3 : Int) (a0_4 : Int) (a0_5 : Int) (a1 : ByteArray) : Option (Bool):=if (a0_1.size : Int) > 300 then (gangerlaw20_BookBack.j0 k a1 true a0_0 a0_1 a0_2 a0_3 a0_4 a0_5) else (gangerlaw20_BookBack.j0 k a1 (decide ((a1.size : Int) > 600)) a0_0 a0_1 a0_2 a0_3 a0_4 a0_5)
set_option maxHeartbeats 8000000 in
set_option maxRecDepth 100000 in
theorem gangerlaw20_BookBack.calls (k : Nat) (a0_0 : Int) (a0_1 : ByteArray) (a0_2 : Int) (a0_3 : Int) (a0_4 : Int) (a0_5 : Int) (a1 : ByteArray) (r : Bool) (w : World) (hG : Glob w) (h : gangerlaw20_BookBack.f k a0_0 a0_1 a0_2 a0_3 a0_4 a0_5 a1 = some r) :
  Calls Tryd.prog 3 #[.agg #[.int .u32 a0_0,.string a0_1,.int .i64 a0_2,.int .i64 a0_3,.int .i64 a0_4,.int .i64 a0_5],.string a1] w fun e w'=>e = .returned (.bool r)∧Below w.heap.size w w':=by
 have hu24:=Tryd.underlying24
 have HG:=Am hG
 clear hG
 have HB:=Am (Below.refl w.heap.size w)
 have H : (if (a0_1.size : Int) > 300 then (gangerlaw20_BookBack.j0 k a1 true a0_0 a0_1 a0_2 a0_3 a0_4 a0_5) else (gangerlaw20_BookBack.j0 k a1 (decide ((a1.size : Int) > 600)) a0_0 a0_1 a0_2 a0_3 a0_4 a0_5)) = some r:=h
 clear h
 have HC3:=Am H
 clear H
 go_enter Tryd.func3,Tryd.ntmps3
 go_upto_region 1 with (first|((with_reducible refine gD (N:=2) rfl ?_);(try (refine gate_guard (by rfl) ?_;dsimp only));refine box_event ?hg (N:=2) ?hd (cs:=#[.int .u32 a0_0,.string a0_1,.int .i64 a0_2,.int .i64 a0_3,.int .i64 a0_4,.int .i64 a0_5]) (t:=24) ?hr ?_;(case hd=>rfl);(case hg=>rfl);(case hr=>first|(go_simp;done)|(go_simp;rfl));intro gb345 hg w4 hbox hb;have n0_:=Am (below_step (by repeat (first|(with_reducible first|exact HB.out|apply bL|apply pN|apply bE)|exact HB.out)) hb);have n1_:=Am (hbox);have n2_:=Am ((by rw [hg];exact (bZ (by repeat (first|(with_reducible first|exact HB.out|apply bL|apply pN|apply bE)|exact HB.out))) : w.heap.size≤gb345));have n3_:=n2_;clear HB;have HB:=n0_;have BK345:=n1_;have GW345:=n2_;have GE345:=n3_;clear n0_ n1_ n2_ n3_;clear hb hbox hg))
 (try simp only [Act.put,sT,sZ,sS])
 go_cut [21] (fun v21 wc=>∃ (kq : Nat) (x21_2 : Bool),v21 = .bool x21_2∧Aside0 (gangerlaw20_BookBack.j0 kq a1 x21_2 a0_0 a0_1 a0_2 a0_3 a0_4 a0_5 = some r)∧Aside0 (kq≤k)∧Aside0 (wc.heap[gb345]? = some (.cells #[.int .u32 a0_0,.string a0_1,.int .i64 a0_2,.int .i64 a0_3,.int .i64 a0_4,.int .i64 a0_5] 24 (0,0)))∧Aside0 (Below w.heap.size w wc))
 case first =>
  have H:=HC3.out
  clear HC3
  by_cases c5 : (a0_1.size : Int) > 300
  ·rw [if_pos c5] at H
   have c5b0 : decide (300 < (a0_1.size : Int)) = true:=decide_eq_true c5
   have c5b1 : decide (300 < a0_1.size) = true:=decide_eq_true (by omega)
   clear c5
   (first|rw [c5b0]|(simp only [iW,iV];rw [c5b0])|skip)
   have H':=Am H
   clear H
   obtain ⟨X6_0,X6_1,X6_2,X6_3,X6_4,X6_5,Y6_0,Y6_1,Y6_2,Y6_3,Y6_4,Y6_5⟩:=kc6 (w:=w4) (g:=gb345) BK345.out
   go_wp2
   go_meet
   case rel=>exact ⟨_,(true),(by first|rfl|(simp;done)|(simp [*];done)),H',⟨by first|omega|exact Nat.le_refl _⟩,⟨by (with_reducible repeat (first|refine bN ?_ _|refine bD ?_|refine bA ?_ _));exact BK345.out⟩,⟨by repeat (first|(with_reducible first|exact HB.out|apply bL|apply pN|apply bE|refine bS ?_ GE345.out)|exact HB.out)⟩⟩
  rw [if_neg c5] at H
  have c5b0 : decide (300 < (a0_1.size : Int)) = false:=decide_eq_false c5
  have c5b1 : decide (300 < a0_1.size) = false:=decide_eq_false (by omega)
  clear c5
  (first|rw [c5b0]|(simp only [iW,iV];rw [c5b0])|skip)
  have H':=Am H
  clear H
  obtain ⟨X7_0,X7_1,X7_2,X7_3,X7_4,X7_5,Y7_0,Y7_1,Y7_2,Y7_3,Y7_4,Y7_5⟩:=kc6 (w:=w4) (g:=gb345) BK345.out
  go_wp2
  go_meet
  case rel=>exact ⟨_,(decide ((a1.size : Int) > 600)),(by first|rfl|(simp;done)|(simp [*];done)),H',⟨by first|omega|exact Nat.le_refl _⟩,⟨by (with_reducible repeat (first|refine bN ?_ _|refine bD ?_|refine bA ?_ _));exact BK345.out⟩,⟨by repeat (first|(with_reducible first|exact HB.out|apply bL|apply pN|apply bE|refine bS ?_ GE345.out)|exact HB.out)⟩⟩
 case rest =>
  clear HC3
  obtain ⟨kq,x21_2,rfl,HA,HJ2,BK345,HB⟩:=hcut
  cases kq with
  | zero=>exact absurd HA.out (by simp [gangerlaw20_BookBack.j0])
  | succ kj2 =>
   have H:=HA.out
   clear HA
   simp only [gangerlaw20_BookBack.j0] at H
   by_cases c8 : x21_2 = true
   ·subst c8
    have H1 : ((gangerlaw20_known.f kj2).bind fun t346=>(some t346)) = some r:=by rw [if_pos rfl] at H;exact H
    clear H
    have H:=H1
    clear H1
    replace H:=oB H
    obtain ⟨t346,A90,H⟩:=H
    try dsimp only at H
    have A9:=Am A90
    clear A90
    obtain rfl:=Option.some.inj H
    go_wp2_with (first|((with_reducible refine gC (f:=8) rfl ?_);refine goesL_ (some 22) rfl rfl Tryd.func8 (by kernel_rfl) rfl #[] rfl (by (try simp only [mT,mC,mN]);first|done|rfl|(simp only [lD,lT];rfl)) ?_;(with_reducible refine (gangerlaw20_known.calls kj2  t346 _ ?side1 A9.out).mono ?_);(case side1=>exact Glob.below HG.out (by repeat (first|(with_reducible first|exact HB.out|apply bL|apply pN|apply bE|refine bS ?_ GE345.out)|exact HB.out)));rintro e w10 ⟨rfl,hb⟩;refine ⟨_,rfl,?_⟩;have n0_:=Am (blk_below (g:=gb345) (by (with_reducible repeat (first|refine bN ?_ _|refine bD ?_|refine bA ?_ _));exact BK345.out) hb);have n1_:=Am (below_step (by repeat (first|(with_reducible first|exact HB.out|apply bL|apply pN|apply bE|refine bS ?_ GE345.out)|exact HB.out)) hb);clear BK345;clear HB;have BK345:=n0_;have HB:=n1_;clear n0_ n1_))
    go_ret
    exact ⟨by first|rfl|(simp [errW_none,errW_some] <;> rfl)|(simp [*,errW_none,errW_some] <;> rfl),by repeat (first|(with_reducible first|exact HB.out|apply bL|apply pN|apply bE|refine bS ?_ GE345.out)|exact HB.out)⟩
   replace c8:=Bool.eq_false_iff.mpr c8
   subst c8
   have H1 : ((book_Line.f a0_0 a0_1 a0_2 a0_3 a0_4 a0_5).bind fun bt347=>(if bt347.2 = 0 then ((book_Parse.f kj2 bt347.1).bind fun bt349=>(if bt349.2.2.2.2.2.2 = 0 then (if (!(bt349.1 == a0_0) || (!(bt349.2.1.toList == a0_1.toList) || (!(bt349.2.2.1 == a0_2) || (!(bt349.2.2.2.1 == a0_3) || (!(bt349.2.2.2.2.1 == a0_4) || (!(bt349.2.2.2.2.2.1 == a0_5))))))) = true then (none) else (gangerlaw20_BookBack.j1 kj2 a1)) else (none))) else (gangerlaw20_BookBack.j1 kj2 a1))) = some r:=by rw [if_neg (show ¬ (false = true) by decide)] at H;exact H
   clear H
   have H:=H1
   clear H1
   replace H:=oB H
   obtain ⟨⟨t347,t348⟩,A110,H⟩:=H
   replace H : (if t348 = 0 then ((book_Parse.f kj2 t347).bind fun bt349=>(if bt349.2.2.2.2.2.2 = 0 then (if (!(bt349.1 == a0_0) || (!(bt349.2.1.toList == a0_1.toList) || (!(bt349.2.2.1 == a0_2) || (!(bt349.2.2.2.1 == a0_3) || (!(bt349.2.2.2.2.1 == a0_4) || (!(bt349.2.2.2.2.2.1 == a0_5))))))) = true then (none) else (gangerlaw20_BookBack.j1 kj2 a1)) else (none))) else (gangerlaw20_BookBack.j1 kj2 a1)) = some r:=H
   have A11:=Am A110
   clear A110
   have HC12:=Am H
   clear H
   obtain ⟨X13_0,X13_1,X13_2,X13_3,X13_4,X13_5,Y13_0,Y13_1,Y13_2,Y13_3,Y13_4,Y13_5⟩:=kc6 (w:=wc) (g:=gb345) BK345.out
   go_upto_if 29 with (first|((with_reducible refine gC (f:=9) rfl ?_);refine goesL_ (some 25) rfl rfl Tryd.func9 (by kernel_rfl) rfl #[.agg #[.int .u32 a0_0,.string a0_1,.int .i64 a0_2,.int .i64 a0_3,.int .i64 a0_4,.int .i64 a0_5]] rfl (by (try simp only [mT,mC,mN]);first|done|rfl|(simp only [lD,lT];rfl)) ?_;(with_reducible refine (book_Line.calls a0_0 a0_1 a0_2 a0_3 a0_4 a0_5 t347 t348 _ ?side1 A11.out).mono ?_);(case side1=>exact Glob.below HG.out (by repeat (first|(with_reducible first|exact HB.out|apply bL|apply pN|apply bE|refine bS ?_ GE345.out)|exact HB.out)));rintro e w14 ⟨rfl,hb⟩;refine ⟨_,rfl,?_⟩;have n0_:=Am (blk_below (g:=gb345) (by (with_reducible repeat (first|refine bN ?_ _|refine bD ?_|refine bA ?_ _));exact BK345.out) hb);have n1_:=Am (below_step (by repeat (first|(with_reducible first|exact HB.out|apply bL|apply pN|apply bE|refine bS ?_ GE345.out)|exact HB.out)) hb);clear BK345;clear HB;have BK345:=n0_;have HB:=n1_;clear n0_ n1_))
   (try simp only [Act.put,sT,sZ,sS])
   go_cut [] (fun wc=>∃ (kq : Nat),Aside0 (gangerlaw20_BookBack.j1 kq a1 = some r)∧Aside0 (kq≤kj2)∧Aside0 (wc.heap[gb345]? = some (.cells #[.int .u32 a0_0,.string a0_1,.int .i64 a0_2,.int .i64 a0_3,.int .i64 a0_4,.int .i64 a0_5] 24 (0,0)))∧Aside0 (Below w.heap.size w wc))
   case first =>
    have H:=HC12.out
    clear HC12
    by_cases c15 : t348 = 0
    rotate_left
    ·rw [if_neg c15] at H
     have c15b0 : (t348 == 0) = false:=beq_eq_false_iff_ne.mpr c15
     have c15b1 : (t348 != 0) = true:=bne_iff_ne.mpr c15
     (first|rw [c15b0]|(simp only [iW,iV];rw [c15b0])|skip)
     have H':=Am H
     clear H
     go_wp2
     go_meet
     case rel=>exact ⟨_,H',⟨by have:=HJ2.out;first|omega|exact Nat.le_refl _⟩,⟨by (with_reducible repeat (first|refine bN ?_ _|refine bD ?_|refine bA ?_ _));exact BK345.out⟩,⟨by repeat (first|(with_reducible first|exact HB.out|apply bL|apply pN|apply bE|refine bS ?_ GE345.out)|exact HB.out)⟩⟩
    rw [if_pos c15] at H
    have c15b0 : (t348 == 0) = true:=beq_iff_eq.mpr c15
    have c15b1 : (t348 != 0) = false:=bne_eq_false_iff_eq.mpr c15
    clear c15
    (first|rw [c15b0]|(simp only [iW,iV];rw [c15b0])|skip)
    replace H:=oB H
    obtain ⟨⟨t349,t350,t351,t352,t353,t354,t355⟩,A160,H⟩:=H
    replace H : (if t355 = 0 then (if (!(t349 == a0_0) || (!(t350.toList == a0_1.toList) || (!(t351 == a0_2) || (!(t352 == a0_3) || (!(t353 == a0_4) || (!(t354 == a0_5))))))) = true then (none) else (gangerlaw20_BookBack.j1 kj2 a1)) else (none)) = some r:=H
    have A16:=Am A160
    clear A160
    by_cases c17 : t355 = 0
    rotate_left
    ·rw [if_neg c17] at H
     exact absurd H (by simp)
    rw [if_pos c17] at H
    have c17b0 : (t355 == 0) = true:=beq_iff_eq.mpr c17
    have c17b1 : (t355 != 0) = false:=bne_eq_false_iff_eq.mpr c17
    clear c17
    by_cases c18 : (!(t349 == a0_0) || (!(t350.toList == a0_1.toList) || (!(t351 == a0_2) || (!(t352 == a0_3) || (!(t353 == a0_4) || (!(t354 == a0_5))))))) = true
    ·rw [if_pos c18] at H
     exact absurd H (by simp)
    rw [if_neg c18] at H
    have c18b0 : (!(t349 == a0_0) || (!(t350.toList == a0_1.toList) || (!(t351 == a0_2) || (!(t352 == a0_3) || (!(t353 == a0_4) || (!(t354 == a0_5))))))) = false:=by simpa using c18
    clear c18
    have H':=Am H
    clear H
    go_wp2_with (first|((with_reducible refine gC (f:=10) rfl ?_);refine goesL_ (some 32) rfl rfl Tryd.func10 (by kernel_rfl) rfl #[.string t347] rfl (by (try simp only [mT,mC,mN]);first|done|rfl|(simp only [lD,lT];rfl)) ?_;(with_reducible refine (book_Parse.calls kj2 t347 t349 t350 t351 t352 t353 t354 t355 _ ?side1 A16.out).mono ?_);(case side1=>exact Glob.below HG.out (by repeat (first|(with_reducible first|exact HB.out|apply bL|apply pN|apply bE|refine bS ?_ GE345.out)|exact HB.out)));rintro e w19 ⟨rfl,hb⟩;refine ⟨_,rfl,?_⟩;have n0_:=Am (blk_below (g:=gb345) (by (with_reducible repeat (first|refine bN ?_ _|refine bD ?_|refine bA ?_ _));exact BK345.out) hb);have n1_:=Am (below_step (by repeat (first|(with_reducible first|exact HB.out|apply bL|apply pN|apply bE|refine bS ?_ GE345.out)|exact HB.out)) hb);clear BK345;clear HB;have BK345:=n0_;have HB:=n1_;clear n0_ n1_)|((with_reducible refine gD (N:=7) rfl ?_);(try (refine gate_guard (by rfl) ?_;dsimp only));refine box_event ?hg (N:=7) ?hd (cs:=#[.int .u32 0,.string (⟨#[]⟩ : ByteArray),.int .i64 0,.int .i64 0,.int .i64 0,.int .i64 0]) (t:=24) ?hr ?_;(case hd=>rfl);(case hg=>rfl);(case hr=>first|(go_simp;done)|(go_simp;rfl));intro gb356 hg w20 hbox hb;have n0_:=Am (blk_below (g:=gb345) (by (with_reducible repeat (first|refine bN ?_ _|refine bD ?_|refine bA ?_ _));exact BK345.out) hb);have n1_:=Am (below_step (by repeat (first|(with_reducible first|exact HB.out|apply bL|apply pN|apply bE|refine bS ?_ GE345.out)|exact HB.out)) hb);have n2_:=Am (hbox);have n3_:=Am ((by rw [hg];exact (bZ (by repeat (first|(with_reducible first|exact HB.out|apply bL|apply pN|apply bE|refine bS ?_ GE345.out)|exact HB.out))) : w.heap.size≤gb356));have n4_:=n3_;have n5_:=Am ((by rw [hg];exact Nat.ne_of_lt (blk_lt (g:=gb345) (by (with_reducible repeat (first|refine bN ?_ _|refine bD ?_|refine bA ?_ _));exact BK345.out)) : gb345 ≠ gb356));have n6_:=Am ((by rw [hg];exact Nat.ne_of_gt (blk_lt (g:=gb345) (by (with_reducible repeat (first|refine bN ?_ _|refine bD ?_|refine bA ?_ _));exact BK345.out)) : gb356 ≠ gb345));clear BK345;clear HB;have BK345:=n0_;have HB:=n1_;have BK356:=n2_;have GW356:=n3_;have GE356:=n4_;have NB345_356:=n5_;have NB356_345:=n6_;clear n0_ n1_ n2_ n3_ n4_ n5_ n6_;clear hb hbox hg;have hnb21:=NB356_345.out;have hnc21:=NB345_356.out;obtain ⟨X22_0,X22_1,X22_2,X22_3,X22_4,X22_5,Y22_0,Y22_1,Y22_2,Y22_3,Y22_4,Y22_5⟩:=kc6 (w:=w20) (g:=gb356) BK356.out;obtain ⟨X23_0,X23_1,X23_2,X23_3,X23_4,X23_5,Y23_0,Y23_1,Y23_2,Y23_3,Y23_4,Y23_5⟩:=kc6 (w:=w20) (g:=gb345) BK345.out))
    go_meet
    case rel=>exact ⟨_,H',⟨by have:=HJ2.out;first|omega|exact Nat.le_refl _⟩,⟨by (with_reducible repeat (first|refine bN ?_ _|refine bD ?_|refine bA ?_ _));refine blk_far ?_ NB345_356.out _;(with_reducible repeat (first|refine bN ?_ _|refine bD ?_|refine bA ?_ _));refine blk_far ?_ NB345_356.out _;(with_reducible repeat (first|refine bN ?_ _|refine bD ?_|refine bA ?_ _));refine blk_far ?_ NB345_356.out _;(with_reducible repeat (first|refine bN ?_ _|refine bD ?_|refine bA ?_ _));refine blk_far ?_ NB345_356.out _;(with_reducible repeat (first|refine bN ?_ _|refine bD ?_|refine bA ?_ _));refine blk_far ?_ NB345_356.out _;(with_reducible repeat (first|refine bN ?_ _|refine bD ?_|refine bA ?_ _));refine blk_far ?_ NB345_356.out _;(with_reducible repeat (first|refine bN ?_ _|refine bD ?_|refine bA ?_ _));exact BK345.out⟩,⟨by repeat (first|(with_reducible first|exact HB.out|apply bL|apply pN|apply bE|refine bS ?_ GE345.out|refine bS ?_ GE356.out)|exact HB.out)⟩⟩
   case rest =>
    clear HC12
    obtain ⟨kq,HA,HJ11,BK345,HB⟩:=hcut
    cases kq with
    | zero=>exact absurd HA.out (by simp [gangerlaw20_BookBack.j1])
    | succ kj11 =>
     have H:=HA.out
     clear HA
     simp only [gangerlaw20_BookBack.j1] at H
     replace H:=oB H
     obtain ⟨⟨t357,t358,t359,t360,t361,t362,t363⟩,A240,H⟩:=H
     replace H : (if t363 = 0 then ((book_Line.f t357 t358 t359 t360 t361 t362).bind fun bt365=>(if bt365.2 = 0 then (if bt365.1.toList = a1.toList then ((gangerlaw20_known.f kj11).bind fun t367=>(some t367)) else (none)) else (none))) else (if (t357 == 0 && (t358.toList == ([] : List UInt8) && (t359 == 0 && (t360 == 0 && (t361 == 0 && (t362 == 0)))))) = true then (if t363 = 60 then ((gangerlaw20_known.f kj11).bind fun t368=>(some t368)) else (if t363 = 200 then ((gangerlaw20_known.f kj11).bind fun t369=>(some t369)) else (none))) else (none))) = some r:=H
     have A24:=Am A240
     clear A240
     by_cases c25 : t363 = 0
     ·rw [if_pos c25] at H
      have c25b0 : (t363 == 0) = true:=beq_iff_eq.mpr c25
      have c25b1 : (t363 != 0) = false:=bne_eq_false_iff_eq.mpr c25
      clear c25
      replace H:=oB H
      obtain ⟨⟨t365,t366⟩,A260,H⟩:=H
      replace H : (if t366 = 0 then (if t365.toList = a1.toList then ((gangerlaw20_known.f kj11).bind fun t367=>(some t367)) else (none)) else (none)) = some r:=H
      have A26:=Am A260
      clear A260
      by_cases c27 : t366 = 0
      rotate_left
      ·rw [if_neg c27] at H
       exact absurd H (by simp)
      rw [if_pos c27] at H
      have c27b0 : (t366 == 0) = true:=beq_iff_eq.mpr c27
      have c27b1 : (t366 != 0) = false:=bne_eq_false_iff_eq.mpr c27
      clear c27
      by_cases c28 : t365.toList = a1.toList
      rotate_left
      ·rw [if_neg c28] at H
       exact absurd H (by simp)
      rw [if_pos c28] at H
      have c28b0 : (t365.toList == a1.toList) = true:=beq_iff_eq.mpr c28
      have c28b1 : (t365.toList != a1.toList) = false:=bne_eq_false_iff_eq.mpr c28
      clear c28
      replace H:=oB H
      obtain ⟨t367,A290,H⟩:=H
      try dsimp only at H
      have A29:=Am A290
      clear A290
      obtain rfl:=Option.some.inj H
      go_wp2_with (first|((with_reducible refine gC (f:=10) rfl ?_);refine goesL_ (some 44) rfl rfl Tryd.func10 (by kernel_rfl) rfl #[.string a1] rfl (by (try simp only [mT,mC,mN]);first|done|rfl|(simp only [lD,lT];rfl)) ?_;(with_reducible refine (book_Parse.calls kj11 a1 t357 t358 t359 t360 t361 t362 t363 _ ?side1 A24.out).mono ?_);(case side1=>exact Glob.below HG.out (by repeat (first|(with_reducible first|exact HB.out|apply bL|apply pN|apply bE|refine bS ?_ GE345.out)|exact HB.out)));rintro e w30 ⟨rfl,hb⟩;refine ⟨_,rfl,?_⟩;have n0_:=Am (blk_below (g:=gb345) (by (with_reducible repeat (first|refine bN ?_ _|refine bD ?_|refine bA ?_ _));exact BK345.out) hb);have n1_:=Am (below_step (by repeat (first|(with_reducible first|exact HB.out|apply bL|apply pN|apply bE|refine bS ?_ GE345.out)|exact HB.out)) hb);clear BK345;clear HB;have BK345:=n0_;have HB:=n1_;clear n0_ n1_)|((with_reducible refine gD (N:=9) rfl ?_);(try (refine gate_guard (by rfl) ?_;dsimp only));refine box_event ?hg (N:=9) ?hd (cs:=#[.int .u32 0,.string (⟨#[]⟩ : ByteArray),.int .i64 0,.int .i64 0,.int .i64 0,.int .i64 0]) (t:=24) ?hr ?_;(case hd=>rfl);(case hg=>rfl);(case hr=>first|(go_simp;done)|(go_simp;rfl));intro gb364 hg w31 hbox hb;have n0_:=Am (blk_below (g:=gb345) (by (with_reducible repeat (first|refine bN ?_ _|refine bD ?_|refine bA ?_ _));exact BK345.out) hb);have n1_:=Am (below_step (by repeat (first|(with_reducible first|exact HB.out|apply bL|apply pN|apply bE|refine bS ?_ GE345.out)|exact HB.out)) hb);have n2_:=Am (hbox);have n3_:=Am ((by rw [hg];exact (bZ (by repeat (first|(with_reducible first|exact HB.out|apply bL|apply pN|apply bE|refine bS ?_ GE345.out)|exact HB.out))) : w.heap.size≤gb364));have n4_:=n3_;have n5_:=Am ((by rw [hg];exact Nat.ne_of_lt (blk_lt (g:=gb345) (by (with_reducible repeat (first|refine bN ?_ _|refine bD ?_|refine bA ?_ _));exact BK345.out)) : gb345 ≠ gb364));have n6_:=Am ((by rw [hg];exact Nat.ne_of_gt (blk_lt (g:=gb345) (by (with_reducible repeat (first|refine bN ?_ _|refine bD ?_|refine bA ?_ _));exact BK345.out)) : gb364 ≠ gb345));clear BK345;clear HB;have BK345:=n0_;have HB:=n1_;have BK364:=n2_;have GW364:=n3_;have GE364:=n4_;have NB345_364:=n5_;have NB364_345:=n6_;clear n0_ n1_ n2_ n3_ n4_ n5_ n6_;clear hb hbox hg;have hnb32:=NB364_345.out;have hnc32:=NB345_364.out;obtain ⟨X33_0,X33_1,X33_2,X33_3,X33_4,X33_5,Y33_0,Y33_1,Y33_2,Y33_3,Y33_4,Y33_5⟩:=kc6 (w:=w31) (g:=gb364) BK364.out)|((with_reducible refine gC (f:=9) rfl ?_);refine goesL_ (some 65) rfl rfl Tryd.func9 (by kernel_rfl) rfl #[.agg #[.int .u32 t357,.string t358,.int .i64 t359,.int .i64 t360,.int .i64 t361,.int .i64 t362]] rfl (by (try simp only [mT,mC,mN]);first|done|rfl|(simp only [lD,lT];rfl)) ?_;(with_reducible refine (book_Line.calls t357 t358 t359 t360 t361 t362 t365 t366 _ ?side1 A26.out).mono ?_);(case side1=>exact Glob.below HG.out (by repeat (first|(with_reducible first|exact HB.out|apply bL|apply pN|apply bE|refine bS ?_ GE345.out|refine bS ?_ GE364.out)|exact HB.out)));rintro e w34 ⟨rfl,hb⟩;refine ⟨_,rfl,?_⟩;have n0_:=Am (blk_below (g:=gb345) (o:=.cells #[.int .u32 a0_0,.string a0_1,.int .i64 a0_2,.int .i64 a0_3,.int .i64 a0_4,.int .i64 a0_5] 24 (0,0)) (by (with_reducible repeat (first|refine bN ?_ _|refine bD ?_|refine bA ?_ _));refine blk_far ?_ NB345_364.out _;(with_reducible repeat (first|refine bN ?_ _|refine bD ?_|refine bA ?_ _));refine blk_far ?_ NB345_364.out _;(with_reducible repeat (first|refine bN ?_ _|refine bD ?_|refine bA ?_ _));refine blk_far ?_ NB345_364.out _;(with_reducible repeat (first|refine bN ?_ _|refine bD ?_|refine bA ?_ _));refine blk_far ?_ NB345_364.out _;(with_reducible repeat (first|refine bN ?_ _|refine bD ?_|refine bA ?_ _));refine blk_far ?_ NB345_364.out _;(with_reducible repeat (first|refine bN ?_ _|refine bD ?_|refine bA ?_ _));refine blk_far ?_ NB345_364.out _;(with_reducible repeat (first|refine bN ?_ _|refine bD ?_|refine bA ?_ _));exact BK345.out) hb);have n1_:=Am (blk_below (g:=gb364) (o:=.cells #[.int .u32 t357,.string t358,.int .i64 t359,.int .i64 t360,.int .i64 t361,.int .i64 t362] 24 (0,0)) (by (with_reducible repeat (first|refine bN ?_ _|refine bD ?_|refine bA ?_ _));refine blk_put (cs:=#[.int .u32 t357,.string t358,.int .i64 t359,.int .i64 t360,.int .i64 t361,.int .i64 0]) ?_ 5 _ rfl;(with_reducible repeat (first|refine bN ?_ _|refine bD ?_|refine bA ?_ _));refine blk_put (cs:=#[.int .u32 t357,.string t358,.int .i64 t359,.int .i64 t360,.int .i64 0,.int .i64 0]) ?_ 4 _ rfl;(with_reducible repeat (first|refine bN ?_ _|refine bD ?_|refine bA ?_ _));refine blk_put (cs:=#[.int .u32 t357,.string t358,.int .i64 t359,.int .i64 0,.int .i64 0,.int .i64 0]) ?_ 3 _ rfl;(with_reducible repeat (first|refine bN ?_ _|refine bD ?_|refine bA ?_ _));refine blk_put (cs:=#[.int .u32 t357,.string t358,.int .i64 0,.int .i64 0,.int .i64 0,.int .i64 0]) ?_ 2 _ rfl;(with_reducible repeat (first|refine bN ?_ _|refine bD ?_|refine bA ?_ _));refine blk_put (cs:=#[.int .u32 t357,.string (⟨#[]⟩ : ByteArray),.int .i64 0,.int .i64 0,.int .i64 0,.int .i64 0]) ?_ 1 _ rfl;(with_reducible repeat (first|refine bN ?_ _|refine bD ?_|refine bA ?_ _));refine blk_put (cs:=#[.int .u32 0,.string (⟨#[]⟩ : ByteArray),.int .i64 0,.int .i64 0,.int .i64 0,.int .i64 0]) ?_ 0 _ rfl;(with_reducible repeat (first|refine bN ?_ _|refine bD ?_|refine bA ?_ _));exact BK364.out) hb);have n2_:=Am (below_step (by repeat (first|(with_reducible first|exact HB.out|apply bL|apply pN|apply bE|refine bS ?_ GE345.out|refine bS ?_ GE364.out)|exact HB.out)) hb);clear BK345;clear BK364;clear HB;have BK345:=n0_;have BK364:=n1_;have HB:=n2_;clear n0_ n1_ n2_)|(go_at_call 8;(with_reducible refine (gangerlaw20_known.calls kj11  t367 _ ?side1 A29.out).mono ?_);(case side1=>exact Glob.below HG.out (by repeat (first|(with_reducible first|exact HB.out|apply bL|apply pN|apply bE|refine bS ?_ GE345.out|refine bS ?_ GE364.out)|exact HB.out)));rintro e w35 ⟨rfl,hb⟩;have n0_:=Am (blk_below (g:=gb345) (by (with_reducible repeat (first|refine bN ?_ _|refine bD ?_|refine bA ?_ _));exact BK345.out) hb);have n1_:=Am (blk_below (g:=gb364) (by (with_reducible repeat (first|refine bN ?_ _|refine bD ?_|refine bA ?_ _));exact BK364.out) hb);have n2_:=Am (below_step (by repeat (first|(with_reducible first|exact HB.out|apply bL|apply pN|apply bE|refine bS ?_ GE345.out|refine bS ?_ GE364.out)|exact HB.out)) hb);clear BK345;clear BK364;clear HB;have BK345:=n0_;have BK364:=n1_;have HB:=n2_;clear n0_ n1_ n2_))
      go_ret
      exact ⟨by first|rfl|(simp [errW_none,errW_some] <;> rfl)|(simp [*,errW_none,errW_some] <;> rfl),by repeat (first|(with_reducible first|exact HB.out|apply bL|apply pN|apply bE|refine bS ?_ GE345.out|refine bS ?_ GE364.out)|exact HB.out)⟩
     rw [if_neg c25] at H
     have c25b0 : (t363 == 0) = false:=beq_eq_false_iff_ne.mpr c25
     have c25b1 : (t363 != 0) = true:=bne_iff_ne.mpr c25
     by_cases c36 : (t357 == 0 && (t358.toList == ([] : List UInt8) && (t359 == 0 && (t360 == 0 && (t361 == 0 && (t362 == 0)))))) = true
     rotate_left
     ·rw [if_neg c36] at H
      exact absurd H (by simp)
     rw [if_pos c36] at H
     have c36b0 : (t357 == 0 && (t358.toList == ([] : List UInt8) && (t359 == 0 && (t360 == 0 && (t361 == 0 && (t362 == 0)))))) = true:=c36
     (try (have c36b1 : decide (t357 = 0 && (t358.toList == ([] : List UInt8) && (t359 == 0 && (t360 == 0 && (t361 == 0 && (t362 == 0)))))) = true:=by simpa using c36))
     (try (have c36b2 : (t357 == 0 && (t358.toList == ([] : List UInt8) && (t359 == 0 && (t360 == 0 && (t361 == 0 && (t362 == 0)))))) = true:=by simpa using c36))
     (try (have c36E0:=c36b0;simp only [isE_] at c36E0))
     (try (have c36E1:=c36b1;simp only [isE_] at c36E1))
     (try (have c36E2:=c36b2;simp only [isE_] at c36E2))
     (try (have c36E3:=c36b3;simp only [isE_] at c36E3))
     clear c36
     by_cases c37 : t363 = 60
     ·rw [if_pos c37] at H
      have c37b0 : (t363 == 60) = true:=beq_iff_eq.mpr c37
      have c37b1 : (t363 != 60) = false:=bne_eq_false_iff_eq.mpr c37
      clear c37
      replace H:=oB H
      obtain ⟨t368,A380,H⟩:=H
      try dsimp only at H
      have A38:=Am A380
      clear A380
      obtain rfl:=Option.some.inj H
      go_wp2_with (first|((with_reducible refine gC (f:=10) rfl ?_);refine goesL_ (some 44) rfl rfl Tryd.func10 (by kernel_rfl) rfl #[.string a1] rfl (by (try simp only [mT,mC,mN]);first|done|rfl|(simp only [lD,lT];rfl)) ?_;(with_reducible refine (book_Parse.calls kj11 a1 t357 t358 t359 t360 t361 t362 t363 _ ?side1 A24.out).mono ?_);(case side1=>exact Glob.below HG.out (by repeat (first|(with_reducible first|exact HB.out|apply bL|apply pN|apply bE|refine bS ?_ GE345.out)|exact HB.out)));rintro e w39 ⟨rfl,hb⟩;refine ⟨_,rfl,?_⟩;have n0_:=Am (blk_below (g:=gb345) (by (with_reducible repeat (first|refine bN ?_ _|refine bD ?_|refine bA ?_ _));exact BK345.out) hb);have n1_:=Am (below_step (by repeat (first|(with_reducible first|exact HB.out|apply bL|apply pN|apply bE|refine bS ?_ GE345.out)|exact HB.out)) hb);clear BK345;clear HB;have BK345:=n0_;have HB:=n1_;clear n0_ n1_)|((with_reducible refine gD (N:=9) rfl ?_);(try (refine gate_guard (by rfl) ?_;dsimp only));refine box_event ?hg (N:=9) ?hd (cs:=#[.int .u32 0,.string (⟨#[]⟩ : ByteArray),.int .i64 0,.int .i64 0,.int .i64 0,.int .i64 0]) (t:=24) ?hr ?_;(case hd=>rfl);(case hg=>rfl);(case hr=>first|(go_simp;done)|(go_simp;rfl));intro gb364 hg w40 hbox hb;have n0_:=Am (blk_below (g:=gb345) (by (with_reducible repeat (first|refine bN ?_ _|refine bD ?_|refine bA ?_ _));exact BK345.out) hb);have n1_:=Am (below_step (by repeat (first|(with_reducible first|exact HB.out|apply bL|apply pN|apply bE|refine bS ?_ GE345.out)|exact HB.out)) hb);have n2_:=Am (hbox);have n3_:=Am ((by rw [hg];exact (bZ (by repeat (first|(with_reducible first|exact HB.out|apply bL|apply pN|apply bE|refine bS ?_ GE345.out)|exact HB.out))) : w.heap.size≤gb364));have n4_:=n3_;have n5_:=Am ((by rw [hg];exact Nat.ne_of_lt (blk_lt (g:=gb345) (by (with_reducible repeat (first|refine bN ?_ _|refine bD ?_|refine bA ?_ _));exact BK345.out)) : gb345 ≠ gb364));have n6_:=Am ((by rw [hg];exact Nat.ne_of_gt (blk_lt (g:=gb345) (by (with_reducible repeat (first|refine bN ?_ _|refine bD ?_|refine bA ?_ _));exact BK345.out)) : gb364 ≠ gb345));clear BK345;clear HB;have BK345:=n0_;have HB:=n1_;have BK364:=n2_;have GW364:=n3_;have GE364:=n4_;have NB345_364:=n5_;have NB364_345:=n6_;clear n0_ n1_ n2_ n3_ n4_ n5_ n6_;clear hb hbox hg;have hnb41:=NB364_345.out;have hnc41:=NB345_364.out;obtain ⟨X42_0,X42_1,X42_2,X42_3,X42_4,X42_5,Y42_0,Y42_1,Y42_2,Y42_3,Y42_4,Y42_5⟩:=kc6 (w:=w40) (g:=gb364) BK364.out)|(go_at_call 8;(with_reducible refine (gangerlaw20_known.calls kj11  t368 _ ?side1 A38.out).mono ?_);(case side1=>exact Glob.below HG.out (by repeat (first|(with_reducible first|exact HB.out|apply bL|apply pN|apply bE|refine bS ?_ GE345.out|refine bS ?_ GE364.out)|exact HB.out)));rintro e w43 ⟨rfl,hb⟩;have n0_:=Am (blk_below (g:=gb345) (o:=.cells #[.int .u32 a0_0,.string a0_1,.int .i64 a0_2,.int .i64 a0_3,.int .i64 a0_4,.int .i64 a0_5] 24 (0,0)) (by (with_reducible repeat (first|refine bN ?_ _|refine bD ?_|refine bA ?_ _));refine blk_far ?_ NB345_364.out _;(with_reducible repeat (first|refine bN ?_ _|refine bD ?_|refine bA ?_ _));refine blk_far ?_ NB345_364.out _;(with_reducible repeat (first|refine bN ?_ _|refine bD ?_|refine bA ?_ _));refine blk_far ?_ NB345_364.out _;(with_reducible repeat (first|refine bN ?_ _|refine bD ?_|refine bA ?_ _));refine blk_far ?_ NB345_364.out _;(with_reducible repeat (first|refine bN ?_ _|refine bD ?_|refine bA ?_ _));refine blk_far ?_ NB345_364.out _;(with_reducible repeat (first|refine bN ?_ _|refine bD ?_|refine bA ?_ _));refine blk_far ?_ NB345_364.out _;(with_reducible repeat (first|refine bN ?_ _|refine bD ?_|refine bA ?_ _));exact BK345.out) hb);have n1_:=Am (blk_below (g:=gb364) (o:=.cells #[.int .u32 t357,.string t358,.int .i64 t359,.int .i64 t360,.int .i64 t361,.int .i64 t362] 24 (0,0)) (by (with_reducible repeat (first|refine bN ?_ _|refine bD ?_|refine bA ?_ _));refine blk_put (cs:=#[.int .u32 t357,.string t358,.int .i64 t359,.int .i64 t360,.int .i64 t361,.int .i64 0]) ?_ 5 _ rfl;(with_reducible repeat (first|refine bN ?_ _|refine bD ?_|refine bA ?_ _));refine blk_put (cs:=#[.int .u32 t357,.string t358,.int .i64 t359,.int .i64 t360,.int .i64 0,.int .i64 0]) ?_ 4 _ rfl;(with_reducible repeat (first|refine bN ?_ _|refine bD ?_|refine bA ?_ _));refine blk_put (cs:=#[.int .u32 t357,.string t358,.int .i64 t359,.int .i64 0,.int .i64 0,.int .i64 0]) ?_ 3 _ rfl;(with_reducible repeat (first|refine bN ?_ _|refine bD ?_|refine bA ?_ _));refine blk_put (cs:=#[.int .u32 t357,.string t358,.int .i64 0,.int .i64 0,.int .i64 0,.int .i64 0]) ?_ 2 _ rfl;(with_reducible repeat (first|refine bN ?_ _|refine bD ?_|refine bA ?_ _));refine blk_put (cs:=#[.int .u32 t357,.string (⟨#[]⟩ : ByteArray),.int .i64 0,.int .i64 0,.int .i64 0,.int .i64 0]) ?_ 1 _ rfl;(with_reducible repeat (first|refine bN ?_ _|refine bD ?_|refine bA ?_ _));refine blk_put (cs:=#[.int .u32 0,.string (⟨#[]⟩ : ByteArray),.int .i64 0,.int .i64 0,.int .i64 0,.int .i64 0]) ?_ 0 _ rfl;(with_reducible repeat (first|refine bN ?_ _|refine bD ?_|refine bA ?_ _));exact BK364.out) hb);have n2_:=Am (below_step (by repeat (first|(with_reducible first|exact HB.out|apply bL|apply pN|apply bE|refine bS ?_ GE345.out|refine bS ?_ GE364.out)|exact HB.out)) hb);clear BK345;clear BK364;clear HB;have BK345:=n0_;have BK364:=n1_;have HB:=n2_;clear n0_ n1_ n2_))
      go_ret
      exact ⟨by first|rfl|(simp [errW_none,errW_some] <;> rfl)|(simp [*,errW_none,errW_some] <;> rfl),by repeat (first|(with_reducible first|exact HB.out|apply bL|apply pN|apply bE|refine bS ?_ GE345.out|refine bS ?_ GE364.out)|exact HB.out)⟩
     rw [if_neg c37] at H
     have c37b0 : (t363 == 60) = false:=beq_eq_false_iff_ne.mpr c37
     have c37b1 : (t363 != 60) = true:=bne_iff_ne.mpr c37
     by_cases c44 : t363 = 200
     rotate_left
     ·rw [if_neg c44] at H
      exact absurd H (by simp)
     rw [if_pos c44] at H
     have c44b0 : (t363 == 200) = true:=beq_iff_eq.mpr c44
     have c44b1 : (t363 != 200) = false:=bne_eq_false_iff_eq.mpr c44
     clear c44
     replace H:=oB H
     obtain ⟨t369,A450,H⟩:=H
     try dsimp only at H
     have A45:=Am A450
     clear A450
     obtain rfl:=Option.some.inj H
     go_wp2_with (first|((with_reducible refine gC (f:=10) rfl ?_);refine goesL_ (some 44) rfl rfl Tryd.func10 (by kernel_rfl) rfl #[.string a1] rfl (by (try simp only [mT,mC,mN]);first|done|rfl|(simp only [lD,lT];rfl)) ?_;(with_reducible refine (book_Parse.calls kj11 a1 t357 t358 t359 t360 t361 t362 t363 _ ?side1 A24.out).mono ?_);(case side1=>exact Glob.below HG.out (by repeat (first|(with_reducible first|exact HB.out|apply bL|apply pN|apply bE|refine bS ?_ GE345.out)|exact HB.out)));rintro e w46 ⟨rfl,hb⟩;refine ⟨_,rfl,?_⟩;have n0_:=Am (blk_below (g:=gb345) (by (with_reducible repeat (first|refine bN ?_ _|refine bD ?_|refine bA ?_ _));exact BK345.out) hb);have n1_:=Am (below_step (by repeat (first|(with_reducible first|exact HB.out|apply bL|apply pN|apply bE|refine bS ?_ GE345.out)|exact HB.out)) hb);clear BK345;clear HB;have BK345:=n0_;have HB:=n1_;clear n0_ n1_)|((with_reducible refine gD (N:=9) rfl ?_);(try (refine gate_guard (by rfl) ?_;dsimp only));refine box_event ?hg (N:=9) ?hd (cs:=#[.int .u32 0,.string (⟨#[]⟩ : ByteArray),.int .i64 0,.int .i64 0,.int .i64 0,.int .i64 0]) (t:=24) ?hr ?_;(case hd=>rfl);(case hg=>rfl);(case hr=>first|(go_simp;done)|(go_simp;rfl));intro gb364 hg w47 hbox hb;have n0_:=Am (blk_below (g:=gb345) (by (with_reducible repeat (first|refine bN ?_ _|refine bD ?_|refine bA ?_ _));exact BK345.out) hb);have n1_:=Am (below_step (by repeat (first|(with_reducible first|exact HB.out|apply bL|apply pN|apply bE|refine bS ?_ GE345.out)|exact HB.out)) hb);have n2_:=Am (hbox);have n3_:=Am ((by rw [hg];exact (bZ (by repeat (first|(with_reducible first|exact HB.out|apply bL|apply pN|apply bE|refine bS ?_ GE345.out)|exact HB.out))) : w.heap.size≤gb364));have n4_:=n3_;have n5_:=Am ((by rw [hg];exact Nat.ne_of_lt (blk_lt (g:=gb345) (by (with_reducible repeat (first|refine bN ?_ _|refine bD ?_|refine bA ?_ _));exact BK345.out)) : gb345 ≠ gb364));have n6_:=Am ((by rw [hg];exact Nat.ne_of_gt (blk_lt (g:=gb345) (by (with_reducible repeat (first|refine bN ?_ _|refine bD ?_|refine bA ?_ _));exact BK345.out)) : gb364 ≠ gb345));clear BK345;clear HB;have BK345:=n0_;have HB:=n1_;have BK364:=n2_;have GW364:=n3_;have GE364:=n4_;have NB345_364:=n5_;have NB364_345:=n6_;clear n0_ n1_ n2_ n3_ n4_ n5_ n6_;clear hb hbox hg;have hnb48:=NB364_345.out;have hnc48:=NB345_364.out;obtain ⟨X49_0,X49_1,X49_2,X49_3,X49_4,X49_5,Y49_0,Y49_1,Y49_2,Y49_3,Y49_4,Y49_5⟩:=kc6 (w:=w47) (g:=gb364) BK364.out)|(go_at_call 8;(with_reducible refine (gangerlaw20_known.calls kj11  t369 _ ?side1 A45.out).mono ?_);(case side1=>exact Glob.below HG.out (by repeat (first|(with_reducible first|exact HB.out|apply bL|apply pN|apply bE|refine bS ?_ GE345.out|refine bS ?_ GE364.out)|exact HB.out)));rintro e w50 ⟨rfl,hb⟩;have n0_:=Am (blk_below (g:=gb345) (o:=.cells #[.int .u32 a0_0,.string a0_1,.int .i64 a0_2,.int .i64 a0_3,.int .i64 a0_4,.int .i64 a0_5] 24 (0,0)) (by (with_reducible repeat (first|refine bN ?_ _|refine bD ?_|refine bA ?_ _));refine blk_far ?_ NB345_364.out _;(with_reducible repeat (first|refine bN ?_ _|refine bD ?_|refine bA ?_ _));refine blk_far ?_ NB345_364.out _;(with_reducible repeat (first|refine bN ?_ _|refine bD ?_|refine bA ?_ _));refine blk_far ?_ NB345_364.out _;(with_reducible repeat (first|refine bN ?_ _|refine bD ?_|refine bA ?_ _));refine blk_far ?_ NB345_364.out _;(with_reducible repeat (first|refine bN ?_ _|refine bD ?_|refine bA ?_ _));refine blk_far ?_ NB345_364.out _;(with_reducible repeat (first|refine bN ?_ _|refine bD ?_|refine bA ?_ _));refine blk_far ?_ NB345_364.out _;(with_reducible repeat (first|refine bN ?_ _|refine bD ?_|refine bA ?_ _));exact BK345.out) hb);have n1_:=Am (blk_below (g:=gb364) (o:=.cells #[.int .u32 t357,.string t358,.int .i64 t359,.int .i64 t360,.int .i64 t361,.int .i64 t362] 24 (0,0)) (by (with_reducible repeat (first|refine bN ?_ _|refine bD ?_|refine bA ?_ _));refine blk_put (cs:=#[.int .u32 t357,.string t358,.int .i64 t359,.int .i64 t360,.int .i64 t361,.int .i64 0]) ?_ 5 _ rfl;(with_reducible repeat (first|refine bN ?_ _|refine bD ?_|refine bA ?_ _));refine blk_put (cs:=#[.int .u32 t357,.string t358,.int .i64 t359,.int .i64 t360,.int .i64 0,.int .i64 0]) ?_ 4 _ rfl;(with_reducible repeat (first|refine bN ?_ _|refine bD ?_|refine bA ?_ _));refine blk_put (cs:=#[.int .u32 t357,.string t358,.int .i64 t359,.int .i64 0,.int .i64 0,.int .i64 0]) ?_ 3 _ rfl;(with_reducible repeat (first|refine bN ?_ _|refine bD ?_|refine bA ?_ _));refine blk_put (cs:=#[.int .u32 t357,.string t358,.int .i64 0,.int .i64 0,.int .i64 0,.int .i64 0]) ?_ 2 _ rfl;(with_reducible repeat (first|refine bN ?_ _|refine bD ?_|refine bA ?_ _));refine blk_put (cs:=#[.int .u32 t357,.string (⟨#[]⟩ : ByteArray),.int .i64 0,.int .i64 0,.int .i64 0,.int .i64 0]) ?_ 1 _ rfl;(with_reducible repeat (first|refine bN ?_ _|refine bD ?_|refine bA ?_ _));refine blk_put (cs:=#[.int .u32 0,.string (⟨#[]⟩ : ByteArray),.int .i64 0,.int .i64 0,.int .i64 0,.int .i64 0]) ?_ 0 _ rfl;(with_reducible repeat (first|refine bN ?_ _|refine bD ?_|refine bA ?_ _));exact BK364.out) hb);have n2_:=Am (below_step (by repeat (first|(with_reducible first|exact HB.out|apply bL|apply pN|apply bE|refine bS ?_ GE345.out|refine bS ?_ GE364.out)|exact HB.out)) hb);clear BK345;clear BK364;clear HB;have BK345:=n0_;have BK364:=n1_;have HB:=n2_;clear n0_ n1_ n2_))
     go_ret
     exact ⟨by first|rfl|(simp [errW_none,errW_some] <;> rfl)|(simp [*,errW_none,errW_some] <;> rfl),by repeat (first|(with_reducible first|exact HB.out|apply bL|apply pN|apply bE|refine bS ?_ GE345.out|refine bS ?_ GE364.out)|exact HB.out)⟩
def gangerlaw20_BookBack.Pure : Prop:=∀ (a0_0 : Int) (a0_1 : ByteArray) (a0_2 : Int) (a0_3 : Int) (a0_4 : Int) (a0_5 : Int) (a1 : ByteArray),(((Lit.int .u32 a0_0).wf = true)∧((a0_1.size≤maxLen)∧(((Lit.int .i64 a0_2).wf = true)∧(((Lit.int .i64 a0_3).wf = true)∧(((Lit.int .i64 a0_4).wf = true)∧((Lit.int .i64 a0_5).wf = true))))))→a1.size≤140737488351232→∃ k,gangerlaw20_BookBack.f k a0_0 a0_1 a0_2 a0_3 a0_4 a0_5 a1 = some true
end Go.Proofs.YtakdneopmojjdaaDoor.P
