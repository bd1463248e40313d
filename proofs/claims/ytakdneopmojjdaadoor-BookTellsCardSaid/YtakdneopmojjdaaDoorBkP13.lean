/- cut to what one law reaches -/
import Derived.Test.YtakdneopmojjdaaDoorBkShort
import Derived.Test.YtakdneopmojjdaaDoorBkP0
import Derived.Test.YtakdneopmojjdaaDoorBkP12
namespace Go.Proofs.YtakdneopmojjdaaDoor.P
open Go.RowKit Go.Proofs.YtakdneopmojjdaaDoorW.PrintWords Go.Proofs.YtakdneopmojjdaaDoorW.PrintLast Go.Proofs.YtakdneopmojjdaaDoorW.PrintMore
attribute [local go_sem] max2_int min2_int max_two min_two max_three min_three max_four min_four   -- for this text's walks alone
set_option linter.unusedVariables false
set_option linter.unusedSimpArgs false
attribute [local go_sem] isSome_setCell
def gangerref20_Right.f (k : Nat) (a0_0 : Int) (a0_1 : ByteArray) (a0_2 : Int) (a0_3 : Int) (a0_4 : Int) (a0_5 : Int) : Option (Bool):=if a0_0 = 0 then (some false) else ((gangerref09_Name.f k a0_1).bind fun t217=>(if t217 = true then (if a0_2 < 1 then (some false) else (if a0_2 > 1024 then (some false) else (if a0_3 < 0 then (some false) else (if a0_3 > 1073741824 then (some false) else (if a0_5 < 0 then (some false) else (if a0_5 > 1099511627776 then (some false) else ((gangerref20_word.f a0_4).bind fun t218=>(some (t218.toList != ([] : List UInt8)))))))))) else (some false)))
set_option maxHeartbeats 8000000 in
set_option maxRecDepth 100000 in
theorem gangerref20_Right.calls (k : Nat) (a0_0 : Int) (a0_1 : ByteArray) (a0_2 : Int) (a0_3 : Int) (a0_4 : Int) (a0_5 : Int) (r : Bool) (w : World) (h : gangerref20_Right.f k a0_0 a0_1 a0_2 a0_3 a0_4 a0_5 = some r) :
  Calls Tryd.prog 30 #[.agg #[.int .u32 a0_0,.string a0_1,.int .i64 a0_2,.int .i64 a0_3,.int .i64 a0_4,.int .i64 a0_5]] w fun e w'=>e = .returned (.bool r)∧Below w.heap.size w w':=by
 have hu24:=Tryd.underlying24
 have HB:=Am (Below.refl w.heap.size w)
 have H : (if a0_0 = 0 then (some false) else ((gangerref09_Name.f k a0_1).bind fun t217=>(if t217 = true then (if a0_2 < 1 then (some false) else (if a0_2 > 1024 then (some false) else (if a0_3 < 0 then (some false) else (if a0_3 > 1073741824 then (some false) else (if a0_5 < 0 then (some false) else (if a0_5 > 1099511627776 then (some false) else ((gangerref20_word.f a0_4).bind fun t218=>(some (t218.toList != ([] : List UInt8)))))))))) else (some false)))) = some r:=h
 clear h
 by_cases c2 : a0_0 = 0
 ·rw [if_pos c2] at H
  have c2b0 : (a0_0 == 0) = true:=beq_iff_eq.mpr c2
  have c2b1 : (a0_0 != 0) = false:=bne_eq_false_iff_eq.mpr c2
  clear c2
  obtain rfl:=Option.some.inj H
  go_enter Tryd.func30,Tryd.ntmps30
  go_wp2_with (first|((with_reducible refine gD (N:=1) rfl ?_);refine box_event ?hg (N:=1) ?hd (cs:=#[.int .u32 a0_0,.string a0_1,.int .i64 a0_2,.int .i64 a0_3,.int .i64 a0_4,.int .i64 a0_5]) (t:=24) ?hr ?_;(case hd=>rfl);(case hg=>rfl);(case hr=>first|(go_simp;done)|(go_simp;rfl));intro gb216 hg w3 hbox hb;have n0_:=Am (below_step (by repeat (first|(with_reducible first|exact HB.out|apply bL|apply pN|apply bE)|exact HB.out)) hb);have n1_:=Am (hbox);have n2_:=Am ((by rw [hg];exact (bZ (by repeat (first|(with_reducible first|exact HB.out|apply bL|apply pN|apply bE)|exact HB.out))) : w.heap.size≤gb216));have n3_:=n2_;clear HB;have HB:=n0_;have BK216:=n1_;have GW216:=n2_;have GE216:=n3_;clear n0_ n1_ n2_ n3_;clear hb hbox hg;obtain ⟨X4_0,X4_1,X4_2,X4_3,X4_4,X4_5,Y4_0,Y4_1,Y4_2,Y4_3,Y4_4,Y4_5⟩:=kc6 (w:=w3) (g:=gb216) BK216.out))
  go_ret
  exact ⟨by first|rfl|(simp [errW_none,errW_some] <;> rfl)|(simp [*,errW_none,errW_some] <;> rfl)|(simp [bne,isE_]),by repeat (first|(with_reducible first|exact HB.out|apply bL|apply pN|apply bE|refine bS ?_ GE216.out)|exact HB.out)⟩
 rw [if_neg c2] at H
 have c2b0 : (a0_0 == 0) = false:=beq_eq_false_iff_ne.mpr c2
 have c2b1 : (a0_0 != 0) = true:=bne_iff_ne.mpr c2
 replace H:=oB H
 obtain ⟨t217,A50,H⟩:=H
 try dsimp only at H
 have A5:=Am A50
 clear A50
 by_cases c6 : t217 = true
 rotate_left
 ·replace c6:=Bool.eq_false_iff.mpr c6
  subst c6
  have H1 : (some false) = some r:=by rw [if_neg (show ¬ (false = true) by decide)] at H;exact H
  clear H
  have H:=H1
  clear H1
  obtain rfl:=Option.some.inj H
  go_enter Tryd.func30,Tryd.ntmps30
  go_wp2_with (first|((with_reducible refine gD (N:=1) rfl ?_);refine box_event ?hg (N:=1) ?hd (cs:=#[.int .u32 a0_0,.string a0_1,.int .i64 a0_2,.int .i64 a0_3,.int .i64 a0_4,.int .i64 a0_5]) (t:=24) ?hr ?_;(case hd=>rfl);(case hg=>rfl);(case hr=>first|(go_simp;done)|(go_simp;rfl));intro gb216 hg w28 hbox hb;have n0_:=Am (below_step (by repeat (first|(with_reducible first|exact HB.out|apply bL|apply pN|apply bE)|exact HB.out)) hb);have n1_:=Am (hbox);have n2_:=Am ((by rw [hg];exact (bZ (by repeat (first|(with_reducible first|exact HB.out|apply bL|apply pN|apply bE)|exact HB.out))) : w.heap.size≤gb216));have n3_:=n2_;clear HB;have HB:=n0_;have BK216:=n1_;have GW216:=n2_;have GE216:=n3_;clear n0_ n1_ n2_ n3_;clear hb hbox hg;obtain ⟨X29_0,X29_1,X29_2,X29_3,X29_4,X29_5,Y29_0,Y29_1,Y29_2,Y29_3,Y29_4,Y29_5⟩:=kc6 (w:=w28) (g:=gb216) BK216.out)|(go_at_call 44;(with_reducible refine (gangerref09_Name.calls k a0_1 false _ A5.out).mono ?_);rintro e w' ⟨rfl,⟨nd,rfl⟩⟩))
  go_ret
  exact ⟨by first|rfl|(simp [errW_none,errW_some] <;> rfl)|(simp [*,errW_none,errW_some] <;> rfl)|(simp [bne,isE_]),by repeat (first|(with_reducible first|exact HB.out|apply bL|apply pN|apply bE|refine bS ?_ GE216.out)|exact HB.out)⟩
 subst c6
 have H1 : (if a0_2 < 1 then (some false) else (if a0_2 > 1024 then (some false) else (if a0_3 < 0 then (some false) else (if a0_3 > 1073741824 then (some false) else (if a0_5 < 0 then (some false) else (if a0_5 > 1099511627776 then (some false) else ((gangerref20_word.f a0_4).bind fun t218=>(some (t218.toList != ([] : List UInt8)))))))))) = some r:=by rw [if_pos rfl] at H;exact H
 clear H
 have H:=H1
 clear H1
 by_cases c7 : a0_2 < 1
 ·rw [if_pos c7] at H
  have c7b0 : decide (a0_2 < 1) = true:=decide_eq_true c7
  clear c7
  obtain rfl:=Option.some.inj H
  go_enter Tryd.func30,Tryd.ntmps30
  go_wp2_with (first|((with_reducible refine gD (N:=1) rfl ?_);refine box_event ?hg (N:=1) ?hd (cs:=#[.int .u32 a0_0,.string a0_1,.int .i64 a0_2,.int .i64 a0_3,.int .i64 a0_4,.int .i64 a0_5]) (t:=24) ?hr ?_;(case hd=>rfl);(case hg=>rfl);(case hr=>first|(go_simp;done)|(go_simp;rfl));intro gb216 hg w8 hbox hb;have n0_:=Am (below_step (by repeat (first|(with_reducible first|exact HB.out|apply bL|apply pN|apply bE)|exact HB.out)) hb);have n1_:=Am (hbox);have n2_:=Am ((by rw [hg];exact (bZ (by repeat (first|(with_reducible first|exact HB.out|apply bL|apply pN|apply bE)|exact HB.out))) : w.heap.size≤gb216));have n3_:=n2_;clear HB;have HB:=n0_;have BK216:=n1_;have GW216:=n2_;have GE216:=n3_;clear n0_ n1_ n2_ n3_;clear hb hbox hg;obtain ⟨X9_0,X9_1,X9_2,X9_3,X9_4,X9_5,Y9_0,Y9_1,Y9_2,Y9_3,Y9_4,Y9_5⟩:=kc6 (w:=w8) (g:=gb216) BK216.out)|(go_at_call 44;(with_reducible refine (gangerref09_Name.calls k a0_1 true _ A5.out).mono ?_);rintro e w' ⟨rfl,⟨nd,rfl⟩⟩))
  go_ret
  exact ⟨by first|rfl|(simp [errW_none,errW_some] <;> rfl)|(simp [*,errW_none,errW_some] <;> rfl)|(simp [bne,isE_]),by repeat (first|(with_reducible first|exact HB.out|apply bL|apply pN|apply bE|refine bS ?_ GE216.out)|exact HB.out)⟩
 rw [if_neg c7] at H
 have c7b0 : decide (a0_2 < 1) = false:=decide_eq_false c7
 clear c7
 by_cases c10 : a0_2 > 1024
 ·rw [if_pos c10] at H
  have c10b0 : decide (1024 < a0_2) = true:=decide_eq_true c10
  clear c10
  obtain rfl:=Option.some.inj H
  go_enter Tryd.func30,Tryd.ntmps30
  go_wp2_with (first|((with_reducible refine gD (N:=1) rfl ?_);refine box_event ?hg (N:=1) ?hd (cs:=#[.int .u32 a0_0,.string a0_1,.int .i64 a0_2,.int .i64 a0_3,.int .i64 a0_4,.int .i64 a0_5]) (t:=24) ?hr ?_;(case hd=>rfl);(case hg=>rfl);(case hr=>first|(go_simp;done)|(go_simp;rfl));intro gb216 hg w11 hbox hb;have n0_:=Am (below_step (by repeat (first|(with_reducible first|exact HB.out|apply bL|apply pN|apply bE)|exact HB.out)) hb);have n1_:=Am (hbox);have n2_:=Am ((by rw [hg];exact (bZ (by repeat (first|(with_reducible first|exact HB.out|apply bL|apply pN|apply bE)|exact HB.out))) : w.heap.size≤gb216));have n3_:=n2_;clear HB;have HB:=n0_;have BK216:=n1_;have GW216:=n2_;have GE216:=n3_;clear n0_ n1_ n2_ n3_;clear hb hbox hg;obtain ⟨X12_0,X12_1,X12_2,X12_3,X12_4,X12_5,Y12_0,Y12_1,Y12_2,Y12_3,Y12_4,Y12_5⟩:=kc6 (w:=w11) (g:=gb216) BK216.out)|(go_at_call 44;(with_reducible refine (gangerref09_Name.calls k a0_1 true _ A5.out).mono ?_);rintro e w' ⟨rfl,⟨nd,rfl⟩⟩))
  go_ret
  exact ⟨by first|rfl|(simp [errW_none,errW_some] <;> rfl)|(simp [*,errW_none,errW_some] <;> rfl)|(simp [bne,isE_]),by repeat (first|(with_reducible first|exact HB.out|apply bL|apply pN|apply bE|refine bS ?_ GE216.out)|exact HB.out)⟩
 rw [if_neg c10] at H
 have c10b0 : decide (1024 < a0_2) = false:=decide_eq_false c10
 clear c10
 by_cases c13 : a0_3 < 0
 ·rw [if_pos c13] at H
  have c13b0 : decide (a0_3 < 0) = true:=decide_eq_true c13
  clear c13
  obtain rfl:=Option.some.inj H
  go_enter Tryd.func30,Tryd.ntmps30
  go_wp2_with (first|((with_reducible refine gD (N:=1) rfl ?_);refine box_event ?hg (N:=1) ?hd (cs:=#[.int .u32 a0_0,.string a0_1,.int .i64 a0_2,.int .i64 a0_3,.int .i64 a0_4,.int .i64 a0_5]) (t:=24) ?hr ?_;(case hd=>rfl);(case hg=>rfl);(case hr=>first|(go_simp;done)|(go_simp;rfl));intro gb216 hg w14 hbox hb;have n0_:=Am (below_step (by repeat (first|(with_reducible first|exact HB.out|apply bL|apply pN|apply bE)|exact HB.out)) hb);have n1_:=Am (hbox);have n2_:=Am ((by rw [hg];exact (bZ (by repeat (first|(with_reducible first|exact HB.out|apply bL|apply pN|apply bE)|exact HB.out))) : w.heap.size≤gb216));have n3_:=n2_;clear HB;have HB:=n0_;have BK216:=n1_;have GW216:=n2_;have GE216:=n3_;clear n0_ n1_ n2_ n3_;clear hb hbox hg;obtain ⟨X15_0,X15_1,X15_2,X15_3,X15_4,X15_5,Y15_0,Y15_1,Y15_2,Y15_3,Y15_4,Y15_5⟩:=kc6 (w:=w14) (g:=gb216) BK216.out)|(go_at_call 44;(with_reducible refine (gangerref09_Name.calls k a0_1 true _ A5.out).mono ?_);rintro e w' ⟨rfl,⟨nd,rfl⟩⟩))
  go_ret
  exact ⟨by first|rfl|(simp [errW_none,errW_some] <;> rfl)|(simp [*,errW_none,errW_some] <;> rfl)|(simp [bne,isE_]),by repeat (first|(with_reducible first|exact HB.out|apply bL|apply pN|apply bE|refine bS ?_ GE216.out)|exact HB.out)⟩
 rw [if_neg c13] at H
 have c13b0 : decide (a0_3 < 0) = false:=decide_eq_false c13
 clear c13
 by_cases c16 : a0_3 > 1073741824
 ·rw [if_pos c16] at H
  have c16b0 : decide (1073741824 < a0_3) = true:=decide_eq_true c16
  clear c16
  obtain rfl:=Option.some.inj H
  go_enter Tryd.func30,Tryd.ntmps30
  go_wp2_with (first|((with_reducible refine gD (N:=1) rfl ?_);refine box_event ?hg (N:=1) ?hd (cs:=#[.int .u32 a0_0,.string a0_1,.int .i64 a0_2,.int .i64 a0_3,.int .i64 a0_4,.int .i64 a0_5]) (t:=24) ?hr ?_;(case hd=>rfl);(case hg=>rfl);(case hr=>first|(go_simp;done)|(go_simp;rfl));intro gb216 hg w17 hbox hb;have n0_:=Am (below_step (by repeat (first|(with_reducible first|exact HB.out|apply bL|apply pN|apply bE)|exact HB.out)) hb);have n1_:=Am (hbox);have n2_:=Am ((by rw [hg];exact (bZ (by repeat (first|(with_reducible first|exact HB.out|apply bL|apply pN|apply bE)|exact HB.out))) : w.heap.size≤gb216));have n3_:=n2_;clear HB;have HB:=n0_;have BK216:=n1_;have GW216:=n2_;have GE216:=n3_;clear n0_ n1_ n2_ n3_;clear hb hbox hg;obtain ⟨X18_0,X18_1,X18_2,X18_3,X18_4,X18_5,Y18_0,Y18_1,Y18_2,Y18_3,Y18_4,Y18_5⟩:=kc6 (w:=w17) (g:=gb216) BK216.out)|(go_at_call 44;(with_reducible refine (gangerref09_Name.calls k a0_1 true _ A5.out).mono ?_);rintro e w' ⟨rfl,⟨nd,rfl⟩⟩))
  go_ret
  exact ⟨by first|rfl|(simp [errW_none,errW_some] <;> rfl)|(simp [*,errW_none,errW_some] <;> rfl)|(simp [bne,isE_]),by repeat (first|(with_reducible first|exact HB.out|apply bL|apply pN|apply bE|refine bS ?_ GE216.out)|exact HB.out)⟩
 rw [if_neg c16] at H
 have c16b0 : decide (1073741824 < a0_3) = false:=decide_eq_false c16
 clear c16
 by_cases c19 : a0_5 < 0
 ·rw [if_pos c19] at H
  have c19b0 : decide (a0_5 < 0) = true:=decide_eq_true c19
  clear c19
  obtain rfl:=Option.some.inj H
  go_enter Tryd.func30,Tryd.ntmps30
  go_wp2_with (first|((with_reducible refine gD (N:=1) rfl ?_);refine box_event ?hg (N:=1) ?hd (cs:=#[.int .u32 a0_0,.string a0_1,.int .i64 a0_2,.int .i64 a0_3,.int .i64 a0_4,.int .i64 a0_5]) (t:=24) ?hr ?_;(case hd=>rfl);(case hg=>rfl);(case hr=>first|(go_simp;done)|(go_simp;rfl));intro gb216 hg w20 hbox hb;have n0_:=Am (below_step (by repeat (first|(with_reducible first|exact HB.out|apply bL|apply pN|apply bE)|exact HB.out)) hb);have n1_:=Am (hbox);have n2_:=Am ((by rw [hg];exact (bZ (by repeat (first|(with_reducible first|exact HB.out|apply bL|apply pN|apply bE)|exact HB.out))) : w.heap.size≤gb216));have n3_:=n2_;clear HB;have HB:=n0_;have BK216:=n1_;have GW216:=n2_;have GE216:=n3_;clear n0_ n1_ n2_ n3_;clear hb hbox hg;obtain ⟨X21_0,X21_1,X21_2,X21_3,X21_4,X21_5,Y21_0,Y21_1,Y21_2,Y21_3,Y21_4,Y21_5⟩:=kc6 (w:=w20) (g:=gb216) BK216.out)|(go_at_call 44;(with_reducible refine (gangerref09_Name.calls k a0_1 true _ A5.out).mono ?_);rintro e w' ⟨rfl,⟨nd,rfl⟩⟩))
  go_ret
  exact ⟨by first|rfl|(simp [errW_none,errW_some] <;> rfl)|(simp [*,errW_none,errW_some] <;> rfl)|(simp [bne,isE_]),by repeat (first|(with_reducible first|exact HB.out|apply bL|apply pN|apply bE|refine bS ?_ GE216.out)|exact HB.out)⟩
 rw [if_neg c19] at H
 have c19b0 : decide (a0_5 < 0) = false:=decide_eq_false c19
 clear c19
 by_cases c22 : a0_5 > 1099511627776
 ·rw [if_pos c22] at H
  have c22b0 : decide (1099511627776 < a0_5) = true:=decide_eq_true c22
  clear c22
  obtain rfl:=Option.some.inj H
  go_enter Tryd.func30,Tryd.ntmps30
  go_wp2_with (first|((with_reducible refine gD (N:=1) rfl ?_);refine box_event ?hg (N:=1) ?hd (cs:=#[.int .u32 a0_0,.string a0_1,.int .i64 a0_2,.int .i64 a0_3,.int .i64 a0_4,.int .i64 a0_5]) (t:=24) ?hr ?_;(case hd=>rfl);(case hg=>rfl);(case hr=>first|(go_simp;done)|(go_simp;rfl));intro gb216 hg w23 hbox hb;have n0_:=Am (below_step (by repeat (first|(with_reducible first|exact HB.out|apply bL|apply pN|apply bE)|exact HB.out)) hb);have n1_:=Am (hbox);have n2_:=Am ((by rw [hg];exact (bZ (by repeat (first|(with_reducible first|exact HB.out|apply bL|apply pN|apply bE)|exact HB.out))) : w.heap.size≤gb216));have n3_:=n2_;clear HB;have HB:=n0_;have BK216:=n1_;have GW216:=n2_;have GE216:=n3_;clear n0_ n1_ n2_ n3_;clear hb hbox hg;obtain ⟨X24_0,X24_1,X24_2,X24_3,X24_4,X24_5,Y24_0,Y24_1,Y24_2,Y24_3,Y24_4,Y24_5⟩:=kc6 (w:=w23) (g:=gb216) BK216.out)|(go_at_call 44;(with_reducible refine (gangerref09_Name.calls k a0_1 true _ A5.out).mono ?_);rintro e w' ⟨rfl,⟨nd,rfl⟩⟩))
  go_ret
  exact ⟨by first|rfl|(simp [errW_none,errW_some] <;> rfl)|(simp [*,errW_none,errW_some] <;> rfl)|(simp [bne,isE_]),by repeat (first|(with_reducible first|exact HB.out|apply bL|apply pN|apply bE|refine bS ?_ GE216.out)|exact HB.out)⟩
 rw [if_neg c22] at H
 have c22b0 : decide (1099511627776 < a0_5) = false:=decide_eq_false c22
 clear c22
 replace H:=oB H
 obtain ⟨t218,A250,H⟩:=H
 try dsimp only at H
 have A25:=Am A250
 clear A250
 obtain rfl:=Option.some.inj H
 go_enter Tryd.func30,Tryd.ntmps30
 go_wp2_with (first|((with_reducible refine gD (N:=1) rfl ?_);refine box_event ?hg (N:=1) ?hd (cs:=#[.int .u32 a0_0,.string a0_1,.int .i64 a0_2,.int .i64 a0_3,.int .i64 a0_4,.int .i64 a0_5]) (t:=24) ?hr ?_;(case hd=>rfl);(case hg=>rfl);(case hr=>first|(go_simp;done)|(go_simp;rfl));intro gb216 hg w26 hbox hb;have n0_:=Am (below_step (by repeat (first|(with_reducible first|exact HB.out|apply bL|apply pN|apply bE)|exact HB.out)) hb);have n1_:=Am (hbox);have n2_:=Am ((by rw [hg];exact (bZ (by repeat (first|(with_reducible first|exact HB.out|apply bL|apply pN|apply bE)|exact HB.out))) : w.heap.size≤gb216));have n3_:=n2_;clear HB;have HB:=n0_;have BK216:=n1_;have GW216:=n2_;have GE216:=n3_;clear n0_ n1_ n2_ n3_;clear hb hbox hg;obtain ⟨X27_0,X27_1,X27_2,X27_3,X27_4,X27_5,Y27_0,Y27_1,Y27_2,Y27_3,Y27_4,Y27_5⟩:=kc6 (w:=w26) (g:=gb216) BK216.out)|(go_at_call 44;(with_reducible refine (gangerref09_Name.calls k a0_1 true _ A5.out).mono ?_);rintro e w' ⟨rfl,⟨nd,rfl⟩⟩)|((with_reducible refine gC (f:=45) rfl ?_);refine goesL_ (some 44) rfl rfl Tryd.func45 (by kernel_rfl) rfl #[.int .i64 a0_4] rfl (by (try simp only [mT,mC,mN]);first|done|rfl|(simp only [lD,lT];rfl)) ?_;(with_reducible refine (gangerref20_word.calls a0_4 t218 _ A25.out).mono ?_);rintro e w' ⟨rfl,⟨nd,rfl⟩⟩;refine ⟨_,rfl,?_⟩))
 go_ret
 exact ⟨by first|rfl|(simp [errW_none,errW_some] <;> rfl)|(simp [*,errW_none,errW_some] <;> rfl)|(simp [bne,isE_]),by repeat (first|(with_reducible first|exact HB.out|apply bL|apply pN|apply bE|refine bS ?_ GE216.out)|exact HB.out)⟩
end Go.Proofs.YtakdneopmojjdaaDoor.P
