/- cut to what one law reaches -/
import Derived.Test.YtgidipomfbikiaaDoorTwShort
import Derived.Test.YtgidipomfbikiaaDoorTwP0
import Derived.Test.YtgidipomfbikiaaDoorTwP6
namespace Go.Proofs.YtgidipomfbikiaaDoor.P
open Go.RowKit Go.Proofs.YtgidipomfbikiaaDoorW.PrintWords Go.Proofs.YtgidipomfbikiaaDoorW.PrintLast Go.Proofs.YtgidipomfbikiaaDoorW.PrintMore
attribute [local go_sem] max2_int min2_int max_two min_two max_three min_three max_four min_four   -- for this text's walks alone
set_option linter.unusedVariables false
set_option linter.unusedSimpArgs false
attribute [local go_sem] isSome_setCell
def conf_classes.l0 : Nat→List (S52)→List ByteArray→List (S52)→Int→Int→Option (Bool)
 | 0,_,_,_,_,_=>none
 | k + 1,x0,x3,x6,x7,x8=>if x8 < x7 then (if 0≤x8 then (if x8 < (x6.length : Int) then ((conf_in.f ((rd_T52 x6 x8).f1) 0 1048576).bind fun t126=>(if t126 = true then ((conf_in.f ((rd_T52 x6 x8).f2) 1 1048576).bind fun t127=>(if t127 = true then (if x3.length < 8796093022208 then (conf_classes.l0 k x0 (x3 ++ [(rd_T52 x6 x8).f0]) x6 x7 (wrap64 (x8 + 1))) else (none)) else (some false))) else (some false))) else (none)) else (none)) else ((conf_in.f (x0.length : Int) 1 8).bind fun t122=>(if t122 = true then ((conf_names.f k x3).bind fun t123=>(some t123)) else (some false)))
def conf_classes.f (k : Nat) (l0 : List (S52)) : Option (Bool):=conf_classes.l0 k l0 ([] : List ByteArray) l0 (l0.length : Int) 0
theorem conf_classes.mono_l : ∀ k,(∀ y0 y1 y2 y3 y4,LeO (conf_classes.l0 k y0 y1 y2 y3 y4) (conf_classes.l0 (k + 1) y0 y1 y2 y3 y4))
 | 0=>fun _ _ _ _ _ r h=>by simp [conf_classes.l0] at h
 | k + 1=>by
  have ih0:=conf_classes.mono_l k
  ·intro y0 y1 y2 y3 y4
   unfold conf_classes.l0
   repeat' first
   | (with_reducible exact ih0 _ _ _ _ _)
   | (with_reducible exact conf_names.mono _ _)
   | (with_reducible exact LeO.refl _)
   | (with_reducible exact LeO.none _)
   | (with_reducible refine LeO.ite ?_ ?_)
   | (with_reducible refine LeO.bind ?_ (fun _=>?_))
   | exact ih0 _ _ _ _ _
   | exact conf_names.mono _ _
   | exact LeO.none _
   | refine LeO.ite ?_ ?_
   | refine LeO.bind ?_ (fun _=>?_)
theorem conf_classes.mono : ∀ a0 k,LeO (conf_classes.f k a0) (conf_classes.f (k + 1) a0):=by
 intro a0 k
 have ih0:=conf_classes.mono_l k
 unfold conf_classes.f
 repeat' first
   | (with_reducible exact ih0 _ _ _ _ _)
   | (with_reducible exact conf_names.mono _ _)
   | (with_reducible exact LeO.refl _)
   | (with_reducible exact LeO.none _)
   | (with_reducible refine LeO.ite ?_ ?_)
   | (with_reducible refine LeO.bind ?_ (fun _=>?_))
   | exact ih0 _ _ _ _ _
   | exact conf_names.mono _ _
   | exact LeO.none _
   | refine LeO.ite ?_ ?_
   | refine LeO.bind ?_ (fun _=>?_)
set_option maxHeartbeats 8000000 in
set_option maxRecDepth 100000 in
theorem conf_classes.calls (k : Nat) (A0 : Option Addr) (c0 : Nat) (l0 : List (S52)) (r : Bool) (w : World) (hG : Glob w) (hr0 : Kd.C k52 w A0 l0.length l0) (hc0 : l0.length≤c0) (h : conf_classes.f k l0 = some r) :
  Calls Tryd.prog 26 #[.slice A0 l0.length c0] w fun e w'=>e = .returned (.bool r)∧Below w.heap.size w w':=by
 have hu52:=Tryd.underlying52
 have HG:=Am hG
 clear hG
 have HR0:=Am hr0
 have HC0:=Am hc0
 clear hr0 hc0
 have HB:=Am (Below.refl w.heap.size w)
 have H : (conf_classes.l0 k l0 ([] : List ByteArray) l0 (l0.length : Int) 0) = some r:=h
 clear h
 have H':=Am H
 clear H
 go_enter Tryd.func26,Tryd.ntmps26
 go_wp2
 go_loopg [3,8] k (fun kq v3 v8 w'=>∃ (x3_1 : List ByteArray) (x8_1 : Int),v8 = .int .i64 x8_1∧Aside0 (conf_classes.l0 kq l0 x3_1 l0 (l0.length : Int) x8_1 = some r)∧Aside0 (kq≤k)∧Aside0 (Kd.R Kd.string 9 w' w.heap.size (fun _=>True) v3 x3_1)∧Aside0 (Below w.heap.size w w'))
 case atStart=>exact ⟨(([] : List ByteArray)),(0),(by first|rfl|(simp;done)|(simp [*];done)),H',⟨Nat.le_refl _⟩,⟨by first|exact Kd.R_nil _ _ _ _ _|exact Kd.N_nil _ _ _ _ _|exact Kd.V_nil _ _ _ _ _|exact Kd.Q_nil _ _ _ _ _|exact Kd.S_nil _ _ _ _ _⟩,⟨by repeat (first|(with_reducible first|exact HB.out|apply bL|apply pN|apply bE)|exact HB.out)⟩⟩
 case round =>
  clear H'
  obtain ⟨x3_1,x8_1,rfl,HA,HK1,HO_3,HB⟩:=hrel
  cases gk with
  | zero=>exact absurd HA.out (by simp [conf_classes.l0])
  | succ k1 =>
   have H:=HA.out
   clear HA
   simp only [conf_classes.l0] at H
   by_cases c2 : x8_1 < (l0.length : Int)
   rotate_left
   ·rw [if_neg c2] at H
    have c2b0 : decide (x8_1 < (l0.length : Int)) = false:=decide_eq_false c2
    clear c2
    replace H:=oB H
    obtain ⟨t122,A170,H⟩:=H
    try dsimp only at H
    have A17:=Am A170
    clear A170
    by_cases c18 : t122 = true
    rotate_left
    ·replace c18:=Bool.eq_false_iff.mpr c18
     subst c18
     have H1 : (some false) = some r:=by rw [if_neg (show ¬ (false = true) by decide)] at H;exact H
     clear H
     have H:=H1
     clear H1
     obtain rfl:=Option.some.inj H
     go_wp2_with (first|((with_reducible refine gC (f:=24) rfl ?_);refine goesL_ (some 30) rfl rfl Tryd.func24 (by kernel_rfl) rfl #[.int .i64 (l0.length : Int),.int .i64 1,.int .i64 8] rfl (by (try simp only [mT,mC,mN]);first|done|rfl|(simp only [lD,lT];rfl)) ?_;(with_reducible refine (conf_in.calls (l0.length : Int) 1 8 false _ A17.out).mono ?_);rintro e w' ⟨rfl,⟨nd,rfl⟩⟩;refine ⟨_,rfl,?_⟩))
     go_ret
     exact ⟨by first|rfl|(simp [errW_none,errW_some] <;> rfl)|(simp [*,errW_none,errW_some] <;> rfl),by repeat (first|(with_reducible first|exact HB.out|apply bL|apply pN|apply bE)|exact HB.out)⟩
    subst c18
    have H1 : ((conf_names.f k1 x3_1).bind fun t123=>(some t123)) = some r:=by rw [if_pos rfl] at H;exact H
    clear H
    have H:=H1
    clear H1
    replace H:=oB H
    obtain ⟨t123,A190,H⟩:=H
    try dsimp only at H
    have A19:=Am A190
    clear A190
    obtain rfl:=Option.some.inj H
    go_wp2_with (first|((with_reducible refine gC (f:=24) rfl ?_);refine goesL_ (some 30) rfl rfl Tryd.func24 (by kernel_rfl) rfl #[.int .i64 (l0.length : Int),.int .i64 1,.int .i64 8] rfl (by (try simp only [mT,mC,mN]);first|done|rfl|(simp only [lD,lT];rfl)) ?_;(with_reducible refine (conf_in.calls (l0.length : Int) 1 8 true _ A17.out).mono ?_);rintro e w' ⟨rfl,⟨nd,rfl⟩⟩;refine ⟨_,rfl,?_⟩;obtain ⟨Ao20,co20,eo20⟩:=Kd.R_slice HO_3.out;subst eo20)|(go_at_call 39;(with_reducible refine (conf_names.calls k1 _ _ x3_1 t123 _ ?side1 ?side2 ?side3 A19.out).mono ?_);(case side1=>exact Glob.below HG.out (by repeat (first|(with_reducible first|exact HB.out|apply bL|apply pN|apply bE)|exact HB.out)));(case side2=>repeat (first|exact (Kd.R_reads' HO_3.out).2.2|(with_reducible refine Kd.C_alloc ?_ _)|(with_reducible refine Kd.C_drewN ?_ _)|(with_reducible refine Kd.C_drew ?_)));(case side3=>exact (Kd.R_reads' HO_3.out).2.1);rintro e w21 ⟨rfl,hb⟩;have n0_:=Am (Kd.R_below (by (with_reducible repeat (first|apply Kd.R_alloc|apply Kd.R_drewN|apply Kd.R_drew));exact HO_3.out) hb);have n1_:=Am (below_step (by repeat (first|(with_reducible first|exact HB.out|apply bL|apply pN|apply bE)|exact HB.out)) hb);clear HO_3;clear HB;have HO_3:=n0_;have HB:=n1_;clear n0_ n1_))
    go_ret
    exact ⟨by first|rfl|(simp [errW_none,errW_some] <;> rfl)|(simp [*,errW_none,errW_some] <;> rfl),by repeat (first|(with_reducible first|exact HB.out|apply bL|apply pN|apply bE)|exact HB.out)⟩
   rw [if_pos c2] at H
   have c2b0 : decide (x8_1 < (l0.length : Int)) = true:=decide_eq_true c2
   clear c2
   by_cases c3 : 0≤x8_1
   rotate_left
   ·rw [if_neg c3] at H
    exact absurd H (by simp)
   rw [if_pos c3] at H
   have c3b0 : decide (0≤x8_1) = true:=decide_eq_true c3
   clear c3
   by_cases c4 : x8_1 < (l0.length : Int)
   rotate_left
   ·rw [if_neg c4] at H
    exact absurd H (by simp)
   rw [if_pos c4] at H
   have c4b0 : decide (x8_1 < (l0.length : Int)) = true:=decide_eq_true c4
   clear c4
   replace H:=oB H
   obtain ⟨t126,A50,H⟩:=H
   try dsimp only at H
   have A5:=Am A50
   clear A50
   by_cases c6 : t126 = true
   rotate_left
   ·replace c6:=Bool.eq_false_iff.mpr c6
    subst c6
    have H1 : (some false) = some r:=by rw [if_neg (show ¬ (false = true) by decide)] at H;exact H
    clear H
    have H:=H1
    clear H1
    obtain rfl:=Option.some.inj H
    have p124 : 0≤(x8_1 : Int):=of_decide_eq_true (by first|(with_reducible assumption)|assumption)
    have q124 : x8_1 < (l0.length : Int):=of_decide_eq_true (by first|(with_reducible assumption)|assumption)
    obtain ⟨ad124,e124,hx124_0,hx124_1,hx124_2⟩:=at_T52 HR0.out x8_1 p124 q124
    cases e124
    replace hx124_0:=(HB.out.cell (wB w _ hx124_0)).trans hx124_0
    replace hx124_1:=(HB.out.cell (wB w _ hx124_1)).trans hx124_1
    replace hx124_2:=(HB.out.cell (wB w _ hx124_2)).trans hx124_2
    replace p124:=eq_true p124
    replace q124:=eq_true q124
    go_wp2_with (first|((with_reducible refine gD (N:=5) rfl ?_);refine box_event ?hg (N:=5) ?hd (cs:=#[.string (⟨#[]⟩ : ByteArray),.int .i64 0,.int .i64 0]) (t:=52) ?hr ?_;(case hd=>rfl);(case hg=>rfl);(case hr=>first|(go_simp;done)|(go_simp;rfl));intro gb125 hg w15 hbox hb;have n0_:=Am (Kd.R_below (by (with_reducible repeat (first|apply Kd.R_alloc|apply Kd.R_drewN|apply Kd.R_drew));exact HO_3.out) hb);have n1_:=Am (below_step (by repeat (first|(with_reducible first|exact HB.out|apply bL|apply pN|apply bE)|exact HB.out)) hb);have n2_:=Am (hbox);have n3_:=Am ((by rw [hg];exact (bZ (by repeat (first|(with_reducible first|exact HB.out|apply bL|apply pN|apply bE)|exact HB.out))) : w.heap.size≤gb125));have n4_:=n3_;clear HO_3;clear HB;have HO_3:=n0_;have HB:=n1_;have BK125:=n2_;have GW125:=n3_;have GE125:=n4_;clear n0_ n1_ n2_ n3_ n4_;clear hb hbox hg;obtain ⟨X16_0,X16_1,X16_2,Y16_0,Y16_1,Y16_2⟩:=kc3 (w:=w15) (g:=gb125) BK125.out)|((with_reducible refine gC (f:=24) rfl ?_);refine goesL_ (some 14) rfl rfl Tryd.func24 (by kernel_rfl) rfl #[.int .i64 ((rd_T52 l0 x8_1).f1),.int .i64 0,.int .i64 1048576] rfl (by (try simp only [mT,mC,mN]);first|done|rfl|(simp only [lD,lT];rfl)) ?_;(with_reducible refine (conf_in.calls ((rd_T52 l0 x8_1).f1) 0 1048576 false _ A5.out).mono ?_);rintro e w' ⟨rfl,⟨nd,rfl⟩⟩;refine ⟨_,rfl,?_⟩))
    go_ret
    exact ⟨by first|rfl|(simp [errW_none,errW_some] <;> rfl)|(simp [*,errW_none,errW_some] <;> rfl),by repeat (first|(with_reducible first|exact HB.out|apply bL|apply pN|apply bE|refine bS ?_ GE125.out)|exact HB.out)⟩
   subst c6
   have H1 : ((conf_in.f ((rd_T52 l0 x8_1).f2) 1 1048576).bind fun t127=>(if t127 = true then (if x3_1.length < 8796093022208 then (conf_classes.l0 k1 l0 (x3_1 ++ [(rd_T52 l0 x8_1).f0]) l0 (l0.length : Int) (wrap64 (x8_1 + 1))) else (none)) else (some false))) = some r:=by rw [if_pos rfl] at H;exact H
   clear H
   have H:=H1
   clear H1
   replace H:=oB H
   obtain ⟨t127,A70,H⟩:=H
   try dsimp only at H
   have A7:=Am A70
   clear A70
   by_cases c8 : t127 = true
   rotate_left
   ·replace c8:=Bool.eq_false_iff.mpr c8
    subst c8
    have H1 : (some false) = some r:=by rw [if_neg (show ¬ (false = true) by decide)] at H;exact H
    clear H
    have H:=H1
    clear H1
    obtain rfl:=Option.some.inj H
    have p124 : 0≤(x8_1 : Int):=of_decide_eq_true (by first|(with_reducible assumption)|assumption)
    have q124 : x8_1 < (l0.length : Int):=of_decide_eq_true (by first|(with_reducible assumption)|assumption)
    obtain ⟨ad124,e124,hx124_0,hx124_1,hx124_2⟩:=at_T52 HR0.out x8_1 p124 q124
    cases e124
    replace hx124_0:=(HB.out.cell (wB w _ hx124_0)).trans hx124_0
    replace hx124_1:=(HB.out.cell (wB w _ hx124_1)).trans hx124_1
    replace hx124_2:=(HB.out.cell (wB w _ hx124_2)).trans hx124_2
    replace p124:=eq_true p124
    replace q124:=eq_true q124
    go_wp2_with (first|((with_reducible refine gD (N:=5) rfl ?_);refine box_event ?hg (N:=5) ?hd (cs:=#[.string (⟨#[]⟩ : ByteArray),.int .i64 0,.int .i64 0]) (t:=52) ?hr ?_;(case hd=>rfl);(case hg=>rfl);(case hr=>first|(go_simp;done)|(go_simp;rfl));intro gb125 hg w13 hbox hb;have n0_:=Am (Kd.R_below (by (with_reducible repeat (first|apply Kd.R_alloc|apply Kd.R_drewN|apply Kd.R_drew));exact HO_3.out) hb);have n1_:=Am (below_step (by repeat (first|(with_reducible first|exact HB.out|apply bL|apply pN|apply bE)|exact HB.out)) hb);have n2_:=Am (hbox);have n3_:=Am ((by rw [hg];exact (bZ (by repeat (first|(with_reducible first|exact HB.out|apply bL|apply pN|apply bE)|exact HB.out))) : w.heap.size≤gb125));have n4_:=n3_;clear HO_3;clear HB;have HO_3:=n0_;have HB:=n1_;have BK125:=n2_;have GW125:=n3_;have GE125:=n4_;clear n0_ n1_ n2_ n3_ n4_;clear hb hbox hg;obtain ⟨X14_0,X14_1,X14_2,Y14_0,Y14_1,Y14_2⟩:=kc3 (w:=w13) (g:=gb125) BK125.out)|((with_reducible refine gC (f:=24) rfl ?_);refine goesL_ (some 14) rfl rfl Tryd.func24 (by kernel_rfl) rfl #[.int .i64 ((rd_T52 l0 x8_1).f1),.int .i64 0,.int .i64 1048576] rfl (by (try simp only [mT,mC,mN]);first|done|rfl|(simp only [lD,lT];rfl)) ?_;(with_reducible refine (conf_in.calls ((rd_T52 l0 x8_1).f1) 0 1048576 true _ A5.out).mono ?_);rintro e w' ⟨rfl,⟨nd,rfl⟩⟩;refine ⟨_,rfl,?_⟩)|(go_at_call 24;(with_reducible refine (conf_in.calls ((rd_T52 l0 x8_1).f2) 1 1048576 false _ A7.out).mono ?_);rintro e w' ⟨rfl,⟨nd,rfl⟩⟩))
    go_ret
    exact ⟨by first|rfl|(simp [errW_none,errW_some] <;> rfl)|(simp [*,errW_none,errW_some] <;> rfl),by repeat (first|(with_reducible first|exact HB.out|apply bL|apply pN|apply bE|refine bS ?_ GE125.out)|exact HB.out)⟩
   subst c8
   have H1 : (if x3_1.length < 8796093022208 then (conf_classes.l0 k1 l0 (x3_1 ++ [(rd_T52 l0 x8_1).f0]) l0 (l0.length : Int) (wrap64 (x8_1 + 1))) else (none)) = some r:=by rw [if_pos rfl] at H;exact H
   clear H
   have H:=H1
   clear H1
   by_cases c9 : x3_1.length < 8796093022208
   rotate_left
   ·rw [if_neg c9] at H
    exact absurd H (by simp)
   rw [if_pos c9] at H
   have LMc9:=Am c9
   clear c9
   obtain ⟨y128,hy128⟩ : ∃ y_ : List ByteArray,y_ = (x3_1 ++ [(rd_T52 l0 x8_1).f0]):=⟨_,rfl⟩
   replace H : (conf_classes.l0 k1 l0 y128 l0 (l0.length : Int) (wrap64 (x8_1 + 1))) = some r:=by first|(rw [hy128];with_reducible exact H)|(have H2_:=(Option.bind_some _ _).symm.trans H;rw [hy128];with_reducible exact H2_)|(have H2_:=(Option.bind_some _ _).symm.trans H;with_reducible exact H2_)|with_reducible exact H|(rw [hy128];exact H)|exact H
   have Ny128:=Am hy128
   clear hy128
   have H':=Am H
   clear H
   have p124 : 0≤(x8_1 : Int):=of_decide_eq_true (by first|(with_reducible assumption)|assumption)
   have q124 : x8_1 < (l0.length : Int):=of_decide_eq_true (by first|(with_reducible assumption)|assumption)
   obtain ⟨ad124,e124,hx124_0,hx124_1,hx124_2⟩:=at_T52 HR0.out x8_1 p124 q124
   cases e124
   replace hx124_0:=(HB.out.cell (wB w _ hx124_0)).trans hx124_0
   replace hx124_1:=(HB.out.cell (wB w _ hx124_1)).trans hx124_1
   replace hx124_2:=(HB.out.cell (wB w _ hx124_2)).trans hx124_2
   replace p124:=eq_true p124
   replace q124:=eq_true q124
   go_wp2_with (first|((with_reducible refine gD (N:=5) rfl ?_);refine box_event ?hg (N:=5) ?hd (cs:=#[.string (⟨#[]⟩ : ByteArray),.int .i64 0,.int .i64 0]) (t:=52) ?hr ?_;(case hd=>rfl);(case hg=>rfl);(case hr=>first|(go_simp;done)|(go_simp;rfl));intro gb125 hg w10 hbox hb;have n0_:=Am (Kd.R_below (by (with_reducible repeat (first|apply Kd.R_alloc|apply Kd.R_drewN|apply Kd.R_drew));exact HO_3.out) hb);have n1_:=Am (below_step (by repeat (first|(with_reducible first|exact HB.out|apply bL|apply pN|apply bE)|exact HB.out)) hb);have n2_:=Am (hbox);have n3_:=Am ((by rw [hg];exact (bZ (by repeat (first|(with_reducible first|exact HB.out|apply bL|apply pN|apply bE)|exact HB.out))) : w.heap.size≤gb125));have n4_:=n3_;clear HO_3;clear HB;have HO_3:=n0_;have HB:=n1_;have BK125:=n2_;have GW125:=n3_;have GE125:=n4_;clear n0_ n1_ n2_ n3_ n4_;clear hb hbox hg;obtain ⟨X11_0,X11_1,X11_2,Y11_0,Y11_1,Y11_2⟩:=kc3 (w:=w10) (g:=gb125) BK125.out)|((with_reducible refine gC (f:=24) rfl ?_);refine goesL_ (some 14) rfl rfl Tryd.func24 (by kernel_rfl) rfl #[.int .i64 ((rd_T52 l0 x8_1).f1),.int .i64 0,.int .i64 1048576] rfl (by (try simp only [mT,mC,mN]);first|done|rfl|(simp only [lD,lT];rfl)) ?_;(with_reducible refine (conf_in.calls ((rd_T52 l0 x8_1).f1) 0 1048576 true _ A5.out).mono ?_);rintro e w' ⟨rfl,⟨nd,rfl⟩⟩;refine ⟨_,rfl,?_⟩)|(go_at_call 24;(with_reducible refine (conf_in.calls ((rd_T52 l0 x8_1).f2) 1 1048576 true _ A7.out).mono ?_);rintro e w' ⟨rfl,⟨nd,rfl⟩⟩)|((with_reducible refine gate_builtin (b:=.append) (xs:=#[.tmp 22,.tmp 25]) rfl ?_);at_builtin;refine Kd.R_append Kd.string (w0:=w) w.heap.size rfl (.tmp 22) (.tmp 25) 58 9 (.string ⟨#[]⟩) 16 rfl Tryd.underlying58 info9 rfl (by decide) (by omega) u3 x3_1 ((rd_T52 l0 x8_1).f0) [.string ((rd_T52 l0 x8_1).f0)] (fun _=>True) (fun _=>False) rfl (by first|(go_simp;done)|(go_simp;rfl)) ?aP (fun _ hk=>hk.elim) ?aF ?aO ?aB ?aS ?aL ?_;(case aP=>exact rfl);(case aB=>exact (by repeat (first|(with_reducible first|exact HB.out|apply bL|apply pN|apply bE|refine bS ?_ GE125.out)|exact HB.out)));(case aF=>exact (fun _ _=>trivial));(case aO=>exact (by (with_reducible repeat (first|apply Kd.R_alloc|apply Kd.R_drewN|apply Kd.R_drew));exact Kd.R_mono (rf3 (g:=gb125) (Kd.R_types HO_3.out BK125.out (by decide)) (fun _ hk=>hk.2)) (fun _ hk=>trivial)));(case aS=>exact (bZ (by repeat (first|(with_reducible first|exact HB.out|apply bL|apply pN|apply bE|refine bS ?_ GE125.out)|exact HB.out))));(case aL=>have:=LMc9.out;omega);intro v129 w12 ho hb hg hat;rw [← Ny128.out] at ho;have n0_:=Am (blk_grown (g:=gb125) (o:=.cells #[.string ((rd_T52 l0 x8_1).f0),.int .i64 ((rd_T52 l0 x8_1).f1),.int .i64 ((rd_T52 l0 x8_1).f2)] 52 (0,0)) (by (with_reducible repeat (first|refine bN ?_ _|refine bD ?_|refine bA ?_ _));refine blk_put (cs:=#[.string ((rd_T52 l0 x8_1).f0),.int .i64 ((rd_T52 l0 x8_1).f1),.int .i64 0]) ?_ 2 _ rfl;(with_reducible repeat (first|refine bN ?_ _|refine bD ?_|refine bA ?_ _));refine blk_put (cs:=#[.string ((rd_T52 l0 x8_1).f0),.int .i64 0,.int .i64 0]) ?_ 1 _ rfl;(with_reducible repeat (first|refine bN ?_ _|refine bD ?_|refine bA ?_ _));refine blk_put (cs:=#[.string (⟨#[]⟩ : ByteArray),.int .i64 0,.int .i64 0]) ?_ 0 _ rfl;(with_reducible repeat (first|refine bN ?_ _|refine bD ?_|refine bA ?_ _));exact BK125.out) hg (Kd.R_ne HO_3.out BK125.out (by decide)));have n1_:=Am (hb);have n2_:=Am (ho);clear BK125;clear HB;clear HO_3;have BK125:=n0_;have HB:=n1_;have HO130:=n2_;clear n0_ n1_ n2_;clear ho hb hg hat))
   go_roundg k1
   case measure=>have:=HK1.out;omega
   case rel=>exact ⟨(y128),(wrap64 (x8_1 + 1)),(by first|rfl|(simp;done)|(simp [*];done)),H',⟨by have:=HK1.out;omega⟩,⟨by (with_reducible repeat (first|apply Kd.R_alloc|apply Kd.R_drewN|apply Kd.R_drew));exact HO130.out⟩,⟨by repeat (first|(with_reducible first|exact HB.out|apply bL|apply pN|apply bE|refine bS ?_ GE125.out)|exact HB.out)⟩⟩
def conf_accounts.l0 : Nat→List (S48)→List ByteArray→List (S48)→Int→Int→Option (Bool)
 | 0,_,_,_,_,_=>none
 | k + 1,x0,x3,x6,x7,x8=>if x8 < x7 then (if 0≤x8 then (if x8 < (x6.length : Int) then ((conf_in.f ((rd_T48 x6 x8).f2) 1 1048576).bind fun t135=>(if t135 = true then (if ((x8 == 0) != (((rd_T48 x6 x8).f1).toList == ([] : List UInt8))) = true then (some false) else (if x8 > 0 then ((slices_Contains_string_string.f k x3 ((rd_T48 x6 x8).f1)).bind fun t136=>(if t136 = true then (if x3.length < 8796093022208 then (conf_accounts.l0 k x0 (x3 ++ [(rd_T48 x6 x8).f0]) x6 x7 (wrap64 (x8 + 1))) else (none)) else (some false))) else (if x3.length < 8796093022208 then (conf_accounts.l0 k x0 (x3 ++ [(rd_T48 x6 x8).f0]) x6 x7 (wrap64 (x8 + 1))) else (none)))) else (some false))) else (none)) else (none)) else ((conf_in.f (x0.length : Int) 1 50).bind fun t131=>(if t131 = true then ((conf_names.f k x3).bind fun t132=>(some t132)) else (some false)))
def conf_accounts.f (k : Nat) (l0 : List (S48)) : Option (Bool):=conf_accounts.l0 k l0 ([] : List ByteArray) l0 (l0.length : Int) 0
theorem conf_accounts.mono_l : ∀ k,(∀ y0 y1 y2 y3 y4,LeO (conf_accounts.l0 k y0 y1 y2 y3 y4) (conf_accounts.l0 (k + 1) y0 y1 y2 y3 y4))
 | 0=>fun _ _ _ _ _ r h=>by simp [conf_accounts.l0] at h
 | k + 1=>by
  have ih0:=conf_accounts.mono_l k
  ·intro y0 y1 y2 y3 y4
   unfold conf_accounts.l0
   repeat' first
   | (with_reducible exact ih0 _ _ _ _ _)
   | (with_reducible exact conf_names.mono _ _)
   | (with_reducible exact slices_Contains_string_string.mono _ _ _)
   | (with_reducible exact LeO.refl _)
   | (with_reducible exact LeO.none _)
   | (with_reducible refine LeO.ite ?_ ?_)
   | (with_reducible refine LeO.bind ?_ (fun _=>?_))
   | exact ih0 _ _ _ _ _
   | exact conf_names.mono _ _
   | exact slices_Contains_string_string.mono _ _ _
   | exact LeO.none _
   | refine LeO.ite ?_ ?_
   | refine LeO.bind ?_ (fun _=>?_)
theorem conf_accounts.mono : ∀ a0 k,LeO (conf_accounts.f k a0) (conf_accounts.f (k + 1) a0):=by
 intro a0 k
 have ih0:=conf_accounts.mono_l k
 unfold conf_accounts.f
 repeat' first
   | (with_reducible exact ih0 _ _ _ _ _)
   | (with_reducible exact conf_names.mono _ _)
   | (with_reducible exact slices_Contains_string_string.mono _ _ _)
   | (with_reducible exact LeO.refl _)
   | (with_reducible exact LeO.none _)
   | (with_reducible refine LeO.ite ?_ ?_)
   | (with_reducible refine LeO.bind ?_ (fun _=>?_))
   | exact ih0 _ _ _ _ _
   | exact conf_names.mono _ _
   | exact slices_Contains_string_string.mono _ _ _
   | exact LeO.none _
   | refine LeO.ite ?_ ?_
   | refine LeO.bind ?_ (fun _=>?_)
set_option maxHeartbeats 8000000 in
set_option maxRecDepth 100000 in
theorem conf_accounts.calls (k : Nat) (A0 : Option Addr) (c0 : Nat) (l0 : List (S48)) (r : Bool) (w : World) (hG : Glob w) (hr0 : Kd.C k48 w A0 l0.length l0) (hc0 : l0.length≤c0) (h : conf_accounts.f k l0 = some r) :
  Calls Tryd.prog 27 #[.slice A0 l0.length c0] w fun e w'=>e = .returned (.bool r)∧Below w.heap.size w w':=by
 have hu48:=Tryd.underlying48
 have HG:=Am hG
 clear hG
 have HR0:=Am hr0
 have HC0:=Am hc0
 clear hr0 hc0
 have HB:=Am (Below.refl w.heap.size w)
 have H : (conf_accounts.l0 k l0 ([] : List ByteArray) l0 (l0.length : Int) 0) = some r:=h
 clear h
 have H':=Am H
 clear H
 go_enter Tryd.func27,Tryd.ntmps27
 go_wp2
 go_loopg [3,8] k (fun kq v3 v8 w'=>∃ (x3_1 : List ByteArray) (x8_1 : Int),v8 = .int .i64 x8_1∧Aside0 (conf_accounts.l0 kq l0 x3_1 l0 (l0.length : Int) x8_1 = some r)∧Aside0 (kq≤k)∧Aside0 (Kd.R Kd.string 9 w' w.heap.size (fun _=>True) v3 x3_1)∧Aside0 (Below w.heap.size w w'))
 case atStart=>exact ⟨(([] : List ByteArray)),(0),(by first|rfl|(simp;done)|(simp [*];done)),H',⟨Nat.le_refl _⟩,⟨by first|exact Kd.R_nil _ _ _ _ _|exact Kd.N_nil _ _ _ _ _|exact Kd.V_nil _ _ _ _ _|exact Kd.Q_nil _ _ _ _ _|exact Kd.S_nil _ _ _ _ _⟩,⟨by repeat (first|(with_reducible first|exact HB.out|apply bL|apply pN|apply bE)|exact HB.out)⟩⟩
 case round =>
  clear H'
  obtain ⟨x3_1,x8_1,rfl,HA,HK1,HO_3,HB⟩:=hrel
  cases gk with
  | zero=>exact absurd HA.out (by simp [conf_accounts.l0])
  | succ k1 =>
   have H:=HA.out
   clear HA
   simp only [conf_accounts.l0] at H
   by_cases c2 : x8_1 < (l0.length : Int)
   rotate_left
   ·rw [if_neg c2] at H
    have c2b0 : decide (x8_1 < (l0.length : Int)) = false:=decide_eq_false c2
    clear c2
    replace H:=oB H
    obtain ⟨t131,A270,H⟩:=H
    try dsimp only at H
    have A27:=Am A270
    clear A270
    by_cases c28 : t131 = true
    rotate_left
    ·replace c28:=Bool.eq_false_iff.mpr c28
     subst c28
     have H1 : (some false) = some r:=by rw [if_neg (show ¬ (false = true) by decide)] at H;exact H
     clear H
     have H:=H1
     clear H1
     obtain rfl:=Option.some.inj H
     go_wp2_with (first|((with_reducible refine gC (f:=24) rfl ?_);refine goesL_ (some 44) rfl rfl Tryd.func24 (by kernel_rfl) rfl #[.int .i64 (l0.length : Int),.int .i64 1,.int .i64 50] rfl (by (try simp only [mT,mC,mN]);first|done|rfl|(simp only [lD,lT];rfl)) ?_;(with_reducible refine (conf_in.calls (l0.length : Int) 1 50 false _ A27.out).mono ?_);rintro e w' ⟨rfl,⟨nd,rfl⟩⟩;refine ⟨_,rfl,?_⟩))
     go_ret
     exact ⟨by first|rfl|(simp [errW_none,errW_some] <;> rfl)|(simp [*,errW_none,errW_some] <;> rfl),by repeat (first|(with_reducible first|exact HB.out|apply bL|apply pN|apply bE)|exact HB.out)⟩
    subst c28
    have H1 : ((conf_names.f k1 x3_1).bind fun t132=>(some t132)) = some r:=by rw [if_pos rfl] at H;exact H
    clear H
    have H:=H1
    clear H1
    replace H:=oB H
    obtain ⟨t132,A290,H⟩:=H
    try dsimp only at H
    have A29:=Am A290
    clear A290
    obtain rfl:=Option.some.inj H
    go_wp2_with (first|((with_reducible refine gC (f:=24) rfl ?_);refine goesL_ (some 44) rfl rfl Tryd.func24 (by kernel_rfl) rfl #[.int .i64 (l0.length : Int),.int .i64 1,.int .i64 50] rfl (by (try simp only [mT,mC,mN]);first|done|rfl|(simp only [lD,lT];rfl)) ?_;(with_reducible refine (conf_in.calls (l0.length : Int) 1 50 true _ A27.out).mono ?_);rintro e w' ⟨rfl,⟨nd,rfl⟩⟩;refine ⟨_,rfl,?_⟩;obtain ⟨Ao30,co30,eo30⟩:=Kd.R_slice HO_3.out;subst eo30)|(go_at_call 39;(with_reducible refine (conf_names.calls k1 _ _ x3_1 t132 _ ?side1 ?side2 ?side3 A29.out).mono ?_);(case side1=>exact Glob.below HG.out (by repeat (first|(with_reducible first|exact HB.out|apply bL|apply pN|apply bE)|exact HB.out)));(case side2=>repeat (first|exact (Kd.R_reads' HO_3.out).2.2|(with_reducible refine Kd.C_alloc ?_ _)|(with_reducible refine Kd.C_drewN ?_ _)|(with_reducible refine Kd.C_drew ?_)));(case side3=>exact (Kd.R_reads' HO_3.out).2.1);rintro e w31 ⟨rfl,hb⟩;have n0_:=Am (Kd.R_below (by (with_reducible repeat (first|apply Kd.R_alloc|apply Kd.R_drewN|apply Kd.R_drew));exact HO_3.out) hb);have n1_:=Am (below_step (by repeat (first|(with_reducible first|exact HB.out|apply bL|apply pN|apply bE)|exact HB.out)) hb);clear HO_3;clear HB;have HO_3:=n0_;have HB:=n1_;clear n0_ n1_))
    go_ret
    exact ⟨by first|rfl|(simp [errW_none,errW_some] <;> rfl)|(simp [*,errW_none,errW_some] <;> rfl),by repeat (first|(with_reducible first|exact HB.out|apply bL|apply pN|apply bE)|exact HB.out)⟩
   rw [if_pos c2] at H
   have c2b0 : decide (x8_1 < (l0.length : Int)) = true:=decide_eq_true c2
   clear c2
   by_cases c3 : 0≤x8_1
   rotate_left
   ·rw [if_neg c3] at H
    exact absurd H (by simp)
   rw [if_pos c3] at H
   have c3b0 : decide (0≤x8_1) = true:=decide_eq_true c3
   clear c3
   by_cases c4 : x8_1 < (l0.length : Int)
   rotate_left
   ·rw [if_neg c4] at H
    exact absurd H (by simp)
   rw [if_pos c4] at H
   have c4b0 : decide (x8_1 < (l0.length : Int)) = true:=decide_eq_true c4
   clear c4
   replace H:=oB H
   obtain ⟨t135,A50,H⟩:=H
   try dsimp only at H
   have A5:=Am A50
   clear A50
   by_cases c6 : t135 = true
   rotate_left
   ·replace c6:=Bool.eq_false_iff.mpr c6
    subst c6
    have H1 : (some false) = some r:=by rw [if_neg (show ¬ (false = true) by decide)] at H;exact H
    clear H
    have H:=H1
    clear H1
    obtain rfl:=Option.some.inj H
    have p133 : 0≤(x8_1 : Int):=of_decide_eq_true (by first|(with_reducible assumption)|assumption)
    have q133 : x8_1 < (l0.length : Int):=of_decide_eq_true (by first|(with_reducible assumption)|assumption)
    obtain ⟨ad133,e133,hx133_0,hx133_1,hx133_2⟩:=at_T48 HR0.out x8_1 p133 q133
    cases e133
    replace hx133_0:=(HB.out.cell (wB w _ hx133_0)).trans hx133_0
    replace hx133_1:=(HB.out.cell (wB w _ hx133_1)).trans hx133_1
    replace hx133_2:=(HB.out.cell (wB w _ hx133_2)).trans hx133_2
    replace p133:=eq_true p133
    replace q133:=eq_true q133
    go_wp2_with (first|((with_reducible refine gD (N:=5) rfl ?_);refine box_event ?hg (N:=5) ?hd (cs:=#[.string (⟨#[]⟩ : ByteArray),.string (⟨#[]⟩ : ByteArray),.int .i64 0]) (t:=48) ?hr ?_;(case hd=>rfl);(case hg=>rfl);(case hr=>first|(go_simp;done)|(go_simp;rfl));intro gb134 hg w25 hbox hb;have n0_:=Am (Kd.R_below (by (with_reducible repeat (first|apply Kd.R_alloc|apply Kd.R_drewN|apply Kd.R_drew));exact HO_3.out) hb);have n1_:=Am (below_step (by repeat (first|(with_reducible first|exact HB.out|apply bL|apply pN|apply bE)|exact HB.out)) hb);have n2_:=Am (hbox);have n3_:=Am ((by rw [hg];exact (bZ (by repeat (first|(with_reducible first|exact HB.out|apply bL|apply pN|apply bE)|exact HB.out))) : w.heap.size≤gb134));have n4_:=n3_;clear HO_3;clear HB;have HO_3:=n0_;have HB:=n1_;have BK134:=n2_;have GW134:=n3_;have GE134:=n4_;clear n0_ n1_ n2_ n3_ n4_;clear hb hbox hg;obtain ⟨X26_0,X26_1,X26_2,Y26_0,Y26_1,Y26_2⟩:=kc3 (w:=w25) (g:=gb134) BK134.out)|((with_reducible refine gC (f:=24) rfl ?_);refine goesL_ (some 15) rfl rfl Tryd.func24 (by kernel_rfl) rfl #[.int .i64 ((rd_T48 l0 x8_1).f2),.int .i64 1,.int .i64 1048576] rfl (by (try simp only [mT,mC,mN]);first|done|rfl|(simp only [lD,lT];rfl)) ?_;(with_reducible refine (conf_in.calls ((rd_T48 l0 x8_1).f2) 1 1048576 false _ A5.out).mono ?_);rintro e w' ⟨rfl,⟨nd,rfl⟩⟩;refine ⟨_,rfl,?_⟩))
    go_ret
    exact ⟨by first|rfl|(simp [errW_none,errW_some] <;> rfl)|(simp [*,errW_none,errW_some] <;> rfl),by repeat (first|(with_reducible first|exact HB.out|apply bL|apply pN|apply bE|refine bS ?_ GE134.out)|exact HB.out)⟩
   subst c6
   have H1 : (if ((x8_1 == 0) != (((rd_T48 l0 x8_1).f1).toList == ([] : List UInt8))) = true then (some false) else (if x8_1 > 0 then ((slices_Contains_string_string.f k1 x3_1 ((rd_T48 l0 x8_1).f1)).bind fun t136=>(if t136 = true then (if x3_1.length < 8796093022208 then (conf_accounts.l0 k1 l0 (x3_1 ++ [(rd_T48 l0 x8_1).f0]) l0 (l0.length : Int) (wrap64 (x8_1 + 1))) else (none)) else (some false))) else (if x3_1.length < 8796093022208 then (conf_accounts.l0 k1 l0 (x3_1 ++ [(rd_T48 l0 x8_1).f0]) l0 (l0.length : Int) (wrap64 (x8_1 + 1))) else (none)))) = some r:=by rw [if_pos rfl] at H;exact H
   clear H
   have H:=H1
   clear H1
   by_cases c7 : ((x8_1 == 0) != (((rd_T48 l0 x8_1).f1).toList == ([] : List UInt8))) = true
   ·rw [if_pos c7] at H
    have c7b0 : ((x8_1 == 0) != (((rd_T48 l0 x8_1).f1).toList == ([] : List UInt8))) = true:=c7
    (try (have c7b1 : decide ((x8_1 == 0) = (((rd_T48 l0 x8_1).f1).toList == ([] : List UInt8))) = false:=by simpa using c7))
    (try (have c7b2 : ((x8_1 == 0) == (((rd_T48 l0 x8_1).f1).toList == ([] : List UInt8))) = false:=by simpa using c7))
    (try (have c7b3 : ¬ ((x8_1 == 0) = (((rd_T48 l0 x8_1).f1).toList == ([] : List UInt8))):=by simpa using c7))
    (try (have c7E0:=c7b0;simp only [isE_] at c7E0))
    (try (have c7E1:=c7b1;simp only [isE_] at c7E1))
    (try (have c7E2:=c7b2;simp only [isE_] at c7E2))
    (try (have c7E3:=c7b3;simp only [isE_] at c7E3))
    clear c7
    obtain rfl:=Option.some.inj H
    have p133 : 0≤(x8_1 : Int):=of_decide_eq_true (by first|(with_reducible assumption)|assumption)
    have q133 : x8_1 < (l0.length : Int):=of_decide_eq_true (by first|(with_reducible assumption)|assumption)
    obtain ⟨ad133,e133,hx133_0,hx133_1,hx133_2⟩:=at_T48 HR0.out x8_1 p133 q133
    cases e133
    replace hx133_0:=(HB.out.cell (wB w _ hx133_0)).trans hx133_0
    replace hx133_1:=(HB.out.cell (wB w _ hx133_1)).trans hx133_1
    replace hx133_2:=(HB.out.cell (wB w _ hx133_2)).trans hx133_2
    replace p133:=eq_true p133
    replace q133:=eq_true q133
    go_wp2_with (first|((with_reducible refine gD (N:=5) rfl ?_);refine box_event ?hg (N:=5) ?hd (cs:=#[.string (⟨#[]⟩ : ByteArray),.string (⟨#[]⟩ : ByteArray),.int .i64 0]) (t:=48) ?hr ?_;(case hd=>rfl);(case hg=>rfl);(case hr=>first|(go_simp;done)|(go_simp;rfl));intro gb134 hg w8 hbox hb;have n0_:=Am (Kd.R_below (by (with_reducible repeat (first|apply Kd.R_alloc|apply Kd.R_drewN|apply Kd.R_drew));exact HO_3.out) hb);have n1_:=Am (below_step (by repeat (first|(with_reducible first|exact HB.out|apply bL|apply pN|apply bE)|exact HB.out)) hb);have n2_:=Am (hbox);have n3_:=Am ((by rw [hg];exact (bZ (by repeat (first|(with_reducible first|exact HB.out|apply bL|apply pN|apply bE)|exact HB.out))) : w.heap.size≤gb134));have n4_:=n3_;clear HO_3;clear HB;have HO_3:=n0_;have HB:=n1_;have BK134:=n2_;have GW134:=n3_;have GE134:=n4_;clear n0_ n1_ n2_ n3_ n4_;clear hb hbox hg;obtain ⟨X9_0,X9_1,X9_2,Y9_0,Y9_1,Y9_2⟩:=kc3 (w:=w8) (g:=gb134) BK134.out)|((with_reducible refine gC (f:=24) rfl ?_);refine goesL_ (some 15) rfl rfl Tryd.func24 (by kernel_rfl) rfl #[.int .i64 ((rd_T48 l0 x8_1).f2),.int .i64 1,.int .i64 1048576] rfl (by (try simp only [mT,mC,mN]);first|done|rfl|(simp only [lD,lT];rfl)) ?_;(with_reducible refine (conf_in.calls ((rd_T48 l0 x8_1).f2) 1 1048576 true _ A5.out).mono ?_);rintro e w' ⟨rfl,⟨nd,rfl⟩⟩;refine ⟨_,rfl,?_⟩))
    go_ret
    exact ⟨by first|rfl|(simp [errW_none,errW_some] <;> rfl)|(simp [*,errW_none,errW_some] <;> rfl),by repeat (first|(with_reducible first|exact HB.out|apply bL|apply pN|apply bE|refine bS ?_ GE134.out)|exact HB.out)⟩
   rw [if_neg c7] at H
   have c7b0 : ((x8_1 == 0) != (((rd_T48 l0 x8_1).f1).toList == ([] : List UInt8))) = false:=by simpa using c7
   (try (have c7b1 : decide ((x8_1 == 0) = (((rd_T48 l0 x8_1).f1).toList == ([] : List UInt8))) = true:=by simpa using c7))
   (try (have c7b2 : ((x8_1 == 0) == (((rd_T48 l0 x8_1).f1).toList == ([] : List UInt8))) = true:=by simpa using c7))
   (try (have c7E0:=c7b0;simp only [isE_] at c7E0))
   (try (have c7E1:=c7b1;simp only [isE_] at c7E1))
   (try (have c7E2:=c7b2;simp only [isE_] at c7E2))
   (try (have c7E3:=c7b3;simp only [isE_] at c7E3))
   clear c7
   by_cases c10 : x8_1 > 0
   rotate_left
   ·rw [if_neg c10] at H
    have c10b0 : decide (0 < x8_1) = false:=decide_eq_false c10
    clear c10
    by_cases c21 : x3_1.length < 8796093022208
    rotate_left
    ·rw [if_neg c21] at H
     exact absurd H (by simp)
    rw [if_pos c21] at H
    have LMc21:=Am c21
    clear c21
    obtain ⟨y140,hy140⟩ : ∃ y_ : List ByteArray,y_ = (x3_1 ++ [(rd_T48 l0 x8_1).f0]):=⟨_,rfl⟩
    replace H : (conf_accounts.l0 k1 l0 y140 l0 (l0.length : Int) (wrap64 (x8_1 + 1))) = some r:=by first|(rw [hy140];with_reducible exact H)|(have H2_:=(Option.bind_some _ _).symm.trans H;rw [hy140];with_reducible exact H2_)|(have H2_:=(Option.bind_some _ _).symm.trans H;with_reducible exact H2_)|with_reducible exact H|(rw [hy140];exact H)|exact H
    have Ny140:=Am hy140
    clear hy140
    have H':=Am H
    clear H
    have p133 : 0≤(x8_1 : Int):=of_decide_eq_true (by first|(with_reducible assumption)|assumption)
    have q133 : x8_1 < (l0.length : Int):=of_decide_eq_true (by first|(with_reducible assumption)|assumption)
    obtain ⟨ad133,e133,hx133_0,hx133_1,hx133_2⟩:=at_T48 HR0.out x8_1 p133 q133
    cases e133
    replace hx133_0:=(HB.out.cell (wB w _ hx133_0)).trans hx133_0
    replace hx133_1:=(HB.out.cell (wB w _ hx133_1)).trans hx133_1
    replace hx133_2:=(HB.out.cell (wB w _ hx133_2)).trans hx133_2
    replace p133:=eq_true p133
    replace q133:=eq_true q133
    go_wp2_with (first|((with_reducible refine gD (N:=5) rfl ?_);refine box_event ?hg (N:=5) ?hd (cs:=#[.string (⟨#[]⟩ : ByteArray),.string (⟨#[]⟩ : ByteArray),.int .i64 0]) (t:=48) ?hr ?_;(case hd=>rfl);(case hg=>rfl);(case hr=>first|(go_simp;done)|(go_simp;rfl));intro gb134 hg w22 hbox hb;have n0_:=Am (Kd.R_below (by (with_reducible repeat (first|apply Kd.R_alloc|apply Kd.R_drewN|apply Kd.R_drew));exact HO_3.out) hb);have n1_:=Am (below_step (by repeat (first|(with_reducible first|exact HB.out|apply bL|apply pN|apply bE)|exact HB.out)) hb);have n2_:=Am (hbox);have n3_:=Am ((by rw [hg];exact (bZ (by repeat (first|(with_reducible first|exact HB.out|apply bL|apply pN|apply bE)|exact HB.out))) : w.heap.size≤gb134));have n4_:=n3_;clear HO_3;clear HB;have HO_3:=n0_;have HB:=n1_;have BK134:=n2_;have GW134:=n3_;have GE134:=n4_;clear n0_ n1_ n2_ n3_ n4_;clear hb hbox hg;obtain ⟨X23_0,X23_1,X23_2,Y23_0,Y23_1,Y23_2⟩:=kc3 (w:=w22) (g:=gb134) BK134.out)|((with_reducible refine gC (f:=24) rfl ?_);refine goesL_ (some 15) rfl rfl Tryd.func24 (by kernel_rfl) rfl #[.int .i64 ((rd_T48 l0 x8_1).f2),.int .i64 1,.int .i64 1048576] rfl (by (try simp only [mT,mC,mN]);first|done|rfl|(simp only [lD,lT];rfl)) ?_;(with_reducible refine (conf_in.calls ((rd_T48 l0 x8_1).f2) 1 1048576 true _ A5.out).mono ?_);rintro e w' ⟨rfl,⟨nd,rfl⟩⟩;refine ⟨_,rfl,?_⟩)|((with_reducible refine gate_builtin (b:=.append) (xs:=#[.tmp 36,.tmp 39]) rfl ?_);at_builtin;refine Kd.R_append Kd.string (w0:=w) w.heap.size rfl (.tmp 36) (.tmp 39) 58 9 (.string ⟨#[]⟩) 16 rfl Tryd.underlying58 info9 rfl (by decide) (by omega) u3 x3_1 ((rd_T48 l0 x8_1).f0) [.string ((rd_T48 l0 x8_1).f0)] (fun _=>True) (fun _=>False) rfl (by first|(go_simp;done)|(go_simp;rfl)) ?aP (fun _ hk=>hk.elim) ?aF ?aO ?aB ?aS ?aL ?_;(case aP=>exact rfl);(case aB=>exact (by repeat (first|(with_reducible first|exact HB.out|apply bL|apply pN|apply bE|refine bS ?_ GE134.out)|exact HB.out)));(case aF=>exact (fun _ _=>trivial));(case aO=>exact (by (with_reducible repeat (first|apply Kd.R_alloc|apply Kd.R_drewN|apply Kd.R_drew));exact Kd.R_mono (rf3 (g:=gb134) (Kd.R_types HO_3.out BK134.out (by decide)) (fun _ hk=>hk.2)) (fun _ hk=>trivial)));(case aS=>exact (bZ (by repeat (first|(with_reducible first|exact HB.out|apply bL|apply pN|apply bE|refine bS ?_ GE134.out)|exact HB.out))));(case aL=>have:=LMc21.out;omega);intro v141 w24 ho hb hg hat;rw [← Ny140.out] at ho;have n0_:=Am (blk_grown (g:=gb134) (o:=.cells #[.string ((rd_T48 l0 x8_1).f0),.string ((rd_T48 l0 x8_1).f1),.int .i64 ((rd_T48 l0 x8_1).f2)] 48 (0,0)) (by (with_reducible repeat (first|refine bN ?_ _|refine bD ?_|refine bA ?_ _));refine blk_put (cs:=#[.string ((rd_T48 l0 x8_1).f0),.string ((rd_T48 l0 x8_1).f1),.int .i64 0]) ?_ 2 _ rfl;(with_reducible repeat (first|refine bN ?_ _|refine bD ?_|refine bA ?_ _));refine blk_put (cs:=#[.string ((rd_T48 l0 x8_1).f0),.string (⟨#[]⟩ : ByteArray),.int .i64 0]) ?_ 1 _ rfl;(with_reducible repeat (first|refine bN ?_ _|refine bD ?_|refine bA ?_ _));refine blk_put (cs:=#[.string (⟨#[]⟩ : ByteArray),.string (⟨#[]⟩ : ByteArray),.int .i64 0]) ?_ 0 _ rfl;(with_reducible repeat (first|refine bN ?_ _|refine bD ?_|refine bA ?_ _));exact BK134.out) hg (Kd.R_ne HO_3.out BK134.out (by decide)));have n1_:=Am (hb);have n2_:=Am (ho);clear BK134;clear HB;clear HO_3;have BK134:=n0_;have HB:=n1_;have HO142:=n2_;clear n0_ n1_ n2_;clear ho hb hg hat))
    go_roundg k1
    case measure=>have:=HK1.out;omega
    case rel=>exact ⟨(y140),(wrap64 (x8_1 + 1)),(by first|rfl|(simp;done)|(simp [*];done)),H',⟨by have:=HK1.out;omega⟩,⟨by (with_reducible repeat (first|apply Kd.R_alloc|apply Kd.R_drewN|apply Kd.R_drew));exact HO142.out⟩,⟨by repeat (first|(with_reducible first|exact HB.out|apply bL|apply pN|apply bE|refine bS ?_ GE134.out)|exact HB.out)⟩⟩
   rw [if_pos c10] at H
   have c10b0 : decide (0 < x8_1) = true:=decide_eq_true c10
   clear c10
   replace H:=oB H
   obtain ⟨t136,A110,H⟩:=H
   try dsimp only at H
   have A11:=Am A110
   clear A110
   by_cases c12 : t136 = true
   rotate_left
   ·replace c12:=Bool.eq_false_iff.mpr c12
    subst c12
    have H1 : (some false) = some r:=by rw [if_neg (show ¬ (false = true) by decide)] at H;exact H
    clear H
    have H:=H1
    clear H1
    obtain rfl:=Option.some.inj H
    have p133 : 0≤(x8_1 : Int):=of_decide_eq_true (by first|(with_reducible assumption)|assumption)
    have q133 : x8_1 < (l0.length : Int):=of_decide_eq_true (by first|(with_reducible assumption)|assumption)
    obtain ⟨ad133,e133,hx133_0,hx133_1,hx133_2⟩:=at_T48 HR0.out x8_1 p133 q133
    cases e133
    replace hx133_0:=(HB.out.cell (wB w _ hx133_0)).trans hx133_0
    replace hx133_1:=(HB.out.cell (wB w _ hx133_1)).trans hx133_1
    replace hx133_2:=(HB.out.cell (wB w _ hx133_2)).trans hx133_2
    replace p133:=eq_true p133
    replace q133:=eq_true q133
    go_wp2_with (first|((with_reducible refine gD (N:=5) rfl ?_);refine box_event ?hg (N:=5) ?hd (cs:=#[.string (⟨#[]⟩ : ByteArray),.string (⟨#[]⟩ : ByteArray),.int .i64 0]) (t:=48) ?hr ?_;(case hd=>rfl);(case hg=>rfl);(case hr=>first|(go_simp;done)|(go_simp;rfl));intro gb134 hg w18 hbox hb;have n0_:=Am (Kd.R_below (by (with_reducible repeat (first|apply Kd.R_alloc|apply Kd.R_drewN|apply Kd.R_drew));exact HO_3.out) hb);have n1_:=Am (below_step (by repeat (first|(with_reducible first|exact HB.out|apply bL|apply pN|apply bE)|exact HB.out)) hb);have n2_:=Am (hbox);have n3_:=Am ((by rw [hg];exact (bZ (by repeat (first|(with_reducible first|exact HB.out|apply bL|apply pN|apply bE)|exact HB.out))) : w.heap.size≤gb134));have n4_:=n3_;clear HO_3;clear HB;have HO_3:=n0_;have HB:=n1_;have BK134:=n2_;have GW134:=n3_;have GE134:=n4_;clear n0_ n1_ n2_ n3_ n4_;clear hb hbox hg;obtain ⟨X19_0,X19_1,X19_2,Y19_0,Y19_1,Y19_2⟩:=kc3 (w:=w18) (g:=gb134) BK134.out)|((with_reducible refine gC (f:=24) rfl ?_);refine goesL_ (some 15) rfl rfl Tryd.func24 (by kernel_rfl) rfl #[.int .i64 ((rd_T48 l0 x8_1).f2),.int .i64 1,.int .i64 1048576] rfl (by (try simp only [mT,mC,mN]);first|done|rfl|(simp only [lD,lT];rfl)) ?_;(with_reducible refine (conf_in.calls ((rd_T48 l0 x8_1).f2) 1 1048576 true _ A5.out).mono ?_);rintro e w' ⟨rfl,⟨nd,rfl⟩⟩;refine ⟨_,rfl,?_⟩;obtain ⟨Ao20,co20,eo20⟩:=Kd.R_slice HO_3.out;subst eo20)|(go_at_call 40;(with_reducible refine (slices_Contains_string_string.calls k1 _ _ x3_1 ((rd_T48 l0 x8_1).f1) false _ ?side1 ?side2 A11.out).mono ?_);(case side1=>refine (Kd.R_reads' (e:=9) (base:=w.heap.size) (ok:=fun k_=>True) (n:=x3_1.length) (c:=co20) ?_).2.2;exact (by (with_reducible repeat (first|apply Kd.R_alloc|apply Kd.R_drewN|apply Kd.R_drew));exact (Kd.R_mono (rf3 (g:=gb134) (Kd.R_types HO_3.out BK134.out (by decide)) (fun _ hk=>hk.2)) (fun _ h_=>h_.1))));(case side2=>exact (Kd.R_reads' HO_3.out).2.1);rintro e w' ⟨rfl,⟨nd,rfl⟩⟩))
    go_ret
    exact ⟨by first|rfl|(simp [errW_none,errW_some] <;> rfl)|(simp [*,errW_none,errW_some] <;> rfl),by repeat (first|(with_reducible first|exact HB.out|apply bL|apply pN|apply bE|refine bS ?_ GE134.out)|exact HB.out)⟩
   subst c12
   have H1 : (if x3_1.length < 8796093022208 then (conf_accounts.l0 k1 l0 (x3_1 ++ [(rd_T48 l0 x8_1).f0]) l0 (l0.length : Int) (wrap64 (x8_1 + 1))) else (none)) = some r:=by rw [if_pos rfl] at H;exact H
   clear H
   have H:=H1
   clear H1
   by_cases c13 : x3_1.length < 8796093022208
   rotate_left
   ·rw [if_neg c13] at H
    exact absurd H (by simp)
   rw [if_pos c13] at H
   have LMc13:=Am c13
   clear c13
   obtain ⟨y137,hy137⟩ : ∃ y_ : List ByteArray,y_ = (x3_1 ++ [(rd_T48 l0 x8_1).f0]):=⟨_,rfl⟩
   replace H : (conf_accounts.l0 k1 l0 y137 l0 (l0.length : Int) (wrap64 (x8_1 + 1))) = some r:=by first|(rw [hy137];with_reducible exact H)|(have H2_:=(Option.bind_some _ _).symm.trans H;rw [hy137];with_reducible exact H2_)|(have H2_:=(Option.bind_some _ _).symm.trans H;with_reducible exact H2_)|with_reducible exact H|(rw [hy137];exact H)|exact H
   have Ny137:=Am hy137
   clear hy137
   have H':=Am H
   clear H
   have p133 : 0≤(x8_1 : Int):=of_decide_eq_true (by first|(with_reducible assumption)|assumption)
   have q133 : x8_1 < (l0.length : Int):=of_decide_eq_true (by first|(with_reducible assumption)|assumption)
   obtain ⟨ad133,e133,hx133_0,hx133_1,hx133_2⟩:=at_T48 HR0.out x8_1 p133 q133
   cases e133
   replace hx133_0:=(HB.out.cell (wB w _ hx133_0)).trans hx133_0
   replace hx133_1:=(HB.out.cell (wB w _ hx133_1)).trans hx133_1
   replace hx133_2:=(HB.out.cell (wB w _ hx133_2)).trans hx133_2
   replace p133:=eq_true p133
   replace q133:=eq_true q133
   go_wp2_with (first|((with_reducible refine gD (N:=5) rfl ?_);refine box_event ?hg (N:=5) ?hd (cs:=#[.string (⟨#[]⟩ : ByteArray),.string (⟨#[]⟩ : ByteArray),.int .i64 0]) (t:=48) ?hr ?_;(case hd=>rfl);(case hg=>rfl);(case hr=>first|(go_simp;done)|(go_simp;rfl));intro gb134 hg w14 hbox hb;have n0_:=Am (Kd.R_below (by (with_reducible repeat (first|apply Kd.R_alloc|apply Kd.R_drewN|apply Kd.R_drew));exact HO_3.out) hb);have n1_:=Am (below_step (by repeat (first|(with_reducible first|exact HB.out|apply bL|apply pN|apply bE)|exact HB.out)) hb);have n2_:=Am (hbox);have n3_:=Am ((by rw [hg];exact (bZ (by repeat (first|(with_reducible first|exact HB.out|apply bL|apply pN|apply bE)|exact HB.out))) : w.heap.size≤gb134));have n4_:=n3_;clear HO_3;clear HB;have HO_3:=n0_;have HB:=n1_;have BK134:=n2_;have GW134:=n3_;have GE134:=n4_;clear n0_ n1_ n2_ n3_ n4_;clear hb hbox hg;obtain ⟨X15_0,X15_1,X15_2,Y15_0,Y15_1,Y15_2⟩:=kc3 (w:=w14) (g:=gb134) BK134.out)|((with_reducible refine gC (f:=24) rfl ?_);refine goesL_ (some 15) rfl rfl Tryd.func24 (by kernel_rfl) rfl #[.int .i64 ((rd_T48 l0 x8_1).f2),.int .i64 1,.int .i64 1048576] rfl (by (try simp only [mT,mC,mN]);first|done|rfl|(simp only [lD,lT];rfl)) ?_;(with_reducible refine (conf_in.calls ((rd_T48 l0 x8_1).f2) 1 1048576 true _ A5.out).mono ?_);rintro e w' ⟨rfl,⟨nd,rfl⟩⟩;refine ⟨_,rfl,?_⟩;obtain ⟨Ao16,co16,eo16⟩:=Kd.R_slice HO_3.out;subst eo16)|(go_at_call 40;(with_reducible refine (slices_Contains_string_string.calls k1 _ _ x3_1 ((rd_T48 l0 x8_1).f1) true _ ?side1 ?side2 A11.out).mono ?_);(case side1=>refine (Kd.R_reads' (e:=9) (base:=w.heap.size) (ok:=fun k_=>True) (n:=x3_1.length) (c:=co16) ?_).2.2;exact (by (with_reducible repeat (first|apply Kd.R_alloc|apply Kd.R_drewN|apply Kd.R_drew));exact (Kd.R_mono (rf3 (g:=gb134) (Kd.R_types HO_3.out BK134.out (by decide)) (fun _ hk=>hk.2)) (fun _ h_=>h_.1))));(case side2=>exact (Kd.R_reads' HO_3.out).2.1);rintro e w' ⟨rfl,⟨nd,rfl⟩⟩)|((with_reducible refine gate_builtin (b:=.append) (xs:=#[.tmp 36,.tmp 39]) rfl ?_);at_builtin;refine Kd.R_append Kd.string (w0:=w) w.heap.size rfl (.tmp 36) (.tmp 39) 58 9 (.string ⟨#[]⟩) 16 rfl Tryd.underlying58 info9 rfl (by decide) (by omega) (.slice Ao16 x3_1.length co16) x3_1 ((rd_T48 l0 x8_1).f0) [.string ((rd_T48 l0 x8_1).f0)] (fun _=>True) (fun _=>False) rfl (by first|(go_simp;done)|(go_simp;rfl)) ?aP (fun _ hk=>hk.elim) ?aF ?aO ?aB ?aS ?aL ?_;(case aP=>exact rfl);(case aB=>exact (by repeat (first|(with_reducible first|exact HB.out|apply bL|apply pN|apply bE|refine bS ?_ GE134.out)|exact HB.out)));(case aF=>exact (fun _ _=>trivial));(case aO=>exact (by (with_reducible repeat (first|apply Kd.R_alloc|apply Kd.R_drewN|apply Kd.R_drew));exact Kd.R_mono (rf3 (g:=gb134) (Kd.R_types HO_3.out BK134.out (by decide)) (fun _ hk=>hk.2)) (fun _ hk=>trivial)));(case aS=>exact (bZ (by repeat (first|(with_reducible first|exact HB.out|apply bL|apply pN|apply bE|refine bS ?_ GE134.out)|exact HB.out))));(case aL=>have:=LMc13.out;omega);intro v138 w17 ho hb hg hat;rw [← Ny137.out] at ho;have n0_:=Am (blk_grown (g:=gb134) (o:=.cells #[.string ((rd_T48 l0 x8_1).f0),.string ((rd_T48 l0 x8_1).f1),.int .i64 ((rd_T48 l0 x8_1).f2)] 48 (0,0)) (by (with_reducible repeat (first|refine bN ?_ _|refine bD ?_|refine bA ?_ _));refine blk_put (cs:=#[.string ((rd_T48 l0 x8_1).f0),.string ((rd_T48 l0 x8_1).f1),.int .i64 0]) ?_ 2 _ rfl;(with_reducible repeat (first|refine bN ?_ _|refine bD ?_|refine bA ?_ _));refine blk_put (cs:=#[.string ((rd_T48 l0 x8_1).f0),.string (⟨#[]⟩ : ByteArray),.int .i64 0]) ?_ 1 _ rfl;(with_reducible repeat (first|refine bN ?_ _|refine bD ?_|refine bA ?_ _));refine blk_put (cs:=#[.string (⟨#[]⟩ : ByteArray),.string (⟨#[]⟩ : ByteArray),.int .i64 0]) ?_ 0 _ rfl;(with_reducible repeat (first|refine bN ?_ _|refine bD ?_|refine bA ?_ _));exact BK134.out) hg (Kd.R_ne HO_3.out BK134.out (by decide)));have n1_:=Am (hb);have n2_:=Am (ho);clear BK134;clear HB;clear HO_3;have BK134:=n0_;have HB:=n1_;have HO139:=n2_;clear n0_ n1_ n2_;clear ho hb hg hat))
   go_roundg k1
   case measure=>have:=HK1.out;omega
   case rel=>exact ⟨(y137),(wrap64 (x8_1 + 1)),(by first|rfl|(simp;done)|(simp [*];done)),H',⟨by have:=HK1.out;omega⟩,⟨by (with_reducible repeat (first|apply Kd.R_alloc|apply Kd.R_drewN|apply Kd.R_drew));exact HO139.out⟩,⟨by repeat (first|(with_reducible first|exact HB.out|apply bL|apply pN|apply bE|refine bS ?_ GE134.out)|exact HB.out)⟩⟩
def inB (n lo hi : Int) : Bool:=decide (lo≤n) && decide (n≤hi)
def conf_Check.f (k : Nat) (a0 a1 a2 a3 a4 a5 a6 a7 a8 : Int) (l9 : List S50) (l10 : List S52) (l11 : List S48) : Option Int :=
 if inB a4 0 1048576 = true∧inB a5 0 1048576 = true∧inB a6 0 1048576 = true∧inB a7 0 1048576 = true∧inB a8 0 1048576 = true then
  (if inB a0 1 4 = true∧inB a1 1 4294967296 = true∧inB a2 1 1073741824 = true∧inB a3 0 100 = true then
   (conf_parts.f k l9).bind fun p=>if p = true then ((conf_classes.f k l10).bind fun q=>if q = true then ((conf_accounts.f k l11).bind fun t=>some (if t = true then 0 else 100)) else some 100) else some 100
  else some 100)
 else some 100
theorem conf_Check.mono : ∀ a0 a1 a2 a3 a4 a5 a6 a7 a8 l9 l10 l11 k,LeO (conf_Check.f k a0 a1 a2 a3 a4 a5 a6 a7 a8 l9 l10 l11) (conf_Check.f (k + 1) a0 a1 a2 a3 a4 a5 a6 a7 a8 l9 l10 l11):=by
 intro a0 a1 a2 a3 a4 a5 a6 a7 a8 l9 l10 l11 k
 unfold conf_Check.f
 repeat' first
   | (with_reducible exact conf_parts.mono _ _)
   | (with_reducible exact conf_classes.mono _ _)
   | (with_reducible exact conf_accounts.mono _ _)
   | (with_reducible exact LeO.refl _)
   | (with_reducible refine LeO.ite ?_ ?_)
   | (with_reducible refine LeO.bind ?_ (fun _=>?_))
theorem conf_in_eq (n lo hi : Int) : conf_in.f n lo hi = some (inB n lo hi):=by
 unfold conf_in.f inB
 by_cases h : n ≥ lo
 ·rw [if_pos h,decide_eq_true (show lo≤n from h)];rfl
 rw [if_neg h,decide_eq_false (show ¬ lo≤n from h)];rfl
theorem run_index61 (cs : Array Value) (z : Int) (j : Nat) (hz : z = (j : Int)) (u : Value) (h : cs[j]? = some u) (hs : cs.size = 5) (w : World) : (Instr.index 61 (.agg cs) (.int .i64 z)).run Tryd.prog w = .ok u w:=by
 subst hz
 have hj : j < cs.size:=(Array.getElem?_eq_some_iff.1 h).1
 unfold Instr.index
 have h1 : (j : Int) < 5:=by omega
 have h0 : (0 : Int)≤(j : Int):=by omega
 simp [asIntOf,asInt,part,h0,h1,h,hs,Result.andThen]
 intro h2
 omega
set_option maxHeartbeats 8000000 in
set_option maxRecDepth 1000000 in
theorem conf_Check.calls (k : Nat) (a0_0 : Int) (a0_1 : Int) (a0_2 : Int) (a0_3 : Int) (a0_4 : Int) (a0_5 : Int) (a0_6 : Int) (a0_7 : Int) (a0_8 : Int) (A0_9 : Option Addr) (c0_9 : Nat) (l0_9 : List (S50)) (A0_10 : Option Addr) (c0_10 : Nat) (l0_10 : List (S52)) (A0_11 : Option Addr) (c0_11 : Nat) (l0_11 : List (S48)) (r : Int) (w : World) (hG : Glob w) (hr0_9 : Kd.C k50 w A0_9 l0_9.length l0_9) (hc0_9 : l0_9.length≤c0_9) (hr0_10 : Kd.C k52 w A0_10 l0_10.length l0_10) (hc0_10 : l0_10.length≤c0_10) (hr0_11 : Kd.C k48 w A0_11 l0_11.length l0_11) (hc0_11 : l0_11.length≤c0_11) (h : conf_Check.f k a0_0 a0_1 a0_2 a0_3 a0_4 a0_5 a0_6 a0_7 a0_8 l0_9 l0_10 l0_11 = some r) :
 Calls Tryd.prog 12 #[.agg #[.int .i64 a0_0,.int .i64 a0_1,.int .i64 a0_2,.int .i64 a0_3,.int .i64 a0_4,.int .i64 a0_5,.int .i64 a0_6,.int .i64 a0_7,.int .i64 a0_8,.slice A0_9 l0_9.length c0_9,.slice A0_10 l0_10.length c0_10,.slice A0_11 l0_11.length c0_11]] w fun e w'=>e = .returned (.int .i64 r)∧Below w.heap.size w w':=by
 have hu28:=Tryd.underlying28
 have hu23:=Tryd.underlying23
 have HG:=Am hG
 have HR9:=Am hr0_9
 have HC9:=Am hc0_9
 have HR10:=Am hr0_10
 have HC10:=Am hc0_10
 have HR11:=Am hr0_11
 have HC11:=Am hc0_11
 have HH:=Am h
 clear hG hr0_9 hc0_9 hr0_10 hc0_10 hr0_11 hc0_11 h
 go_enter Tryd.func12,Tryd.ntmps12
 have hsz2 : (w.alloc (.cells #[.int .i64 a0_0,.int .i64 a0_1,.int .i64 a0_2,.int .i64 a0_3,.int .i64 a0_4,.int .i64 a0_5,.int .i64 a0_6,.int .i64 a0_7,.int .i64 a0_8,.slice A0_9 l0_9.length c0_9,.slice A0_10 l0_10.length c0_10,.slice A0_11 l0_11.length c0_11] 28)).heap.size = w.heap.size + 1:=by
  show (w.heap.push _).size = w.heap.size + 1
  rw [Array.size_push]
 go_wp2
 go_loopg [19] 6 (fun gk s19 wr=>∃ i : Nat,s19 = .int .i64 i∧6 = i + gk∧i≤5∧Aside0 ((0 < i→inB a0_4 0 1048576 = true)∧(1 < i→inB a0_5 0 1048576 = true)∧(2 < i→inB a0_6 0 1048576 = true)∧(3 < i→inB a0_7 0 1048576 = true)∧(4 < i→inB a0_8 0 1048576 = true))∧wr.heap[w.heap.size]? = some (.cells #[.int .i64 a0_0,.int .i64 a0_1,.int .i64 a0_2,.int .i64 a0_3,.int .i64 a0_4,.int .i64 a0_5,.int .i64 a0_6,.int .i64 a0_7,.int .i64 a0_8,.slice A0_9 l0_9.length c0_9,.slice A0_10 l0_10.length c0_10,.slice A0_11 l0_11.length c0_11] 28 (0,0))∧Aside0 (Below w.heap.size w wr))
 case atStart =>
  exact ⟨0,rfl,by omega,by omega,⟨by simp⟩,bA (blk_new w _) _,⟨bL (bL (Below.refl _ _) _) _⟩⟩
 case round =>
  obtain ⟨i,rfl,hgk,hi5,HP,hblk,HB⟩:=hrel
  obtain ⟨gk,rfl⟩ : ∃ m,gk = m + 1:=⟨gk - 1,by omega⟩
  have HBK:=Am hblk
  clear hblk
  rcases i with _|_|_|_|_|_|i
  ·obtain ⟨b,hb⟩ : ∃ b,inB a0_4 0 1048576 = b:=⟨_,rfl⟩
   have hix:=run_index61 #[.int .i64 a0_4,.int .i64 a0_5,.int .i64 a0_6,.int .i64 a0_7,.int .i64 a0_8] 0 0 rfl (.int .i64 a0_4) rfl rfl wr
   have C:=fun W=>conf_in.calls a0_4 0 1048576 b W ((conf_in_eq a0_4 0 1048576).trans (congrArg some hb))
   cases b with
   | true =>
    go_wp2_with (first|(go_at_call 24;(with_reducible refine (C _).mono ?_);rintro e w2 ⟨rfl,⟨nd,rfl⟩⟩))
    go_roundg gk
    case measure=>exact Nat.lt_succ_self _
    case rel=>exact ⟨1,rfl,by omega,by omega,⟨by have:=HP.out;simp_all⟩,HBK.out,⟨pN HB.out _⟩⟩
   | false =>
    have hr : r = 100:=by
     have h:=HH.out
     unfold conf_Check.f at h
     rw [if_neg (by rw [hb];simp)] at h
     exact (Option.some.inj h).symm
    subst hr
    go_wp2_with (first|(go_at_call 24;(with_reducible refine (C _).mono ?_);rintro e w2 ⟨rfl,⟨nd,rfl⟩⟩))
    go_ret
    exact ⟨rfl,pN HB.out _⟩
  ·obtain ⟨b,hb⟩ : ∃ b,inB a0_5 0 1048576 = b:=⟨_,rfl⟩
   have hix:=run_index61 #[.int .i64 a0_4,.int .i64 a0_5,.int .i64 a0_6,.int .i64 a0_7,.int .i64 a0_8] 1 1 rfl (.int .i64 a0_5) rfl rfl wr
   have C:=fun W=>conf_in.calls a0_5 0 1048576 b W ((conf_in_eq a0_5 0 1048576).trans (congrArg some hb))
   cases b with
   | true =>
    go_wp2_with (first|(go_at_call 24;(with_reducible refine (C _).mono ?_);rintro e w2 ⟨rfl,⟨nd,rfl⟩⟩))
    go_roundg gk
    case measure=>exact Nat.lt_succ_self _
    case rel=>exact ⟨2,rfl,by omega,by omega,⟨by have:=HP.out;simp_all⟩,HBK.out,⟨pN HB.out _⟩⟩
   | false =>
    have hr : r = 100:=by
     have h:=HH.out
     unfold conf_Check.f at h
     rw [if_neg (by rw [hb];simp)] at h
     exact (Option.some.inj h).symm
    subst hr
    go_wp2_with (first|(go_at_call 24;(with_reducible refine (C _).mono ?_);rintro e w2 ⟨rfl,⟨nd,rfl⟩⟩))
    go_ret
    exact ⟨rfl,pN HB.out _⟩
  ·obtain ⟨b,hb⟩ : ∃ b,inB a0_6 0 1048576 = b:=⟨_,rfl⟩
   have hix:=run_index61 #[.int .i64 a0_4,.int .i64 a0_5,.int .i64 a0_6,.int .i64 a0_7,.int .i64 a0_8] 2 2 rfl (.int .i64 a0_6) rfl rfl wr
   have C:=fun W=>conf_in.calls a0_6 0 1048576 b W ((conf_in_eq a0_6 0 1048576).trans (congrArg some hb))
   cases b with
   | true =>
    go_wp2_with (first|(go_at_call 24;(with_reducible refine (C _).mono ?_);rintro e w2 ⟨rfl,⟨nd,rfl⟩⟩))
    go_roundg gk
    case measure=>exact Nat.lt_succ_self _
    case rel=>exact ⟨3,rfl,by omega,by omega,⟨by have:=HP.out;simp_all⟩,HBK.out,⟨pN HB.out _⟩⟩
   | false =>
    have hr : r = 100:=by
     have h:=HH.out
     unfold conf_Check.f at h
     rw [if_neg (by rw [hb];simp)] at h
     exact (Option.some.inj h).symm
    subst hr
    go_wp2_with (first|(go_at_call 24;(with_reducible refine (C _).mono ?_);rintro e w2 ⟨rfl,⟨nd,rfl⟩⟩))
    go_ret
    exact ⟨rfl,pN HB.out _⟩
  ·obtain ⟨b,hb⟩ : ∃ b,inB a0_7 0 1048576 = b:=⟨_,rfl⟩
   have hix:=run_index61 #[.int .i64 a0_4,.int .i64 a0_5,.int .i64 a0_6,.int .i64 a0_7,.int .i64 a0_8] 3 3 rfl (.int .i64 a0_7) rfl rfl wr
   have C:=fun W=>conf_in.calls a0_7 0 1048576 b W ((conf_in_eq a0_7 0 1048576).trans (congrArg some hb))
   cases b with
   | true =>
    go_wp2_with (first|(go_at_call 24;(with_reducible refine (C _).mono ?_);rintro e w2 ⟨rfl,⟨nd,rfl⟩⟩))
    go_roundg gk
    case measure=>exact Nat.lt_succ_self _
    case rel=>exact ⟨4,rfl,by omega,by omega,⟨by have:=HP.out;simp_all⟩,HBK.out,⟨pN HB.out _⟩⟩
   | false =>
    have hr : r = 100:=by
     have h:=HH.out
     unfold conf_Check.f at h
     rw [if_neg (by rw [hb];simp)] at h
     exact (Option.some.inj h).symm
    subst hr
    go_wp2_with (first|(go_at_call 24;(with_reducible refine (C _).mono ?_);rintro e w2 ⟨rfl,⟨nd,rfl⟩⟩))
    go_ret
    exact ⟨rfl,pN HB.out _⟩
  ·obtain ⟨b,hb⟩ : ∃ b,inB a0_8 0 1048576 = b:=⟨_,rfl⟩
   have hix:=run_index61 #[.int .i64 a0_4,.int .i64 a0_5,.int .i64 a0_6,.int .i64 a0_7,.int .i64 a0_8] 4 4 rfl (.int .i64 a0_8) rfl rfl wr
   have C:=fun W=>conf_in.calls a0_8 0 1048576 b W ((conf_in_eq a0_8 0 1048576).trans (congrArg some hb))
   cases b with
   | true =>
    go_wp2_with (first|(go_at_call 24;(with_reducible refine (C _).mono ?_);rintro e w2 ⟨rfl,⟨nd,rfl⟩⟩))
    go_roundg gk
    case measure=>exact Nat.lt_succ_self _
    case rel=>exact ⟨5,rfl,by omega,by omega,⟨by have:=HP.out;simp_all⟩,HBK.out,⟨pN HB.out _⟩⟩
   | false =>
    have hr : r = 100:=by
     have h:=HH.out
     unfold conf_Check.f at h
     rw [if_neg (by rw [hb];simp)] at h
     exact (Option.some.inj h).symm
    subst hr
    go_wp2_with (first|(go_at_call 24;(with_reducible refine (C _).mono ?_);rintro e w2 ⟨rfl,⟨nd,rfl⟩⟩))
    go_ret
    exact ⟨rfl,pN HB.out _⟩
  ·clear hgk
   have hw : inB a0_4 0 1048576 = true∧inB a0_5 0 1048576 = true∧inB a0_6 0 1048576 = true∧inB a0_7 0 1048576 = true∧inB a0_8 0 1048576 = true:=by
    have h:=HP.out
    exact ⟨h.1 (by omega),h.2.1 (by omega),h.2.2.1 (by omega),h.2.2.2.1 (by omega),h.2.2.2.2 (by omega)⟩
   have h:=HH.out
   unfold conf_Check.f at h
   rw [if_pos hw] at h
   clear hw HP HH
   have x0 : wr.cell? ⟨w.heap.size,0,none⟩ = some (.int .i64 a0_0):=(bC HBK.out 0).trans rfl
   have x1 : wr.cell? ⟨w.heap.size,1,none⟩ = some (.int .i64 a0_1):=(bC HBK.out 1).trans rfl
   have x2 : wr.cell? ⟨w.heap.size,2,none⟩ = some (.int .i64 a0_2):=(bC HBK.out 2).trans rfl
   have x3 : wr.cell? ⟨w.heap.size,3,none⟩ = some (.int .i64 a0_3):=(bC HBK.out 3).trans rfl
   have x9 : wr.cell? ⟨w.heap.size,9,none⟩ = some (.slice A0_9 l0_9.length c0_9):=(bC HBK.out 9).trans rfl
   have x10 : wr.cell? ⟨w.heap.size,10,none⟩ = some (.slice A0_10 l0_10.length c0_10):=(bC HBK.out 10).trans rfl
   have x11 : wr.cell? ⟨w.heap.size,11,none⟩ = some (.slice A0_11 l0_11.length c0_11):=(bC HBK.out 11).trans rfl
   obtain ⟨b0,hb0⟩ : ∃ b,inB a0_0 1 4 = b:=⟨_,rfl⟩
   have C0:=fun W=>conf_in.calls a0_0 1 4 b0 W ((conf_in_eq a0_0 1 4).trans (congrArg some hb0))
   obtain ⟨b1,hb1⟩ : ∃ b,inB a0_1 1 4294967296 = b:=⟨_,rfl⟩
   have C1:=fun W=>conf_in.calls a0_1 1 4294967296 b1 W ((conf_in_eq a0_1 1 4294967296).trans (congrArg some hb1))
   obtain ⟨b2,hb2⟩ : ∃ b,inB a0_2 1 1073741824 = b:=⟨_,rfl⟩
   have C2:=fun W=>conf_in.calls a0_2 1 1073741824 b2 W ((conf_in_eq a0_2 1 1073741824).trans (congrArg some hb2))
   obtain ⟨b3,hb3⟩ : ∃ b,inB a0_3 0 100 = b:=⟨_,rfl⟩
   have C3:=fun W=>conf_in.calls a0_3 0 100 b3 W ((conf_in_eq a0_3 0 100).trans (congrArg some hb3))
   by_cases g0 : b0 = true
   case neg =>
    have g0' : b0 = false:=by simpa using g0
    subst g0'
    rw [if_neg (by rw [hb0];simp)] at h
    obtain rfl:=Option.some.inj h
    clear h
    go_wp2_with (first|(go_at_call 24;(first|(with_reducible refine (C0 _).mono ?_));rintro e w2 ⟨rfl,⟨nd,rfl⟩⟩))
    go_ret
    exact ⟨rfl,by repeat (first|exact HB.out|apply pN)⟩
   subst g0
   by_cases g1 : b1 = true
   case neg =>
    have g1' : b1 = false:=by simpa using g1
    subst g1'
    rw [if_neg (by rw [hb1];simp)] at h
    obtain rfl:=Option.some.inj h
    clear h
    go_wp2_with (first|(go_at_call 24;(first|(with_reducible refine (C0 _).mono ?_)|(with_reducible refine (C1 _).mono ?_));rintro e w2 ⟨rfl,⟨nd,rfl⟩⟩))
    go_ret
    exact ⟨rfl,by repeat (first|exact HB.out|apply pN)⟩
   subst g1
   by_cases g2 : b2 = true
   case neg =>
    have g2' : b2 = false:=by simpa using g2
    subst g2'
    rw [if_neg (by rw [hb2];simp)] at h
    obtain rfl:=Option.some.inj h
    clear h
    go_wp2_with (first|(go_at_call 24;(first|(with_reducible refine (C0 _).mono ?_)|(with_reducible refine (C1 _).mono ?_)|(with_reducible refine (C2 _).mono ?_));rintro e w2 ⟨rfl,⟨nd,rfl⟩⟩))
    go_ret
    exact ⟨rfl,by repeat (first|exact HB.out|apply pN)⟩
   subst g2
   by_cases g3 : b3 = true
   case neg =>
    have g3' : b3 = false:=by simpa using g3
    subst g3'
    rw [if_neg (by rw [hb3];simp)] at h
    obtain rfl:=Option.some.inj h
    clear h
    go_wp2_with (first|(go_at_call 24;(first|(with_reducible refine (C0 _).mono ?_)|(with_reducible refine (C1 _).mono ?_)|(with_reducible refine (C2 _).mono ?_)|(with_reducible refine (C3 _).mono ?_));rintro e w2 ⟨rfl,⟨nd,rfl⟩⟩))
    go_ret
    exact ⟨rfl,by repeat (first|exact HB.out|apply pN)⟩
   subst g3
   rw [if_pos ⟨hb0,hb1,hb2,hb3⟩] at h
   obtain ⟨p,hp,h⟩:=oB h
   have HPp:=Am hp
   clear hp hb0 hb1 hb2 hb3
   by_cases gp : p = true
   case neg =>
    have gp' : p = false:=by simpa using gp
    subst gp'
    rw [if_neg (by simp)] at h
    obtain rfl:=Option.some.inj h
    clear h
    go_wp2_with (first|(go_at_call 24;(first|(with_reducible refine (C0 _).mono ?_)|(with_reducible refine (C1 _).mono ?_)|(with_reducible refine (C2 _).mono ?_)|(with_reducible refine (C3 _).mono ?_));rintro e w2 ⟨rfl,⟨nd,rfl⟩⟩)|(go_at_call 25;(with_reducible refine (conf_parts.calls k A0_9 c0_9 l0_9 false _ ?s1 ?s2 ?s3 HPp.out).mono ?_);(case s1=>exact Glob.below HG.out (by repeat (first|exact HB.out|apply pN)));(case s2=>exact Kd.C_below HR9.out (by repeat (first|exact HB.out|apply pN)));(case s3=>exact HC9.out);rintro e w3 ⟨rfl,gb⟩;have HB3:=Am (below_then (show Below w.heap.size w _ by repeat (first|exact HB.out|apply pN)) gb (bZ (show Below w.heap.size w _ by repeat (first|exact HB.out|apply pN))));have K3:=Am ((gb.block w.heap.size (blk_lt (bN HBK.out _))).trans (bN HBK.out _));have y10 : w3.cell? ⟨w.heap.size,10,none⟩ = some (.slice A0_10 l0_10.length c0_10):=(bC K3.out 10).trans rfl;have y11 : w3.cell? ⟨w.heap.size,11,none⟩ = some (.slice A0_11 l0_11.length c0_11):=(bC K3.out 11).trans rfl;clear gb))
    go_ret
    exact ⟨rfl,HB3.out⟩
   subst gp
   rw [if_pos rfl] at h
   obtain ⟨q,hq,h⟩:=oB h
   have HQq:=Am hq
   clear hq
   by_cases gq : q = true
   case neg =>
    have gq' : q = false:=by simpa using gq
    subst gq'
    rw [if_neg (by simp)] at h
    obtain rfl:=Option.some.inj h
    clear h
    go_wp2_with (first|(go_at_call 24;(first|(with_reducible refine (C0 _).mono ?_)|(with_reducible refine (C1 _).mono ?_)|(with_reducible refine (C2 _).mono ?_)|(with_reducible refine (C3 _).mono ?_));rintro e w2 ⟨rfl,⟨nd,rfl⟩⟩)|(go_at_call 25;(with_reducible refine (conf_parts.calls k A0_9 c0_9 l0_9 true _ ?s1 ?s2 ?s3 HPp.out).mono ?_);(case s1=>exact Glob.below HG.out (by repeat (first|exact HB.out|apply pN)));(case s2=>exact Kd.C_below HR9.out (by repeat (first|exact HB.out|apply pN)));(case s3=>exact HC9.out);rintro e w3 ⟨rfl,gb⟩;have HB3:=Am (below_then (show Below w.heap.size w _ by repeat (first|exact HB.out|apply pN)) gb (bZ (show Below w.heap.size w _ by repeat (first|exact HB.out|apply pN))));have K3:=Am ((gb.block w.heap.size (blk_lt (bN HBK.out _))).trans (bN HBK.out _));have y10 : w3.cell? ⟨w.heap.size,10,none⟩ = some (.slice A0_10 l0_10.length c0_10):=(bC K3.out 10).trans rfl;have y11 : w3.cell? ⟨w.heap.size,11,none⟩ = some (.slice A0_11 l0_11.length c0_11):=(bC K3.out 11).trans rfl;clear gb)|(go_at_call 26;(with_reducible refine (conf_classes.calls k A0_10 c0_10 l0_10 false _ ?s1 ?s2 ?s3 HQq.out).mono ?_);(case s1=>exact Glob.below HG.out HB3.out);(case s2=>exact Kd.C_below HR10.out HB3.out);(case s3=>exact HC10.out);rintro e w4 ⟨rfl,gb⟩;have HB4:=Am (below_then HB3.out gb (bZ HB3.out));have K4:=Am ((gb.block w.heap.size (blk_lt K3.out)).trans K3.out);have z11 : w4.cell? ⟨w.heap.size,11,none⟩ = some (.slice A0_11 l0_11.length c0_11):=(bC K4.out 11).trans rfl;clear gb))
    go_ret
    exact ⟨rfl,HB4.out⟩
   subst gq
   rw [if_pos rfl] at h
   obtain ⟨t,ht,h⟩:=oB h
   have HTt:=Am ht
   obtain rfl:=Option.some.inj h
   clear ht h
   cases t with
   | true =>
    go_wp2_with (first|(go_at_call 24;(first|(with_reducible refine (C0 _).mono ?_)|(with_reducible refine (C1 _).mono ?_)|(with_reducible refine (C2 _).mono ?_)|(with_reducible refine (C3 _).mono ?_));rintro e w2 ⟨rfl,⟨nd,rfl⟩⟩)|(go_at_call 25;(with_reducible refine (conf_parts.calls k A0_9 c0_9 l0_9 true _ ?s1 ?s2 ?s3 HPp.out).mono ?_);(case s1=>exact Glob.below HG.out (by repeat (first|exact HB.out|apply pN)));(case s2=>exact Kd.C_below HR9.out (by repeat (first|exact HB.out|apply pN)));(case s3=>exact HC9.out);rintro e w3 ⟨rfl,gb⟩;have HB3:=Am (below_then (show Below w.heap.size w _ by repeat (first|exact HB.out|apply pN)) gb (bZ (show Below w.heap.size w _ by repeat (first|exact HB.out|apply pN))));have K3:=Am ((gb.block w.heap.size (blk_lt (bN HBK.out _))).trans (bN HBK.out _));have y10 : w3.cell? ⟨w.heap.size,10,none⟩ = some (.slice A0_10 l0_10.length c0_10):=(bC K3.out 10).trans rfl;have y11 : w3.cell? ⟨w.heap.size,11,none⟩ = some (.slice A0_11 l0_11.length c0_11):=(bC K3.out 11).trans rfl;clear gb)|(go_at_call 26;(with_reducible refine (conf_classes.calls k A0_10 c0_10 l0_10 true _ ?s1 ?s2 ?s3 HQq.out).mono ?_);(case s1=>exact Glob.below HG.out HB3.out);(case s2=>exact Kd.C_below HR10.out HB3.out);(case s3=>exact HC10.out);rintro e w4 ⟨rfl,gb⟩;have HB4:=Am (below_then HB3.out gb (bZ HB3.out));have K4:=Am ((gb.block w.heap.size (blk_lt K3.out)).trans K3.out);have z11 : w4.cell? ⟨w.heap.size,11,none⟩ = some (.slice A0_11 l0_11.length c0_11):=(bC K4.out 11).trans rfl;clear gb)|(go_at_call 27;(with_reducible refine (conf_accounts.calls k A0_11 c0_11 l0_11 true _ ?s1 ?s2 ?s3 HTt.out).mono ?_);(case s1=>exact Glob.below HG.out HB4.out);(case s2=>exact Kd.C_below HR11.out HB4.out);(case s3=>exact HC11.out);rintro e w5 ⟨rfl,gb⟩;have HB5:=Am (below_then HB4.out gb (bZ HB4.out));clear gb))
    go_ret
    exact ⟨rfl,HB5.out⟩
   | false =>
    go_wp2_with (first|(go_at_call 24;(first|(with_reducible refine (C0 _).mono ?_)|(with_reducible refine (C1 _).mono ?_)|(with_reducible refine (C2 _).mono ?_)|(with_reducible refine (C3 _).mono ?_));rintro e w2 ⟨rfl,⟨nd,rfl⟩⟩)|(go_at_call 25;(with_reducible refine (conf_parts.calls k A0_9 c0_9 l0_9 true _ ?s1 ?s2 ?s3 HPp.out).mono ?_);(case s1=>exact Glob.below HG.out (by repeat (first|exact HB.out|apply pN)));(case s2=>exact Kd.C_below HR9.out (by repeat (first|exact HB.out|apply pN)));(case s3=>exact HC9.out);rintro e w3 ⟨rfl,gb⟩;have HB3:=Am (below_then (show Below w.heap.size w _ by repeat (first|exact HB.out|apply pN)) gb (bZ (show Below w.heap.size w _ by repeat (first|exact HB.out|apply pN))));have K3:=Am ((gb.block w.heap.size (blk_lt (bN HBK.out _))).trans (bN HBK.out _));have y10 : w3.cell? ⟨w.heap.size,10,none⟩ = some (.slice A0_10 l0_10.length c0_10):=(bC K3.out 10).trans rfl;have y11 : w3.cell? ⟨w.heap.size,11,none⟩ = some (.slice A0_11 l0_11.length c0_11):=(bC K3.out 11).trans rfl;clear gb)|(go_at_call 26;(with_reducible refine (conf_classes.calls k A0_10 c0_10 l0_10 true _ ?s1 ?s2 ?s3 HQq.out).mono ?_);(case s1=>exact Glob.below HG.out HB3.out);(case s2=>exact Kd.C_below HR10.out HB3.out);(case s3=>exact HC10.out);rintro e w4 ⟨rfl,gb⟩;have HB4:=Am (below_then HB3.out gb (bZ HB3.out));have K4:=Am ((gb.block w.heap.size (blk_lt K3.out)).trans K3.out);have z11 : w4.cell? ⟨w.heap.size,11,none⟩ = some (.slice A0_11 l0_11.length c0_11):=(bC K4.out 11).trans rfl;clear gb)|(go_at_call 27;(with_reducible refine (conf_accounts.calls k A0_11 c0_11 l0_11 false _ ?s1 ?s2 ?s3 HTt.out).mono ?_);(case s1=>exact Glob.below HG.out HB4.out);(case s2=>exact Kd.C_below HR11.out HB4.out);(case s3=>exact HC11.out);rintro e w5 ⟨rfl,gb⟩;have HB5:=Am (below_then HB4.out gb (bZ HB4.out));clear gb))
    go_ret
    exact ⟨rfl,HB5.out⟩
  ·omega
-- NOT PRINTED: function 73 (abi_NoEscape)
-- NOT PRINTED: function 61 (strings_Builder_copyCheck)
-- NOT PRINTED: function 74 (bytealg_MakeNoZero)
-- NOT PRINTED: function 62 (strings_Builder_grow)
-- NOT PRINTED: function 52 (strings_Builder_Grow)
-- NOT PRINTED: function 53 (strings_Builder_WriteString)
-- NOT PRINTED: function 54 (strings_Builder_String)
def strings_Join.f (l0 : List ByteArray) (a1 : ByteArray) : Option ByteArray:=if l0.length≤140737488355328 then (if (Lib.join (l0.map (·.data.toList)) a1.data.toList).length≤140737488355328 then some (⟨(Lib.join (l0.map (·.data.toList)) a1.data.toList).toArray⟩ : ByteArray) else none) else none
theorem strings_Join.calls (P0_ : Nat→Prop) (u9000_ : Value) (l0 : List ByteArray) (a1 : ByteArray) (r : ByteArray) (w0 w : World) (hB : Below w0.heap.size w0 w) (ho0 : Kd.R Kd.string 9 w w0.heap.size P0_ u9000_ l0) (h : strings_Join.f l0 a1 = some r) :
  Calls Tryd.prog 41 #[u9000_,.string a1] w fun e w'=>e = .returned (.string r)∧Below w0.heap.size w0 w'∧Kept w w' (fun k_=>P0_ k_):=by
 unfold strings_Join.f at h
 split at h
 case isFalse=>cases h
 rename_i h1
 split at h
 case isFalse=>cases h
 rename_i h2
 obtain rfl:=Option.some.inj h
 have ho : w.ownsRow w0.heap.size 9 1 u9000_ l0.length (encs Value.string l0):=Kd.own_of_R ho0
 obtain ⟨hl,⟨rfl,hn⟩|⟨g,cap,cur,rfl,hbg,hg,hnc,hcm,hsz,hcs⟩⟩:=ho
 ·have e:=List.length_eq_zero_iff.1 hn
  subst e
  refine (Tryd.strings_Join_none none 0 a1 w).mono ?_
  rintro e w' ⟨rfl,rfl⟩
  exact ⟨rfl,hB,Kept.refl _ _⟩
 ·have hgw : g < w.heap.size:=(Array.getElem?_eq_some_iff.1 hg).1
  refine (Tryd.strings_Join g 0 cap l0 a1 w (fun j x hj=>?_) hgw h1 hnc h2).mono ?_
  ·have hjl:=(List.getElem?_eq_some_iff.1 hj).1
   have e : w.cell? ⟨g,0 + j,none⟩ = cur.toList[j]?:=by simp [World.cell?,hg]
   rw [e]
   have e2 : (cur.toList.take (l0.length * 1))[j]? = (encs Value.string l0)[j]?:=by rw [hcs]
   rw [List.getElem?_take,if_pos (by omega)] at e2
   rw [e2]
   simp [encs,hj]
  ·rintro e w' ⟨rfl,hb⟩
   exact ⟨rfl,below_step hB hb,Kept.of_below hb _⟩
def conf_row.f (l0 : List ByteArray) : Option (ByteArray):=(strings_Join.f l0 (⟨#[32]⟩ : ByteArray)).bind fun t143=>(if t143.size + 1≤9223372036854775807 then (some (t143 ++ (⟨#[10]⟩ : ByteArray))) else (none))
set_option maxHeartbeats 8000000 in
set_option maxRecDepth 100000 in
theorem conf_row.calls (P0_ : Nat→Prop) (u9000_ : Value) (l0 : List ByteArray) (r : ByteArray) (w0 w : World) (hB : Below w0.heap.size w0 w) (ho0 : Kd.R Kd.string 9 w w0.heap.size P0_ u9000_ l0) (h : conf_row.f l0 = some r) :
  Calls Tryd.prog 28 #[u9000_] w fun e w'=>e = .returned (.string r)∧Below w0.heap.size w0 w'∧Kept w w' (fun k_=>P0_ k_):=by
 have HO0:=Am (show Kd.R Kd.string 9 w w0.heap.size (fun k_=>(P0_ k_ ∨ w.heap.size≤k_)) u9000_ l0 from Kd.R_mono ho0 (fun k_ hk=>(.inl hk)))
 have HK:=Am (Kept.refl w (fun k_=>P0_ k_))
 have HW0:=Am hB.size
 have HB:=Am hB
 clear hB
 have H : ((strings_Join.f l0 (⟨#[32]⟩ : ByteArray)).bind fun t143=>(if t143.size + 1≤9223372036854775807 then (some (t143 ++ (⟨#[10]⟩ : ByteArray))) else (none))) = some r:=h
 clear h
 replace H:=oB H
 obtain ⟨t143,A20,H⟩:=H
 try dsimp only at H
 have A2:=Am A20
 clear A20
 by_cases c3 : t143.size + 1≤9223372036854775807
 rotate_left
 ·rw [if_neg c3] at H
  exact absurd H (by simp)
 rw [if_pos c3] at H
 have c3b0:=eq_true c3
 have c3b1 : decide (t143.size + 1≤9223372036854775807) = true:=decide_eq_true c3
 try have c3b2 : (9223372036854775807 < t143.size + 1) = False:=eq_false (Nat.not_lt.2 c3)
 try (have c3b3:=c3b2;simp only [ByteArray.size_append,size_lit1,size_lit0,Nat.add_zero] at c3b3)
 try (have c3b5:=c3b2;simp only [ByteArray.size_append,size_litA,List.size_toArray,List.length_cons,List.length_nil,Nat.zero_add,Nat.reduceAdd] at c3b5)
 obtain rfl:=Option.some.inj H
 obtain ⟨Ao4,co4,eo4⟩:=Kd.R_slice HO0.out
 subst eo4
 go_enter Tryd.func28,Tryd.ntmps28
 go_wp2_with (first|((with_reducible refine gC (f:=41) rfl ?_);refine goesL_ (some 4) rfl rfl Tryd.func41 (by kernel_rfl) rfl #[.slice Ao4 l0.length co4,.string (⟨#[32]⟩ : ByteArray)] rfl (by (try simp only [mT,mC,mN]);first|done|rfl|(simp only [lD,lT];rfl)) ?_;(with_reducible refine (strings_Join.calls (fun k_=>some k_ = (.slice Ao4 l0.length co4 : Value).ownBlock) (.slice Ao4 l0.length co4) l0 (⟨#[32]⟩ : ByteArray) t143 w0 _ ?side1 ?side2 A2.out).mono ?_);(case side1=>repeat (first|(with_reducible first|exact HB.out|apply bL|apply pN|apply bE)|exact HB.out));(case side2=>exact Kd.R_tight rfl HO0.out);rintro e w5 ⟨rfl,hb,hkp⟩;refine ⟨_,rfl,?_⟩;have n0_:=Am (Kept.then_ (S:=(fun k_=>P0_ k_)) (by repeat (first|(with_reducible first|exact HK.out|apply Kept.alloc|apply Kept.drewN|apply Kept.drew)|exact HK.out)) hkp (fun k_ hs_=>(fun e_=>(HO0.out.1 k_ e_.symm)) hs_));have n1_:=Am (hb);clear HK;clear HB;clear HO0;have HK:=n0_;have HB:=n1_;clear n0_ n1_))
 go_ret
 exact ⟨by first|rfl|(simp [errW_none,errW_some] <;> rfl)|(simp [*,errW_none,errW_some] <;> rfl),by repeat (first|(with_reducible first|exact HB.out|apply bL|apply pN|apply bE)|exact HB.out),by repeat (first|(with_reducible first|exact HK.out|apply Kept.alloc|apply Kept.drewN|apply Kept.drew)|exact HK.out)⟩
def conf_policies.f  : Option (List ByteArray):=some (([(⟨#[]⟩ : ByteArray),(⟨#[102,105,102,111]⟩ : ByteArray),(⟨#[101,97,115,121]⟩ : ByteArray),(⟨#[99,111,110,115,101,114,118,97,116,105,118,101]⟩ : ByteArray),(⟨#[103,97,110,103]⟩ : ByteArray)] : List ByteArray))
set_option maxHeartbeats 8000000 in
set_option maxRecDepth 100000 in
theorem conf_policies.calls  (r : List ByteArray) (w : World) (h : conf_policies.f  = some r) :
  Calls Tryd.prog 29 #[] w fun e w'=>∃ v0_ : Value,e = .returned (v0_)∧Kd.R Kd.string 9 w' w.heap.size (fun _=>True) v0_ r∧Below w.heap.size w w':=by
 have HB:=Am (Below.refl w.heap.size w)
 have H : (some (([(⟨#[]⟩ : ByteArray),(⟨#[102,105,102,111]⟩ : ByteArray),(⟨#[101,97,115,121]⟩ : ByteArray),(⟨#[99,111,110,115,101,114,118,97,116,105,118,101]⟩ : ByteArray),(⟨#[103,97,110,103]⟩ : ByteArray)] : List ByteArray))) = some r:=h
 clear h
 obtain ⟨y144,hy144⟩ : ∃ y_ : List ByteArray,y_ = (([(⟨#[]⟩ : ByteArray),(⟨#[102,105,102,111]⟩ : ByteArray),(⟨#[101,97,115,121]⟩ : ByteArray),(⟨#[99,111,110,115,101,114,118,97,116,105,118,101]⟩ : ByteArray),(⟨#[103,97,110,103]⟩ : ByteArray)] : List ByteArray)):=⟨_,rfl⟩
 replace H : (some y144) = some r:=by first|(rw [hy144];with_reducible exact H)|(have H2_:=(Option.bind_some _ _).symm.trans H;rw [hy144];with_reducible exact H2_)|(have H2_:=(Option.bind_some _ _).symm.trans H;with_reducible exact H2_)|with_reducible exact H|(rw [hy144];exact H)|exact H
 have Ny144:=Am hy144
 clear hy144
 obtain rfl:=Option.some.inj H
 go_enter Tryd.func29,Tryd.ntmps29
 go_wp2_with (first|((with_reducible refine gD (N:=1) rfl ?_);refine Kd.R_lit Kd.string _ 9 ?hg (N:=1) ?hd (xs:=([(⟨#[]⟩ : ByteArray),(⟨#[102,105,102,111]⟩ : ByteArray),(⟨#[101,97,115,121]⟩ : ByteArray),(⟨#[99,111,110,115,101,114,118,97,116,105,118,101]⟩ : ByteArray),(⟨#[103,97,110,103]⟩ : ByteArray)] : List ByteArray)) (inner:=[.string (⟨#[]⟩ : ByteArray),.string (⟨#[102,105,102,111]⟩ : ByteArray),.string (⟨#[101,97,115,121]⟩ : ByteArray),.string (⟨#[99,111,110,115,101,114,118,97,116,105,118,101]⟩ : ByteArray),.string (⟨#[103,97,110,103]⟩ : ByteArray)]) (ok:=fun _=>True) (okp:=fun _=>True) ?hr ?hp (fun _ hk=>hk) trivial (Below.refl _ _) (Nat.le_refl _) (by simp) ?_;(case hd=>rfl);(case hg=>rfl);(case hr=>first|(go_simp;done)|(go_simp;rfl));(case hp=>exact (Reps.one (show Kd.M Kd.string _ _ _ (⟨#[]⟩ : ByteArray) [.string (⟨#[]⟩ : ByteArray)] from rfl) (Reps.one (show Kd.M Kd.string _ _ _ (⟨#[102,105,102,111]⟩ : ByteArray) [.string (⟨#[102,105,102,111]⟩ : ByteArray)] from rfl) (Reps.one (show Kd.M Kd.string _ _ _ (⟨#[101,97,115,121]⟩ : ByteArray) [.string (⟨#[101,97,115,121]⟩ : ByteArray)] from rfl) (Reps.one (show Kd.M Kd.string _ _ _ (⟨#[99,111,110,115,101,114,118,97,116,105,118,101]⟩ : ByteArray) [.string (⟨#[99,111,110,115,101,114,118,97,116,105,118,101]⟩ : ByteArray)] from rfl) (Reps.one (show Kd.M Kd.string _ _ _ (⟨#[103,97,110,103]⟩ : ByteArray) [.string (⟨#[103,97,110,103]⟩ : ByteArray)] from rfl) (Reps.none _ _)))))));intro v145 w1 ho2 hb hg_ hnew_;clear hg_ hnew_;(first|rw [← Ny144.out] at ho2|(simp only [Int.reduceToNat] at ho2;rw [← Ny144.out] at ho2));have n0_:=Am (Kd.R_lower ho2 (bZ (by repeat (first|(with_reducible first|exact HB.out|apply bL|apply pN|apply bE)|exact HB.out))));have n1_:=Am (below_step (by repeat (first|(with_reducible first|exact HB.out|apply bL|apply pN|apply bE)|exact HB.out)) hb);clear HB;have HO146:=n0_;have HB:=n1_;clear n0_ n1_;clear hb ho2))
 go_ret
 exact ⟨_,by first|rfl|(simp [errW_none,errW_some] <;> rfl)|(simp [*,errW_none,errW_some] <;> rfl),by (with_reducible repeat (first|apply Kd.R_alloc|apply Kd.R_drewN|apply Kd.R_drew));exact HO146.out,by repeat (first|(with_reducible first|exact HB.out|apply bL|apply pN|apply bE)|exact HB.out)⟩
-- NOT PRINTED: function 63 (strconv_small)
-- NOT PRINTED: function 75 (strconv_log10Pow2)
-- NOT PRINTED: function 77 (strconv_bool2_int)
-- NOT PRINTED: function 64 (strconv_numDigits)
-- NOT PRINTED: function 65 (strconv_formatBase10)
-- NOT PRINTED: function 78 (strconv_isPowerOfTwo)
-- NOT PRINTED: function 85 (bits_TrailingZeros32)
-- NOT PRINTED: function 86 (bits_TrailingZeros64)
-- NOT PRINTED: function 79 (bits_TrailingZeros)
-- NOT PRINTED: function 66 (strconv_formatBits)
-- NOT PRINTED: function 55 (strconv_FormatInt)
-- NOT PRINTED: function 42 (strconv_Itoa_42)
def strconv_Itoa_30.f (a0 : Int) : Option (ByteArray):=if -9223372036854775808≤a0 then (if a0≤9223372036854775807 then some (⟨(Lib.itoa a0).toArray⟩ : ByteArray) else none) else none
theorem strconv_Itoa_30.calls (a0 : Int) (r : ByteArray) (w : World) (hG : Glob w) (h : strconv_Itoa_30.f a0 = some r) :
  Calls Tryd.prog 30 #[.int .i64 a0] w fun e w'=>e = .returned (.string r)∧Below w.heap.size w w':=by
 unfold strconv_Itoa_30.f at h
 split at h
 ·split at h
  ·obtain rfl:=Option.some.inj h
   refine (Tryd.strconv_Itoa a0 (by assumption) (by assumption) w hG.tab).mono ?_
   rintro e w' ⟨rfl,k,os,rfl⟩
   exact ⟨rfl,Lib.below_grow _ w (Nat.le_refl _) k os⟩
  ·cases h
 ·cases h
end Go.Proofs.YtgidipomfbikiaaDoor.P
