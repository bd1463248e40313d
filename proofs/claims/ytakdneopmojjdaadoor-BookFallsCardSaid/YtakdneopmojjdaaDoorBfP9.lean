/- cut to what one law reaches -/
import Derived.Test.YtakdneopmojjdaaDoorBfShort
import Derived.Test.YtakdneopmojjdaaDoorBfP0
import Derived.Test.YtakdneopmojjdaaDoorBfP1
import Derived.Test.YtakdneopmojjdaaDoorBfP4
import Derived.Test.YtakdneopmojjdaaDoorBfP5
import Derived.Test.YtakdneopmojjdaaDoorBfP6
import Derived.Test.YtakdneopmojjdaaDoorBfP7
import Derived.Test.YtakdneopmojjdaaDoorBfP8
namespace Go.Proofs.YtakdneopmojjdaaDoor.P
open Go.RowKit Go.Proofs.YtakdneopmojjdaaDoorW.PrintWords Go.Proofs.YtakdneopmojjdaaDoorW.PrintLast Go.Proofs.YtakdneopmojjdaaDoorW.PrintMore
attribute [local go_sem] max2_int min2_int max_two min_two max_three min_three max_four min_four   -- for this text's walks alone
set_option linter.unusedVariables false
set_option linter.unusedSimpArgs false
attribute [local go_sem high] eqA24
attribute [local go_sem] isSome_setCell
def decay_Charge.j0 : Nat→Int→Int→Int→Bool→Int→Int→Option (Int × Int × Int)
 | 0,_,_,_,_,_,_=>none
 | k + 1,x1,x2,x3,x33,u_0,u_1=>if x33 = true then (some (0,0,2)) else ((decay_After.f k u_0 (wrap64 (x1 - u_1)) x3).bind fun bt163=>(if bt163.2 = 0 then ((num_Sum.f k (([bt163.1,x2] : List Int))).bind fun t168=>(some (t168,x1,0))) else (some (0,0,bt163.2))))
def decay_Charge.f (k : Nat) (a0_0 : Int) (a0_1 : Int) (a1 : Int) (a2 : Int) (a3 : Int) : Option (Int × Int × Int):=if a0_0 < 0 then (decay_Charge.j0 k a1 a2 a3 true a0_0 a0_1) else (if a0_1 < 0 then (decay_Charge.j0 k a1 a2 a3 true a0_0 a0_1) else (if a0_1 > a1 then (decay_Charge.j0 k a1 a2 a3 true a0_0 a0_1) else (if a1 > 1099511627776 then (decay_Charge.j0 k a1 a2 a3 true a0_0 a0_1) else (decay_Charge.j0 k a1 a2 a3 (decide (a2 < 0)) a0_0 a0_1))))
theorem decay_Charge.mono_l : ∀ k,(∀ y0 y1 y2 y3 y4 y5,LeO (decay_Charge.j0 k y0 y1 y2 y3 y4 y5) (decay_Charge.j0 (k + 1) y0 y1 y2 y3 y4 y5))
 | 0=>fun _ _ _ _ _ _ r h=>by simp [decay_Charge.j0] at h
 | k + 1=>by
  have ih0:=decay_Charge.mono_l k
  ·intro y0 y1 y2 y3 y4 y5
   unfold decay_Charge.j0
   repeat' first
   | (with_reducible exact ih0 _ _ _ _ _ _)
   | (with_reducible exact decay_After.mono _ _ _ _)
   | (with_reducible exact num_Sum.mono _ _)
   | (with_reducible exact LeO.refl _)
   | (with_reducible exact LeO.none _)
   | (with_reducible refine LeO.ite ?_ ?_)
   | (with_reducible refine LeO.bind ?_ (fun _=>?_))
   | exact ih0 _ _ _ _ _ _
   | exact decay_After.mono _ _ _ _
   | exact num_Sum.mono _ _
   | exact LeO.none _
   | refine LeO.ite ?_ ?_
   | refine LeO.bind ?_ (fun _=>?_)
theorem decay_Charge.mono : ∀ a0 a1 a2 a3 a4 k,LeO (decay_Charge.f k a0 a1 a2 a3 a4) (decay_Charge.f (k + 1) a0 a1 a2 a3 a4):=by
 intro a0 a1 a2 a3 a4 k
 have ih0:=decay_Charge.mono_l k
 unfold decay_Charge.f
 repeat' first
   | (with_reducible exact ih0 _ _ _ _ _ _)
   | (with_reducible exact decay_After.mono _ _ _ _)
   | (with_reducible exact num_Sum.mono _ _)
   | (with_reducible exact LeO.refl _)
   | (with_reducible exact LeO.none _)
   | (with_reducible refine LeO.ite ?_ ?_)
   | (with_reducible refine LeO.bind ?_ (fun _=>?_))
   | exact ih0 _ _ _ _ _ _
   | exact decay_After.mono _ _ _ _
   | exact num_Sum.mono _ _
   | exact LeO.none _
   | refine LeO.ite ?_ ?_
   | refine LeO.bind ?_ (fun _=>?_)
set_option maxHeartbeats 8000000 in
set_option maxRecDepth 100000 in
theorem decay_Charge.calls (k : Nat) (a0_0 : Int) (a0_1 : Int) (a1 : Int) (a2 : Int) (a3 : Int) (r1 : Int) (r2 : Int) (r3 : Int) (w : World) (h : decay_Charge.f k a0_0 a0_1 a1 a2 a3 = some (r1,r2,r3)) :
  Calls Tryd.prog 29 #[.agg #[.int .i64 a0_0,.int .i64 a0_1],.int .i64 a1,.int .i64 a2,.int .i64 a3] w fun e w'=>e = .returned (.tuple #[.agg #[.int .i64 r1,.int .i64 r2],.int .i64 r3])∧Below w.heap.size w w':=by
 have hu64:=Tryd.underlying64
 have HB:=Am (Below.refl w.heap.size w)
 have H : (if a0_0 < 0 then (decay_Charge.j0 k a1 a2 a3 true a0_0 a0_1) else (if a0_1 < 0 then (decay_Charge.j0 k a1 a2 a3 true a0_0 a0_1) else (if a0_1 > a1 then (decay_Charge.j0 k a1 a2 a3 true a0_0 a0_1) else (if a1 > 1099511627776 then (decay_Charge.j0 k a1 a2 a3 true a0_0 a0_1) else (decay_Charge.j0 k a1 a2 a3 (decide (a2 < 0)) a0_0 a0_1))))) = some (r1,r2,r3):=h
 clear h
 have HC5:=Am H
 clear H
 go_enter Tryd.func29,Tryd.ntmps29
 go_upto_region 1 with (first|((with_reducible refine gD (N:=4) rfl ?_);refine box_event ?hg (N:=4) ?hd (cs:=#[.int .i64 a0_0,.int .i64 a0_1]) (t:=64) ?hr ?_;(case hd=>rfl);(case hg=>rfl);(case hr=>first|(go_simp;done)|(go_simp;rfl));intro gb161 hg w6 hbox hb;have n0_:=Am (below_step (by repeat (first|(with_reducible first|exact HB.out|apply bL|apply pN|apply bE)|exact HB.out)) hb);have n1_:=Am (hbox);have n2_:=Am ((by rw [hg];exact (bZ (by repeat (first|(with_reducible first|exact HB.out|apply bL|apply pN|apply bE)|exact HB.out))) : w.heap.size≤gb161));have n3_:=n2_;clear HB;have HB:=n0_;have BK161:=n1_;have GW161:=n2_;have GE161:=n3_;clear n0_ n1_ n2_ n3_;clear hb hbox hg)|((with_reducible refine gD (N:=8) rfl ?_);refine box_event ?hg (N:=8) ?hd (cs:=#[.int .i64 0,.int .i64 0]) (t:=64) ?hr ?_;(case hd=>rfl);(case hg=>rfl);(case hr=>first|(go_simp;done)|(go_simp;rfl));intro gb162 hg w7 hbox hb;have n0_:=Am (blk_below (g:=gb161) (by (with_reducible repeat (first|refine bN ?_ _|refine bD ?_|refine bA ?_ _));exact BK161.out) hb);have n1_:=Am (below_step (by repeat (first|(with_reducible first|exact HB.out|apply bL|apply pN|apply bE|refine bS ?_ GE161.out)|exact HB.out)) hb);have n2_:=Am (hbox);have n3_:=Am ((by rw [hg];exact (bZ (by repeat (first|(with_reducible first|exact HB.out|apply bL|apply pN|apply bE|refine bS ?_ GE161.out)|exact HB.out))) : w.heap.size≤gb162));have n4_:=n3_;have n5_:=Am ((by rw [hg];exact Nat.ne_of_lt (blk_lt (g:=gb161) (by (with_reducible repeat (first|refine bN ?_ _|refine bD ?_|refine bA ?_ _));exact BK161.out)) : gb161 ≠ gb162));have n6_:=Am ((by rw [hg];exact Nat.ne_of_gt (blk_lt (g:=gb161) (by (with_reducible repeat (first|refine bN ?_ _|refine bD ?_|refine bA ?_ _));exact BK161.out)) : gb162 ≠ gb161));clear BK161;clear HB;have BK161:=n0_;have HB:=n1_;have BK162:=n2_;have GW162:=n3_;have GE162:=n4_;have NB161_162:=n5_;have NB162_161:=n6_;clear n0_ n1_ n2_ n3_ n4_ n5_ n6_;clear hb hbox hg))
 (try simp only [Act.put,sT,sZ,sS])
 go_cut [33] (fun v33 wc=>∃ (kq : Nat) (x33_4 : Bool),v33 = .bool x33_4∧Aside0 (decay_Charge.j0 kq a1 a2 a3 x33_4 a0_0 a0_1 = some (r1,r2,r3))∧Aside0 (kq≤k)∧Aside0 (wc.heap[gb161]? = some (.cells #[.int .i64 a0_0,.int .i64 a0_1] 64 (0,0)))∧Aside0 (wc.heap[gb162]? = some (.cells #[.int .i64 0,.int .i64 0] 64 (0,0)))∧Aside0 (Below w.heap.size w wc))
 case first =>
  have H:=HC5.out
  clear HC5
  by_cases c8 : a0_0 < 0
  ·rw [if_pos c8] at H
   have c8b0 : decide (a0_0 < 0) = true:=decide_eq_true c8
   clear c8
   (first|rw [c8b0]|(simp only [iW,iV];rw [c8b0])|skip)
   have H':=Am H
   clear H
   have hnb9:=NB161_162.out
   have hnc9:=NB162_161.out
   obtain ⟨X10_0,X10_1,Y10_0,Y10_1⟩:=kc2 (w:=w7) (g:=gb161) BK161.out
   go_wp2
   go_meet
   case rel=>exact ⟨_,(true),(by first|rfl|(simp;done)|(simp [*];done)),H',⟨by first|omega|exact Nat.le_refl _⟩,⟨by (with_reducible repeat (first|refine bN ?_ _|refine bD ?_|refine bA ?_ _));exact BK161.out⟩,⟨by (with_reducible repeat (first|refine bN ?_ _|refine bD ?_|refine bA ?_ _));exact BK162.out⟩,⟨by repeat (first|(with_reducible first|exact HB.out|apply bL|apply pN|apply bE|refine bS ?_ GE161.out|refine bS ?_ GE162.out)|exact HB.out)⟩⟩
  rw [if_neg c8] at H
  have c8b0 : decide (a0_0 < 0) = false:=decide_eq_false c8
  clear c8
  (first|rw [c8b0]|(simp only [iW,iV];rw [c8b0])|skip)
  by_cases c11 : a0_1 < 0
  ·rw [if_pos c11] at H
   have c11b0 : decide (a0_1 < 0) = true:=decide_eq_true c11
   clear c11
   have H':=Am H
   clear H
   have hnb12:=NB161_162.out
   have hnc12:=NB162_161.out
   obtain ⟨X13_0,X13_1,Y13_0,Y13_1⟩:=kc2 (w:=w7) (g:=gb161) BK161.out
   go_wp2
   go_meet
   case rel=>exact ⟨_,(true),(by first|rfl|(simp;done)|(simp [*];done)),H',⟨by first|omega|exact Nat.le_refl _⟩,⟨by (with_reducible repeat (first|refine bN ?_ _|refine bD ?_|refine bA ?_ _));exact BK161.out⟩,⟨by (with_reducible repeat (first|refine bN ?_ _|refine bD ?_|refine bA ?_ _));exact BK162.out⟩,⟨by repeat (first|(with_reducible first|exact HB.out|apply bL|apply pN|apply bE|refine bS ?_ GE161.out|refine bS ?_ GE162.out)|exact HB.out)⟩⟩
  rw [if_neg c11] at H
  have c11b0 : decide (a0_1 < 0) = false:=decide_eq_false c11
  clear c11
  by_cases c14 : a0_1 > a1
  ·rw [if_pos c14] at H
   have c14b0 : decide (a1 < a0_1) = true:=decide_eq_true c14
   clear c14
   have H':=Am H
   clear H
   have hnb15:=NB161_162.out
   have hnc15:=NB162_161.out
   obtain ⟨X16_0,X16_1,Y16_0,Y16_1⟩:=kc2 (w:=w7) (g:=gb161) BK161.out
   go_wp2
   go_meet
   case rel=>exact ⟨_,(true),(by first|rfl|(simp;done)|(simp [*];done)),H',⟨by first|omega|exact Nat.le_refl _⟩,⟨by (with_reducible repeat (first|refine bN ?_ _|refine bD ?_|refine bA ?_ _));exact BK161.out⟩,⟨by (with_reducible repeat (first|refine bN ?_ _|refine bD ?_|refine bA ?_ _));exact BK162.out⟩,⟨by repeat (first|(with_reducible first|exact HB.out|apply bL|apply pN|apply bE|refine bS ?_ GE161.out|refine bS ?_ GE162.out)|exact HB.out)⟩⟩
  rw [if_neg c14] at H
  have c14b0 : decide (a1 < a0_1) = false:=decide_eq_false c14
  clear c14
  by_cases c17 : a1 > 1099511627776
  ·rw [if_pos c17] at H
   have c17b0 : decide (1099511627776 < a1) = true:=decide_eq_true c17
   clear c17
   have H':=Am H
   clear H
   have hnb18:=NB161_162.out
   have hnc18:=NB162_161.out
   obtain ⟨X19_0,X19_1,Y19_0,Y19_1⟩:=kc2 (w:=w7) (g:=gb161) BK161.out
   go_wp2
   go_meet
   case rel=>exact ⟨_,(true),(by first|rfl|(simp;done)|(simp [*];done)),H',⟨by first|omega|exact Nat.le_refl _⟩,⟨by (with_reducible repeat (first|refine bN ?_ _|refine bD ?_|refine bA ?_ _));exact BK161.out⟩,⟨by (with_reducible repeat (first|refine bN ?_ _|refine bD ?_|refine bA ?_ _));exact BK162.out⟩,⟨by repeat (first|(with_reducible first|exact HB.out|apply bL|apply pN|apply bE|refine bS ?_ GE161.out|refine bS ?_ GE162.out)|exact HB.out)⟩⟩
  rw [if_neg c17] at H
  have c17b0 : decide (1099511627776 < a1) = false:=decide_eq_false c17
  clear c17
  have H':=Am H
  clear H
  have hnb20:=NB161_162.out
  have hnc20:=NB162_161.out
  obtain ⟨X21_0,X21_1,Y21_0,Y21_1⟩:=kc2 (w:=w7) (g:=gb161) BK161.out
  go_wp2
  go_meet
  case rel=>exact ⟨_,(decide (a2 < 0)),(by first|rfl|(simp;done)|(simp [*];done)),H',⟨by first|omega|exact Nat.le_refl _⟩,⟨by (with_reducible repeat (first|refine bN ?_ _|refine bD ?_|refine bA ?_ _));exact BK161.out⟩,⟨by (with_reducible repeat (first|refine bN ?_ _|refine bD ?_|refine bA ?_ _));exact BK162.out⟩,⟨by repeat (first|(with_reducible first|exact HB.out|apply bL|apply pN|apply bE|refine bS ?_ GE161.out|refine bS ?_ GE162.out)|exact HB.out)⟩⟩
 case rest =>
  clear HC5
  obtain ⟨kq,x33_4,rfl,HA,HJ4,BK161,BK162,HB⟩:=hcut
  cases kq with
  | zero=>exact absurd HA.out (by simp [decay_Charge.j0])
  | succ kj4 =>
   have H:=HA.out
   clear HA
   simp only [decay_Charge.j0] at H
   by_cases c22 : x33_4 = true
   ·subst c22
    have H1 : (some (0,0,2)) = some (r1,r2,r3):=by rw [if_pos rfl] at H;exact H
    clear H
    have H:=H1
    clear H1
    simp only [Option.some.injEq,Prod.mk.injEq] at H
    obtain ⟨rfl,rfl,rfl⟩:=H
    have hnb23:=NB162_161.out
    have hnc23:=NB161_162.out
    obtain ⟨X24_0,X24_1,Y24_0,Y24_1⟩:=kc2 (w:=wc) (g:=gb162) BK162.out
    go_wp2
    refine bodyPost_ret (results_ct rfl _ _ gb162 64 #[.int .i64 0,.int .i64 0] (0,0) _ rfl (by (with_reducible repeat (first|refine bN ?_ _|refine bD ?_|refine bA ?_ _));refine blk_put (cs:=#[.int .i64 0,.int .i64 0]) ?_ 1 _ rfl;(with_reducible repeat (first|refine bN ?_ _|refine bD ?_|refine bA ?_ _));refine blk_put (cs:=#[.int .i64 0,.int .i64 0]) ?_ 0 _ rfl;(with_reducible repeat (first|refine bN ?_ _|refine bD ?_|refine bA ?_ _));exact BK162.out) Tryd.underlying64 rfl (by kernel_rfl)) rfl ?_
    exact ⟨by first|rfl|(simp [errW_none,errW_some] <;> rfl)|(simp [*,errW_none,errW_some] <;> rfl),by repeat (first|(with_reducible first|exact HB.out|apply bL|apply pN|apply bE|refine bS ?_ GE161.out|refine bS ?_ GE162.out)|exact HB.out)⟩
   replace c22:=Bool.eq_false_iff.mpr c22
   subst c22
   have H1 : ((decay_After.f kj4 a0_0 (wrap64 (a1 - a0_1)) a3).bind fun bt163=>(if bt163.2 = 0 then ((num_Sum.f kj4 (([bt163.1,a2] : List Int))).bind fun t168=>(some (t168,a1,0))) else (some (0,0,bt163.2)))) = some (r1,r2,r3):=by rw [if_neg (show ¬ (false = true) by decide)] at H;exact H
   clear H
   have H:=H1
   clear H1
   replace H:=oB H
   obtain ⟨⟨t163,t164⟩,A250,H⟩:=H
   replace H : (if t164 = 0 then ((num_Sum.f kj4 (([t163,a2] : List Int))).bind fun t168=>(some (t168,a1,0))) else (some (0,0,t164))) = some (r1,r2,r3):=H
   have A25:=Am A250
   clear A250
   by_cases c26 : t164 = 0
   rotate_left
   ·rw [if_neg c26] at H
    have c26b0 : (t164 == 0) = false:=beq_eq_false_iff_ne.mpr c26
    have c26b1 : (t164 != 0) = true:=bne_iff_ne.mpr c26
    simp only [Option.some.injEq,Prod.mk.injEq] at H
    obtain ⟨rfl,rfl,rfl⟩:=H
    have hnb35:=NB161_162.out
    have hnc35:=NB162_161.out
    obtain ⟨X36_0,X36_1,Y36_0,Y36_1⟩:=kc2 (w:=wc) (g:=gb161) BK161.out
    go_wp2_with (first|((with_reducible refine gC (f:=43) rfl ?_);refine goesL_ (some 43) rfl rfl Tryd.func43 (by kernel_rfl) rfl #[.int .i64 a0_0,.int .i64 (wrap64 (a1 - a0_1)),.int .i64 a3] rfl (by (try simp only [mT,mC,mN]);first|done|rfl|(simp only [lD,lT];rfl)) ?_;(with_reducible refine (decay_After.calls kj4 a0_0 (wrap64 (a1 - a0_1)) a3 t163 t164 _ A25.out).mono ?_);rintro e w37 ⟨rfl,hb⟩;refine ⟨_,rfl,?_⟩;have n0_:=Am (blk_below (g:=gb161) (by (with_reducible repeat (first|refine bN ?_ _|refine bD ?_|refine bA ?_ _));exact BK161.out) hb);have n1_:=Am (blk_below (g:=gb162) (by (with_reducible repeat (first|refine bN ?_ _|refine bD ?_|refine bA ?_ _));exact BK162.out) hb);have n2_:=Am (below_step (by repeat (first|(with_reducible first|exact HB.out|apply bL|apply pN|apply bE|refine bS ?_ GE161.out|refine bS ?_ GE162.out)|exact HB.out)) hb);clear BK161;clear BK162;clear HB;have BK161:=n0_;have BK162:=n1_;have HB:=n2_;clear n0_ n1_ n2_;obtain ⟨X38_0,X38_1,Y38_0,Y38_1⟩:=kc2 (w:=w37) (g:=gb162) BK162.out))
    refine bodyPost_ret (results_ct rfl _ _ gb162 64 #[.int .i64 0,.int .i64 0] (0,0) _ rfl (by (with_reducible repeat (first|refine bN ?_ _|refine bD ?_|refine bA ?_ _));refine blk_put (cs:=#[.int .i64 0,.int .i64 0]) ?_ 1 _ rfl;(with_reducible repeat (first|refine bN ?_ _|refine bD ?_|refine bA ?_ _));refine blk_put (cs:=#[.int .i64 0,.int .i64 0]) ?_ 0 _ rfl;(with_reducible repeat (first|refine bN ?_ _|refine bD ?_|refine bA ?_ _));exact BK162.out) Tryd.underlying64 rfl (by kernel_rfl)) rfl ?_
    exact ⟨by first|rfl|(simp [errW_none,errW_some] <;> rfl)|(simp [*,errW_none,errW_some] <;> rfl),by repeat (first|(with_reducible first|exact HB.out|apply bL|apply pN|apply bE|refine bS ?_ GE161.out|refine bS ?_ GE162.out)|exact HB.out)⟩
   rw [if_pos c26] at H
   have c26b0 : (t164 == 0) = true:=beq_iff_eq.mpr c26
   have c26b1 : (t164 != 0) = false:=bne_eq_false_iff_eq.mpr c26
   clear c26
   obtain ⟨y165,hy165⟩ : ∃ y_ : List Int,y_ = (([t163,a2] : List Int)):=⟨_,rfl⟩
   replace H : ((num_Sum.f kj4 y165).bind fun t168=>(some (t168,a1,0))) = some (r1,r2,r3):=by first|(rw [hy165];with_reducible exact H)|(have H2_:=(Option.bind_some _ _).symm.trans H;rw [hy165];with_reducible exact H2_)|(have H2_:=(Option.bind_some _ _).symm.trans H;with_reducible exact H2_)|with_reducible exact H|(rw [hy165];exact H)|exact H
   have Ny165:=Am hy165
   clear hy165
   replace H:=oB H
   obtain ⟨t168,A270,H⟩:=H
   try dsimp only at H
   have A27:=Am A270
   clear A270
   simp only [Option.some.injEq,Prod.mk.injEq] at H
   obtain ⟨rfl,rfl,rfl⟩:=H
   have hnb28:=NB161_162.out
   have hnc28:=NB162_161.out
   obtain ⟨X29_0,X29_1,Y29_0,Y29_1⟩:=kc2 (w:=wc) (g:=gb161) BK161.out
   go_wp2_with (first|((with_reducible refine gC (f:=43) rfl ?_);refine goesL_ (some 43) rfl rfl Tryd.func43 (by kernel_rfl) rfl #[.int .i64 a0_0,.int .i64 (wrap64 (a1 - a0_1)),.int .i64 a3] rfl (by (try simp only [mT,mC,mN]);first|done|rfl|(simp only [lD,lT];rfl)) ?_;(with_reducible refine (decay_After.calls kj4 a0_0 (wrap64 (a1 - a0_1)) a3 t163 t164 _ A25.out).mono ?_);rintro e w30 ⟨rfl,hb⟩;refine ⟨_,rfl,?_⟩;have n0_:=Am (blk_below (g:=gb161) (by (with_reducible repeat (first|refine bN ?_ _|refine bD ?_|refine bA ?_ _));exact BK161.out) hb);have n1_:=Am (blk_below (g:=gb162) (by (with_reducible repeat (first|refine bN ?_ _|refine bD ?_|refine bA ?_ _));exact BK162.out) hb);have n2_:=Am (below_step (by repeat (first|(with_reducible first|exact HB.out|apply bL|apply pN|apply bE|refine bS ?_ GE161.out|refine bS ?_ GE162.out)|exact HB.out)) hb);clear BK161;clear BK162;clear HB;have BK161:=n0_;have BK162:=n1_;have HB:=n2_;clear n0_ n1_ n2_)|((with_reducible refine gD (N:=52) rfl ?_);refine Kd.R_lit (Kd.int .i64) _ 3 ?hg (N:=52) ?hd (xs:=([t163,a2] : List Int)) (inner:=[.int .i64 t163,.int .i64 a2]) (ok:=fun _=>True) (okp:=fun _=>True) ?hr ?hp (fun _ hk=>hk) trivial (Below.refl _ _) (Nat.le_refl _) (by simp) ?_;(case hd=>rfl);(case hg=>rfl);(case hr=>first|(go_simp;done)|(go_simp;rfl));(case hp=>exact (Reps.one (show Kd.M (Kd.int .i64) _ _ _ t163 [.int .i64 t163] from rfl) (Reps.one (show Kd.M (Kd.int .i64) _ _ _ a2 [.int .i64 a2] from rfl) (Reps.none _ _))));intro v166 w31 ho32 hb hg_ hnew_;clear hg_ hnew_;(first|rw [← Ny165.out] at ho32|(simp only [Int.reduceToNat] at ho32;rw [← Ny165.out] at ho32));have n0_:=Am (Kd.R_lower ho32 (bZ (by repeat (first|(with_reducible first|exact HB.out|apply bL|apply pN|apply bE|refine bS ?_ GE161.out|refine bS ?_ GE162.out)|exact HB.out))));have n1_:=Am (blk_below (g:=gb161) (by (with_reducible repeat (first|refine bN ?_ _|refine bD ?_|refine bA ?_ _));exact BK161.out) hb);have n2_:=Am (blk_below (g:=gb162) (by (with_reducible repeat (first|refine bN ?_ _|refine bD ?_|refine bA ?_ _));exact BK162.out) hb);have n3_:=Am (below_step (by repeat (first|(with_reducible first|exact HB.out|apply bL|apply pN|apply bE|refine bS ?_ GE161.out|refine bS ?_ GE162.out)|exact HB.out)) hb);clear BK161;clear BK162;clear HB;have HO167:=n0_;have BK161:=n1_;have BK162:=n2_;have HB:=n3_;clear n0_ n1_ n2_ n3_;clear hb ho32;obtain ⟨Ao33,co33,eo33⟩:=Kd.R_slice HO167.out;subst eo33)|((with_reducible refine gC (f:=28) rfl ?_);refine goesL_ (some 53) rfl rfl Tryd.func28 (by kernel_rfl) rfl #[.slice Ao33 y165.length co33] rfl (by (try simp only [mT,mC,mN]);first|done|rfl|(simp only [lD,lT];rfl)) ?_;(with_reducible refine (num_Sum.calls kj4 _ _ y165 t168 _ ?side1 ?side2 A27.out).mono ?_);(case side1=>repeat (first|exact (Kd.R_reads' HO167.out).2.2|(with_reducible refine Kd.C_alloc ?_ _)|(with_reducible refine Kd.C_drewN ?_ _)|(with_reducible refine Kd.C_drew ?_)));(case side2=>exact (Kd.R_reads' HO167.out).2.1);rintro e w' ⟨rfl,⟨nd,rfl⟩⟩;refine ⟨_,rfl,?_⟩;(try (rw [drewN_self w31];generalize hq_ : World.drewN w31 _ = w31;have n0_ : Aside0 (Kd.R (Kd.int .i64) 3 w31 w.heap.size (fun _=>True) (.slice Ao33 y165.length co33) y165):=⟨by rw [← hq_];exact (by (with_reducible repeat (first|apply Kd.R_alloc|apply Kd.R_drewN|apply Kd.R_drew));exact HO167.out)⟩;have n1_ : Aside0 (w31.heap[gb161]? = some (.cells #[.int .i64 a0_0,.int .i64 a0_1] 64 (0,0))):=⟨by rw [← hq_];exact (by (with_reducible repeat (first|refine bN ?_ _|refine bD ?_|refine bA ?_ _));exact BK161.out)⟩;have n2_ : Aside0 (w31.heap[gb162]? = some (.cells #[.int .i64 0,.int .i64 0] 64 (0,0))):=⟨by rw [← hq_];exact (by (with_reducible repeat (first|refine bN ?_ _|refine bD ?_|refine bA ?_ _));exact BK162.out)⟩;have n3_ : Aside0 (Below w.heap.size w w31):=⟨by rw [← hq_];exact (by repeat (first|(with_reducible first|exact HB.out|apply bL|apply pN|apply bE|refine bS ?_ GE161.out|refine bS ?_ GE162.out)|exact HB.out))⟩;clear HO167 BK161 BK162 HB hq_;have HO167:=n0_;have BK161:=n1_;have BK162:=n2_;have HB:=n3_;clear n0_ n1_ n2_ n3_));obtain ⟨X34_0,X34_1,Y34_0,Y34_1⟩:=kc2 (w:=w31) (g:=gb162) BK162.out))
   refine bodyPost_ret (results_ct rfl _ _ gb162 64 #[.int .i64 t168,.int .i64 a1] (0,0) _ rfl (by (with_reducible repeat (first|refine bN ?_ _|refine bD ?_|refine bA ?_ _));refine blk_put (cs:=#[.int .i64 t168,.int .i64 0]) ?_ 1 _ rfl;(with_reducible repeat (first|refine bN ?_ _|refine bD ?_|refine bA ?_ _));refine blk_put (cs:=#[.int .i64 0,.int .i64 0]) ?_ 0 _ rfl;(with_reducible repeat (first|refine bN ?_ _|refine bD ?_|refine bA ?_ _));exact BK162.out) Tryd.underlying64 rfl (by kernel_rfl)) rfl ?_
   exact ⟨by first|rfl|(simp [errW_none,errW_some] <;> rfl)|(simp [*,errW_none,errW_some] <;> rfl),by repeat (first|(with_reducible first|exact HB.out|apply bL|apply pN|apply bE|refine bS ?_ GE161.out|refine bS ?_ GE162.out)|exact HB.out)⟩
mutual
def book_Usage.j0 : Nat→List (S24)→ByteArray→Int→Int→Option (Int × Int)
 | 0,_,_,_,_=>none
 | k + 1,x0,x1,x2,x3=>book_Usage.l0 k x1 x2 x3 x0 (x0.length : Int) 0 0 0
def book_Usage.l0 : Nat→ByteArray→Int→Int→List (S24)→Int→Int→Int→Int→Option (Int × Int)
 | 0,_,_,_,_,_,_,_,_=>none
 | k + 1,x1,x2,x3,x48,x49,x50,v_0,v_1=>if x50 < x49 then (if 0≤x50 then (if x50 < (x48.length : Int) then (if ((rd_T24 x48 x50).f1).toList = x1.toList then ((decay_Charge.f k v_0 v_1 ((rd_T24 x48 x50).f5) (wrap64 (((rd_T24 x48 x50).f2) * ((rd_T24 x48 x50).f3))) x3).bind fun bt174=>(book_Usage.l0 k x1 x2 x3 x48 x49 (wrap64 (x50 + 1)) bt174.1 bt174.2.1)) else (book_Usage.l0 k x1 x2 x3 x48 x49 (wrap64 (x50 + 1)) v_0 v_1)) else (none)) else (none)) else ((decay_Charge.f k v_0 v_1 x2 0 x3).bind fun bt177=>(some (bt177.1,0)))
end
def book_Usage.f (k : Nat) (l0 : List (S24)) (a1 : ByteArray) (a2 : Int) (a3 : Int) : Option (Int × Int):=(book_Check.f k l0).bind fun t169=>(if t169 = 0 then (if a3 < 1 then (some (0,2)) else (if a3 > 1099511627776 then (some (0,2)) else (if a2 < 0 then (some (0,2)) else (if a2 > 1099511627776 then (some (0,2)) else (if (l0.length : Int) > 0 then (if 0≤(wrap64 ((l0.length : Int) - 1)) then (if (wrap64 ((l0.length : Int) - 1)) < (l0.length : Int) then (if a2 < ((rd_T24 l0 (wrap64 ((l0.length : Int) - 1))).f5) then (some (0,2)) else (book_Usage.j0 k l0 a1 a2 a3)) else (none)) else (none)) else (book_Usage.j0 k l0 a1 a2 a3)))))) else (some (0,200)))
theorem book_Usage.mono_l : ∀ k,(∀ y0 y1 y2 y3,LeO (book_Usage.j0 k y0 y1 y2 y3) (book_Usage.j0 (k + 1) y0 y1 y2 y3))∧(∀ y0 y1 y2 y3 y4 y5 y6 y7,LeO (book_Usage.l0 k y0 y1 y2 y3 y4 y5 y6 y7) (book_Usage.l0 (k + 1) y0 y1 y2 y3 y4 y5 y6 y7))
 | 0=>⟨fun _ _ _ _ r h=>by simp [book_Usage.j0] at h,fun _ _ _ _ _ _ _ _ r h=>by simp [book_Usage.l0] at h⟩
 | k + 1=>by
  obtain ⟨ih0,ih1⟩:=book_Usage.mono_l k
  refine ⟨?_,?_⟩
  ·intro y0 y1 y2 y3
   unfold book_Usage.j0
   repeat' first
   | (with_reducible exact ih0 _ _ _ _)
   | (with_reducible exact ih1 _ _ _ _ _ _ _ _)
   | (with_reducible exact book_Check.mono _ _)
   | (with_reducible exact decay_Charge.mono _ _ _ _ _ _)
   | (with_reducible exact LeO.refl _)
   | (with_reducible exact LeO.none _)
   | (with_reducible refine LeO.ite ?_ ?_)
   | (with_reducible refine LeO.bind ?_ (fun _=>?_))
   | exact ih0 _ _ _ _
   | exact ih1 _ _ _ _ _ _ _ _
   | exact book_Check.mono _ _
   | exact decay_Charge.mono _ _ _ _ _ _
   | exact LeO.none _
   | refine LeO.ite ?_ ?_
   | refine LeO.bind ?_ (fun _=>?_)
  ·intro y0 y1 y2 y3 y4 y5 y6 y7
   unfold book_Usage.l0
   repeat' first
   | (with_reducible exact ih0 _ _ _ _)
   | (with_reducible exact ih1 _ _ _ _ _ _ _ _)
   | (with_reducible exact book_Check.mono _ _)
   | (with_reducible exact decay_Charge.mono _ _ _ _ _ _)
   | (with_reducible exact LeO.refl _)
   | (with_reducible exact LeO.none _)
   | (with_reducible refine LeO.ite ?_ ?_)
   | (with_reducible refine LeO.bind ?_ (fun _=>?_))
   | exact ih0 _ _ _ _
   | exact ih1 _ _ _ _ _ _ _ _
   | exact book_Check.mono _ _
   | exact decay_Charge.mono _ _ _ _ _ _
   | exact LeO.none _
   | refine LeO.ite ?_ ?_
   | refine LeO.bind ?_ (fun _=>?_)
theorem book_Usage.mono : ∀ a0 a1 a2 a3 k,LeO (book_Usage.f k a0 a1 a2 a3) (book_Usage.f (k + 1) a0 a1 a2 a3):=by
 intro a0 a1 a2 a3 k
 obtain ⟨ih0,ih1⟩:=book_Usage.mono_l k
 unfold book_Usage.f
 repeat' first
   | (with_reducible exact ih0 _ _ _ _)
   | (with_reducible exact ih1 _ _ _ _ _ _ _ _)
   | (with_reducible exact book_Check.mono _ _)
   | (with_reducible exact decay_Charge.mono _ _ _ _ _ _)
   | (with_reducible exact LeO.refl _)
   | (with_reducible exact LeO.none _)
   | (with_reducible refine LeO.ite ?_ ?_)
   | (with_reducible refine LeO.bind ?_ (fun _=>?_))
   | exact ih0 _ _ _ _
   | exact ih1 _ _ _ _ _ _ _ _
   | exact book_Check.mono _ _
   | exact decay_Charge.mono _ _ _ _ _ _
   | exact LeO.none _
   | refine LeO.ite ?_ ?_
   | refine LeO.bind ?_ (fun _=>?_)
set_option maxHeartbeats 8000000 in
set_option maxRecDepth 100000 in
theorem book_Usage.calls (k : Nat) (A0 : Option Addr) (c0 : Nat) (l0 : List (S24)) (a1 : ByteArray) (a2 : Int) (a3 : Int) (r1 : Int) (r2 : Int) (w : World) (hG : Glob w) (hr0 : Kd.C k24 w A0 l0.length l0) (hc0 : l0.length≤c0) (h : book_Usage.f k l0 a1 a2 a3 = some (r1,r2)) :
  Calls Tryd.prog 14 #[.slice A0 l0.length c0,.string a1,.int .i64 a2,.int .i64 a3] w fun e w'=>e = .returned (.tuple #[.int .i64 r1,.int .i64 r2])∧Below w.heap.size w w':=by
 have hu64:=Tryd.underlying64
 have hu24:=Tryd.underlying24
 have HG:=Am hG
 clear hG
 have HR0:=Am hr0
 have HC0:=Am hc0
 clear hr0 hc0
 have HB:=Am (Below.refl w.heap.size w)
 have H : ((book_Check.f k l0).bind fun t169=>(if t169 = 0 then (if a3 < 1 then (some (0,2)) else (if a3 > 1099511627776 then (some (0,2)) else (if a2 < 0 then (some (0,2)) else (if a2 > 1099511627776 then (some (0,2)) else (if (l0.length : Int) > 0 then (if 0≤(wrap64 ((l0.length : Int) - 1)) then (if (wrap64 ((l0.length : Int) - 1)) < (l0.length : Int) then (if a2 < ((rd_T24 l0 (wrap64 ((l0.length : Int) - 1))).f5) then (some (0,2)) else (book_Usage.j0 k l0 a1 a2 a3)) else (none)) else (none)) else (book_Usage.j0 k l0 a1 a2 a3)))))) else (some (0,200)))) = some (r1,r2):=h
 clear h
 have HC5:=Am H
 clear H
 go_enter Tryd.func14,Tryd.ntmps14
 go_upto_block 0 with (fail)
 go_cut [] (fun wc=>∃ (kq : Nat),Aside0 (book_Usage.j0 kq l0 a1 a2 a3 = some (r1,r2))∧Aside0 (kq≤k)∧Aside0 (Below w.heap.size w wc))
 case first =>
  have H:=HC5.out
  clear HC5
  replace H:=oB H
  obtain ⟨t169,A60,H⟩:=H
  try dsimp only at H
  have A6:=Am A60
  clear A60
  by_cases c7 : t169 = 0
  rotate_left
  ·rw [if_neg c7] at H
   have c7b0 : (t169 == 0) = false:=beq_eq_false_iff_ne.mpr c7
   have c7b1 : (t169 != 0) = true:=bne_iff_ne.mpr c7
   (first|rw [c7b0]|(simp only [iW,iV];rw [c7b0])|skip)
   simp only [Option.some.injEq,Prod.mk.injEq] at H
   obtain ⟨rfl,rfl⟩:=H
   go_wp2_with (first|((with_reducible refine gC (f:=12) rfl ?_);refine goesL_ (some 15) rfl rfl Tryd.func12 (by kernel_rfl) rfl #[.slice A0 l0.length c0] rfl (by (try simp only [mT,mC,mN]);first|done|rfl|(simp only [lD,lT];rfl)) ?_;(with_reducible refine (book_Check.calls k _ _ l0 t169 _ ?side1 ?side2 ?side3 A6.out).mono ?_);(case side1=>exact Glob.below HG.out (by repeat (first|(with_reducible first|exact HB.out|apply bL|apply pN|apply bE)|exact HB.out)));(case side2=>repeat (first|exact (Kd.C_below HR0.out HB.out)|(with_reducible refine Kd.C_alloc ?_ _)|(with_reducible refine Kd.C_drewN ?_ _)|(with_reducible refine Kd.C_drew ?_)));(case side3=>exact HC0.out);rintro e w24 ⟨rfl,hb⟩;refine ⟨_,rfl,?_⟩;have n0_:=Am (below_step (by repeat (first|(with_reducible first|exact HB.out|apply bL|apply pN|apply bE)|exact HB.out)) hb);clear HB;have HB:=n0_;clear n0_))
   go_ret2
   exact ⟨by first|rfl|(simp [errW_none,errW_some] <;> rfl)|(simp [*,errW_none,errW_some] <;> rfl),by repeat (first|(with_reducible first|exact HB.out|apply bL|apply pN|apply bE)|exact HB.out)⟩
  rw [if_pos c7] at H
  have c7b0 : (t169 == 0) = true:=beq_iff_eq.mpr c7
  have c7b1 : (t169 != 0) = false:=bne_eq_false_iff_eq.mpr c7
  clear c7
  (first|rw [c7b0]|(simp only [iW,iV];rw [c7b0])|skip)
  by_cases c8 : a3 < 1
  ·rw [if_pos c8] at H
   have c8b0 : decide (a3 < 1) = true:=decide_eq_true c8
   clear c8
   simp only [Option.some.injEq,Prod.mk.injEq] at H
   obtain ⟨rfl,rfl⟩:=H
   go_wp2_with (first|((with_reducible refine gC (f:=12) rfl ?_);refine goesL_ (some 15) rfl rfl Tryd.func12 (by kernel_rfl) rfl #[.slice A0 l0.length c0] rfl (by (try simp only [mT,mC,mN]);first|done|rfl|(simp only [lD,lT];rfl)) ?_;(with_reducible refine (book_Check.calls k _ _ l0 t169 _ ?side1 ?side2 ?side3 A6.out).mono ?_);(case side1=>exact Glob.below HG.out (by repeat (first|(with_reducible first|exact HB.out|apply bL|apply pN|apply bE)|exact HB.out)));(case side2=>repeat (first|exact (Kd.C_below HR0.out HB.out)|(with_reducible refine Kd.C_alloc ?_ _)|(with_reducible refine Kd.C_drewN ?_ _)|(with_reducible refine Kd.C_drew ?_)));(case side3=>exact HC0.out);rintro e w9 ⟨rfl,hb⟩;refine ⟨_,rfl,?_⟩;have n0_:=Am (below_step (by repeat (first|(with_reducible first|exact HB.out|apply bL|apply pN|apply bE)|exact HB.out)) hb);clear HB;have HB:=n0_;clear n0_))
   go_ret2
   exact ⟨by first|rfl|(simp [errW_none,errW_some] <;> rfl)|(simp [*,errW_none,errW_some] <;> rfl),by repeat (first|(with_reducible first|exact HB.out|apply bL|apply pN|apply bE)|exact HB.out)⟩
  rw [if_neg c8] at H
  have c8b0 : decide (a3 < 1) = false:=decide_eq_false c8
  clear c8
  by_cases c10 : a3 > 1099511627776
  ·rw [if_pos c10] at H
   have c10b0 : decide (1099511627776 < a3) = true:=decide_eq_true c10
   clear c10
   simp only [Option.some.injEq,Prod.mk.injEq] at H
   obtain ⟨rfl,rfl⟩:=H
   go_wp2_with (first|((with_reducible refine gC (f:=12) rfl ?_);refine goesL_ (some 15) rfl rfl Tryd.func12 (by kernel_rfl) rfl #[.slice A0 l0.length c0] rfl (by (try simp only [mT,mC,mN]);first|done|rfl|(simp only [lD,lT];rfl)) ?_;(with_reducible refine (book_Check.calls k _ _ l0 t169 _ ?side1 ?side2 ?side3 A6.out).mono ?_);(case side1=>exact Glob.below HG.out (by repeat (first|(with_reducible first|exact HB.out|apply bL|apply pN|apply bE)|exact HB.out)));(case side2=>repeat (first|exact (Kd.C_below HR0.out HB.out)|(with_reducible refine Kd.C_alloc ?_ _)|(with_reducible refine Kd.C_drewN ?_ _)|(with_reducible refine Kd.C_drew ?_)));(case side3=>exact HC0.out);rintro e w11 ⟨rfl,hb⟩;refine ⟨_,rfl,?_⟩;have n0_:=Am (below_step (by repeat (first|(with_reducible first|exact HB.out|apply bL|apply pN|apply bE)|exact HB.out)) hb);clear HB;have HB:=n0_;clear n0_))
   go_ret2
   exact ⟨by first|rfl|(simp [errW_none,errW_some] <;> rfl)|(simp [*,errW_none,errW_some] <;> rfl),by repeat (first|(with_reducible first|exact HB.out|apply bL|apply pN|apply bE)|exact HB.out)⟩
  rw [if_neg c10] at H
  have c10b0 : decide (1099511627776 < a3) = false:=decide_eq_false c10
  clear c10
  by_cases c12 : a2 < 0
  ·rw [if_pos c12] at H
   have c12b0 : decide (a2 < 0) = true:=decide_eq_true c12
   clear c12
   simp only [Option.some.injEq,Prod.mk.injEq] at H
   obtain ⟨rfl,rfl⟩:=H
   go_wp2_with (first|((with_reducible refine gC (f:=12) rfl ?_);refine goesL_ (some 15) rfl rfl Tryd.func12 (by kernel_rfl) rfl #[.slice A0 l0.length c0] rfl (by (try simp only [mT,mC,mN]);first|done|rfl|(simp only [lD,lT];rfl)) ?_;(with_reducible refine (book_Check.calls k _ _ l0 t169 _ ?side1 ?side2 ?side3 A6.out).mono ?_);(case side1=>exact Glob.below HG.out (by repeat (first|(with_reducible first|exact HB.out|apply bL|apply pN|apply bE)|exact HB.out)));(case side2=>repeat (first|exact (Kd.C_below HR0.out HB.out)|(with_reducible refine Kd.C_alloc ?_ _)|(with_reducible refine Kd.C_drewN ?_ _)|(with_reducible refine Kd.C_drew ?_)));(case side3=>exact HC0.out);rintro e w13 ⟨rfl,hb⟩;refine ⟨_,rfl,?_⟩;have n0_:=Am (below_step (by repeat (first|(with_reducible first|exact HB.out|apply bL|apply pN|apply bE)|exact HB.out)) hb);clear HB;have HB:=n0_;clear n0_))
   go_ret2
   exact ⟨by first|rfl|(simp [errW_none,errW_some] <;> rfl)|(simp [*,errW_none,errW_some] <;> rfl),by repeat (first|(with_reducible first|exact HB.out|apply bL|apply pN|apply bE)|exact HB.out)⟩
  rw [if_neg c12] at H
  have c12b0 : decide (a2 < 0) = false:=decide_eq_false c12
  clear c12
  by_cases c14 : a2 > 1099511627776
  ·rw [if_pos c14] at H
   have c14b0 : decide (1099511627776 < a2) = true:=decide_eq_true c14
   clear c14
   simp only [Option.some.injEq,Prod.mk.injEq] at H
   obtain ⟨rfl,rfl⟩:=H
   go_wp2_with (first|((with_reducible refine gC (f:=12) rfl ?_);refine goesL_ (some 15) rfl rfl Tryd.func12 (by kernel_rfl) rfl #[.slice A0 l0.length c0] rfl (by (try simp only [mT,mC,mN]);first|done|rfl|(simp only [lD,lT];rfl)) ?_;(with_reducible refine (book_Check.calls k _ _ l0 t169 _ ?side1 ?side2 ?side3 A6.out).mono ?_);(case side1=>exact Glob.below HG.out (by repeat (first|(with_reducible first|exact HB.out|apply bL|apply pN|apply bE)|exact HB.out)));(case side2=>repeat (first|exact (Kd.C_below HR0.out HB.out)|(with_reducible refine Kd.C_alloc ?_ _)|(with_reducible refine Kd.C_drewN ?_ _)|(with_reducible refine Kd.C_drew ?_)));(case side3=>exact HC0.out);rintro e w15 ⟨rfl,hb⟩;refine ⟨_,rfl,?_⟩;have n0_:=Am (below_step (by repeat (first|(with_reducible first|exact HB.out|apply bL|apply pN|apply bE)|exact HB.out)) hb);clear HB;have HB:=n0_;clear n0_))
   go_ret2
   exact ⟨by first|rfl|(simp [errW_none,errW_some] <;> rfl)|(simp [*,errW_none,errW_some] <;> rfl),by repeat (first|(with_reducible first|exact HB.out|apply bL|apply pN|apply bE)|exact HB.out)⟩
  rw [if_neg c14] at H
  have c14b0 : decide (1099511627776 < a2) = false:=decide_eq_false c14
  clear c14
  by_cases c16 : (l0.length : Int) > 0
  rotate_left
  ·rw [if_neg c16] at H
   have c16b0 : decide (0 < (l0.length : Int)) = false:=decide_eq_false c16
   have c16b1 : decide (0 < l0.length) = false:=decide_eq_false (by omega)
   clear c16
   have H':=Am H
   clear H
   go_wp2_with (first|((with_reducible refine gC (f:=12) rfl ?_);refine goesL_ (some 15) rfl rfl Tryd.func12 (by kernel_rfl) rfl #[.slice A0 l0.length c0] rfl (by (try simp only [mT,mC,mN]);first|done|rfl|(simp only [lD,lT];rfl)) ?_;(with_reducible refine (book_Check.calls k _ _ l0 t169 _ ?side1 ?side2 ?side3 A6.out).mono ?_);(case side1=>exact Glob.below HG.out (by repeat (first|(with_reducible first|exact HB.out|apply bL|apply pN|apply bE)|exact HB.out)));(case side2=>repeat (first|exact (Kd.C_below HR0.out HB.out)|(with_reducible refine Kd.C_alloc ?_ _)|(with_reducible refine Kd.C_drewN ?_ _)|(with_reducible refine Kd.C_drew ?_)));(case side3=>exact HC0.out);rintro e w23 ⟨rfl,hb⟩;refine ⟨_,rfl,?_⟩;have n0_:=Am (below_step (by repeat (first|(with_reducible first|exact HB.out|apply bL|apply pN|apply bE)|exact HB.out)) hb);clear HB;have HB:=n0_;clear n0_))
   go_meet
   case rel=>exact ⟨_,H',⟨by first|omega|exact Nat.le_refl _⟩,⟨by repeat (first|(with_reducible first|exact HB.out|apply bL|apply pN|apply bE)|exact HB.out)⟩⟩
  rw [if_pos c16] at H
  have c16b0 : decide (0 < (l0.length : Int)) = true:=decide_eq_true c16
  have c16b1 : decide (0 < l0.length) = true:=decide_eq_true (by omega)
  clear c16
  obtain ⟨ji17,hji17⟩ : ∃ j_ : Int,(wrap64 ((l0.length : Int) - 1)) = j_:=⟨_,rfl⟩
  replace H : (if 0≤(ji17) then (if (ji17) < (l0.length : Int) then (if a2 < ((rd_T24 l0 (ji17)).f5) then (some (0,2)) else (book_Usage.j0 k l0 a1 a2 a3)) else (none)) else (none)) = some (r1,r2):=by first|(rw [hji17] at H;exact H)|(simp only [hji17] at H ⊢;exact H)
  (try rw [hji17] at A6)
  have hji17w : (IntKind.i64.wrap ((l0.length : Int) - 1)) = ji17:=(iW _).trans hji17
  by_cases c18 : 0≤(ji17)
  rotate_left
  ·rw [if_neg c18] at H
   exact absurd H (by simp)
  rw [if_pos c18] at H
  have c18b0 : decide (0≤(ji17)) = true:=decide_eq_true c18
  clear c18
  by_cases c19 : (ji17) < (l0.length : Int)
  rotate_left
  ·rw [if_neg c19] at H
   exact absurd H (by simp)
  rw [if_pos c19] at H
  have c19b0 : decide ((ji17) < (l0.length : Int)) = true:=decide_eq_true c19
  clear c19
  by_cases c20 : a2 < ((rd_T24 l0 (ji17)).f5)
  rotate_left
  ·rw [if_neg c20] at H
   have c20b0 : decide (a2 < ((rd_T24 l0 (ji17)).f5)) = false:=decide_eq_false c20
   clear c20
   have H':=Am H
   clear H
   go_wp2_with (first|((with_reducible refine gC (f:=12) rfl ?_);refine goesL_ (some 15) rfl rfl Tryd.func12 (by kernel_rfl) rfl #[.slice A0 l0.length c0] rfl (by (try simp only [mT,mC,mN]);first|done|rfl|(simp only [lD,lT];rfl)) ?_;(with_reducible refine (book_Check.calls k _ _ l0 t169 _ ?side1 ?side2 ?side3 A6.out).mono ?_);(case side1=>exact Glob.below HG.out (by repeat (first|(with_reducible first|exact HB.out|apply bL|apply pN|apply bE)|exact HB.out)));(case side2=>repeat (first|exact (Kd.C_below HR0.out HB.out)|(with_reducible refine Kd.C_alloc ?_ _)|(with_reducible refine Kd.C_drewN ?_ _)|(with_reducible refine Kd.C_drew ?_)));(case side3=>exact HC0.out);rintro e w22 ⟨rfl,hb⟩;refine ⟨_,rfl,?_⟩;have n0_:=Am (below_step (by repeat (first|(with_reducible first|exact HB.out|apply bL|apply pN|apply bE)|exact HB.out)) hb);clear HB;have HB:=n0_;clear n0_;have p170 : 0≤((ji17) : Int):=of_decide_eq_true (by first|(with_reducible assumption)|assumption);have q170 : (ji17) < (l0.length : Int):=of_decide_eq_true (by first|(with_reducible assumption)|assumption);obtain ⟨ad170,e170,hx170_0,hx170_1,hx170_2,hx170_3,hx170_4,hx170_5⟩:=at_T24 HR0.out (ji17) p170 q170;cases e170;replace hx170_0:=(HB.out.cell (wB w _ hx170_0)).trans hx170_0;replace hx170_1:=(HB.out.cell (wB w _ hx170_1)).trans hx170_1;replace hx170_2:=(HB.out.cell (wB w _ hx170_2)).trans hx170_2;replace hx170_3:=(HB.out.cell (wB w _ hx170_3)).trans hx170_3;replace hx170_4:=(HB.out.cell (wB w _ hx170_4)).trans hx170_4;replace hx170_5:=(HB.out.cell (wB w _ hx170_5)).trans hx170_5;replace p170:=eq_true p170;replace q170:=eq_true q170))
   go_meet
   case rel=>exact ⟨_,H',⟨by first|omega|exact Nat.le_refl _⟩,⟨by repeat (first|(with_reducible first|exact HB.out|apply bL|apply pN|apply bE)|exact HB.out)⟩⟩
  rw [if_pos c20] at H
  have c20b0 : decide (a2 < ((rd_T24 l0 (ji17)).f5)) = true:=decide_eq_true c20
  clear c20
  simp only [Option.some.injEq,Prod.mk.injEq] at H
  obtain ⟨rfl,rfl⟩:=H
  go_wp2_with (first|((with_reducible refine gC (f:=12) rfl ?_);refine goesL_ (some 15) rfl rfl Tryd.func12 (by kernel_rfl) rfl #[.slice A0 l0.length c0] rfl (by (try simp only [mT,mC,mN]);first|done|rfl|(simp only [lD,lT];rfl)) ?_;(with_reducible refine (book_Check.calls k _ _ l0 t169 _ ?side1 ?side2 ?side3 A6.out).mono ?_);(case side1=>exact Glob.below HG.out (by repeat (first|(with_reducible first|exact HB.out|apply bL|apply pN|apply bE)|exact HB.out)));(case side2=>repeat (first|exact (Kd.C_below HR0.out HB.out)|(with_reducible refine Kd.C_alloc ?_ _)|(with_reducible refine Kd.C_drewN ?_ _)|(with_reducible refine Kd.C_drew ?_)));(case side3=>exact HC0.out);rintro e w21 ⟨rfl,hb⟩;refine ⟨_,rfl,?_⟩;have n0_:=Am (below_step (by repeat (first|(with_reducible first|exact HB.out|apply bL|apply pN|apply bE)|exact HB.out)) hb);clear HB;have HB:=n0_;clear n0_;have p170 : 0≤((ji17) : Int):=of_decide_eq_true (by first|(with_reducible assumption)|assumption);have q170 : (ji17) < (l0.length : Int):=of_decide_eq_true (by first|(with_reducible assumption)|assumption);obtain ⟨ad170,e170,hx170_0,hx170_1,hx170_2,hx170_3,hx170_4,hx170_5⟩:=at_T24 HR0.out (ji17) p170 q170;cases e170;replace hx170_0:=(HB.out.cell (wB w _ hx170_0)).trans hx170_0;replace hx170_1:=(HB.out.cell (wB w _ hx170_1)).trans hx170_1;replace hx170_2:=(HB.out.cell (wB w _ hx170_2)).trans hx170_2;replace hx170_3:=(HB.out.cell (wB w _ hx170_3)).trans hx170_3;replace hx170_4:=(HB.out.cell (wB w _ hx170_4)).trans hx170_4;replace hx170_5:=(HB.out.cell (wB w _ hx170_5)).trans hx170_5;replace p170:=eq_true p170;replace q170:=eq_true q170))
  go_ret2
  exact ⟨by first|rfl|(simp [errW_none,errW_some] <;> rfl)|(simp only [← hji17];first|rfl|(simp [errW_none,errW_some] <;> rfl))|(simp [*,errW_none,errW_some] <;> rfl),by repeat (first|(with_reducible first|exact HB.out|apply bL|apply pN|apply bE)|exact HB.out)⟩
 case rest =>
  clear HC5
  obtain ⟨kq,HA,HJ4,HB⟩:=hcut
  cases kq with
  | zero=>exact absurd HA.out (by simp [book_Usage.j0])
  | succ kj4 =>
   have H:=HA.out
   clear HA
   simp only [book_Usage.j0] at H
   have H':=Am H
   clear H
   go_wp2_with (first|((with_reducible refine gD (N:=10) rfl ?_);(try (refine gate_guard (by rfl) ?_;dsimp only));refine box_event ?hg (N:=10) ?hd (cs:=#[.int .i64 0,.int .i64 0]) (t:=64) ?hr ?_;(case hd=>rfl);(case hg=>rfl);(case hr=>first|(go_simp;done)|(go_simp;rfl));intro gb171 hg w25 hbox hb;have n0_:=Am (below_step (by repeat (first|(with_reducible first|exact HB.out|apply bL|apply pN|apply bE)|exact HB.out)) hb);have n1_:=Am (hbox);have n2_:=Am ((by rw [hg];exact (bZ (by repeat (first|(with_reducible first|exact HB.out|apply bL|apply pN|apply bE)|exact HB.out))) : w.heap.size≤gb171));have n3_:=n2_;clear HB;have HB:=n0_;have BK171:=n1_;have GW171:=n2_;have GE171:=n3_;clear n0_ n1_ n2_ n3_;clear hb hbox hg))
   go_loopg [50] kj4 (fun kq v50 w'=>∃ (x50_2 : Int) (x172000_2 : Int) (x172001_2 : Int),v50 = .int .i64 x50_2∧Aside0 (book_Usage.l0 kq a1 a2 a3 l0 (l0.length : Int) x50_2 x172000_2 x172001_2 = some (r1,r2))∧Aside0 (kq≤kj4)∧Aside0 (w'.heap[gb171]? = some (.cells #[.int .i64 x172000_2,.int .i64 x172001_2] 64 (0,0)))∧Aside0 (Below w.heap.size w w'))
   case atStart=>exact ⟨(0),(0),(0),(by first|rfl|(simp;done)|(simp [*];done)),H',⟨Nat.le_refl _⟩,⟨by (with_reducible repeat (first|refine bN ?_ _|refine bD ?_|refine bA ?_ _));exact BK171.out⟩,⟨by repeat (first|(with_reducible first|exact HB.out|apply bL|apply pN|apply bE|refine bS ?_ GE171.out)|exact HB.out)⟩⟩
   case round =>
    clear H'
    obtain ⟨x50_2,x172000_2,x172001_2,rfl,HA,HK2,BK171,HB⟩:=hrel
    cases gk with
    | zero=>exact absurd HA.out (by simp [book_Usage.l0])
    | succ k2 =>
     have H:=HA.out
     clear HA
     simp only [book_Usage.l0] at H
     by_cases c26 : x50_2 < (l0.length : Int)
     rotate_left
     ·rw [if_neg c26] at H
      have c26b0 : decide (x50_2 < (l0.length : Int)) = false:=decide_eq_false c26
      clear c26
      replace H:=oB H
      obtain ⟨⟨t177,t178,t179⟩,A400,H⟩:=H
      replace H : (some (t177,0)) = some (r1,r2):=H
      have A40:=Am A400
      clear A400
      simp only [Option.some.injEq,Prod.mk.injEq] at H
      obtain ⟨rfl,rfl⟩:=H
      obtain ⟨X41_0,X41_1,Y41_0,Y41_1⟩:=kc2 (w:=wr) (g:=gb171) BK171.out
      go_wp2_with (first|((with_reducible refine gC (f:=29) rfl ?_);refine goesL_ (some 76) rfl rfl Tryd.func29 (by kernel_rfl) rfl #[.agg #[.int .i64 x172000_2,.int .i64 x172001_2],.int .i64 a2,.int .i64 0,.int .i64 a3] rfl (by (try simp only [mT,mC,mN]);first|done|rfl|(simp only [lD,lT];rfl)) ?_;(with_reducible refine (decay_Charge.calls k2 x172000_2 x172001_2 a2 0 a3 t177 t178 t179 _ A40.out).mono ?_);rintro e w42 ⟨rfl,hb⟩;refine ⟨_,rfl,?_⟩;have n0_:=Am (blk_below (g:=gb171) (by (with_reducible repeat (first|refine bN ?_ _|refine bD ?_|refine bA ?_ _));exact BK171.out) hb);have n1_:=Am (below_step (by repeat (first|(with_reducible first|exact HB.out|apply bL|apply pN|apply bE|refine bS ?_ GE171.out)|exact HB.out)) hb);clear BK171;clear HB;have BK171:=n0_;have HB:=n1_;clear n0_ n1_;obtain ⟨X43_0,X43_1,Y43_0,Y43_1⟩:=kc2 (w:=w42) (g:=gb171) BK171.out))
      go_ret2
      exact ⟨by first|rfl|(simp [errW_none,errW_some] <;> rfl)|(simp [*,errW_none,errW_some] <;> rfl),by repeat (first|(with_reducible first|exact HB.out|apply bL|apply pN|apply bE|refine bS ?_ GE171.out)|exact HB.out)⟩
     rw [if_pos c26] at H
     have c26b0 : decide (x50_2 < (l0.length : Int)) = true:=decide_eq_true c26
     clear c26
     by_cases c27 : 0≤x50_2
     rotate_left
     ·rw [if_neg c27] at H
      exact absurd H (by simp)
     rw [if_pos c27] at H
     have c27b0 : decide (0≤x50_2) = true:=decide_eq_true c27
     clear c27
     by_cases c28 : x50_2 < (l0.length : Int)
     rotate_left
     ·rw [if_neg c28] at H
      exact absurd H (by simp)
     rw [if_pos c28] at H
     have c28b0 : decide (x50_2 < (l0.length : Int)) = true:=decide_eq_true c28
     clear c28
     by_cases c29 : ((rd_T24 l0 x50_2).f1).toList = a1.toList
     rotate_left
     ·rw [if_neg c29] at H
      have c29b0 : (((rd_T24 l0 x50_2).f1).toList == a1.toList) = false:=beq_eq_false_iff_ne.mpr c29
      have c29b1 : (((rd_T24 l0 x50_2).f1).toList != a1.toList) = true:=bne_iff_ne.mpr c29
      have H':=Am H
      clear H
      have p172 : 0≤(x50_2 : Int):=of_decide_eq_true (by first|(with_reducible assumption)|assumption)
      have q172 : x50_2 < (l0.length : Int):=of_decide_eq_true (by first|(with_reducible assumption)|assumption)
      obtain ⟨ad172,e172,hx172_0,hx172_1,hx172_2,hx172_3,hx172_4,hx172_5⟩:=at_T24 HR0.out x50_2 p172 q172
      cases e172
      replace hx172_0:=(HB.out.cell (wB w _ hx172_0)).trans hx172_0
      replace hx172_1:=(HB.out.cell (wB w _ hx172_1)).trans hx172_1
      replace hx172_2:=(HB.out.cell (wB w _ hx172_2)).trans hx172_2
      replace hx172_3:=(HB.out.cell (wB w _ hx172_3)).trans hx172_3
      replace hx172_4:=(HB.out.cell (wB w _ hx172_4)).trans hx172_4
      replace hx172_5:=(HB.out.cell (wB w _ hx172_5)).trans hx172_5
      replace p172:=eq_true p172
      replace q172:=eq_true q172
      go_wp2_with (first|((with_reducible refine gD (N:=12) rfl ?_);(try (refine gate_guard (by rfl) ?_;dsimp only));refine box_event ?hg (N:=12) ?hd (cs:=#[.int .u32 0,.string (⟨#[]⟩ : ByteArray),.int .i64 0,.int .i64 0,.int .i64 0,.int .i64 0]) (t:=24) ?hr ?_;(case hd=>rfl);(case hg=>rfl);(case hr=>first|(go_simp;done)|(go_simp;rfl));intro gb173 hg w37 hbox hb;have n0_:=Am (blk_below (g:=gb171) (by (with_reducible repeat (first|refine bN ?_ _|refine bD ?_|refine bA ?_ _));exact BK171.out) hb);have n1_:=Am (below_step (by repeat (first|(with_reducible first|exact HB.out|apply bL|apply pN|apply bE|refine bS ?_ GE171.out)|exact HB.out)) hb);have n2_:=Am (hbox);have n3_:=Am ((by rw [hg];exact (bZ (by repeat (first|(with_reducible first|exact HB.out|apply bL|apply pN|apply bE|refine bS ?_ GE171.out)|exact HB.out))) : w.heap.size≤gb173));have n4_:=n3_;have n5_:=Am ((by rw [hg];exact Nat.ne_of_lt (blk_lt (g:=gb171) (by (with_reducible repeat (first|refine bN ?_ _|refine bD ?_|refine bA ?_ _));exact BK171.out)) : gb171 ≠ gb173));have n6_:=Am ((by rw [hg];exact Nat.ne_of_gt (blk_lt (g:=gb171) (by (with_reducible repeat (first|refine bN ?_ _|refine bD ?_|refine bA ?_ _));exact BK171.out)) : gb173 ≠ gb171));clear BK171;clear HB;have BK171:=n0_;have HB:=n1_;have BK173:=n2_;have GW173:=n3_;have GE173:=n4_;have NB171_173:=n5_;have NB173_171:=n6_;clear n0_ n1_ n2_ n3_ n4_ n5_ n6_;clear hb hbox hg;have hnb38:=NB173_171.out;have hnc38:=NB171_173.out;obtain ⟨X39_0,X39_1,X39_2,X39_3,X39_4,X39_5,Y39_0,Y39_1,Y39_2,Y39_3,Y39_4,Y39_5⟩:=kc6 (w:=w37) (g:=gb173) BK173.out))
      go_roundg k2
      case measure=>have:=HJ4.out;have:=HK2.out;omega
      case rel=>exact ⟨(wrap64 (x50_2 + 1)),(x172000_2),(x172001_2),(by first|rfl|(simp;done)|(simp [*];done)),H',⟨by have:=HJ4.out;have:=HK2.out;omega⟩,⟨by (with_reducible repeat (first|refine bN ?_ _|refine bD ?_|refine bA ?_ _));refine blk_far ?_ NB171_173.out _;(with_reducible repeat (first|refine bN ?_ _|refine bD ?_|refine bA ?_ _));refine blk_far ?_ NB171_173.out _;(with_reducible repeat (first|refine bN ?_ _|refine bD ?_|refine bA ?_ _));refine blk_far ?_ NB171_173.out _;(with_reducible repeat (first|refine bN ?_ _|refine bD ?_|refine bA ?_ _));refine blk_far ?_ NB171_173.out _;(with_reducible repeat (first|refine bN ?_ _|refine bD ?_|refine bA ?_ _));refine blk_far ?_ NB171_173.out _;(with_reducible repeat (first|refine bN ?_ _|refine bD ?_|refine bA ?_ _));refine blk_far ?_ NB171_173.out _;(with_reducible repeat (first|refine bN ?_ _|refine bD ?_|refine bA ?_ _));exact BK171.out⟩,⟨by repeat (first|(with_reducible first|exact HB.out|apply bL|apply pN|apply bE|refine bS ?_ GE171.out|refine bS ?_ GE173.out)|exact HB.out)⟩⟩
     rw [if_pos c29] at H
     have c29b0 : (((rd_T24 l0 x50_2).f1).toList == a1.toList) = true:=beq_iff_eq.mpr c29
     have c29b1 : (((rd_T24 l0 x50_2).f1).toList != a1.toList) = false:=bne_eq_false_iff_eq.mpr c29
     clear c29
     replace H:=oB H
     obtain ⟨⟨t174,t175,t176⟩,A300,H⟩:=H
     replace H : (book_Usage.l0 k2 a1 a2 a3 l0 (l0.length : Int) (wrap64 (x50_2 + 1)) t174 t175) = some (r1,r2):=H
     have A30:=Am A300
     clear A300
     have H':=Am H
     clear H
     have p172 : 0≤(x50_2 : Int):=of_decide_eq_true (by first|(with_reducible assumption)|assumption)
     have q172 : x50_2 < (l0.length : Int):=of_decide_eq_true (by first|(with_reducible assumption)|assumption)
     obtain ⟨ad172,e172,hx172_0,hx172_1,hx172_2,hx172_3,hx172_4,hx172_5⟩:=at_T24 HR0.out x50_2 p172 q172
     cases e172
     replace hx172_0:=(HB.out.cell (wB w _ hx172_0)).trans hx172_0
     replace hx172_1:=(HB.out.cell (wB w _ hx172_1)).trans hx172_1
     replace hx172_2:=(HB.out.cell (wB w _ hx172_2)).trans hx172_2
     replace hx172_3:=(HB.out.cell (wB w _ hx172_3)).trans hx172_3
     replace hx172_4:=(HB.out.cell (wB w _ hx172_4)).trans hx172_4
     replace hx172_5:=(HB.out.cell (wB w _ hx172_5)).trans hx172_5
     replace p172:=eq_true p172
     replace q172:=eq_true q172
     go_wp2_with (first|((with_reducible refine gD (N:=12) rfl ?_);(try (refine gate_guard (by rfl) ?_;dsimp only));refine box_event ?hg (N:=12) ?hd (cs:=#[.int .u32 0,.string (⟨#[]⟩ : ByteArray),.int .i64 0,.int .i64 0,.int .i64 0,.int .i64 0]) (t:=24) ?hr ?_;(case hd=>rfl);(case hg=>rfl);(case hr=>first|(go_simp;done)|(go_simp;rfl));intro gb173 hg w31 hbox hb;have n0_:=Am (blk_below (g:=gb171) (by (with_reducible repeat (first|refine bN ?_ _|refine bD ?_|refine bA ?_ _));exact BK171.out) hb);have n1_:=Am (below_step (by repeat (first|(with_reducible first|exact HB.out|apply bL|apply pN|apply bE|refine bS ?_ GE171.out)|exact HB.out)) hb);have n2_:=Am (hbox);have n3_:=Am ((by rw [hg];exact (bZ (by repeat (first|(with_reducible first|exact HB.out|apply bL|apply pN|apply bE|refine bS ?_ GE171.out)|exact HB.out))) : w.heap.size≤gb173));have n4_:=n3_;have n5_:=Am ((by rw [hg];exact Nat.ne_of_lt (blk_lt (g:=gb171) (by (with_reducible repeat (first|refine bN ?_ _|refine bD ?_|refine bA ?_ _));exact BK171.out)) : gb171 ≠ gb173));have n6_:=Am ((by rw [hg];exact Nat.ne_of_gt (blk_lt (g:=gb171) (by (with_reducible repeat (first|refine bN ?_ _|refine bD ?_|refine bA ?_ _));exact BK171.out)) : gb173 ≠ gb171));clear BK171;clear HB;have BK171:=n0_;have HB:=n1_;have BK173:=n2_;have GW173:=n3_;have GE173:=n4_;have NB171_173:=n5_;have NB173_171:=n6_;clear n0_ n1_ n2_ n3_ n4_ n5_ n6_;clear hb hbox hg;have hnb32:=NB173_171.out;have hnc32:=NB171_173.out;obtain ⟨X33_0,X33_1,X33_2,X33_3,X33_4,X33_5,Y33_0,Y33_1,Y33_2,Y33_3,Y33_4,Y33_5⟩:=kc6 (w:=w31) (g:=gb173) BK173.out;obtain ⟨X34_0,X34_1,Y34_0,Y34_1⟩:=kc2 (w:=w31) (g:=gb171) BK171.out)|((with_reducible refine gC (f:=29) rfl ?_);refine goesL_ (some 68) rfl rfl Tryd.func29 (by kernel_rfl) rfl #[.agg #[.int .i64 x172000_2,.int .i64 x172001_2],.int .i64 ((rd_T24 l0 x50_2).f5),.int .i64 (wrap64 (((rd_T24 l0 x50_2).f2) * ((rd_T24 l0 x50_2).f3))),.int .i64 a3] rfl (by (try simp only [mT,mC,mN]);first|done|rfl|(simp only [lD,lT];rfl)) ?_;(with_reducible refine (decay_Charge.calls k2 x172000_2 x172001_2 ((rd_T24 l0 x50_2).f5) (wrap64 (((rd_T24 l0 x50_2).f2) * ((rd_T24 l0 x50_2).f3))) a3 t174 t175 t176 _ A30.out).mono ?_);rintro e w35 ⟨rfl,hb⟩;refine ⟨_,rfl,?_⟩;have n0_:=Am (blk_below (g:=gb171) (o:=.cells #[.int .i64 x172000_2,.int .i64 x172001_2] 64 (0,0)) (by (with_reducible repeat (first|refine bN ?_ _|refine bD ?_|refine bA ?_ _));refine blk_far ?_ NB171_173.out _;(with_reducible repeat (first|refine bN ?_ _|refine bD ?_|refine bA ?_ _));refine blk_far ?_ NB171_173.out _;(with_reducible repeat (first|refine bN ?_ _|refine bD ?_|refine bA ?_ _));refine blk_far ?_ NB171_173.out _;(with_reducible repeat (first|refine bN ?_ _|refine bD ?_|refine bA ?_ _));refine blk_far ?_ NB171_173.out _;(with_reducible repeat (first|refine bN ?_ _|refine bD ?_|refine bA ?_ _));refine blk_far ?_ NB171_173.out _;(with_reducible repeat (first|refine bN ?_ _|refine bD ?_|refine bA ?_ _));refine blk_far ?_ NB171_173.out _;(with_reducible repeat (first|refine bN ?_ _|refine bD ?_|refine bA ?_ _));exact BK171.out) hb);have n1_:=Am (blk_below (g:=gb173) (o:=.cells #[.int .u32 ((rd_T24 l0 x50_2).f0),.string ((rd_T24 l0 x50_2).f1),.int .i64 ((rd_T24 l0 x50_2).f2),.int .i64 ((rd_T24 l0 x50_2).f3),.int .i64 ((rd_T24 l0 x50_2).f4),.int .i64 ((rd_T24 l0 x50_2).f5)] 24 (0,0)) (by (with_reducible repeat (first|refine bN ?_ _|refine bD ?_|refine bA ?_ _));refine blk_put (cs:=#[.int .u32 ((rd_T24 l0 x50_2).f0),.string ((rd_T24 l0 x50_2).f1),.int .i64 ((rd_T24 l0 x50_2).f2),.int .i64 ((rd_T24 l0 x50_2).f3),.int .i64 ((rd_T24 l0 x50_2).f4),.int .i64 0]) ?_ 5 _ rfl;(with_reducible repeat (first|refine bN ?_ _|refine bD ?_|refine bA ?_ _));refine blk_put (cs:=#[.int .u32 ((rd_T24 l0 x50_2).f0),.string ((rd_T24 l0 x50_2).f1),.int .i64 ((rd_T24 l0 x50_2).f2),.int .i64 ((rd_T24 l0 x50_2).f3),.int .i64 0,.int .i64 0]) ?_ 4 _ rfl;(with_reducible repeat (first|refine bN ?_ _|refine bD ?_|refine bA ?_ _));refine blk_put (cs:=#[.int .u32 ((rd_T24 l0 x50_2).f0),.string ((rd_T24 l0 x50_2).f1),.int .i64 ((rd_T24 l0 x50_2).f2),.int .i64 0,.int .i64 0,.int .i64 0]) ?_ 3 _ rfl;(with_reducible repeat (first|refine bN ?_ _|refine bD ?_|refine bA ?_ _));refine blk_put (cs:=#[.int .u32 ((rd_T24 l0 x50_2).f0),.string ((rd_T24 l0 x50_2).f1),.int .i64 0,.int .i64 0,.int .i64 0,.int .i64 0]) ?_ 2 _ rfl;(with_reducible repeat (first|refine bN ?_ _|refine bD ?_|refine bA ?_ _));refine blk_put (cs:=#[.int .u32 ((rd_T24 l0 x50_2).f0),.string (⟨#[]⟩ : ByteArray),.int .i64 0,.int .i64 0,.int .i64 0,.int .i64 0]) ?_ 1 _ rfl;(with_reducible repeat (first|refine bN ?_ _|refine bD ?_|refine bA ?_ _));refine blk_put (cs:=#[.int .u32 0,.string (⟨#[]⟩ : ByteArray),.int .i64 0,.int .i64 0,.int .i64 0,.int .i64 0]) ?_ 0 _ rfl;(with_reducible repeat (first|refine bN ?_ _|refine bD ?_|refine bA ?_ _));exact BK173.out) hb);have n2_:=Am (below_step (by repeat (first|(with_reducible first|exact HB.out|apply bL|apply pN|apply bE|refine bS ?_ GE171.out|refine bS ?_ GE173.out)|exact HB.out)) hb);clear BK171;clear BK173;clear HB;have BK171:=n0_;have BK173:=n1_;have HB:=n2_;clear n0_ n1_ n2_;obtain ⟨X36_0,X36_1,Y36_0,Y36_1⟩:=kc2 (w:=w35) (g:=gb171) BK171.out))
     go_roundg k2
     case measure=>have:=HJ4.out;have:=HK2.out;omega
     case rel=>exact ⟨(wrap64 (x50_2 + 1)),(t174),(t175),(by first|rfl|(simp;done)|(simp [*];done)),H',⟨by have:=HJ4.out;have:=HK2.out;omega⟩,⟨by (with_reducible repeat (first|refine bN ?_ _|refine bD ?_|refine bA ?_ _));refine blk_put (cs:=#[.int .i64 t174,.int .i64 x172001_2]) ?_ 1 _ rfl;(with_reducible repeat (first|refine bN ?_ _|refine bD ?_|refine bA ?_ _));refine blk_put (cs:=#[.int .i64 x172000_2,.int .i64 x172001_2]) ?_ 0 _ rfl;(with_reducible repeat (first|refine bN ?_ _|refine bD ?_|refine bA ?_ _));exact BK171.out⟩,⟨by repeat (first|(with_reducible first|exact HB.out|apply bL|apply pN|apply bE|refine bS ?_ GE171.out|refine bS ?_ GE173.out)|exact HB.out)⟩⟩
def gangerlaw20_known.f (k : Nat)  : Option (Bool):=(book_Parse.f k (⟨#[55,32,97,110,110,32,56,120,49,50,48,32,100,111,110,101,32,53,48,48,48]⟩ : ByteArray)).bind fun bt180=>((book_Line.f bt180.1 bt180.2.1 bt180.2.2.1 bt180.2.2.2.1 bt180.2.2.2.2.1 bt180.2.2.2.2.2.1).bind fun bt188=>((some (([(⟨1,(⟨#[97]⟩ : ByteArray),1,100,5,0⟩ : S24),(⟨2,(⟨#[97]⟩ : ByteArray),7,1,6,10⟩ : S24)] : List (S24)) : List (S24))).bind fun y190=>((book_Usage.f k y190 (⟨#[97]⟩ : ByteArray) 20 10).bind fun bt193=>((book_Parse.f k (⟨#[55,32,97,110,110,32,56,120,49,50,48,32,100,111,110,101]⟩ : ByteArray)).bind fun bt195=>(if bt180.2.2.2.2.2.2 = 0 then (if (bt180.1 == 7 && (bt180.2.1.toList == ([97,110,110] : List UInt8) && (bt180.2.2.1 == 8 && (bt180.2.2.2.1 == 120 && (bt180.2.2.2.2.1 == 5 && (bt180.2.2.2.2.2.1 == 5000)))))) = true then (if bt188.1.toList = ([55,32,97,110,110,32,56,120,49,50,48,32,100,111,110,101,32,53,48,48,48] : List UInt8) then (if bt188.2 = 0 then (if bt193.1 = 28 then (if bt193.2 = 0 then ((book_Total.f k y190 (⟨#[97]⟩ : ByteArray)).bind fun t203=>(if t203 = 107 then (if bt195.2.2.2.2.2.2 = 60 then ((book_Check.f k (([(⟨0,(⟨#[]⟩ : ByteArray),0,0,0,0⟩ : S24)] : List (S24)))).bind fun t207=>(some (t207 == 200))) else (none)) else (none))) else (none)) else (none)) else (none)) else (none)) else (none)) else (none))))))
theorem gangerlaw20_known.mono : ∀ k,LeO (gangerlaw20_known.f k ) (gangerlaw20_known.f (k + 1) ):=by
 intro  k
 unfold gangerlaw20_known.f
 repeat' first
   | (with_reducible exact book_Check.mono _ _)
   | (with_reducible exact book_Parse.mono _ _)
   | (with_reducible exact book_Total.mono _ _ _)
   | (with_reducible exact book_Usage.mono _ _ _ _ _)
   | (with_reducible exact LeO.refl _)
   | (with_reducible exact LeO.none _)
   | (with_reducible refine LeO.ite ?_ ?_)
   | (with_reducible refine LeO.bind ?_ (fun _=>?_))
   | exact book_Check.mono _ _
   | exact book_Parse.mono _ _
   | exact book_Total.mono _ _ _
   | exact book_Usage.mono _ _ _ _ _
   | exact LeO.none _
   | refine LeO.ite ?_ ?_
   | refine LeO.bind ?_ (fun _=>?_)
set_option maxHeartbeats 8000000 in
set_option maxRecDepth 100000 in
theorem gangerlaw20_known.calls (k : Nat)  (r : Bool) (w : World) (hG : Glob w) (h : gangerlaw20_known.f k  = some r) :
  Calls Tryd.prog 8 #[] w fun e w'=>e = .returned (.bool r)∧Below w.heap.size w w':=by
 have hu24:=Tryd.underlying24
 have HG:=Am hG
 clear hG
 have HB:=Am (Below.refl w.heap.size w)
 have H : ((book_Parse.f k (⟨#[55,32,97,110,110,32,56,120,49,50,48,32,100,111,110,101,32,53,48,48,48]⟩ : ByteArray)).bind fun bt180=>((book_Line.f bt180.1 bt180.2.1 bt180.2.2.1 bt180.2.2.2.1 bt180.2.2.2.2.1 bt180.2.2.2.2.2.1).bind fun bt188=>((some (([(⟨1,(⟨#[97]⟩ : ByteArray),1,100,5,0⟩ : S24),(⟨2,(⟨#[97]⟩ : ByteArray),7,1,6,10⟩ : S24)] : List (S24)) : List (S24))).bind fun y190=>((book_Usage.f k y190 (⟨#[97]⟩ : ByteArray) 20 10).bind fun bt193=>((book_Parse.f k (⟨#[55,32,97,110,110,32,56,120,49,50,48,32,100,111,110,101]⟩ : ByteArray)).bind fun bt195=>(if bt180.2.2.2.2.2.2 = 0 then (if (bt180.1 == 7 && (bt180.2.1.toList == ([97,110,110] : List UInt8) && (bt180.2.2.1 == 8 && (bt180.2.2.2.1 == 120 && (bt180.2.2.2.2.1 == 5 && (bt180.2.2.2.2.2.1 == 5000)))))) = true then (if bt188.1.toList = ([55,32,97,110,110,32,56,120,49,50,48,32,100,111,110,101,32,53,48,48,48] : List UInt8) then (if bt188.2 = 0 then (if bt193.1 = 28 then (if bt193.2 = 0 then ((book_Total.f k y190 (⟨#[97]⟩ : ByteArray)).bind fun t203=>(if t203 = 107 then (if bt195.2.2.2.2.2.2 = 60 then ((book_Check.f k (([(⟨0,(⟨#[]⟩ : ByteArray),0,0,0,0⟩ : S24)] : List (S24)))).bind fun t207=>(some (t207 == 200))) else (none)) else (none))) else (none)) else (none)) else (none)) else (none)) else (none)) else (none))))))) = some r:=h
 clear h
 replace H:=oB H
 obtain ⟨⟨t180,t181,t182,t183,t184,t185,t186⟩,A10,H⟩:=H
 replace H : ((book_Line.f t180 t181 t182 t183 t184 t185).bind fun bt188=>((some (([(⟨1,(⟨#[97]⟩ : ByteArray),1,100,5,0⟩ : S24),(⟨2,(⟨#[97]⟩ : ByteArray),7,1,6,10⟩ : S24)] : List (S24)) : List (S24))).bind fun y190=>((book_Usage.f k y190 (⟨#[97]⟩ : ByteArray) 20 10).bind fun bt193=>((book_Parse.f k (⟨#[55,32,97,110,110,32,56,120,49,50,48,32,100,111,110,101]⟩ : ByteArray)).bind fun bt195=>(if t186 = 0 then (if (t180 == 7 && (t181.toList == ([97,110,110] : List UInt8) && (t182 == 8 && (t183 == 120 && (t184 == 5 && (t185 == 5000)))))) = true then (if bt188.1.toList = ([55,32,97,110,110,32,56,120,49,50,48,32,100,111,110,101,32,53,48,48,48] : List UInt8) then (if bt188.2 = 0 then (if bt193.1 = 28 then (if bt193.2 = 0 then ((book_Total.f k y190 (⟨#[97]⟩ : ByteArray)).bind fun t203=>(if t203 = 107 then (if bt195.2.2.2.2.2.2 = 60 then ((book_Check.f k (([(⟨0,(⟨#[]⟩ : ByteArray),0,0,0,0⟩ : S24)] : List (S24)))).bind fun t207=>(some (t207 == 200))) else (none)) else (none))) else (none)) else (none)) else (none)) else (none)) else (none)) else (none)))))) = some r:=H
 have A1:=Am A10
 clear A10
 replace H:=oB H
 obtain ⟨⟨t188,t189⟩,A20,H⟩:=H
 replace H : ((some (([(⟨1,(⟨#[97]⟩ : ByteArray),1,100,5,0⟩ : S24),(⟨2,(⟨#[97]⟩ : ByteArray),7,1,6,10⟩ : S24)] : List (S24)) : List (S24))).bind fun y190=>((book_Usage.f k y190 (⟨#[97]⟩ : ByteArray) 20 10).bind fun bt193=>((book_Parse.f k (⟨#[55,32,97,110,110,32,56,120,49,50,48,32,100,111,110,101]⟩ : ByteArray)).bind fun bt195=>(if t186 = 0 then (if (t180 == 7 && (t181.toList == ([97,110,110] : List UInt8) && (t182 == 8 && (t183 == 120 && (t184 == 5 && (t185 == 5000)))))) = true then (if t188.toList = ([55,32,97,110,110,32,56,120,49,50,48,32,100,111,110,101,32,53,48,48,48] : List UInt8) then (if t189 = 0 then (if bt193.1 = 28 then (if bt193.2 = 0 then ((book_Total.f k y190 (⟨#[97]⟩ : ByteArray)).bind fun t203=>(if t203 = 107 then (if bt195.2.2.2.2.2.2 = 60 then ((book_Check.f k (([(⟨0,(⟨#[]⟩ : ByteArray),0,0,0,0⟩ : S24)] : List (S24)))).bind fun t207=>(some (t207 == 200))) else (none)) else (none))) else (none)) else (none)) else (none)) else (none)) else (none)) else (none))))) = some r:=H
 have A2:=Am A20
 clear A20
 obtain ⟨y190,hy190⟩ : ∃ y_ : List (S24),y_ = (([(⟨1,(⟨#[97]⟩ : ByteArray),1,100,5,0⟩ : S24),(⟨2,(⟨#[97]⟩ : ByteArray),7,1,6,10⟩ : S24)] : List (S24))):=⟨_,rfl⟩
 replace H : ((book_Usage.f k y190 (⟨#[97]⟩ : ByteArray) 20 10).bind fun bt193=>((book_Parse.f k (⟨#[55,32,97,110,110,32,56,120,49,50,48,32,100,111,110,101]⟩ : ByteArray)).bind fun bt195=>(if t186 = 0 then (if (t180 == 7 && (t181.toList == ([97,110,110] : List UInt8) && (t182 == 8 && (t183 == 120 && (t184 == 5 && (t185 == 5000)))))) = true then (if t188.toList = ([55,32,97,110,110,32,56,120,49,50,48,32,100,111,110,101,32,53,48,48,48] : List UInt8) then (if t189 = 0 then (if bt193.1 = 28 then (if bt193.2 = 0 then ((book_Total.f k y190 (⟨#[97]⟩ : ByteArray)).bind fun t203=>(if t203 = 107 then (if bt195.2.2.2.2.2.2 = 60 then ((book_Check.f k (([(⟨0,(⟨#[]⟩ : ByteArray),0,0,0,0⟩ : S24)] : List (S24)))).bind fun t207=>(some (t207 == 200))) else (none)) else (none))) else (none)) else (none)) else (none)) else (none)) else (none)) else (none)))) = some r:=by first|(rw [hy190];with_reducible exact H)|(have H2_:=(Option.bind_some _ _).symm.trans H;rw [hy190];with_reducible exact H2_)|(have H2_:=(Option.bind_some _ _).symm.trans H;with_reducible exact H2_)|with_reducible exact H|(rw [hy190];exact H)|exact H
 have Ny190:=Am hy190
 clear hy190
 replace H:=oB H
 obtain ⟨⟨t193,t194⟩,A30,H⟩:=H
 replace H : ((book_Parse.f k (⟨#[55,32,97,110,110,32,56,120,49,50,48,32,100,111,110,101]⟩ : ByteArray)).bind fun bt195=>(if t186 = 0 then (if (t180 == 7 && (t181.toList == ([97,110,110] : List UInt8) && (t182 == 8 && (t183 == 120 && (t184 == 5 && (t185 == 5000)))))) = true then (if t188.toList = ([55,32,97,110,110,32,56,120,49,50,48,32,100,111,110,101,32,53,48,48,48] : List UInt8) then (if t189 = 0 then (if t193 = 28 then (if t194 = 0 then ((book_Total.f k y190 (⟨#[97]⟩ : ByteArray)).bind fun t203=>(if t203 = 107 then (if bt195.2.2.2.2.2.2 = 60 then ((book_Check.f k (([(⟨0,(⟨#[]⟩ : ByteArray),0,0,0,0⟩ : S24)] : List (S24)))).bind fun t207=>(some (t207 == 200))) else (none)) else (none))) else (none)) else (none)) else (none)) else (none)) else (none)) else (none))) = some r:=H
 have A3:=Am A30
 clear A30
 replace H:=oB H
 obtain ⟨⟨t195,t196,t197,t198,t199,t200,t201⟩,A40,H⟩:=H
 replace H : (if t186 = 0 then (if (t180 == 7 && (t181.toList == ([97,110,110] : List UInt8) && (t182 == 8 && (t183 == 120 && (t184 == 5 && (t185 == 5000)))))) = true then (if t188.toList = ([55,32,97,110,110,32,56,120,49,50,48,32,100,111,110,101,32,53,48,48,48] : List UInt8) then (if t189 = 0 then (if t193 = 28 then (if t194 = 0 then ((book_Total.f k y190 (⟨#[97]⟩ : ByteArray)).bind fun t203=>(if t203 = 107 then (if t201 = 60 then ((book_Check.f k (([(⟨0,(⟨#[]⟩ : ByteArray),0,0,0,0⟩ : S24)] : List (S24)))).bind fun t207=>(some (t207 == 200))) else (none)) else (none))) else (none)) else (none)) else (none)) else (none)) else (none)) else (none)) = some r:=H
 have A4:=Am A40
 clear A40
 by_cases c5 : t186 = 0
 rotate_left
 ·rw [if_neg c5] at H
  exact absurd H (by simp)
 rw [if_pos c5] at H
 have c5b0 : (t186 == 0) = true:=beq_iff_eq.mpr c5
 have c5b1 : (t186 != 0) = false:=bne_eq_false_iff_eq.mpr c5
 clear c5
 by_cases c6 : (t180 == 7 && (t181.toList == ([97,110,110] : List UInt8) && (t182 == 8 && (t183 == 120 && (t184 == 5 && (t185 == 5000)))))) = true
 rotate_left
 ·rw [if_neg c6] at H
  exact absurd H (by simp)
 rw [if_pos c6] at H
 have c6b0 : (t180 == 7 && (t181.toList == ([97,110,110] : List UInt8) && (t182 == 8 && (t183 == 120 && (t184 == 5 && (t185 == 5000)))))) = true:=c6
 (try (have c6b1 : decide (t180 = 7 && (t181.toList == ([97,110,110] : List UInt8) && (t182 == 8 && (t183 == 120 && (t184 == 5 && (t185 == 5000)))))) = true:=by simpa using c6))
 (try (have c6b2 : (t180 == 7 && (t181.toList == ([97,110,110] : List UInt8) && (t182 == 8 && (t183 == 120 && (t184 == 5 && (t185 == 5000)))))) = true:=by simpa using c6))
 clear c6
 by_cases c7 : t188.toList = ([55,32,97,110,110,32,56,120,49,50,48,32,100,111,110,101,32,53,48,48,48] : List UInt8)
 rotate_left
 ·rw [if_neg c7] at H
  exact absurd H (by simp)
 rw [if_pos c7] at H
 have c7b0 : (t188.toList == ([55,32,97,110,110,32,56,120,49,50,48,32,100,111,110,101,32,53,48,48,48] : List UInt8)) = true:=beq_iff_eq.mpr c7
 have c7b1 : (t188.toList != ([55,32,97,110,110,32,56,120,49,50,48,32,100,111,110,101,32,53,48,48,48] : List UInt8)) = false:=bne_eq_false_iff_eq.mpr c7
 clear c7
 by_cases c8 : t189 = 0
 rotate_left
 ·rw [if_neg c8] at H
  exact absurd H (by simp)
 rw [if_pos c8] at H
 have c8b0 : (t189 == 0) = true:=beq_iff_eq.mpr c8
 have c8b1 : (t189 != 0) = false:=bne_eq_false_iff_eq.mpr c8
 clear c8
 by_cases c9 : t193 = 28
 rotate_left
 ·rw [if_neg c9] at H
  exact absurd H (by simp)
 rw [if_pos c9] at H
 have c9b0 : (t193 == 28) = true:=beq_iff_eq.mpr c9
 have c9b1 : (t193 != 28) = false:=bne_eq_false_iff_eq.mpr c9
 clear c9
 by_cases c10 : t194 = 0
 rotate_left
 ·rw [if_neg c10] at H
  exact absurd H (by simp)
 rw [if_pos c10] at H
 have c10b0 : (t194 == 0) = true:=beq_iff_eq.mpr c10
 have c10b1 : (t194 != 0) = false:=bne_eq_false_iff_eq.mpr c10
 clear c10
 replace H:=oB H
 obtain ⟨t203,A110,H⟩:=H
 try dsimp only at H
 have A11:=Am A110
 clear A110
 by_cases c12 : t203 = 107
 rotate_left
 ·rw [if_neg c12] at H
  exact absurd H (by simp)
 rw [if_pos c12] at H
 have c12b0 : (t203 == 107) = true:=beq_iff_eq.mpr c12
 have c12b1 : (t203 != 107) = false:=bne_eq_false_iff_eq.mpr c12
 clear c12
 by_cases c13 : t201 = 60
 rotate_left
 ·rw [if_neg c13] at H
  exact absurd H (by simp)
 rw [if_pos c13] at H
 have c13b0 : (t201 == 60) = true:=beq_iff_eq.mpr c13
 have c13b1 : (t201 != 60) = false:=bne_eq_false_iff_eq.mpr c13
 clear c13
 obtain ⟨y204,hy204⟩ : ∃ y_ : List (S24),y_ = (([(⟨0,(⟨#[]⟩ : ByteArray),0,0,0,0⟩ : S24)] : List (S24))):=⟨_,rfl⟩
 replace H : ((book_Check.f k y204).bind fun t207=>(some (t207 == 200))) = some r:=by first|(rw [hy204];with_reducible exact H)|(have H2_:=(Option.bind_some _ _).symm.trans H;rw [hy204];with_reducible exact H2_)|(have H2_:=(Option.bind_some _ _).symm.trans H;with_reducible exact H2_)|with_reducible exact H|(rw [hy204];exact H)|exact H
 have Ny204:=Am hy204
 clear hy204
 replace H:=oB H
 obtain ⟨t207,A140,H⟩:=H
 try dsimp only at H
 have A14:=Am A140
 clear A140
 obtain rfl:=Option.some.inj H
 go_enter Tryd.func8,Tryd.ntmps8
 go_wp2_with (first|((with_reducible refine gC (f:=10) rfl ?_);refine goesL_ (some 11) rfl rfl Tryd.func10 (by kernel_rfl) rfl #[.string (⟨#[55,32,97,110,110,32,56,120,49,50,48,32,100,111,110,101,32,53,48,48,48]⟩ : ByteArray)] rfl (by (try simp only [mT,mC,mN]);first|done|rfl|(simp only [lD,lT];rfl)) ?_;(with_reducible refine (book_Parse.calls k (⟨#[55,32,97,110,110,32,56,120,49,50,48,32,100,111,110,101,32,53,48,48,48]⟩ : ByteArray) t180 t181 t182 t183 t184 t185 t186 _ ?side1 A1.out).mono ?_);(case side1=>exact Glob.below HG.out (by repeat (first|(with_reducible first|exact HB.out|apply bL|apply pN|apply bE)|exact HB.out)));rintro e w15 ⟨rfl,hb⟩;refine ⟨_,rfl,?_⟩;have n0_:=Am (below_step (by repeat (first|(with_reducible first|exact HB.out|apply bL|apply pN|apply bE)|exact HB.out)) hb);clear HB;have HB:=n0_;clear n0_)|((with_reducible refine gD (N:=1) rfl ?_);(try (refine gate_guard (by rfl) ?_;dsimp only));refine box_event ?hg (N:=1) ?hd (cs:=#[.int .u32 0,.string (⟨#[]⟩ : ByteArray),.int .i64 0,.int .i64 0,.int .i64 0,.int .i64 0]) (t:=24) ?hr ?_;(case hd=>rfl);(case hg=>rfl);(case hr=>first|(go_simp;done)|(go_simp;rfl));intro gb187 hg w16 hbox hb;have n0_:=Am (below_step (by repeat (first|(with_reducible first|exact HB.out|apply bL|apply pN|apply bE)|exact HB.out)) hb);have n1_:=Am (hbox);have n2_:=Am ((by rw [hg];exact (bZ (by repeat (first|(with_reducible first|exact HB.out|apply bL|apply pN|apply bE)|exact HB.out))) : w.heap.size≤gb187));have n3_:=n2_;clear HB;have HB:=n0_;have BK187:=n1_;have GW187:=n2_;have GE187:=n3_;clear n0_ n1_ n2_ n3_;clear hb hbox hg;obtain ⟨X17_0,X17_1,X17_2,X17_3,X17_4,X17_5,Y17_0,Y17_1,Y17_2,Y17_3,Y17_4,Y17_5⟩:=kc6 (w:=w16) (g:=gb187) BK187.out)|((with_reducible refine gC (f:=9) rfl ?_);refine goesL_ (some 16) rfl rfl Tryd.func9 (by kernel_rfl) rfl #[.agg #[.int .u32 t180,.string t181,.int .i64 t182,.int .i64 t183,.int .i64 t184,.int .i64 t185]] rfl (by (try simp only [mT,mC,mN]);first|done|rfl|(simp only [lD,lT];rfl)) ?_;(with_reducible refine (book_Line.calls t180 t181 t182 t183 t184 t185 t188 t189 _ ?side1 A2.out).mono ?_);(case side1=>exact Glob.below HG.out (by repeat (first|(with_reducible first|exact HB.out|apply bL|apply pN|apply bE|refine bS ?_ GE187.out)|exact HB.out)));rintro e w18 ⟨rfl,hb⟩;refine ⟨_,rfl,?_⟩;have n0_:=Am (blk_below (g:=gb187) (o:=.cells #[.int .u32 t180,.string t181,.int .i64 t182,.int .i64 t183,.int .i64 t184,.int .i64 t185] 24 (0,0)) (by (with_reducible repeat (first|refine bN ?_ _|refine bD ?_|refine bA ?_ _));refine blk_put (cs:=#[.int .u32 t180,.string t181,.int .i64 t182,.int .i64 t183,.int .i64 t184,.int .i64 0]) ?_ 5 _ rfl;(with_reducible repeat (first|refine bN ?_ _|refine bD ?_|refine bA ?_ _));refine blk_put (cs:=#[.int .u32 t180,.string t181,.int .i64 t182,.int .i64 t183,.int .i64 0,.int .i64 0]) ?_ 4 _ rfl;(with_reducible repeat (first|refine bN ?_ _|refine bD ?_|refine bA ?_ _));refine blk_put (cs:=#[.int .u32 t180,.string t181,.int .i64 t182,.int .i64 0,.int .i64 0,.int .i64 0]) ?_ 3 _ rfl;(with_reducible repeat (first|refine bN ?_ _|refine bD ?_|refine bA ?_ _));refine blk_put (cs:=#[.int .u32 t180,.string t181,.int .i64 0,.int .i64 0,.int .i64 0,.int .i64 0]) ?_ 2 _ rfl;(with_reducible repeat (first|refine bN ?_ _|refine bD ?_|refine bA ?_ _));refine blk_put (cs:=#[.int .u32 t180,.string (⟨#[]⟩ : ByteArray),.int .i64 0,.int .i64 0,.int .i64 0,.int .i64 0]) ?_ 1 _ rfl;(with_reducible repeat (first|refine bN ?_ _|refine bD ?_|refine bA ?_ _));refine blk_put (cs:=#[.int .u32 0,.string (⟨#[]⟩ : ByteArray),.int .i64 0,.int .i64 0,.int .i64 0,.int .i64 0]) ?_ 0 _ rfl;(with_reducible repeat (first|refine bN ?_ _|refine bD ?_|refine bA ?_ _));exact BK187.out) hb);have n1_:=Am (below_step (by repeat (first|(with_reducible first|exact HB.out|apply bL|apply pN|apply bE|refine bS ?_ GE187.out)|exact HB.out)) hb);clear BK187;clear HB;have BK187:=n0_;have HB:=n1_;clear n0_ n1_)|((with_reducible refine gD (N:=21) rfl ?_);(try (refine gate_guard (by rfl) ?_;dsimp only));refine Kd.R_lit k24 _ 24 ?hg (N:=21) ?hd (xs:=([(⟨1,(⟨#[97]⟩ : ByteArray),1,100,5,0⟩ : S24),(⟨2,(⟨#[97]⟩ : ByteArray),7,1,6,10⟩ : S24)] : List (S24))) (inner:=[.int .u32 1,.string (⟨#[97]⟩ : ByteArray),.int .i64 1,.int .i64 100,.int .i64 5,.int .i64 0,.int .u32 2,.string (⟨#[97]⟩ : ByteArray),.int .i64 7,.int .i64 1,.int .i64 6,.int .i64 10]) (ok:=fun _=>True) (okp:=fun _=>True) ?hr ?hp (fun _ hk=>hk) trivial (Below.refl _ _) (Nat.le_refl _) (by simp) ?_;(case hd=>rfl);(case hg=>rfl);(case hr=>first|(go_simp;done)|(go_simp;rfl));(case hp=>exact (Reps.c6 (show Kd.M k24 _ _ _ (⟨1,(⟨#[97]⟩ : ByteArray),1,100,5,0⟩ : S24) [.int .u32 1,.string (⟨#[97]⟩ : ByteArray),.int .i64 1,.int .i64 100,.int .i64 5,.int .i64 0] from (k24_mkM _ _ _ (⟨1,(⟨#[97]⟩ : ByteArray),1,100,5,0⟩ : S24) )) (Reps.c6 (show Kd.M k24 _ _ _ (⟨2,(⟨#[97]⟩ : ByteArray),7,1,6,10⟩ : S24) [.int .u32 2,.string (⟨#[97]⟩ : ByteArray),.int .i64 7,.int .i64 1,.int .i64 6,.int .i64 10] from (k24_mkM _ _ _ (⟨2,(⟨#[97]⟩ : ByteArray),7,1,6,10⟩ : S24) )) (Reps.none _ _))));intro v191 w19 ho20 hb hg_ hnew_;clear hg_ hnew_;(first|rw [← Ny190.out] at ho20|(simp only [Int.reduceToNat] at ho20;rw [← Ny190.out] at ho20));have n0_:=Am (Kd.R_lower (Kd.R_newB ho20 (g:=gb187) (by (with_reducible repeat (first|refine bN ?_ _|refine bD ?_|refine bA ?_ _));exact BK187.out)) (bZ (by repeat (first|(with_reducible first|exact HB.out|apply bL|apply pN|apply bE|refine bS ?_ GE187.out)|exact HB.out))));have n1_:=Am (blk_below (g:=gb187) (by (with_reducible repeat (first|refine bN ?_ _|refine bD ?_|refine bA ?_ _));exact BK187.out) hb);have n2_:=Am (below_step (by repeat (first|(with_reducible first|exact HB.out|apply bL|apply pN|apply bE|refine bS ?_ GE187.out)|exact HB.out)) hb);clear BK187;clear HB;have HO192:=n0_;have BK187:=n1_;have HB:=n2_;clear n0_ n1_ n2_;clear hb ho20;obtain ⟨Ao21,co21,eo21⟩:=Kd.R_slice HO192.out;subst eo21)|((with_reducible refine gC (f:=14) rfl ?_);refine goesL_ (some 24) rfl rfl Tryd.func14 (by kernel_rfl) rfl #[.slice Ao21 y190.length co21,.string (⟨#[97]⟩ : ByteArray),.int .i64 20,.int .i64 10] rfl (by (try simp only [mT,mC,mN]);first|done|rfl|(simp only [lD,lT];rfl)) ?_;(with_reducible refine (book_Usage.calls k _ _ y190 (⟨#[97]⟩ : ByteArray) 20 10 t193 t194 _ ?side1 ?side2 ?side3 A3.out).mono ?_);(case side1=>exact Glob.below HG.out (by repeat (first|(with_reducible first|exact HB.out|apply bL|apply pN|apply bE|refine bS ?_ GE187.out)|exact HB.out)));(case side2=>repeat (first|exact (Kd.R_reads' HO192.out).2.2|(with_reducible refine Kd.C_alloc ?_ _)|(with_reducible refine Kd.C_drewN ?_ _)|(with_reducible refine Kd.C_drew ?_)));(case side3=>exact (Kd.R_reads' HO192.out).2.1);rintro e w22 ⟨rfl,hb⟩;refine ⟨_,rfl,?_⟩;have n0_:=Am (Kd.R_below (by (with_reducible repeat (first|apply Kd.R_alloc|apply Kd.R_drewN|apply Kd.R_drew));exact HO192.out) hb);have n1_:=Am (blk_below (g:=gb187) (by (with_reducible repeat (first|refine bN ?_ _|refine bD ?_|refine bA ?_ _));exact BK187.out) hb);have n2_:=Am (below_step (by repeat (first|(with_reducible first|exact HB.out|apply bL|apply pN|apply bE|refine bS ?_ GE187.out)|exact HB.out)) hb);clear HO192;clear BK187;clear HB;have HO192:=n0_;have BK187:=n1_;have HB:=n2_;clear n0_ n1_ n2_)|((with_reducible refine gC (f:=10) rfl ?_);refine goesL_ (some 28) rfl rfl Tryd.func10 (by kernel_rfl) rfl #[.string (⟨#[55,32,97,110,110,32,56,120,49,50,48,32,100,111,110,101]⟩ : ByteArray)] rfl (by (try simp only [mT,mC,mN]);first|done|rfl|(simp only [lD,lT];rfl)) ?_;(with_reducible refine (book_Parse.calls k (⟨#[55,32,97,110,110,32,56,120,49,50,48,32,100,111,110,101]⟩ : ByteArray) t195 t196 t197 t198 t199 t200 t201 _ ?side1 A4.out).mono ?_);(case side1=>exact Glob.below HG.out (by repeat (first|(with_reducible first|exact HB.out|apply bL|apply pN|apply bE|refine bS ?_ GE187.out)|exact HB.out)));rintro e w23 ⟨rfl,hb⟩;refine ⟨_,rfl,?_⟩;have n0_:=Am (Kd.R_below (by (with_reducible repeat (first|apply Kd.R_alloc|apply Kd.R_drewN|apply Kd.R_drew));exact HO192.out) hb);have n1_:=Am (blk_below (g:=gb187) (by (with_reducible repeat (first|refine bN ?_ _|refine bD ?_|refine bA ?_ _));exact BK187.out) hb);have n2_:=Am (below_step (by repeat (first|(with_reducible first|exact HB.out|apply bL|apply pN|apply bE|refine bS ?_ GE187.out)|exact HB.out)) hb);clear HO192;clear BK187;clear HB;have HO192:=n0_;have BK187:=n1_;have HB:=n2_;clear n0_ n1_ n2_)|((with_reducible refine gD (N:=8) rfl ?_);(try (refine gate_guard (by rfl) ?_;dsimp only));refine box_event ?hg (N:=8) ?hd (cs:=#[.int .u32 0,.string (⟨#[]⟩ : ByteArray),.int .i64 0,.int .i64 0,.int .i64 0,.int .i64 0]) (t:=24) ?hr ?_;(case hd=>rfl);(case hg=>rfl);(case hr=>first|(go_simp;done)|(go_simp;rfl));intro gb202 hg w24 hbox hb;have n0_:=Am (Kd.R_below (Kd.R_elderB (by (with_reducible repeat (first|apply Kd.R_alloc|apply Kd.R_drewN|apply Kd.R_drew));exact HO192.out) gb202 (Nat.le_of_eq hg.symm)) hb);have n1_:=Am (blk_below (g:=gb187) (by (with_reducible repeat (first|refine bN ?_ _|refine bD ?_|refine bA ?_ _));exact BK187.out) hb);have n2_:=Am (below_step (by repeat (first|(with_reducible first|exact HB.out|apply bL|apply pN|apply bE|refine bS ?_ GE187.out)|exact HB.out)) hb);have n3_:=Am (hbox);have n4_:=Am ((by rw [hg];exact (bZ (by repeat (first|(with_reducible first|exact HB.out|apply bL|apply pN|apply bE|refine bS ?_ GE187.out)|exact HB.out))) : w.heap.size≤gb202));have n5_:=n4_;have n6_:=Am ((by rw [hg];exact Nat.ne_of_lt (blk_lt (g:=gb187) (by (with_reducible repeat (first|refine bN ?_ _|refine bD ?_|refine bA ?_ _));exact BK187.out)) : gb187 ≠ gb202));have n7_:=Am ((by rw [hg];exact Nat.ne_of_gt (blk_lt (g:=gb187) (by (with_reducible repeat (first|refine bN ?_ _|refine bD ?_|refine bA ?_ _));exact BK187.out)) : gb202 ≠ gb187));clear HO192;clear BK187;clear HB;have HO192:=n0_;have BK187:=n1_;have HB:=n2_;have BK202:=n3_;have GW202:=n4_;have GE202:=n5_;have NB187_202:=n6_;have NB202_187:=n7_;clear n0_ n1_ n2_ n3_ n4_ n5_ n6_ n7_;clear hb hbox hg;have hnb25:=NB202_187.out;have hnc25:=NB187_202.out;obtain ⟨X26_0,X26_1,X26_2,X26_3,X26_4,X26_5,Y26_0,Y26_1,Y26_2,Y26_3,Y26_4,Y26_5⟩:=kc6 (w:=w24) (g:=gb202) BK202.out;obtain ⟨X27_0,X27_1,X27_2,X27_3,X27_4,X27_5,Y27_0,Y27_1,Y27_2,Y27_3,Y27_4,Y27_5⟩:=kc6 (w:=w24) (g:=gb187) BK187.out)|(go_at_call 13;(with_reducible refine (book_Total.calls k _ _ y190 (⟨#[97]⟩ : ByteArray) t203 _ ?side1 ?side2 ?side3 A11.out).mono ?_);(case side1=>exact Glob.below HG.out (by repeat (first|(with_reducible first|exact HB.out|apply bL|apply pN|apply bE|refine bS ?_ GE187.out|refine bS ?_ GE202.out)|exact HB.out)));(case side2=>refine (Kd.R_reads' (e:=24) (base:=w.heap.size) (ok:=fun k_=>((True∧k_ ≠ gb187)∧k_ ≠ gb202)) (n:=y190.length) (c:=co21) ?_).2.2;exact (by (with_reducible repeat (first|apply Kd.R_alloc|apply Kd.R_drewN|apply Kd.R_drew));exact (Kd.R_mono (Kd.R_far (p:=⟨gb202,5,none⟩) (Kd.R_far (p:=⟨gb202,4,none⟩) (Kd.R_far (p:=⟨gb202,3,none⟩) (Kd.R_far (p:=⟨gb202,2,none⟩) (Kd.R_far (p:=⟨gb202,1,none⟩) (Kd.R_far (p:=⟨gb202,0,none⟩) (Kd.R_mono HO192.out (fun k_ hk=>(⟨hk,hk.2⟩ : _∧k_ ≠ gb202))) (fun _ hk=>hk.2) (.int .u32 t195)) (fun _ hk=>hk.2) (.string t196)) (fun _ hk=>hk.2) (.int .i64 t197)) (fun _ hk=>hk.2) (.int .i64 t198)) (fun _ hk=>hk.2) (.int .i64 t199)) (fun _ hk=>hk.2) (.int .i64 t200)) (fun _ h_=>h_.1))));(case side3=>exact (Kd.R_reads' HO192.out).2.1);rintro e w28 ⟨rfl,hb⟩;have n0_:=Am (Kd.R_below (by (with_reducible repeat (first|apply Kd.R_alloc|apply Kd.R_drewN|apply Kd.R_drew));exact (Kd.R_mono (Kd.R_far (p:=⟨gb202,5,none⟩) (Kd.R_far (p:=⟨gb202,4,none⟩) (Kd.R_far (p:=⟨gb202,3,none⟩) (Kd.R_far (p:=⟨gb202,2,none⟩) (Kd.R_far (p:=⟨gb202,1,none⟩) (Kd.R_far (p:=⟨gb202,0,none⟩) (Kd.R_mono HO192.out (fun k_ hk=>(⟨hk,hk.2⟩ : _∧k_ ≠ gb202))) (fun _ hk=>hk.2) (.int .u32 t195)) (fun _ hk=>hk.2) (.string t196)) (fun _ hk=>hk.2) (.int .i64 t197)) (fun _ hk=>hk.2) (.int .i64 t198)) (fun _ hk=>hk.2) (.int .i64 t199)) (fun _ hk=>hk.2) (.int .i64 t200)) (fun _ h_=>h_.1))) hb);have n1_:=Am (blk_below (g:=gb187) (o:=.cells #[.int .u32 t180,.string t181,.int .i64 t182,.int .i64 t183,.int .i64 t184,.int .i64 t185] 24 (0,0)) (by (with_reducible repeat (first|refine bN ?_ _|refine bD ?_|refine bA ?_ _));refine blk_far ?_ NB187_202.out _;(with_reducible repeat (first|refine bN ?_ _|refine bD ?_|refine bA ?_ _));refine blk_far ?_ NB187_202.out _;(with_reducible repeat (first|refine bN ?_ _|refine bD ?_|refine bA ?_ _));refine blk_far ?_ NB187_202.out _;(with_reducible repeat (first|refine bN ?_ _|refine bD ?_|refine bA ?_ _));refine blk_far ?_ NB187_202.out _;(with_reducible repeat (first|refine bN ?_ _|refine bD ?_|refine bA ?_ _));refine blk_far ?_ NB187_202.out _;(with_reducible repeat (first|refine bN ?_ _|refine bD ?_|refine bA ?_ _));refine blk_far ?_ NB187_202.out _;(with_reducible repeat (first|refine bN ?_ _|refine bD ?_|refine bA ?_ _));exact BK187.out) hb);have n2_:=Am (blk_below (g:=gb202) (o:=.cells #[.int .u32 t195,.string t196,.int .i64 t197,.int .i64 t198,.int .i64 t199,.int .i64 t200] 24 (0,0)) (by (with_reducible repeat (first|refine bN ?_ _|refine bD ?_|refine bA ?_ _));refine blk_put (cs:=#[.int .u32 t195,.string t196,.int .i64 t197,.int .i64 t198,.int .i64 t199,.int .i64 0]) ?_ 5 _ rfl;(with_reducible repeat (first|refine bN ?_ _|refine bD ?_|refine bA ?_ _));refine blk_put (cs:=#[.int .u32 t195,.string t196,.int .i64 t197,.int .i64 t198,.int .i64 0,.int .i64 0]) ?_ 4 _ rfl;(with_reducible repeat (first|refine bN ?_ _|refine bD ?_|refine bA ?_ _));refine blk_put (cs:=#[.int .u32 t195,.string t196,.int .i64 t197,.int .i64 0,.int .i64 0,.int .i64 0]) ?_ 3 _ rfl;(with_reducible repeat (first|refine bN ?_ _|refine bD ?_|refine bA ?_ _));refine blk_put (cs:=#[.int .u32 t195,.string t196,.int .i64 0,.int .i64 0,.int .i64 0,.int .i64 0]) ?_ 2 _ rfl;(with_reducible repeat (first|refine bN ?_ _|refine bD ?_|refine bA ?_ _));refine blk_put (cs:=#[.int .u32 t195,.string (⟨#[]⟩ : ByteArray),.int .i64 0,.int .i64 0,.int .i64 0,.int .i64 0]) ?_ 1 _ rfl;(with_reducible repeat (first|refine bN ?_ _|refine bD ?_|refine bA ?_ _));refine blk_put (cs:=#[.int .u32 0,.string (⟨#[]⟩ : ByteArray),.int .i64 0,.int .i64 0,.int .i64 0,.int .i64 0]) ?_ 0 _ rfl;(with_reducible repeat (first|refine bN ?_ _|refine bD ?_|refine bA ?_ _));exact BK202.out) hb);have n3_:=Am (below_step (by repeat (first|(with_reducible first|exact HB.out|apply bL|apply pN|apply bE|refine bS ?_ GE187.out|refine bS ?_ GE202.out)|exact HB.out)) hb);clear HO192;clear BK187;clear BK202;clear HB;have HO192:=n0_;have BK187:=n1_;have BK202:=n2_;have HB:=n3_;clear n0_ n1_ n2_ n3_)|((with_reducible refine gD (N:=65) rfl ?_);(try (refine gate_guard (by rfl) ?_;dsimp only));refine Kd.R_lit k24 _ 24 ?hg (N:=65) ?hd (xs:=([(⟨0,(⟨#[]⟩ : ByteArray),0,0,0,0⟩ : S24)] : List (S24))) (inner:=[.int .u32 0,.string (⟨#[]⟩ : ByteArray),.int .i64 0,.int .i64 0,.int .i64 0,.int .i64 0]) (ok:=fun _=>True) (okp:=fun _=>True) ?hr ?hp (fun _ hk=>hk) trivial (Below.refl _ _) (Nat.le_refl _) (by simp) ?_;(case hd=>rfl);(case hg=>rfl);(case hr=>first|(go_simp;done)|(go_simp;rfl));(case hp=>exact (Reps.c6 (show Kd.M k24 _ _ _ (⟨0,(⟨#[]⟩ : ByteArray),0,0,0,0⟩ : S24) [.int .u32 0,.string (⟨#[]⟩ : ByteArray),.int .i64 0,.int .i64 0,.int .i64 0,.int .i64 0] from (k24_mkM _ _ _ (⟨0,(⟨#[]⟩ : ByteArray),0,0,0,0⟩ : S24) )) (Reps.none _ _)));intro v205 w29 ho30 hb hg_ hnew_;clear hg_ hnew_;(first|rw [← Ny204.out] at ho30|(simp only [Int.reduceToNat] at ho30;rw [← Ny204.out] at ho30));have n0_:=Am (Kd.R_elder' (by (with_reducible repeat (first|apply Kd.R_alloc|apply Kd.R_drewN|apply Kd.R_drew));exact HO192.out) (Kd.R_base ho30) hb);have n1_:=Am (Kd.R_lower (Kd.R_newB (Kd.R_newB (Kd.R_new' ho30 (Kd.R_lt (by (with_reducible repeat (first|apply Kd.R_alloc|apply Kd.R_drewN|apply Kd.R_drew));exact HO192.out))) (g:=gb187) (by (with_reducible repeat (first|refine bN ?_ _|refine bD ?_|refine bA ?_ _));exact BK187.out)) (g:=gb202) (by (with_reducible repeat (first|refine bN ?_ _|refine bD ?_|refine bA ?_ _));exact BK202.out)) (bZ (by repeat (first|(with_reducible first|exact HB.out|apply bL|apply pN|apply bE|refine bS ?_ GE187.out|refine bS ?_ GE202.out)|exact HB.out))));have n2_:=Am (blk_below (g:=gb187) (by (with_reducible repeat (first|refine bN ?_ _|refine bD ?_|refine bA ?_ _));exact BK187.out) hb);have n3_:=Am (blk_below (g:=gb202) (by (with_reducible repeat (first|refine bN ?_ _|refine bD ?_|refine bA ?_ _));exact BK202.out) hb);have n4_:=Am (below_step (by repeat (first|(with_reducible first|exact HB.out|apply bL|apply pN|apply bE|refine bS ?_ GE187.out|refine bS ?_ GE202.out)|exact HB.out)) hb);clear HO192;clear BK187;clear BK202;clear HB;have HO192:=n0_;have HO206:=n1_;have BK187:=n2_;have BK202:=n3_;have HB:=n4_;clear n0_ n1_ n2_ n3_ n4_;clear hb ho30;obtain ⟨Ao31,co31,eo31⟩:=Kd.R_slice HO206.out;subst eo31)|(go_at_call 12;(with_reducible refine (book_Check.calls k _ _ y204 t207 _ ?side1 ?side2 ?side3 A14.out).mono ?_);(case side1=>exact Glob.below HG.out (by repeat (first|(with_reducible first|exact HB.out|apply bL|apply pN|apply bE|refine bS ?_ GE187.out|refine bS ?_ GE202.out)|exact HB.out)));(case side2=>repeat (first|exact (Kd.R_reads' HO206.out).2.2|(with_reducible refine Kd.C_alloc ?_ _)|(with_reducible refine Kd.C_drewN ?_ _)|(with_reducible refine Kd.C_drew ?_)));(case side3=>exact (Kd.R_reads' HO206.out).2.1);rintro e w32 ⟨rfl,hb⟩;have n0_:=Am (Kd.R_below (by (with_reducible repeat (first|apply Kd.R_alloc|apply Kd.R_drewN|apply Kd.R_drew));exact HO192.out) hb);have n1_:=Am (Kd.R_below (by (with_reducible repeat (first|apply Kd.R_alloc|apply Kd.R_drewN|apply Kd.R_drew));exact HO206.out) hb);have n2_:=Am (blk_below (g:=gb187) (by (with_reducible repeat (first|refine bN ?_ _|refine bD ?_|refine bA ?_ _));exact BK187.out) hb);have n3_:=Am (blk_below (g:=gb202) (by (with_reducible repeat (first|refine bN ?_ _|refine bD ?_|refine bA ?_ _));exact BK202.out) hb);have n4_:=Am (below_step (by repeat (first|(with_reducible first|exact HB.out|apply bL|apply pN|apply bE|refine bS ?_ GE187.out|refine bS ?_ GE202.out)|exact HB.out)) hb);clear HO192;clear HO206;clear BK187;clear BK202;clear HB;have HO192:=n0_;have HO206:=n1_;have BK187:=n2_;have BK202:=n3_;have HB:=n4_;clear n0_ n1_ n2_ n3_ n4_))
 go_ret
 exact ⟨by first|rfl|(simp [errW_none,errW_some] <;> rfl)|(simp [*,errW_none,errW_some] <;> rfl),by repeat (first|(with_reducible first|exact HB.out|apply bL|apply pN|apply bE|refine bS ?_ GE187.out|refine bS ?_ GE202.out)|exact HB.out)⟩
end Go.Proofs.YtakdneopmojjdaaDoor.P
