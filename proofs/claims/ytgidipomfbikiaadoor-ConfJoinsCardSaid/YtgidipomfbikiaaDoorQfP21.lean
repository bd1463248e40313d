/- cut to what one law reaches -/
import Derived.Test.YtgidipomfbikiaaDoorQfShort
import Derived.Test.YtgidipomfbikiaaDoorQfP0
namespace Go.Proofs.YtgidipomfbikiaaDoor.P
open Go.RowKit Go.Proofs.YtgidipomfbikiaaDoorW.PrintWords Go.Proofs.YtgidipomfbikiaaDoorW.PrintLast Go.Proofs.YtgidipomfbikiaaDoorW.PrintMore
attribute [local go_sem] max2_int min2_int max_two min_two max_three min_three max_four min_four   -- for this text's walks alone
set_option linter.unusedVariables false
set_option linter.unusedSimpArgs false
attribute [local go_sem] isSome_setCell
def gangerlaw10_cuts.l0 : Nat→ByteArray→List Int→Int→Option (List Int)
 | 0,_,_,_=>none
 | k + 1,x0,x3,x4=>if x4 < (x0.size : Int) then (if 0≤x4 then (if (bt x0 x4) = 10 then (if x3.length < 17592186044416 then (gangerlaw10_cuts.l0 k x0 (x3 ++ [wrap64 (x4 + 1)]) (wrap64 (x4 + 1))) else (none)) else (gangerlaw10_cuts.l0 k x0 x3 (wrap64 (x4 + 1)))) else (none)) else (some x3)
def gangerlaw10_cuts.f (k : Nat) (a0 : ByteArray) : Option (List Int):=gangerlaw10_cuts.l0 k a0 (([0] : List Int)) 0
set_option maxHeartbeats 8000000 in
set_option maxRecDepth 100000 in
theorem gangerlaw10_cuts.calls (k : Nat) (a0 : ByteArray) (r : List Int) (w : World) (h : gangerlaw10_cuts.f k a0 = some r) :
  Calls Tryd.prog 18 #[.string a0] w fun e w'=>∃ v0_ : Value,e = .returned (v0_)∧Kd.R (Kd.int .i64) 3 w' w.heap.size (fun _=>True) v0_ r∧Below w.heap.size w w':=by
 have HB:=Am (Below.refl w.heap.size w)
 have H : (gangerlaw10_cuts.l0 k a0 (([0] : List Int)) 0) = some r:=h
 clear h
 obtain ⟨y457,hy457⟩ : ∃ y_ : List Int,y_ = (([0] : List Int)):=⟨_,rfl⟩
 replace H : (gangerlaw10_cuts.l0 k a0 y457 0) = some r:=by first|(rw [hy457];with_reducible exact H)|(have H2_:=(Option.bind_some _ _).symm.trans H;rw [hy457];with_reducible exact H2_)|(have H2_:=(Option.bind_some _ _).symm.trans H;with_reducible exact H2_)|with_reducible exact H|(rw [hy457];exact H)|exact H
 have Ny457:=Am hy457
 clear hy457
 have H':=Am H
 clear H
 go_enter Tryd.func18,Tryd.ntmps18
 go_wp2_with (first|((with_reducible refine gD (N:=5) rfl ?_);refine Kd.R_lit (Kd.int .i64) _ 3 ?hg (N:=5) ?hd (xs:=([0] : List Int)) (inner:=[.int .i64 0]) (ok:=fun _=>True) (okp:=fun _=>True) ?hr ?hp (fun _ hk=>hk) trivial (Below.refl _ _) (Nat.le_refl _) (by simp) ?_;(case hd=>rfl);(case hg=>rfl);(case hr=>first|(go_simp;done)|(go_simp;rfl));(case hp=>exact (Reps.one (show Kd.M (Kd.int .i64) _ _ _ 0 [.int .i64 0] from rfl) (Reps.none _ _)));intro v458 w2 ho3 hb hg_ hnew_;clear hg_ hnew_;(first|rw [← Ny457.out] at ho3|(simp only [Int.reduceToNat] at ho3;rw [← Ny457.out] at ho3));have n0_:=Am (Kd.R_lower ho3 (bZ (by repeat (first|(with_reducible first|exact HB.out|apply bL|apply pN|apply bE)|exact HB.out))));have n1_:=Am (below_step (by repeat (first|(with_reducible first|exact HB.out|apply bL|apply pN|apply bE)|exact HB.out)) hb);clear HB;have HO459:=n0_;have HB:=n1_;clear n0_ n1_;clear hb ho3))
 go_loopg [3,4] k (fun kq v3 v4 w'=>∃ (x3_1 : List Int) (x4_1 : Int),v4 = .int .i64 x4_1∧Aside0 (gangerlaw10_cuts.l0 kq a0 x3_1 x4_1 = some r)∧Aside0 (kq≤k)∧Aside0 (Kd.R (Kd.int .i64) 3 w' w.heap.size (fun _=>True) v3 x3_1)∧Aside0 (Below w.heap.size w w'))
 case atStart=>exact ⟨(y457),(0),(by first|rfl|(simp;done)|(simp [*];done)),H',⟨Nat.le_refl _⟩,⟨by (with_reducible repeat (first|apply Kd.R_alloc|apply Kd.R_drewN|apply Kd.R_drew));exact HO459.out⟩,⟨by repeat (first|(with_reducible first|exact HB.out|apply bL|apply pN|apply bE)|exact HB.out)⟩⟩
 case round =>
  clear H'
  obtain ⟨x3_1,x4_1,rfl,HA,HK1,HO_3,HB⟩:=hrel
  cases gk with
  | zero=>exact absurd HA.out (by simp [gangerlaw10_cuts.l0])
  | succ k1 =>
   have H:=HA.out
   clear HA
   simp only [gangerlaw10_cuts.l0] at H
   by_cases c4 : x4_1 < (a0.size : Int)
   rotate_left
   ·rw [if_neg c4] at H
    have c4b0 : decide (x4_1 < (a0.size : Int)) = false:=decide_eq_false c4
    clear c4
    obtain rfl:=Option.some.inj H
    go_wp2
    go_ret
    exact ⟨_,by first|rfl|(simp [errW_none,errW_some] <;> rfl)|(simp [*,errW_none,errW_some] <;> rfl),by (with_reducible repeat (first|apply Kd.R_alloc|apply Kd.R_drewN|apply Kd.R_drew));exact HO_3.out,by repeat (first|(with_reducible first|exact HB.out|apply bL|apply pN|apply bE)|exact HB.out)⟩
   rw [if_pos c4] at H
   have c4b0 : decide (x4_1 < (a0.size : Int)) = true:=decide_eq_true c4
   clear c4
   by_cases c5 : 0≤x4_1
   rotate_left
   ·rw [if_neg c5] at H
    exact absurd H (by simp)
   rw [if_pos c5] at H
   have c5b0 : decide (0≤x4_1) = true:=decide_eq_true c5
   clear c5
   by_cases c7 : (bt a0 x4_1) = 10
   rotate_left
   ·rw [if_neg c7] at H
    have c7b0 : ((bt a0 x4_1) == 10) = false:=beq_eq_false_iff_ne.mpr c7
    have c7b1 : ((bt a0 x4_1) != 10) = true:=bne_iff_ne.mpr c7
    have H':=Am H
    clear H
    have p6 : 0≤(x4_1 : Int):=of_decide_eq_true (by first|(with_reducible assumption)|assumption)
    have q6 : x4_1 < (a0.size : Int):=of_decide_eq_true (by first|(with_reducible assumption)|assumption)
    have hx6:=bt_at a0 x4_1
    replace p6:=eq_true p6
    replace q6:=eq_true q6
    go_wp2
    go_roundg k1
    case measure=>have:=HK1.out;omega
    case rel=>exact ⟨(x3_1),(wrap64 (x4_1 + 1)),(by first|rfl|(simp;done)|(simp [*];done)),H',⟨by have:=HK1.out;omega⟩,⟨by (with_reducible repeat (first|apply Kd.R_alloc|apply Kd.R_drewN|apply Kd.R_drew));exact HO_3.out⟩,⟨by repeat (first|(with_reducible first|exact HB.out|apply bL|apply pN|apply bE)|exact HB.out)⟩⟩
   rw [if_pos c7] at H
   have c7b0 : ((bt a0 x4_1) == 10) = true:=beq_iff_eq.mpr c7
   have c7b1 : ((bt a0 x4_1) != 10) = false:=bne_eq_false_iff_eq.mpr c7
   clear c7
   by_cases c8 : x3_1.length < 17592186044416
   rotate_left
   ·rw [if_neg c8] at H
    exact absurd H (by simp)
   rw [if_pos c8] at H
   have LMc8:=Am c8
   clear c8
   obtain ⟨y460,hy460⟩ : ∃ y_ : List Int,y_ = (x3_1 ++ [wrap64 (x4_1 + 1)]):=⟨_,rfl⟩
   replace H : (gangerlaw10_cuts.l0 k1 a0 y460 (wrap64 (x4_1 + 1))) = some r:=by first|(rw [hy460];with_reducible exact H)|(have H2_:=(Option.bind_some _ _).symm.trans H;rw [hy460];with_reducible exact H2_)|(have H2_:=(Option.bind_some _ _).symm.trans H;with_reducible exact H2_)|with_reducible exact H|(rw [hy460];exact H)|exact H
   have Ny460:=Am hy460
   clear hy460
   have H':=Am H
   clear H
   have p6 : 0≤(x4_1 : Int):=of_decide_eq_true (by first|(with_reducible assumption)|assumption)
   have q6 : x4_1 < (a0.size : Int):=of_decide_eq_true (by first|(with_reducible assumption)|assumption)
   have hx6:=bt_at a0 x4_1
   replace p6:=eq_true p6
   replace q6:=eq_true q6
   go_wp2_with (first|((with_reducible refine gate_builtin (b:=.append) (xs:=#[.tmp 16,.tmp 19]) rfl ?_);at_builtin;refine Kd.R_append (Kd.int .i64) (w0:=w) w.heap.size rfl (.tmp 16) (.tmp 19) 43 3 (.int .i64 0) 8 rfl Tryd.underlying43 info3 rfl (by decide) (by omega) u3 x3_1 (wrap64 (x4_1 + 1)) [.int .i64 (wrap64 (x4_1 + 1))] (fun _=>True) (fun _=>False) rfl rfl ?aP (fun _ hk=>hk.elim) ?aF ?aO ?aB ?aS ?aL ?_;(case aP=>exact rfl);(case aB=>exact (by repeat (first|(with_reducible first|exact HB.out|apply bL|apply pN|apply bE)|exact HB.out)));(case aF=>exact (fun _ _=>trivial));(case aO=>exact (by (with_reducible repeat (first|apply Kd.R_alloc|apply Kd.R_drewN|apply Kd.R_drew));exact HO_3.out));(case aS=>exact (bZ (by repeat (first|(with_reducible first|exact HB.out|apply bL|apply pN|apply bE)|exact HB.out))));(case aL=>have:=LMc8.out;omega);intro v461 w9 ho hb hg hat;rw [← Ny460.out] at ho;have n0_:=Am (hb);have n1_:=Am (ho);clear HB;clear HO_3;have HB:=n0_;have HO462:=n1_;clear n0_ n1_;clear ho hb hg hat))
   go_roundg k1
   case measure=>have:=HK1.out;omega
   case rel=>exact ⟨(y460),(wrap64 (x4_1 + 1)),(by first|rfl|(simp;done)|(simp [*];done)),H',⟨by have:=HK1.out;omega⟩,⟨by (with_reducible repeat (first|apply Kd.R_alloc|apply Kd.R_drewN|apply Kd.R_drew));exact HO462.out⟩,⟨by repeat (first|(with_reducible first|exact HB.out|apply bL|apply pN|apply bE)|exact HB.out)⟩⟩
end Go.Proofs.YtgidipomfbikiaaDoor.P
