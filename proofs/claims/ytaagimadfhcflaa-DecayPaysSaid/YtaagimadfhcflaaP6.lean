/- The machine's side of the laws of this seat: each function's plain form and its contract, written by a program of this session out of Lean's print of the loaded functions; no condition beyond what each statement says. -/
import Derived.Test.YtaagimadfhcflaaP0
import Derived.Test.YtaagimadfhcflaaP2
import Derived.Test.YtaagimadfhcflaaP3
import Derived.Test.YtaagimadfhcflaaP4
import Derived.Test.YtaagimadfhcflaaP5
namespace Go.Proofs.Ytaagimadfhcflaa.P
open Go.RowKit Go.Proofs.YtaagimadfhcflaaW.PrintWords Go.Proofs.YtaagimadfhcflaaW.PrintLast Go.Proofs.YtaagimadfhcflaaW.PrintMore
attribute [local go_sem] max2_int min2_int max_two min_two max_three min_three max_four min_four   -- for this text's walks alone
set_option linter.unusedVariables false
set_option linter.unusedSimpArgs false

attribute [local go_sem] isSome_setCell
/-! ### gangerref01_MulDiv: function 22 -/
mutual
def gangerref01_MulDiv.j0 : Nat → Int → Int → Int → Bool → Option (Int × Int)
  | 0, _, _, _, _ => none
  | k + 1, x0, x1, x2, x22 => if x22 = true then (some (0, 2)) else ((gangerref01_Of.f x0).bind fun bt172 => ((gangerref01_Of.f x1).bind fun bt175 => ((gangerref01_Product.f k bt172.1 bt172.2.1 bt172.2.2 bt175.1 bt175.2.1 bt175.2.2).bind fun bt178 => (gangerref01_MulDiv.l0 k x2 0 127 bt178.1 bt178.2.1 bt178.2.2 false 0 0))))
def gangerref01_MulDiv.l0 : Nat → Int → Int → Int → Bool → Int → Int → Bool → Int → Int → Option (Int × Int)
  | 0, _, _, _, _, _, _, _, _, _ => none
  | k + 1, x2, x10, x11, x182000, x182001, x182002, x183000, x183001, x183002 => if x11 ≥ 0 then (if 0 ≤ (IntKind.u64.wrap (Int.tmod x11 64)) then (if x11 ≥ 64 then (if 0 ≤ (IntKind.u64.wrap (wrap64 (x11 - 64))) then ((gangerref01_plus.f x183000 x183001 x183002 x183000 x183001 x183002).bind fun bt185 => (if (IntKind.u64.wrap ((IntKind.u64.wrap (x10 * 2)) + (Int.tmod (shr .u64 x182001 (IntKind.u64.wrap (wrap64 (x11 - 64)))) 2))) ≥ (IntKind.u64.wrap (x2)) then (gangerref01_MulDiv.l0 k x2 (IntKind.u64.wrap ((IntKind.u64.wrap ((IntKind.u64.wrap (x10 * 2)) + (Int.tmod (shr .u64 x182001 (IntKind.u64.wrap (wrap64 (x11 - 64)))) 2))) - (IntKind.u64.wrap (x2)))) (wrap64 (x11 - 1)) x182000 x182001 x182002 bt185.1 bt185.2.1 (IntKind.u64.wrap (bt185.2.2 + 1))) else (gangerref01_MulDiv.l0 k x2 (IntKind.u64.wrap ((IntKind.u64.wrap (x10 * 2)) + (Int.tmod (shr .u64 x182001 (IntKind.u64.wrap (wrap64 (x11 - 64)))) 2))) (wrap64 (x11 - 1)) x182000 x182001 x182002 bt185.1 bt185.2.1 bt185.2.2))) else (none)) else ((gangerref01_plus.f x183000 x183001 x183002 x183000 x183001 x183002).bind fun bt188 => (if (IntKind.u64.wrap ((IntKind.u64.wrap (x10 * 2)) + (Int.tmod (shr .u64 x182002 (IntKind.u64.wrap (Int.tmod x11 64))) 2))) ≥ (IntKind.u64.wrap (x2)) then (gangerref01_MulDiv.l0 k x2 (IntKind.u64.wrap ((IntKind.u64.wrap ((IntKind.u64.wrap (x10 * 2)) + (Int.tmod (shr .u64 x182002 (IntKind.u64.wrap (Int.tmod x11 64))) 2))) - (IntKind.u64.wrap (x2)))) (wrap64 (x11 - 1)) x182000 x182001 x182002 bt188.1 bt188.2.1 (IntKind.u64.wrap (bt188.2.2 + 1))) else (gangerref01_MulDiv.l0 k x2 (IntKind.u64.wrap ((IntKind.u64.wrap (x10 * 2)) + (Int.tmod (shr .u64 x182002 (IntKind.u64.wrap (Int.tmod x11 64))) 2))) (wrap64 (x11 - 1)) x182000 x182001 x182002 bt188.1 bt188.2.1 bt188.2.2)))) else (none)) else ((gangerref01_told.f k x183000 x183001 x183002).bind fun bt183 => (some (bt183.1, bt183.2)))
end
def gangerref01_MulDiv.f (k : Nat) (a0 : Int) (a1 : Int) (a2 : Int) : Option (Int × Int) := if a0 < 0 then (gangerref01_MulDiv.j0 k a0 a1 a2 true) else (if a1 < 0 then (gangerref01_MulDiv.j0 k a0 a1 a2 true) else (gangerref01_MulDiv.j0 k a0 a1 a2 (decide (a2 < 1))))
theorem gangerref01_MulDiv.mono_l : ∀ k, (∀ y0 y1 y2 y3, LeO (gangerref01_MulDiv.j0 k y0 y1 y2 y3) (gangerref01_MulDiv.j0 (k + 1) y0 y1 y2 y3)) ∧ (∀ y0 y1 y2 y3 y4 y5 y6 y7 y8, LeO (gangerref01_MulDiv.l0 k y0 y1 y2 y3 y4 y5 y6 y7 y8) (gangerref01_MulDiv.l0 (k + 1) y0 y1 y2 y3 y4 y5 y6 y7 y8))
  | 0 => ⟨fun _ _ _ _ r h => by simp [gangerref01_MulDiv.j0] at h, fun _ _ _ _ _ _ _ _ _ r h => by simp [gangerref01_MulDiv.l0] at h⟩
  | k + 1 => by
    obtain ⟨ih0, ih1⟩ := gangerref01_MulDiv.mono_l k
    refine ⟨?_, ?_⟩
    · intro y0 y1 y2 y3
      unfold gangerref01_MulDiv.j0
      repeat' first
      | (with_reducible exact ih0 _ _ _ _)
      | (with_reducible exact ih1 _ _ _ _ _ _ _ _ _)
      | (with_reducible exact gangerref01_Product.mono _ _ _ _ _ _ _)
      | (with_reducible exact gangerref01_told.mono _ _ _ _)
      | (with_reducible exact LeO.refl _)
      | (with_reducible exact LeO.none _)
      | (with_reducible refine LeO.ite ?_ ?_)
      | (with_reducible refine LeO.bind ?_ (fun _ => ?_))
      | exact ih0 _ _ _ _
      | exact ih1 _ _ _ _ _ _ _ _ _
      | exact gangerref01_Product.mono _ _ _ _ _ _ _
      | exact gangerref01_told.mono _ _ _ _
      | exact LeO.none _
      | refine LeO.ite ?_ ?_
      | refine LeO.bind ?_ (fun _ => ?_)
    · intro y0 y1 y2 y3 y4 y5 y6 y7 y8
      unfold gangerref01_MulDiv.l0
      repeat' first
      | (with_reducible exact ih0 _ _ _ _)
      | (with_reducible exact ih1 _ _ _ _ _ _ _ _ _)
      | (with_reducible exact gangerref01_Product.mono _ _ _ _ _ _ _)
      | (with_reducible exact gangerref01_told.mono _ _ _ _)
      | (with_reducible exact LeO.refl _)
      | (with_reducible exact LeO.none _)
      | (with_reducible refine LeO.ite ?_ ?_)
      | (with_reducible refine LeO.bind ?_ (fun _ => ?_))
      | exact ih0 _ _ _ _
      | exact ih1 _ _ _ _ _ _ _ _ _
      | exact gangerref01_Product.mono _ _ _ _ _ _ _
      | exact gangerref01_told.mono _ _ _ _
      | exact LeO.none _
      | refine LeO.ite ?_ ?_
      | refine LeO.bind ?_ (fun _ => ?_)
theorem gangerref01_MulDiv.mono : ∀ a0 a1 a2 k, LeO (gangerref01_MulDiv.f k a0 a1 a2) (gangerref01_MulDiv.f (k + 1) a0 a1 a2) := by
  intro a0 a1 a2 k
  obtain ⟨ih0, ih1⟩ := gangerref01_MulDiv.mono_l k
  unfold gangerref01_MulDiv.f
  repeat' first
      | (with_reducible exact ih0 _ _ _ _)
      | (with_reducible exact ih1 _ _ _ _ _ _ _ _ _)
      | (with_reducible exact gangerref01_Product.mono _ _ _ _ _ _ _)
      | (with_reducible exact gangerref01_told.mono _ _ _ _)
      | (with_reducible exact LeO.refl _)
      | (with_reducible exact LeO.none _)
      | (with_reducible refine LeO.ite ?_ ?_)
      | (with_reducible refine LeO.bind ?_ (fun _ => ?_))
      | exact ih0 _ _ _ _
      | exact ih1 _ _ _ _ _ _ _ _ _
      | exact gangerref01_Product.mono _ _ _ _ _ _ _
      | exact gangerref01_told.mono _ _ _ _
      | exact LeO.none _
      | refine LeO.ite ?_ ?_
      | refine LeO.bind ?_ (fun _ => ?_)
set_option maxHeartbeats 8000000 in
set_option maxRecDepth 100000 in
theorem gangerref01_MulDiv.calls (k : Nat) (a0 : Int) (a1 : Int) (a2 : Int) (r1 : Int) (r2 : Int) (w : World) (h : gangerref01_MulDiv.f k a0 a1 a2 = some (r1, r2)) :
    Calls Try.prog 22 #[.int .i64 a0, .int .i64 a1, .int .i64 a2] w fun e w' => e = .returned (.tuple #[.int .i64 r1, .int .i64 r2]) ∧ Below w.heap.size w w' := by
  have hu53 := Try.underlying53
  have HB := Aside0.mk (Below.refl w.heap.size w)
  have H : (if a0 < 0 then (gangerref01_MulDiv.j0 k a0 a1 a2 true) else (if a1 < 0 then (gangerref01_MulDiv.j0 k a0 a1 a2 true) else (gangerref01_MulDiv.j0 k a0 a1 a2 (decide (a2 < 1))))) = some (r1, r2) := h
  clear h
  have HC4 := Aside0.mk H
  clear H
  go_enter Try.func22, Try.ntmps22
  go_upto_region 1 with (fail)
  go_cut [22] (fun v22 wc => ∃ (kq : Nat) (x22_3 : Bool), v22 = .bool x22_3 ∧ Aside0 (gangerref01_MulDiv.j0 kq a0 a1 a2 x22_3 = some (r1, r2)) ∧ Aside0 (kq ≤ k) ∧ Aside0 (Below w.heap.size w wc))
  case first =>
    have H := HC4.out
    clear HC4
    by_cases c5 : a0 < 0
    · rw [if_pos c5] at H
      have c5b0 : decide (a0 < 0) = true := decide_eq_true c5
      clear c5
      (first | rw [c5b0] | (simp only [i64_w, i32_w]; rw [c5b0]) | skip)
      have H' := Aside0.mk H
      clear H
      go_wp2
      go_meet
      case rel => exact ⟨_, (true), (by first | rfl | (simp; done) | (simp [*]; done)), H', ⟨by first | omega | exact Nat.le_refl _⟩, ⟨by repeat (first | (with_reducible first | exact HB.out | apply below_alloc | apply pw_below_drewN | apply below_drew1) | exact HB.out)⟩⟩
    · rw [if_neg c5] at H
      have c5b0 : decide (a0 < 0) = false := decide_eq_false c5
      clear c5
      (first | rw [c5b0] | (simp only [i64_w, i32_w]; rw [c5b0]) | skip)
      by_cases c6 : a1 < 0
      · rw [if_pos c6] at H
        have c6b0 : decide (a1 < 0) = true := decide_eq_true c6
        clear c6
        have H' := Aside0.mk H
        clear H
        go_wp2
        go_meet
        case rel => exact ⟨_, (true), (by first | rfl | (simp; done) | (simp [*]; done)), H', ⟨by first | omega | exact Nat.le_refl _⟩, ⟨by repeat (first | (with_reducible first | exact HB.out | apply below_alloc | apply pw_below_drewN | apply below_drew1) | exact HB.out)⟩⟩
      · rw [if_neg c6] at H
        have c6b0 : decide (a1 < 0) = false := decide_eq_false c6
        clear c6
        have H' := Aside0.mk H
        clear H
        go_wp2
        go_meet
        case rel => exact ⟨_, (decide (a2 < 1)), (by first | rfl | (simp; done) | (simp [*]; done)), H', ⟨by first | omega | exact Nat.le_refl _⟩, ⟨by repeat (first | (with_reducible first | exact HB.out | apply below_alloc | apply pw_below_drewN | apply below_drew1) | exact HB.out)⟩⟩
  case rest =>
    clear HC4
    try clear c2
    try clear p2
    try clear c5
    try clear c5b0
    try clear c6
    try clear c6b0
    obtain ⟨kq, x22_3, rfl, HA, HJ3, HB⟩ := hcut
    cases kq with
    | zero => exact absurd HA.out (by simp [gangerref01_MulDiv.j0])
    | succ kj3 =>
      have H := HA.out
      clear HA
      simp only [gangerref01_MulDiv.j0] at H
      by_cases c7 : x22_3 = true
      · subst c7
        have H1 : (some (0, 2)) = some (r1, r2) := by rw [if_pos rfl] at H; exact H
        clear H
        have H := H1
        clear H1
        simp only [Option.some.injEq, Prod.mk.injEq] at H
        obtain ⟨rfl, rfl⟩ := H
        go_wp2
        go_ret2
        exact ⟨by first | rfl | (simp [errW_none, errW_some] <;> rfl) | (simp [*, errW_none, errW_some] <;> rfl), by repeat (first | (with_reducible first | exact HB.out | apply below_alloc | apply pw_below_drewN | apply below_drew1) | exact HB.out)⟩
      · replace c7 := Bool.eq_false_iff.mpr c7
        subst c7
        have H1 : ((gangerref01_Of.f a0).bind fun bt172 => ((gangerref01_Of.f a1).bind fun bt175 => ((gangerref01_Product.f kj3 bt172.1 bt172.2.1 bt172.2.2 bt175.1 bt175.2.1 bt175.2.2).bind fun bt178 => (gangerref01_MulDiv.l0 kj3 a2 0 127 bt178.1 bt178.2.1 bt178.2.2 false 0 0)))) = some (r1, r2) := by rw [if_neg (show ¬ (false = true) by decide)] at H; exact H
        clear H
        have H := H1
        clear H1
        replace H := Option.bind_eq_some_iff.mp H
        obtain ⟨⟨t172, t173, t174⟩, A80, H⟩ := H
        replace H : ((gangerref01_Of.f a1).bind fun bt175 => ((gangerref01_Product.f kj3 t172 t173 t174 bt175.1 bt175.2.1 bt175.2.2).bind fun bt178 => (gangerref01_MulDiv.l0 kj3 a2 0 127 bt178.1 bt178.2.1 bt178.2.2 false 0 0))) = some (r1, r2) := H
        have A8 := Aside0.mk A80
        clear A80
        replace H := Option.bind_eq_some_iff.mp H
        obtain ⟨⟨t175, t176, t177⟩, A90, H⟩ := H
        replace H : ((gangerref01_Product.f kj3 t172 t173 t174 t175 t176 t177).bind fun bt178 => (gangerref01_MulDiv.l0 kj3 a2 0 127 bt178.1 bt178.2.1 bt178.2.2 false 0 0)) = some (r1, r2) := H
        have A9 := Aside0.mk A90
        clear A90
        replace H := Option.bind_eq_some_iff.mp H
        obtain ⟨⟨t178, t179, t180⟩, A100, H⟩ := H
        replace H : (gangerref01_MulDiv.l0 kj3 a2 0 127 t178 t179 t180 false 0 0) = some (r1, r2) := H
        have A10 := Aside0.mk A100
        clear A100
        have H' := Aside0.mk H
        clear H
        go_wp2_with (first | ((with_reducible refine gate_callee (f := 26) rfl ?_); refine goesL_ (some 24) rfl rfl Try.func26 (by kernel_rfl) rfl #[.int .i64 a0] rfl (by (try simp only [List.map_toArray, List.map_cons, List.map_nil]); first | done | rfl | (simp only [List.length_drop, List.length_take]; rfl)) ?_; (with_reducible refine (gangerref01_Of.calls a0 t172 t173 t174 _ A8.out).mono ?_); rintro e w11 ⟨rfl, hb⟩; refine ⟨_, rfl, ?_⟩; have n0_ := Aside0.mk (below_step (by repeat (first | (with_reducible first | exact HB.out | apply below_alloc | apply pw_below_drewN | apply below_drew1) | exact HB.out)) hb); clear HB; have HB := n0_; clear n0_; (try clear hb); (try clear hb2); (try clear hk); (try clear hi)) | ((with_reducible refine gate_callee (f := 26) rfl ?_); refine goesL_ (some 26) rfl rfl Try.func26 (by kernel_rfl) rfl #[.int .i64 a1] rfl (by (try simp only [List.map_toArray, List.map_cons, List.map_nil]); first | done | rfl | (simp only [List.length_drop, List.length_take]; rfl)) ?_; (with_reducible refine (gangerref01_Of.calls a1 t175 t176 t177 _ A9.out).mono ?_); rintro e w12 ⟨rfl, hb⟩; refine ⟨_, rfl, ?_⟩; have n0_ := Aside0.mk (below_step (by repeat (first | (with_reducible first | exact HB.out | apply below_alloc | apply pw_below_drewN | apply below_drew1) | exact HB.out)) hb); clear HB; have HB := n0_; clear n0_; (try clear hb); (try clear hb2); (try clear hk); (try clear hi)) | ((with_reducible refine gate_callee (f := 29) rfl ?_); refine goesL_ (some 27) rfl rfl Try.func29 (by kernel_rfl) rfl #[.agg #[.bool t172, .int .u64 t173, .int .u64 t174], .agg #[.bool t175, .int .u64 t176, .int .u64 t177]] rfl (by (try simp only [List.map_toArray, List.map_cons, List.map_nil]); first | done | rfl | (simp only [List.length_drop, List.length_take]; rfl)) ?_; (with_reducible refine (gangerref01_Product.calls kj3 t172 t173 t174 t175 t176 t177 t178 t179 t180 _ A10.out).mono ?_); rintro e w13 ⟨rfl, hb⟩; refine ⟨_, rfl, ?_⟩; have n0_ := Aside0.mk (below_step (by repeat (first | (with_reducible first | exact HB.out | apply below_alloc | apply pw_below_drewN | apply below_drew1) | exact HB.out)) hb); clear HB; have HB := n0_; clear n0_; (try clear hb); (try clear hb2); (try clear hk); (try clear hi)) | ((with_reducible refine gate_dst (N := 8) rfl ?_); refine box_event ?hg (N := 8) ?hd (cs := #[.bool false, .int .u64 0, .int .u64 0]) (t := 53) ?hr ?_; (case hd => rfl); (case hg => rfl); (case hr => first | (go_simp; done) | (go_simp; rfl)); intro gb181 hg w14 hbox hb; have n0_ := Aside0.mk (below_step (by repeat (first | (with_reducible first | exact HB.out | apply below_alloc | apply pw_below_drewN | apply below_drew1) | exact HB.out)) hb); have n1_ := Aside0.mk (hbox); have n2_ := Aside0.mk ((by rw [hg]; exact (below_size (by repeat (first | (with_reducible first | exact HB.out | apply below_alloc | apply pw_below_drewN | apply below_drew1) | exact HB.out))) : w.heap.size ≤ gb181)); have n3_ := Aside0.mk ((by rw [hg]; exact (below_size (by repeat (first | (with_reducible first | exact HB.out | apply below_alloc | apply pw_below_drewN | apply below_drew1) | exact HB.out))) : w.heap.size ≤ gb181)); clear HB; have HB := n0_; have BK181 := n1_; have GW181 := n2_; have GE181 := n3_; clear n0_ n1_ n2_ n3_; clear hb hbox hg; have hcz15_0 : w14.cell? ⟨gb181, 0, none⟩ = some (.bool false) := (blk_cell BK181.out 0).trans rfl; have hcz15_1 : w14.cell? ⟨gb181, 1, none⟩ = some (.int .u64 0) := (blk_cell BK181.out 1).trans rfl; have hcz15_2 : w14.cell? ⟨gb181, 2, none⟩ = some (.int .u64 0) := (blk_cell BK181.out 2).trans rfl; have hfz15_0 := blk_frozen BK181.out 0; have hfz15_1 := blk_frozen BK181.out 1; have hfz15_2 := blk_frozen BK181.out 2) | ((with_reducible refine gate_dst (N := 9) rfl ?_); refine box_event ?hg (N := 9) ?hd (cs := #[.bool false, .int .u64 0, .int .u64 0]) (t := 53) ?hr ?_; (case hd => rfl); (case hg => rfl); (case hr => first | (go_simp; done) | (go_simp; rfl)); intro gb182 hg w16 hbox hb; have n0_ := Aside0.mk (blk_below (g := gb181) (o := .cells #[.bool t178, .int .u64 t179, .int .u64 t180] 53 (0, 0)) (by (with_reducible repeat (first | refine blk_drewN ?_ _ | refine blk_drew ?_ | refine blk_alloc ?_ _)); refine blk_put (cs := #[.bool t178, .int .u64 t179, .int .u64 0]) ?_ 2 _ rfl; (with_reducible repeat (first | refine blk_drewN ?_ _ | refine blk_drew ?_ | refine blk_alloc ?_ _)); refine blk_put (cs := #[.bool t178, .int .u64 0, .int .u64 0]) ?_ 1 _ rfl; (with_reducible repeat (first | refine blk_drewN ?_ _ | refine blk_drew ?_ | refine blk_alloc ?_ _)); refine blk_put (cs := #[.bool false, .int .u64 0, .int .u64 0]) ?_ 0 _ rfl; (with_reducible repeat (first | refine blk_drewN ?_ _ | refine blk_drew ?_ | refine blk_alloc ?_ _)); exact BK181.out) hb); have n1_ := Aside0.mk (below_step (by repeat (first | (with_reducible first | exact HB.out | apply below_alloc | apply pw_below_drewN | apply below_drew1 | refine below_set ?_ GE181.out) | exact HB.out)) hb); have n2_ := Aside0.mk (hbox); have n3_ := Aside0.mk ((by rw [hg]; exact (below_size (by repeat (first | (with_reducible first | exact HB.out | apply below_alloc | apply pw_below_drewN | apply below_drew1 | refine below_set ?_ GE181.out) | exact HB.out))) : w.heap.size ≤ gb182)); have n4_ := Aside0.mk ((by rw [hg]; exact (below_size (by repeat (first | (with_reducible first | exact HB.out | apply below_alloc | apply pw_below_drewN | apply below_drew1 | refine below_set ?_ GE181.out) | exact HB.out))) : w.heap.size ≤ gb182)); have n5_ := Aside0.mk ((by rw [hg]; exact Nat.ne_of_lt (blk_lt (g := gb181) (o := .cells #[.bool t178, .int .u64 t179, .int .u64 t180] 53 (0, 0)) (by (with_reducible repeat (first | refine blk_drewN ?_ _ | refine blk_drew ?_ | refine blk_alloc ?_ _)); refine blk_put (cs := #[.bool t178, .int .u64 t179, .int .u64 0]) ?_ 2 _ rfl; (with_reducible repeat (first | refine blk_drewN ?_ _ | refine blk_drew ?_ | refine blk_alloc ?_ _)); refine blk_put (cs := #[.bool t178, .int .u64 0, .int .u64 0]) ?_ 1 _ rfl; (with_reducible repeat (first | refine blk_drewN ?_ _ | refine blk_drew ?_ | refine blk_alloc ?_ _)); refine blk_put (cs := #[.bool false, .int .u64 0, .int .u64 0]) ?_ 0 _ rfl; (with_reducible repeat (first | refine blk_drewN ?_ _ | refine blk_drew ?_ | refine blk_alloc ?_ _)); exact BK181.out)) : gb181 ≠ gb182)); have n6_ := Aside0.mk ((by rw [hg]; exact Nat.ne_of_gt (blk_lt (g := gb181) (o := .cells #[.bool t178, .int .u64 t179, .int .u64 t180] 53 (0, 0)) (by (with_reducible repeat (first | refine blk_drewN ?_ _ | refine blk_drew ?_ | refine blk_alloc ?_ _)); refine blk_put (cs := #[.bool t178, .int .u64 t179, .int .u64 0]) ?_ 2 _ rfl; (with_reducible repeat (first | refine blk_drewN ?_ _ | refine blk_drew ?_ | refine blk_alloc ?_ _)); refine blk_put (cs := #[.bool t178, .int .u64 0, .int .u64 0]) ?_ 1 _ rfl; (with_reducible repeat (first | refine blk_drewN ?_ _ | refine blk_drew ?_ | refine blk_alloc ?_ _)); refine blk_put (cs := #[.bool false, .int .u64 0, .int .u64 0]) ?_ 0 _ rfl; (with_reducible repeat (first | refine blk_drewN ?_ _ | refine blk_drew ?_ | refine blk_alloc ?_ _)); exact BK181.out)) : gb182 ≠ gb181)); clear BK181; clear HB; have BK181 := n0_; have HB := n1_; have BK182 := n2_; have GW182 := n3_; have GE182 := n4_; have NB181_182 := n5_; have NB182_181 := n6_; clear n0_ n1_ n2_ n3_ n4_ n5_ n6_; clear hb hbox hg; have hnb17 := NB182_181.out; have hnc17 := NB181_182.out; have hcz18_0 : w16.cell? ⟨gb182, 0, none⟩ = some (.bool false) := (blk_cell BK182.out 0).trans rfl; have hcz18_1 : w16.cell? ⟨gb182, 1, none⟩ = some (.int .u64 0) := (blk_cell BK182.out 1).trans rfl; have hcz18_2 : w16.cell? ⟨gb182, 2, none⟩ = some (.int .u64 0) := (blk_cell BK182.out 2).trans rfl; have hfz18_0 := blk_frozen BK182.out 0; have hfz18_1 := blk_frozen BK182.out 1; have hfz18_2 := blk_frozen BK182.out 2))
        go_loopg [10, 11] kj3 (fun kq v10 v11 w' => ∃ (x10_2 : Int) (x11_2 : Int) (x183000_2 : Bool) (x183001_2 : Int) (x183002_2 : Int), v10 = .int .u64 x10_2 ∧ v11 = .int .i64 x11_2 ∧ Aside0 (gangerref01_MulDiv.l0 kq a2 x10_2 x11_2 t178 t179 t180 x183000_2 x183001_2 x183002_2 = some (r1, r2)) ∧ Aside0 (kq ≤ kj3) ∧ Aside0 (w'.heap[gb181]? = some (.cells #[.bool t178, .int .u64 t179, .int .u64 t180] 53 (0, 0))) ∧ Aside0 (w'.heap[gb182]? = some (.cells #[.bool x183000_2, .int .u64 x183001_2, .int .u64 x183002_2] 53 (0, 0))) ∧ Aside0 (Below w.heap.size w w'))
        case atStart => exact ⟨(0), (127), (false), (0), (0), (by first | rfl | (simp; done) | (simp [*]; done)), (by first | rfl | (simp; done) | (simp [*]; done)), H', ⟨Nat.le_refl _⟩, ⟨by (with_reducible repeat (first | refine blk_drewN ?_ _ | refine blk_drew ?_ | refine blk_alloc ?_ _)); refine blk_far ?_ NB181_182.out _; (with_reducible repeat (first | refine blk_drewN ?_ _ | refine blk_drew ?_ | refine blk_alloc ?_ _)); refine blk_far ?_ NB181_182.out _; (with_reducible repeat (first | refine blk_drewN ?_ _ | refine blk_drew ?_ | refine blk_alloc ?_ _)); refine blk_far ?_ NB181_182.out _; (with_reducible repeat (first | refine blk_drewN ?_ _ | refine blk_drew ?_ | refine blk_alloc ?_ _)); exact BK181.out⟩, ⟨by (with_reducible repeat (first | refine blk_drewN ?_ _ | refine blk_drew ?_ | refine blk_alloc ?_ _)); refine blk_put (cs := #[.bool false, .int .u64 0, .int .u64 0]) ?_ 2 _ rfl; (with_reducible repeat (first | refine blk_drewN ?_ _ | refine blk_drew ?_ | refine blk_alloc ?_ _)); refine blk_put (cs := #[.bool false, .int .u64 0, .int .u64 0]) ?_ 1 _ rfl; (with_reducible repeat (first | refine blk_drewN ?_ _ | refine blk_drew ?_ | refine blk_alloc ?_ _)); refine blk_put (cs := #[.bool false, .int .u64 0, .int .u64 0]) ?_ 0 _ rfl; (with_reducible repeat (first | refine blk_drewN ?_ _ | refine blk_drew ?_ | refine blk_alloc ?_ _)); exact BK182.out⟩, ⟨by repeat (first | (with_reducible first | exact HB.out | apply below_alloc | apply pw_below_drewN | apply below_drew1 | refine below_set ?_ GE181.out | refine below_set ?_ GE182.out) | exact HB.out)⟩⟩
        case round =>
          clear H'
          try clear c1
          try clear c2
          try clear p2
          try clear c5
          try clear c5b0
          try clear c6
          try clear c6b0
          try clear c7
          try clear c17
          try clear hcz15_0
          try clear hcz15_1
          try clear hcz15_2
          try clear hcz18_0
          try clear hcz18_1
          try clear hcz18_2
          try clear hfz15_0
          try clear hfz15_1
          try clear hfz15_2
          try clear hfz18_0
          try clear hfz18_1
          try clear hfz18_2
          try clear p2
          obtain ⟨x10_2, x11_2, x183000_2, x183001_2, x183002_2, rfl, rfl, HA, HK2, BK181, BK182, HB⟩ := hrel
          cases gk with
          | zero => exact absurd HA.out (by simp [gangerref01_MulDiv.l0])
          | succ k2 =>
            have H := HA.out
            clear HA
            simp only [gangerref01_MulDiv.l0] at H
            by_cases c19 : x11_2 ≥ 0
            · rw [if_pos c19] at H
              have c19b0 : decide (0 ≤ x11_2) = true := decide_eq_true c19
              clear c19
              obtain ⟨ji20, hji20⟩ : ∃ j_ : Int, (IntKind.u64.wrap (Int.tmod x11_2 64)) = j_ := ⟨_, rfl⟩
              replace H : (if 0 ≤ (ji20) then (if x11_2 ≥ 64 then (if 0 ≤ (IntKind.u64.wrap (wrap64 (x11_2 - 64))) then ((gangerref01_plus.f x183000_2 x183001_2 x183002_2 x183000_2 x183001_2 x183002_2).bind fun bt185 => (if (IntKind.u64.wrap ((IntKind.u64.wrap (x10_2 * 2)) + (Int.tmod (shr .u64 t179 (IntKind.u64.wrap (wrap64 (x11_2 - 64)))) 2))) ≥ (IntKind.u64.wrap (a2)) then (gangerref01_MulDiv.l0 k2 a2 (IntKind.u64.wrap ((IntKind.u64.wrap ((IntKind.u64.wrap (x10_2 * 2)) + (Int.tmod (shr .u64 t179 (IntKind.u64.wrap (wrap64 (x11_2 - 64)))) 2))) - (IntKind.u64.wrap (a2)))) (wrap64 (x11_2 - 1)) t178 t179 t180 bt185.1 bt185.2.1 (IntKind.u64.wrap (bt185.2.2 + 1))) else (gangerref01_MulDiv.l0 k2 a2 (IntKind.u64.wrap ((IntKind.u64.wrap (x10_2 * 2)) + (Int.tmod (shr .u64 t179 (IntKind.u64.wrap (wrap64 (x11_2 - 64)))) 2))) (wrap64 (x11_2 - 1)) t178 t179 t180 bt185.1 bt185.2.1 bt185.2.2))) else (none)) else ((gangerref01_plus.f x183000_2 x183001_2 x183002_2 x183000_2 x183001_2 x183002_2).bind fun bt188 => (if (IntKind.u64.wrap ((IntKind.u64.wrap (x10_2 * 2)) + (Int.tmod (shr .u64 t180 (ji20)) 2))) ≥ (IntKind.u64.wrap (a2)) then (gangerref01_MulDiv.l0 k2 a2 (IntKind.u64.wrap ((IntKind.u64.wrap ((IntKind.u64.wrap (x10_2 * 2)) + (Int.tmod (shr .u64 t180 (ji20)) 2))) - (IntKind.u64.wrap (a2)))) (wrap64 (x11_2 - 1)) t178 t179 t180 bt188.1 bt188.2.1 (IntKind.u64.wrap (bt188.2.2 + 1))) else (gangerref01_MulDiv.l0 k2 a2 (IntKind.u64.wrap ((IntKind.u64.wrap (x10_2 * 2)) + (Int.tmod (shr .u64 t180 (ji20)) 2))) (wrap64 (x11_2 - 1)) t178 t179 t180 bt188.1 bt188.2.1 bt188.2.2)))) else (none)) = some (r1, r2) := by first | (rw [hji20] at H; exact H) | (simp only [hji20] at H ⊢; exact H)
              by_cases c21 : 0 ≤ (ji20)
              · rw [if_pos c21] at H
                have c21b0 := eq_true c21
                have c21b1 : decide (0 ≤ (ji20)) = true := decide_eq_true c21
                clear c21
                obtain ⟨ji22, hji22⟩ : ∃ j_ : Int, (shr .u64 t180 (ji20)) = j_ := ⟨_, rfl⟩
                replace H : (if x11_2 ≥ 64 then (if 0 ≤ (IntKind.u64.wrap (wrap64 (x11_2 - 64))) then ((gangerref01_plus.f x183000_2 x183001_2 x183002_2 x183000_2 x183001_2 x183002_2).bind fun bt185 => (if (IntKind.u64.wrap ((IntKind.u64.wrap (x10_2 * 2)) + (Int.tmod (shr .u64 t179 (IntKind.u64.wrap (wrap64 (x11_2 - 64)))) 2))) ≥ (IntKind.u64.wrap (a2)) then (gangerref01_MulDiv.l0 k2 a2 (IntKind.u64.wrap ((IntKind.u64.wrap ((IntKind.u64.wrap (x10_2 * 2)) + (Int.tmod (shr .u64 t179 (IntKind.u64.wrap (wrap64 (x11_2 - 64)))) 2))) - (IntKind.u64.wrap (a2)))) (wrap64 (x11_2 - 1)) t178 t179 t180 bt185.1 bt185.2.1 (IntKind.u64.wrap (bt185.2.2 + 1))) else (gangerref01_MulDiv.l0 k2 a2 (IntKind.u64.wrap ((IntKind.u64.wrap (x10_2 * 2)) + (Int.tmod (shr .u64 t179 (IntKind.u64.wrap (wrap64 (x11_2 - 64)))) 2))) (wrap64 (x11_2 - 1)) t178 t179 t180 bt185.1 bt185.2.1 bt185.2.2))) else (none)) else ((gangerref01_plus.f x183000_2 x183001_2 x183002_2 x183000_2 x183001_2 x183002_2).bind fun bt188 => (if (IntKind.u64.wrap ((IntKind.u64.wrap (x10_2 * 2)) + (Int.tmod (ji22) 2))) ≥ (IntKind.u64.wrap (a2)) then (gangerref01_MulDiv.l0 k2 a2 (IntKind.u64.wrap ((IntKind.u64.wrap ((IntKind.u64.wrap (x10_2 * 2)) + (Int.tmod (ji22) 2))) - (IntKind.u64.wrap (a2)))) (wrap64 (x11_2 - 1)) t178 t179 t180 bt188.1 bt188.2.1 (IntKind.u64.wrap (bt188.2.2 + 1))) else (gangerref01_MulDiv.l0 k2 a2 (IntKind.u64.wrap ((IntKind.u64.wrap (x10_2 * 2)) + (Int.tmod (ji22) 2))) (wrap64 (x11_2 - 1)) t178 t179 t180 bt188.1 bt188.2.1 bt188.2.2)))) = some (r1, r2) := by first | (rw [hji22] at H; exact H) | (simp only [hji22] at H ⊢; exact H)
                have hji22_ : (t180 / 2 ^ min (ji20).toNat 64) = ji22 := hji22
                have hji22z : (ji20) ≤ 64 → (t180 / 2 ^ (ji20).toNat) = ji22 := shr_small hji22
                by_cases c23 : x11_2 ≥ 64
                · rw [if_pos c23] at H
                  have c23b0 : decide (64 ≤ x11_2) = true := decide_eq_true c23
                  clear c23
                  obtain ⟨ji24, hji24⟩ : ∃ j_ : Int, (IntKind.u64.wrap (wrap64 (x11_2 - 64))) = j_ := ⟨_, rfl⟩
                  replace H : (if 0 ≤ (ji24) then ((gangerref01_plus.f x183000_2 x183001_2 x183002_2 x183000_2 x183001_2 x183002_2).bind fun bt185 => (if (IntKind.u64.wrap ((IntKind.u64.wrap (x10_2 * 2)) + (Int.tmod (shr .u64 t179 (ji24)) 2))) ≥ (IntKind.u64.wrap (a2)) then (gangerref01_MulDiv.l0 k2 a2 (IntKind.u64.wrap ((IntKind.u64.wrap ((IntKind.u64.wrap (x10_2 * 2)) + (Int.tmod (shr .u64 t179 (ji24)) 2))) - (IntKind.u64.wrap (a2)))) (wrap64 (x11_2 - 1)) t178 t179 t180 bt185.1 bt185.2.1 (IntKind.u64.wrap (bt185.2.2 + 1))) else (gangerref01_MulDiv.l0 k2 a2 (IntKind.u64.wrap ((IntKind.u64.wrap (x10_2 * 2)) + (Int.tmod (shr .u64 t179 (ji24)) 2))) (wrap64 (x11_2 - 1)) t178 t179 t180 bt185.1 bt185.2.1 bt185.2.2))) else (none)) = some (r1, r2) := by first | (rw [hji24] at H; exact H) | (simp only [hji24] at H ⊢; exact H)
                  by_cases c25 : 0 ≤ (ji24)
                  · rw [if_pos c25] at H
                    have c25b0 := eq_true c25
                    have c25b1 : decide (0 ≤ (ji24)) = true := decide_eq_true c25
                    clear c25
                    obtain ⟨ji26, hji26⟩ : ∃ j_ : Int, (shr .u64 t179 (ji24)) = j_ := ⟨_, rfl⟩
                    replace H : ((gangerref01_plus.f x183000_2 x183001_2 x183002_2 x183000_2 x183001_2 x183002_2).bind fun bt185 => (if (IntKind.u64.wrap ((IntKind.u64.wrap (x10_2 * 2)) + (Int.tmod (ji26) 2))) ≥ (IntKind.u64.wrap (a2)) then (gangerref01_MulDiv.l0 k2 a2 (IntKind.u64.wrap ((IntKind.u64.wrap ((IntKind.u64.wrap (x10_2 * 2)) + (Int.tmod (ji26) 2))) - (IntKind.u64.wrap (a2)))) (wrap64 (x11_2 - 1)) t178 t179 t180 bt185.1 bt185.2.1 (IntKind.u64.wrap (bt185.2.2 + 1))) else (gangerref01_MulDiv.l0 k2 a2 (IntKind.u64.wrap ((IntKind.u64.wrap (x10_2 * 2)) + (Int.tmod (ji26) 2))) (wrap64 (x11_2 - 1)) t178 t179 t180 bt185.1 bt185.2.1 bt185.2.2))) = some (r1, r2) := by first | (rw [hji26] at H; exact H) | (simp only [hji26] at H ⊢; exact H)
                    have hji26_ : (t179 / 2 ^ min (ji24).toNat 64) = ji26 := hji26
                    have hji26z : (ji24) ≤ 64 → (t179 / 2 ^ (ji24).toNat) = ji26 := shr_small hji26
                    replace H := Option.bind_eq_some_iff.mp H
                    obtain ⟨⟨t185, t186, t187⟩, A270, H⟩ := H
                    replace H : (if (IntKind.u64.wrap ((IntKind.u64.wrap (x10_2 * 2)) + (Int.tmod (ji26) 2))) ≥ (IntKind.u64.wrap (a2)) then (gangerref01_MulDiv.l0 k2 a2 (IntKind.u64.wrap ((IntKind.u64.wrap ((IntKind.u64.wrap (x10_2 * 2)) + (Int.tmod (ji26) 2))) - (IntKind.u64.wrap (a2)))) (wrap64 (x11_2 - 1)) t178 t179 t180 t185 t186 (IntKind.u64.wrap (t187 + 1))) else (gangerref01_MulDiv.l0 k2 a2 (IntKind.u64.wrap ((IntKind.u64.wrap (x10_2 * 2)) + (Int.tmod (ji26) 2))) (wrap64 (x11_2 - 1)) t178 t179 t180 t185 t186 t187)) = some (r1, r2) := H
                    have A27 := Aside0.mk A270
                    clear A270
                    by_cases c28 : (IntKind.u64.wrap ((IntKind.u64.wrap (x10_2 * 2)) + (Int.tmod (ji26) 2))) ≥ (IntKind.u64.wrap (a2))
                    · rw [if_pos c28] at H
                      have c28b0 : decide ((IntKind.u64.wrap (a2)) ≤ (IntKind.u64.wrap ((IntKind.u64.wrap (x10_2 * 2)) + (Int.tmod (ji26) 2)))) = true := decide_eq_true c28
                      clear c28
                      have H' := Aside0.mk H
                      clear H
                      have hnb29 := NB181_182.out
                      have hnc29 := NB182_181.out
                      have hcz30_0 : wr.cell? ⟨gb181, 0, none⟩ = some (.bool t178) := (blk_cell BK181.out 0).trans rfl
                      have hcz30_1 : wr.cell? ⟨gb181, 1, none⟩ = some (.int .u64 t179) := (blk_cell BK181.out 1).trans rfl
                      have hcz30_2 : wr.cell? ⟨gb181, 2, none⟩ = some (.int .u64 t180) := (blk_cell BK181.out 2).trans rfl
                      have hfz30_0 := blk_frozen BK181.out 0
                      have hfz30_1 := blk_frozen BK181.out 1
                      have hfz30_2 := blk_frozen BK181.out 2
                      have hcz31_0 : wr.cell? ⟨gb182, 0, none⟩ = some (.bool x183000_2) := (blk_cell BK182.out 0).trans rfl
                      have hcz31_1 : wr.cell? ⟨gb182, 1, none⟩ = some (.int .u64 x183001_2) := (blk_cell BK182.out 1).trans rfl
                      have hcz31_2 : wr.cell? ⟨gb182, 2, none⟩ = some (.int .u64 x183002_2) := (blk_cell BK182.out 2).trans rfl
                      have hfz31_0 := blk_frozen BK182.out 0
                      have hfz31_1 := blk_frozen BK182.out 1
                      have hfz31_2 := blk_frozen BK182.out 2
                      go_wp2_with (first | ((with_reducible refine gate_callee (f := 30) rfl ?_); refine goesL_ (some 55) rfl rfl Try.func30 (by kernel_rfl) rfl #[.agg #[.bool x183000_2, .int .u64 x183001_2, .int .u64 x183002_2], .agg #[.bool x183000_2, .int .u64 x183001_2, .int .u64 x183002_2]] rfl (by (try simp only [List.map_toArray, List.map_cons, List.map_nil]); first | done | rfl | (simp only [List.length_drop, List.length_take]; rfl)) ?_; (with_reducible refine (gangerref01_plus.calls x183000_2 x183001_2 x183002_2 x183000_2 x183001_2 x183002_2 t185 t186 t187 _ A27.out).mono ?_); rintro e w32 ⟨rfl, hb⟩; refine ⟨_, rfl, ?_⟩; have n0_ := Aside0.mk (blk_below (g := gb181) (o := .cells #[.bool t178, .int .u64 t179, .int .u64 t180] 53 (0, 0)) (by (with_reducible repeat (first | refine blk_drewN ?_ _ | refine blk_drew ?_ | refine blk_alloc ?_ _)); exact BK181.out) hb); have n1_ := Aside0.mk (blk_below (g := gb182) (o := .cells #[.bool x183000_2, .int .u64 x183001_2, .int .u64 x183002_2] 53 (0, 0)) (by (with_reducible repeat (first | refine blk_drewN ?_ _ | refine blk_drew ?_ | refine blk_alloc ?_ _)); exact BK182.out) hb); have n2_ := Aside0.mk (below_step (by repeat (first | (with_reducible first | exact HB.out | apply below_alloc | apply pw_below_drewN | apply below_drew1 | refine below_set ?_ GE181.out | refine below_set ?_ GE182.out) | exact HB.out)) hb); clear BK181; clear BK182; clear HB; have BK181 := n0_; have BK182 := n1_; have HB := n2_; clear n0_ n1_ n2_; (try clear hb); (try clear hb2); (try clear hk); (try clear hi); have hcz33_0 : w32.cell? ⟨gb182, 0, none⟩ = some (.bool x183000_2) := (blk_cell BK182.out 0).trans rfl; have hcz33_1 : w32.cell? ⟨gb182, 1, none⟩ = some (.int .u64 x183001_2) := (blk_cell BK182.out 1).trans rfl; have hcz33_2 : w32.cell? ⟨gb182, 2, none⟩ = some (.int .u64 x183002_2) := (blk_cell BK182.out 2).trans rfl; have hfz33_0 := blk_frozen BK182.out 0; have hfz33_1 := blk_frozen BK182.out 1; have hfz33_2 := blk_frozen BK182.out 2))
                      go_roundg k2
                      case measure => have := HJ3.out; have := HK2.out; omega
                      case rel => exact ⟨(IntKind.u64.wrap ((IntKind.u64.wrap ((IntKind.u64.wrap (x10_2 * 2)) + (Int.tmod (ji26) 2))) - (IntKind.u64.wrap (a2)))), (wrap64 (x11_2 - 1)), (t185), (t186), (IntKind.u64.wrap (t187 + 1)), (by first | rfl | (simp; done) | (simp only [← hji26] <;> (first | rfl | simp)) | (simp [*]; done)), (by first | rfl | (simp; done) | (simp [*]; done)), H', ⟨by have := HJ3.out; have := HK2.out; omega⟩, ⟨by (with_reducible repeat (first | refine blk_drewN ?_ _ | refine blk_drew ?_ | refine blk_alloc ?_ _)); refine blk_far ?_ NB181_182.out _; (with_reducible repeat (first | refine blk_drewN ?_ _ | refine blk_drew ?_ | refine blk_alloc ?_ _)); refine blk_far ?_ NB181_182.out _; (with_reducible repeat (first | refine blk_drewN ?_ _ | refine blk_drew ?_ | refine blk_alloc ?_ _)); refine blk_far ?_ NB181_182.out _; (with_reducible repeat (first | refine blk_drewN ?_ _ | refine blk_drew ?_ | refine blk_alloc ?_ _)); refine blk_far ?_ NB181_182.out _; (with_reducible repeat (first | refine blk_drewN ?_ _ | refine blk_drew ?_ | refine blk_alloc ?_ _)); exact BK181.out⟩, ⟨by (with_reducible repeat (first | refine blk_drewN ?_ _ | refine blk_drew ?_ | refine blk_alloc ?_ _)); refine blk_put (cs := #[.bool t185, .int .u64 t186, .int .u64 t187]) ?_ 2 _ rfl; (with_reducible repeat (first | refine blk_drewN ?_ _ | refine blk_drew ?_ | refine blk_alloc ?_ _)); refine blk_put (cs := #[.bool t185, .int .u64 t186, .int .u64 x183002_2]) ?_ 2 _ rfl; (with_reducible repeat (first | refine blk_drewN ?_ _ | refine blk_drew ?_ | refine blk_alloc ?_ _)); refine blk_put (cs := #[.bool t185, .int .u64 x183001_2, .int .u64 x183002_2]) ?_ 1 _ rfl; (with_reducible repeat (first | refine blk_drewN ?_ _ | refine blk_drew ?_ | refine blk_alloc ?_ _)); refine blk_put (cs := #[.bool x183000_2, .int .u64 x183001_2, .int .u64 x183002_2]) ?_ 0 _ rfl; (with_reducible repeat (first | refine blk_drewN ?_ _ | refine blk_drew ?_ | refine blk_alloc ?_ _)); exact BK182.out⟩, ⟨by repeat (first | (with_reducible first | exact HB.out | apply below_alloc | apply pw_below_drewN | apply below_drew1 | refine below_set ?_ GE181.out | refine below_set ?_ GE182.out) | exact HB.out)⟩⟩
                    · rw [if_neg c28] at H
                      have c28b0 : decide ((IntKind.u64.wrap (a2)) ≤ (IntKind.u64.wrap ((IntKind.u64.wrap (x10_2 * 2)) + (Int.tmod (ji26) 2)))) = false := decide_eq_false c28
                      clear c28
                      have H' := Aside0.mk H
                      clear H
                      have hnb34 := NB181_182.out
                      have hnc34 := NB182_181.out
                      have hcz35_0 : wr.cell? ⟨gb181, 0, none⟩ = some (.bool t178) := (blk_cell BK181.out 0).trans rfl
                      have hcz35_1 : wr.cell? ⟨gb181, 1, none⟩ = some (.int .u64 t179) := (blk_cell BK181.out 1).trans rfl
                      have hcz35_2 : wr.cell? ⟨gb181, 2, none⟩ = some (.int .u64 t180) := (blk_cell BK181.out 2).trans rfl
                      have hfz35_0 := blk_frozen BK181.out 0
                      have hfz35_1 := blk_frozen BK181.out 1
                      have hfz35_2 := blk_frozen BK181.out 2
                      have hcz36_0 : wr.cell? ⟨gb182, 0, none⟩ = some (.bool x183000_2) := (blk_cell BK182.out 0).trans rfl
                      have hcz36_1 : wr.cell? ⟨gb182, 1, none⟩ = some (.int .u64 x183001_2) := (blk_cell BK182.out 1).trans rfl
                      have hcz36_2 : wr.cell? ⟨gb182, 2, none⟩ = some (.int .u64 x183002_2) := (blk_cell BK182.out 2).trans rfl
                      have hfz36_0 := blk_frozen BK182.out 0
                      have hfz36_1 := blk_frozen BK182.out 1
                      have hfz36_2 := blk_frozen BK182.out 2
                      go_wp2_with (first | ((with_reducible refine gate_callee (f := 30) rfl ?_); refine goesL_ (some 55) rfl rfl Try.func30 (by kernel_rfl) rfl #[.agg #[.bool x183000_2, .int .u64 x183001_2, .int .u64 x183002_2], .agg #[.bool x183000_2, .int .u64 x183001_2, .int .u64 x183002_2]] rfl (by (try simp only [List.map_toArray, List.map_cons, List.map_nil]); first | done | rfl | (simp only [List.length_drop, List.length_take]; rfl)) ?_; (with_reducible refine (gangerref01_plus.calls x183000_2 x183001_2 x183002_2 x183000_2 x183001_2 x183002_2 t185 t186 t187 _ A27.out).mono ?_); rintro e w37 ⟨rfl, hb⟩; refine ⟨_, rfl, ?_⟩; have n0_ := Aside0.mk (blk_below (g := gb181) (o := .cells #[.bool t178, .int .u64 t179, .int .u64 t180] 53 (0, 0)) (by (with_reducible repeat (first | refine blk_drewN ?_ _ | refine blk_drew ?_ | refine blk_alloc ?_ _)); exact BK181.out) hb); have n1_ := Aside0.mk (blk_below (g := gb182) (o := .cells #[.bool x183000_2, .int .u64 x183001_2, .int .u64 x183002_2] 53 (0, 0)) (by (with_reducible repeat (first | refine blk_drewN ?_ _ | refine blk_drew ?_ | refine blk_alloc ?_ _)); exact BK182.out) hb); have n2_ := Aside0.mk (below_step (by repeat (first | (with_reducible first | exact HB.out | apply below_alloc | apply pw_below_drewN | apply below_drew1 | refine below_set ?_ GE181.out | refine below_set ?_ GE182.out) | exact HB.out)) hb); clear BK181; clear BK182; clear HB; have BK181 := n0_; have BK182 := n1_; have HB := n2_; clear n0_ n1_ n2_; (try clear hb); (try clear hb2); (try clear hk); (try clear hi); have hcz38_0 : w37.cell? ⟨gb182, 0, none⟩ = some (.bool x183000_2) := (blk_cell BK182.out 0).trans rfl; have hcz38_1 : w37.cell? ⟨gb182, 1, none⟩ = some (.int .u64 x183001_2) := (blk_cell BK182.out 1).trans rfl; have hcz38_2 : w37.cell? ⟨gb182, 2, none⟩ = some (.int .u64 x183002_2) := (blk_cell BK182.out 2).trans rfl; have hfz38_0 := blk_frozen BK182.out 0; have hfz38_1 := blk_frozen BK182.out 1; have hfz38_2 := blk_frozen BK182.out 2))
                      go_roundg k2
                      case measure => have := HJ3.out; have := HK2.out; omega
                      case rel => exact ⟨(IntKind.u64.wrap ((IntKind.u64.wrap (x10_2 * 2)) + (Int.tmod (ji26) 2))), (wrap64 (x11_2 - 1)), (t185), (t186), (t187), (by first | rfl | (simp; done) | (simp only [← hji26] <;> (first | rfl | simp)) | (simp [*]; done)), (by first | rfl | (simp; done) | (simp [*]; done)), H', ⟨by have := HJ3.out; have := HK2.out; omega⟩, ⟨by (with_reducible repeat (first | refine blk_drewN ?_ _ | refine blk_drew ?_ | refine blk_alloc ?_ _)); refine blk_far ?_ NB181_182.out _; (with_reducible repeat (first | refine blk_drewN ?_ _ | refine blk_drew ?_ | refine blk_alloc ?_ _)); refine blk_far ?_ NB181_182.out _; (with_reducible repeat (first | refine blk_drewN ?_ _ | refine blk_drew ?_ | refine blk_alloc ?_ _)); refine blk_far ?_ NB181_182.out _; (with_reducible repeat (first | refine blk_drewN ?_ _ | refine blk_drew ?_ | refine blk_alloc ?_ _)); exact BK181.out⟩, ⟨by (with_reducible repeat (first | refine blk_drewN ?_ _ | refine blk_drew ?_ | refine blk_alloc ?_ _)); refine blk_put (cs := #[.bool t185, .int .u64 t186, .int .u64 x183002_2]) ?_ 2 _ rfl; (with_reducible repeat (first | refine blk_drewN ?_ _ | refine blk_drew ?_ | refine blk_alloc ?_ _)); refine blk_put (cs := #[.bool t185, .int .u64 x183001_2, .int .u64 x183002_2]) ?_ 1 _ rfl; (with_reducible repeat (first | refine blk_drewN ?_ _ | refine blk_drew ?_ | refine blk_alloc ?_ _)); refine blk_put (cs := #[.bool x183000_2, .int .u64 x183001_2, .int .u64 x183002_2]) ?_ 0 _ rfl; (with_reducible repeat (first | refine blk_drewN ?_ _ | refine blk_drew ?_ | refine blk_alloc ?_ _)); exact BK182.out⟩, ⟨by repeat (first | (with_reducible first | exact HB.out | apply below_alloc | apply pw_below_drewN | apply below_drew1 | refine below_set ?_ GE181.out | refine below_set ?_ GE182.out) | exact HB.out)⟩⟩
                  · rw [if_neg c25] at H
                    exact absurd H (by simp)
                · rw [if_neg c23] at H
                  have c23b0 : decide (64 ≤ x11_2) = false := decide_eq_false c23
                  clear c23
                  replace H := Option.bind_eq_some_iff.mp H
                  obtain ⟨⟨t188, t189, t190⟩, A390, H⟩ := H
                  replace H : (if (IntKind.u64.wrap ((IntKind.u64.wrap (x10_2 * 2)) + (Int.tmod (ji22) 2))) ≥ (IntKind.u64.wrap (a2)) then (gangerref01_MulDiv.l0 k2 a2 (IntKind.u64.wrap ((IntKind.u64.wrap ((IntKind.u64.wrap (x10_2 * 2)) + (Int.tmod (ji22) 2))) - (IntKind.u64.wrap (a2)))) (wrap64 (x11_2 - 1)) t178 t179 t180 t188 t189 (IntKind.u64.wrap (t190 + 1))) else (gangerref01_MulDiv.l0 k2 a2 (IntKind.u64.wrap ((IntKind.u64.wrap (x10_2 * 2)) + (Int.tmod (ji22) 2))) (wrap64 (x11_2 - 1)) t178 t179 t180 t188 t189 t190)) = some (r1, r2) := H
                  have A39 := Aside0.mk A390
                  clear A390
                  by_cases c40 : (IntKind.u64.wrap ((IntKind.u64.wrap (x10_2 * 2)) + (Int.tmod (ji22) 2))) ≥ (IntKind.u64.wrap (a2))
                  · rw [if_pos c40] at H
                    have c40b0 : decide ((IntKind.u64.wrap (a2)) ≤ (IntKind.u64.wrap ((IntKind.u64.wrap (x10_2 * 2)) + (Int.tmod (ji22) 2)))) = true := decide_eq_true c40
                    clear c40
                    have H' := Aside0.mk H
                    clear H
                    have hnb41 := NB181_182.out
                    have hnc41 := NB182_181.out
                    have hcz42_0 : wr.cell? ⟨gb181, 0, none⟩ = some (.bool t178) := (blk_cell BK181.out 0).trans rfl
                    have hcz42_1 : wr.cell? ⟨gb181, 1, none⟩ = some (.int .u64 t179) := (blk_cell BK181.out 1).trans rfl
                    have hcz42_2 : wr.cell? ⟨gb181, 2, none⟩ = some (.int .u64 t180) := (blk_cell BK181.out 2).trans rfl
                    have hfz42_0 := blk_frozen BK181.out 0
                    have hfz42_1 := blk_frozen BK181.out 1
                    have hfz42_2 := blk_frozen BK181.out 2
                    have hcz43_0 : wr.cell? ⟨gb182, 0, none⟩ = some (.bool x183000_2) := (blk_cell BK182.out 0).trans rfl
                    have hcz43_1 : wr.cell? ⟨gb182, 1, none⟩ = some (.int .u64 x183001_2) := (blk_cell BK182.out 1).trans rfl
                    have hcz43_2 : wr.cell? ⟨gb182, 2, none⟩ = some (.int .u64 x183002_2) := (blk_cell BK182.out 2).trans rfl
                    have hfz43_0 := blk_frozen BK182.out 0
                    have hfz43_1 := blk_frozen BK182.out 1
                    have hfz43_2 := blk_frozen BK182.out 2
                    go_wp2_with (first | ((with_reducible refine gate_callee (f := 30) rfl ?_); refine goesL_ (some 55) rfl rfl Try.func30 (by kernel_rfl) rfl #[.agg #[.bool x183000_2, .int .u64 x183001_2, .int .u64 x183002_2], .agg #[.bool x183000_2, .int .u64 x183001_2, .int .u64 x183002_2]] rfl (by (try simp only [List.map_toArray, List.map_cons, List.map_nil]); first | done | rfl | (simp only [List.length_drop, List.length_take]; rfl)) ?_; (with_reducible refine (gangerref01_plus.calls x183000_2 x183001_2 x183002_2 x183000_2 x183001_2 x183002_2 t188 t189 t190 _ A39.out).mono ?_); rintro e w44 ⟨rfl, hb⟩; refine ⟨_, rfl, ?_⟩; have n0_ := Aside0.mk (blk_below (g := gb181) (o := .cells #[.bool t178, .int .u64 t179, .int .u64 t180] 53 (0, 0)) (by (with_reducible repeat (first | refine blk_drewN ?_ _ | refine blk_drew ?_ | refine blk_alloc ?_ _)); exact BK181.out) hb); have n1_ := Aside0.mk (blk_below (g := gb182) (o := .cells #[.bool x183000_2, .int .u64 x183001_2, .int .u64 x183002_2] 53 (0, 0)) (by (with_reducible repeat (first | refine blk_drewN ?_ _ | refine blk_drew ?_ | refine blk_alloc ?_ _)); exact BK182.out) hb); have n2_ := Aside0.mk (below_step (by repeat (first | (with_reducible first | exact HB.out | apply below_alloc | apply pw_below_drewN | apply below_drew1 | refine below_set ?_ GE181.out | refine below_set ?_ GE182.out) | exact HB.out)) hb); clear BK181; clear BK182; clear HB; have BK181 := n0_; have BK182 := n1_; have HB := n2_; clear n0_ n1_ n2_; (try clear hb); (try clear hb2); (try clear hk); (try clear hi); have hcz45_0 : w44.cell? ⟨gb182, 0, none⟩ = some (.bool x183000_2) := (blk_cell BK182.out 0).trans rfl; have hcz45_1 : w44.cell? ⟨gb182, 1, none⟩ = some (.int .u64 x183001_2) := (blk_cell BK182.out 1).trans rfl; have hcz45_2 : w44.cell? ⟨gb182, 2, none⟩ = some (.int .u64 x183002_2) := (blk_cell BK182.out 2).trans rfl; have hfz45_0 := blk_frozen BK182.out 0; have hfz45_1 := blk_frozen BK182.out 1; have hfz45_2 := blk_frozen BK182.out 2))
                    go_roundg k2
                    case measure => have := HJ3.out; have := HK2.out; omega
                    case rel => exact ⟨(IntKind.u64.wrap ((IntKind.u64.wrap ((IntKind.u64.wrap (x10_2 * 2)) + (Int.tmod (ji22) 2))) - (IntKind.u64.wrap (a2)))), (wrap64 (x11_2 - 1)), (t188), (t189), (IntKind.u64.wrap (t190 + 1)), (by first | rfl | (simp; done) | (simp only [← hji22] <;> (first | rfl | simp)) | (simp [*]; done)), (by first | rfl | (simp; done) | (simp [*]; done)), H', ⟨by have := HJ3.out; have := HK2.out; omega⟩, ⟨by (with_reducible repeat (first | refine blk_drewN ?_ _ | refine blk_drew ?_ | refine blk_alloc ?_ _)); refine blk_far ?_ NB181_182.out _; (with_reducible repeat (first | refine blk_drewN ?_ _ | refine blk_drew ?_ | refine blk_alloc ?_ _)); refine blk_far ?_ NB181_182.out _; (with_reducible repeat (first | refine blk_drewN ?_ _ | refine blk_drew ?_ | refine blk_alloc ?_ _)); refine blk_far ?_ NB181_182.out _; (with_reducible repeat (first | refine blk_drewN ?_ _ | refine blk_drew ?_ | refine blk_alloc ?_ _)); refine blk_far ?_ NB181_182.out _; (with_reducible repeat (first | refine blk_drewN ?_ _ | refine blk_drew ?_ | refine blk_alloc ?_ _)); exact BK181.out⟩, ⟨by (with_reducible repeat (first | refine blk_drewN ?_ _ | refine blk_drew ?_ | refine blk_alloc ?_ _)); refine blk_put (cs := #[.bool t188, .int .u64 t189, .int .u64 t190]) ?_ 2 _ rfl; (with_reducible repeat (first | refine blk_drewN ?_ _ | refine blk_drew ?_ | refine blk_alloc ?_ _)); refine blk_put (cs := #[.bool t188, .int .u64 t189, .int .u64 x183002_2]) ?_ 2 _ rfl; (with_reducible repeat (first | refine blk_drewN ?_ _ | refine blk_drew ?_ | refine blk_alloc ?_ _)); refine blk_put (cs := #[.bool t188, .int .u64 x183001_2, .int .u64 x183002_2]) ?_ 1 _ rfl; (with_reducible repeat (first | refine blk_drewN ?_ _ | refine blk_drew ?_ | refine blk_alloc ?_ _)); refine blk_put (cs := #[.bool x183000_2, .int .u64 x183001_2, .int .u64 x183002_2]) ?_ 0 _ rfl; (with_reducible repeat (first | refine blk_drewN ?_ _ | refine blk_drew ?_ | refine blk_alloc ?_ _)); exact BK182.out⟩, ⟨by repeat (first | (with_reducible first | exact HB.out | apply below_alloc | apply pw_below_drewN | apply below_drew1 | refine below_set ?_ GE181.out | refine below_set ?_ GE182.out) | exact HB.out)⟩⟩
                  · rw [if_neg c40] at H
                    have c40b0 : decide ((IntKind.u64.wrap (a2)) ≤ (IntKind.u64.wrap ((IntKind.u64.wrap (x10_2 * 2)) + (Int.tmod (ji22) 2)))) = false := decide_eq_false c40
                    clear c40
                    have H' := Aside0.mk H
                    clear H
                    have hnb46 := NB181_182.out
                    have hnc46 := NB182_181.out
                    have hcz47_0 : wr.cell? ⟨gb181, 0, none⟩ = some (.bool t178) := (blk_cell BK181.out 0).trans rfl
                    have hcz47_1 : wr.cell? ⟨gb181, 1, none⟩ = some (.int .u64 t179) := (blk_cell BK181.out 1).trans rfl
                    have hcz47_2 : wr.cell? ⟨gb181, 2, none⟩ = some (.int .u64 t180) := (blk_cell BK181.out 2).trans rfl
                    have hfz47_0 := blk_frozen BK181.out 0
                    have hfz47_1 := blk_frozen BK181.out 1
                    have hfz47_2 := blk_frozen BK181.out 2
                    have hcz48_0 : wr.cell? ⟨gb182, 0, none⟩ = some (.bool x183000_2) := (blk_cell BK182.out 0).trans rfl
                    have hcz48_1 : wr.cell? ⟨gb182, 1, none⟩ = some (.int .u64 x183001_2) := (blk_cell BK182.out 1).trans rfl
                    have hcz48_2 : wr.cell? ⟨gb182, 2, none⟩ = some (.int .u64 x183002_2) := (blk_cell BK182.out 2).trans rfl
                    have hfz48_0 := blk_frozen BK182.out 0
                    have hfz48_1 := blk_frozen BK182.out 1
                    have hfz48_2 := blk_frozen BK182.out 2
                    go_wp2_with (first | ((with_reducible refine gate_callee (f := 30) rfl ?_); refine goesL_ (some 55) rfl rfl Try.func30 (by kernel_rfl) rfl #[.agg #[.bool x183000_2, .int .u64 x183001_2, .int .u64 x183002_2], .agg #[.bool x183000_2, .int .u64 x183001_2, .int .u64 x183002_2]] rfl (by (try simp only [List.map_toArray, List.map_cons, List.map_nil]); first | done | rfl | (simp only [List.length_drop, List.length_take]; rfl)) ?_; (with_reducible refine (gangerref01_plus.calls x183000_2 x183001_2 x183002_2 x183000_2 x183001_2 x183002_2 t188 t189 t190 _ A39.out).mono ?_); rintro e w49 ⟨rfl, hb⟩; refine ⟨_, rfl, ?_⟩; have n0_ := Aside0.mk (blk_below (g := gb181) (o := .cells #[.bool t178, .int .u64 t179, .int .u64 t180] 53 (0, 0)) (by (with_reducible repeat (first | refine blk_drewN ?_ _ | refine blk_drew ?_ | refine blk_alloc ?_ _)); exact BK181.out) hb); have n1_ := Aside0.mk (blk_below (g := gb182) (o := .cells #[.bool x183000_2, .int .u64 x183001_2, .int .u64 x183002_2] 53 (0, 0)) (by (with_reducible repeat (first | refine blk_drewN ?_ _ | refine blk_drew ?_ | refine blk_alloc ?_ _)); exact BK182.out) hb); have n2_ := Aside0.mk (below_step (by repeat (first | (with_reducible first | exact HB.out | apply below_alloc | apply pw_below_drewN | apply below_drew1 | refine below_set ?_ GE181.out | refine below_set ?_ GE182.out) | exact HB.out)) hb); clear BK181; clear BK182; clear HB; have BK181 := n0_; have BK182 := n1_; have HB := n2_; clear n0_ n1_ n2_; (try clear hb); (try clear hb2); (try clear hk); (try clear hi); have hcz50_0 : w49.cell? ⟨gb182, 0, none⟩ = some (.bool x183000_2) := (blk_cell BK182.out 0).trans rfl; have hcz50_1 : w49.cell? ⟨gb182, 1, none⟩ = some (.int .u64 x183001_2) := (blk_cell BK182.out 1).trans rfl; have hcz50_2 : w49.cell? ⟨gb182, 2, none⟩ = some (.int .u64 x183002_2) := (blk_cell BK182.out 2).trans rfl; have hfz50_0 := blk_frozen BK182.out 0; have hfz50_1 := blk_frozen BK182.out 1; have hfz50_2 := blk_frozen BK182.out 2))
                    go_roundg k2
                    case measure => have := HJ3.out; have := HK2.out; omega
                    case rel => exact ⟨(IntKind.u64.wrap ((IntKind.u64.wrap (x10_2 * 2)) + (Int.tmod (ji22) 2))), (wrap64 (x11_2 - 1)), (t188), (t189), (t190), (by first | rfl | (simp; done) | (simp only [← hji22] <;> (first | rfl | simp)) | (simp [*]; done)), (by first | rfl | (simp; done) | (simp [*]; done)), H', ⟨by have := HJ3.out; have := HK2.out; omega⟩, ⟨by (with_reducible repeat (first | refine blk_drewN ?_ _ | refine blk_drew ?_ | refine blk_alloc ?_ _)); refine blk_far ?_ NB181_182.out _; (with_reducible repeat (first | refine blk_drewN ?_ _ | refine blk_drew ?_ | refine blk_alloc ?_ _)); refine blk_far ?_ NB181_182.out _; (with_reducible repeat (first | refine blk_drewN ?_ _ | refine blk_drew ?_ | refine blk_alloc ?_ _)); refine blk_far ?_ NB181_182.out _; (with_reducible repeat (first | refine blk_drewN ?_ _ | refine blk_drew ?_ | refine blk_alloc ?_ _)); exact BK181.out⟩, ⟨by (with_reducible repeat (first | refine blk_drewN ?_ _ | refine blk_drew ?_ | refine blk_alloc ?_ _)); refine blk_put (cs := #[.bool t188, .int .u64 t189, .int .u64 x183002_2]) ?_ 2 _ rfl; (with_reducible repeat (first | refine blk_drewN ?_ _ | refine blk_drew ?_ | refine blk_alloc ?_ _)); refine blk_put (cs := #[.bool t188, .int .u64 x183001_2, .int .u64 x183002_2]) ?_ 1 _ rfl; (with_reducible repeat (first | refine blk_drewN ?_ _ | refine blk_drew ?_ | refine blk_alloc ?_ _)); refine blk_put (cs := #[.bool x183000_2, .int .u64 x183001_2, .int .u64 x183002_2]) ?_ 0 _ rfl; (with_reducible repeat (first | refine blk_drewN ?_ _ | refine blk_drew ?_ | refine blk_alloc ?_ _)); exact BK182.out⟩, ⟨by repeat (first | (with_reducible first | exact HB.out | apply below_alloc | apply pw_below_drewN | apply below_drew1 | refine below_set ?_ GE181.out | refine below_set ?_ GE182.out) | exact HB.out)⟩⟩
              · rw [if_neg c21] at H
                exact absurd H (by simp)
            · rw [if_neg c19] at H
              have c19b0 : decide (0 ≤ x11_2) = false := decide_eq_false c19
              clear c19
              replace H := Option.bind_eq_some_iff.mp H
              obtain ⟨⟨t183, t184⟩, A510, H⟩ := H
              replace H : (some (t183, t184)) = some (r1, r2) := H
              have A51 := Aside0.mk A510
              clear A510
              simp only [Option.some.injEq, Prod.mk.injEq] at H
              obtain ⟨rfl, rfl⟩ := H
              have hnb52 := NB182_181.out
              have hnc52 := NB181_182.out
              have hcz53_0 : wr.cell? ⟨gb182, 0, none⟩ = some (.bool x183000_2) := (blk_cell BK182.out 0).trans rfl
              have hcz53_1 : wr.cell? ⟨gb182, 1, none⟩ = some (.int .u64 x183001_2) := (blk_cell BK182.out 1).trans rfl
              have hcz53_2 : wr.cell? ⟨gb182, 2, none⟩ = some (.int .u64 x183002_2) := (blk_cell BK182.out 2).trans rfl
              have hfz53_0 := blk_frozen BK182.out 0
              have hfz53_1 := blk_frozen BK182.out 1
              have hfz53_2 := blk_frozen BK182.out 2
              go_wp2_with (first | ((with_reducible refine gate_callee (f := 31) rfl ?_); refine goesL_ (some 69) rfl rfl Try.func31 (by kernel_rfl) rfl #[.agg #[.bool x183000_2, .int .u64 x183001_2, .int .u64 x183002_2]] rfl (by (try simp only [List.map_toArray, List.map_cons, List.map_nil]); first | done | rfl | (simp only [List.length_drop, List.length_take]; rfl)) ?_; (with_reducible refine (gangerref01_told.calls k2 x183000_2 x183001_2 x183002_2 t183 t184 _ A51.out).mono ?_); rintro e w54 ⟨rfl, hb⟩; refine ⟨_, rfl, ?_⟩; have n0_ := Aside0.mk (blk_below (g := gb181) (o := .cells #[.bool t178, .int .u64 t179, .int .u64 t180] 53 (0, 0)) (by (with_reducible repeat (first | refine blk_drewN ?_ _ | refine blk_drew ?_ | refine blk_alloc ?_ _)); exact BK181.out) hb); have n1_ := Aside0.mk (blk_below (g := gb182) (o := .cells #[.bool x183000_2, .int .u64 x183001_2, .int .u64 x183002_2] 53 (0, 0)) (by (with_reducible repeat (first | refine blk_drewN ?_ _ | refine blk_drew ?_ | refine blk_alloc ?_ _)); exact BK182.out) hb); have n2_ := Aside0.mk (below_step (by repeat (first | (with_reducible first | exact HB.out | apply below_alloc | apply pw_below_drewN | apply below_drew1 | refine below_set ?_ GE181.out | refine below_set ?_ GE182.out) | exact HB.out)) hb); clear BK181; clear BK182; clear HB; have BK181 := n0_; have BK182 := n1_; have HB := n2_; clear n0_ n1_ n2_; (try clear hb); (try clear hb2); (try clear hk); (try clear hi)))
              go_ret2
              exact ⟨by first | rfl | (simp [errW_none, errW_some] <;> rfl) | (simp [*, errW_none, errW_some] <;> rfl), by repeat (first | (with_reducible first | exact HB.out | apply below_alloc | apply pw_below_drewN | apply below_drew1 | refine below_set ?_ GE181.out | refine below_set ?_ GE182.out) | exact HB.out)⟩

/-! ### gangerref02_After: function 14 -/
mutual
def gangerref02_After.j0 : Nat → Int → Int → Int → Bool → Option (Int × Int)
  | 0, _, _, _, _ => none
  | k + 1, x0, x8, x9, x24 => if x24 = true then (some (0, 2)) else (gangerref02_After.l0 k x0 x8 x9 0)
def gangerref02_After.l0 : Nat → Int → Int → Int → Int → Option (Int × Int)
  | 0, _, _, _, _ => none
  | k + 1, x0, x8, x9, x11 => if x11 < x8 then (if x0 > 0 then (gangerref02_After.l0 k (wrap64 (Int.tdiv x0 2)) x8 x9 (wrap64 (x11 + 1))) else ((gangerref01_MulDiv.f k x0 x9 65536).bind fun bt194 => (some (bt194.1, bt194.2)))) else ((gangerref01_MulDiv.f k x0 x9 65536).bind fun bt196 => (some (bt196.1, bt196.2)))
end
def gangerref02_After.f (k : Nat) (a0 : Int) (a1 : Int) (a2 : Int) : Option (Int × Int) := (gangerref02_Factor.f k a1 a2).bind fun bt191 => (if bt191.2.2 = 0 then (gangerref02_After.j0 k a0 bt191.1 bt191.2.1 (decide (a0 < 0))) else (gangerref02_After.j0 k a0 bt191.1 bt191.2.1 true))
theorem gangerref02_After.mono_l : ∀ k, (∀ y0 y1 y2 y3, LeO (gangerref02_After.j0 k y0 y1 y2 y3) (gangerref02_After.j0 (k + 1) y0 y1 y2 y3)) ∧ (∀ y0 y1 y2 y3, LeO (gangerref02_After.l0 k y0 y1 y2 y3) (gangerref02_After.l0 (k + 1) y0 y1 y2 y3))
  | 0 => ⟨fun _ _ _ _ r h => by simp [gangerref02_After.j0] at h, fun _ _ _ _ r h => by simp [gangerref02_After.l0] at h⟩
  | k + 1 => by
    obtain ⟨ih0, ih1⟩ := gangerref02_After.mono_l k
    refine ⟨?_, ?_⟩
    · intro y0 y1 y2 y3
      unfold gangerref02_After.j0
      repeat' first
      | (with_reducible exact ih0 _ _ _ _)
      | (with_reducible exact ih1 _ _ _ _)
      | (with_reducible exact gangerref01_MulDiv.mono _ _ _ _)
      | (with_reducible exact gangerref02_Factor.mono _ _ _)
      | (with_reducible exact LeO.refl _)
      | (with_reducible exact LeO.none _)
      | (with_reducible refine LeO.ite ?_ ?_)
      | (with_reducible refine LeO.bind ?_ (fun _ => ?_))
      | exact ih0 _ _ _ _
      | exact ih1 _ _ _ _
      | exact gangerref01_MulDiv.mono _ _ _ _
      | exact gangerref02_Factor.mono _ _ _
      | exact LeO.none _
      | refine LeO.ite ?_ ?_
      | refine LeO.bind ?_ (fun _ => ?_)
    · intro y0 y1 y2 y3
      unfold gangerref02_After.l0
      repeat' first
      | (with_reducible exact ih0 _ _ _ _)
      | (with_reducible exact ih1 _ _ _ _)
      | (with_reducible exact gangerref01_MulDiv.mono _ _ _ _)
      | (with_reducible exact gangerref02_Factor.mono _ _ _)
      | (with_reducible exact LeO.refl _)
      | (with_reducible exact LeO.none _)
      | (with_reducible refine LeO.ite ?_ ?_)
      | (with_reducible refine LeO.bind ?_ (fun _ => ?_))
      | exact ih0 _ _ _ _
      | exact ih1 _ _ _ _
      | exact gangerref01_MulDiv.mono _ _ _ _
      | exact gangerref02_Factor.mono _ _ _
      | exact LeO.none _
      | refine LeO.ite ?_ ?_
      | refine LeO.bind ?_ (fun _ => ?_)
theorem gangerref02_After.mono : ∀ a0 a1 a2 k, LeO (gangerref02_After.f k a0 a1 a2) (gangerref02_After.f (k + 1) a0 a1 a2) := by
  intro a0 a1 a2 k
  obtain ⟨ih0, ih1⟩ := gangerref02_After.mono_l k
  unfold gangerref02_After.f
  repeat' first
      | (with_reducible exact ih0 _ _ _ _)
      | (with_reducible exact ih1 _ _ _ _)
      | (with_reducible exact gangerref01_MulDiv.mono _ _ _ _)
      | (with_reducible exact gangerref02_Factor.mono _ _ _)
      | (with_reducible exact LeO.refl _)
      | (with_reducible exact LeO.none _)
      | (with_reducible refine LeO.ite ?_ ?_)
      | (with_reducible refine LeO.bind ?_ (fun _ => ?_))
      | exact ih0 _ _ _ _
      | exact ih1 _ _ _ _
      | exact gangerref01_MulDiv.mono _ _ _ _
      | exact gangerref02_Factor.mono _ _ _
      | exact LeO.none _
      | refine LeO.ite ?_ ?_
      | refine LeO.bind ?_ (fun _ => ?_)
set_option maxHeartbeats 8000000 in
set_option maxRecDepth 100000 in
theorem gangerref02_After.calls (k : Nat) (a0 : Int) (a1 : Int) (a2 : Int) (r1 : Int) (r2 : Int) (w : World) (h : gangerref02_After.f k a0 a1 a2 = some (r1, r2)) :
    Calls Try.prog 14 #[.int .i64 a0, .int .i64 a1, .int .i64 a2] w fun e w' => e = .returned (.tuple #[.int .i64 r1, .int .i64 r2]) ∧ Below w.heap.size w w' := by
  have HB := Aside0.mk (Below.refl w.heap.size w)
  have H : ((gangerref02_Factor.f k a1 a2).bind fun bt191 => (if bt191.2.2 = 0 then (gangerref02_After.j0 k a0 bt191.1 bt191.2.1 (decide (a0 < 0))) else (gangerref02_After.j0 k a0 bt191.1 bt191.2.1 true))) = some (r1, r2) := h
  clear h
  replace H := Option.bind_eq_some_iff.mp H
  obtain ⟨⟨t191, t192, t193⟩, A40, H⟩ := H
  replace H : (if t193 = 0 then (gangerref02_After.j0 k a0 t191 t192 (decide (a0 < 0))) else (gangerref02_After.j0 k a0 t191 t192 true)) = some (r1, r2) := H
  have A4 := Aside0.mk A40
  clear A40
  have HC5 := Aside0.mk H
  clear H
  go_enter Try.func14, Try.ntmps14
  go_upto_region 2 with (first | ((with_reducible refine gate_callee (f := 11) rfl ?_); refine goesL_ (some 15) rfl rfl Try.func11 (by kernel_rfl) rfl #[.int .i64 a1, .int .i64 a2] rfl (by (try simp only [List.map_toArray, List.map_cons, List.map_nil]); first | done | rfl | (simp only [List.length_drop, List.length_take]; rfl)) ?_; (with_reducible refine (gangerref02_Factor.calls k a1 a2 t191 t192 t193 _ A4.out).mono ?_); rintro e w6 ⟨rfl, hb⟩; refine ⟨_, rfl, ?_⟩; have n0_ := Aside0.mk (below_step (by repeat (first | (with_reducible first | exact HB.out | apply below_alloc | apply pw_below_drewN | apply below_drew1) | exact HB.out)) hb); clear HB; have HB := n0_; clear n0_; (try clear hb); (try clear hb2); (try clear hk); (try clear hi)))
  (try simp only [Act.put, List.setIfInBounds_toArray, List.set_cons_zero, List.set_cons_succ])
  go_cut [24] (fun v24 wc => ∃ (kq : Nat) (x24_4 : Bool), v24 = .bool x24_4 ∧ Aside0 (gangerref02_After.j0 kq a0 t191 t192 x24_4 = some (r1, r2)) ∧ Aside0 (kq ≤ k) ∧ Aside0 (Below w.heap.size w wc))
  case first =>
    have H := HC5.out
    clear HC5
    by_cases c7 : t193 = 0
    · rw [if_pos c7] at H
      have c7b0 : (t193 == 0) = true := beq_iff_eq.mpr c7
      have c7b1 : (t193 != 0) = false := bne_eq_false_iff_eq.mpr c7
      clear c7
      (first | rw [c7b0] | (simp only [i64_w, i32_w]; rw [c7b0]) | skip)
      have H' := Aside0.mk H
      clear H
      go_wp2
      go_meet
      case rel => exact ⟨_, (decide (a0 < 0)), (by first | rfl | (simp; done) | (simp [*]; done)), H', ⟨by first | omega | exact Nat.le_refl _⟩, ⟨by repeat (first | (with_reducible first | exact HB.out | apply below_alloc | apply pw_below_drewN | apply below_drew1) | exact HB.out)⟩⟩
    · rw [if_neg c7] at H
      have c7b0 : (t193 == 0) = false := beq_eq_false_iff_ne.mpr c7
      have c7b1 : (t193 != 0) = true := bne_iff_ne.mpr c7
      (first | rw [c7b0] | (simp only [i64_w, i32_w]; rw [c7b0]) | skip)
      have H' := Aside0.mk H
      clear H
      go_wp2
      go_meet
      case rel => exact ⟨_, (true), (by first | rfl | (simp; done) | (simp [*]; done)), H', ⟨by first | omega | exact Nat.le_refl _⟩, ⟨by repeat (first | (with_reducible first | exact HB.out | apply below_alloc | apply pw_below_drewN | apply below_drew1) | exact HB.out)⟩⟩
  case rest =>
    clear HC5
    try clear c1
    try clear p2
    try clear c7
    try clear c7b0
    try clear c7b1
    obtain ⟨kq, x24_4, rfl, HA, HJ4, HB⟩ := hcut
    cases kq with
    | zero => exact absurd HA.out (by simp [gangerref02_After.j0])
    | succ kj4 =>
      have H := HA.out
      clear HA
      simp only [gangerref02_After.j0] at H
      by_cases c8 : x24_4 = true
      · subst c8
        have H1 : (some (0, 2)) = some (r1, r2) := by rw [if_pos rfl] at H; exact H
        clear H
        have H := H1
        clear H1
        simp only [Option.some.injEq, Prod.mk.injEq] at H
        obtain ⟨rfl, rfl⟩ := H
        go_wp2
        go_ret2
        exact ⟨by first | rfl | (simp [errW_none, errW_some] <;> rfl) | (simp [*, errW_none, errW_some] <;> rfl), by repeat (first | (with_reducible first | exact HB.out | apply below_alloc | apply pw_below_drewN | apply below_drew1) | exact HB.out)⟩
      · replace c8 := Bool.eq_false_iff.mpr c8
        subst c8
        have H1 : (gangerref02_After.l0 kj4 a0 t191 t192 0) = some (r1, r2) := by rw [if_neg (show ¬ (false = true) by decide)] at H; exact H
        clear H
        have H := H1
        clear H1
        have H' := Aside0.mk H
        clear H
        go_wp2
        go_loopg [0, 11] kj4 (fun kq v0 v11 w' => ∃ (x0_2 : Int) (x11_2 : Int), v0 = .int .i64 x0_2 ∧ v11 = .int .i64 x11_2 ∧ Aside0 (gangerref02_After.l0 kq x0_2 t191 t192 x11_2 = some (r1, r2)) ∧ Aside0 (kq ≤ kj4) ∧ Aside0 (Below w.heap.size w w'))
        case atStart => exact ⟨(a0), (0), (by first | rfl | (simp; done) | (simp [*]; done)), (by first | rfl | (simp; done) | (simp [*]; done)), H', ⟨Nat.le_refl _⟩, ⟨by repeat (first | (with_reducible first | exact HB.out | apply below_alloc | apply pw_below_drewN | apply below_drew1) | exact HB.out)⟩⟩
        case round =>
          clear H'
          try clear c1
          try clear p2
          try clear c7
          try clear c7b0
          try clear c7b1
          try clear c8
          try clear p2
          obtain ⟨x0_2, x11_2, rfl, rfl, HA, HK2, HB⟩ := hrel
          cases gk with
          | zero => exact absurd HA.out (by simp [gangerref02_After.l0])
          | succ k2 =>
            have H := HA.out
            clear HA
            simp only [gangerref02_After.l0] at H
            by_cases c9 : x11_2 < t191
            · rw [if_pos c9] at H
              have c9b0 : decide (x11_2 < t191) = true := decide_eq_true c9
              clear c9
              by_cases c10 : x0_2 > 0
              · rw [if_pos c10] at H
                have c10b0 : decide (0 < x0_2) = true := decide_eq_true c10
                clear c10
                have H' := Aside0.mk H
                clear H
                go_wp2
                go_roundg k2
                case measure => have := HJ4.out; have := HK2.out; omega
                case rel => exact ⟨(wrap64 (Int.tdiv x0_2 2)), (wrap64 (x11_2 + 1)), (by first | rfl | (simp; done) | (simp [*]; done)), (by first | rfl | (simp; done) | (simp [*]; done)), H', ⟨by have := HJ4.out; have := HK2.out; omega⟩, ⟨by repeat (first | (with_reducible first | exact HB.out | apply below_alloc | apply pw_below_drewN | apply below_drew1) | exact HB.out)⟩⟩
              · rw [if_neg c10] at H
                have c10b0 : decide (0 < x0_2) = false := decide_eq_false c10
                clear c10
                replace H := Option.bind_eq_some_iff.mp H
                obtain ⟨⟨t194, t195⟩, A110, H⟩ := H
                replace H : (some (t194, t195)) = some (r1, r2) := H
                have A11 := Aside0.mk A110
                clear A110
                simp only [Option.some.injEq, Prod.mk.injEq] at H
                obtain ⟨rfl, rfl⟩ := H
                go_wp2_with (first | ((with_reducible refine gate_callee (f := 22) rfl ?_); refine goesL_ (some 38) rfl rfl Try.func22 (by kernel_rfl) rfl #[.int .i64 x0_2, .int .i64 t192, .int .i64 65536] rfl (by (try simp only [List.map_toArray, List.map_cons, List.map_nil]); first | done | rfl | (simp only [List.length_drop, List.length_take]; rfl)) ?_; (with_reducible refine (gangerref01_MulDiv.calls k2 x0_2 t192 65536 t194 t195 _ A11.out).mono ?_); rintro e w12 ⟨rfl, hb⟩; refine ⟨_, rfl, ?_⟩; have n0_ := Aside0.mk (below_step (by repeat (first | (with_reducible first | exact HB.out | apply below_alloc | apply pw_below_drewN | apply below_drew1) | exact HB.out)) hb); clear HB; have HB := n0_; clear n0_; (try clear hb); (try clear hb2); (try clear hk); (try clear hi)))
                go_ret2
                exact ⟨by first | rfl | (simp [errW_none, errW_some] <;> rfl) | (simp [*, errW_none, errW_some] <;> rfl), by repeat (first | (with_reducible first | exact HB.out | apply below_alloc | apply pw_below_drewN | apply below_drew1) | exact HB.out)⟩
            · rw [if_neg c9] at H
              have c9b0 : decide (x11_2 < t191) = false := decide_eq_false c9
              clear c9
              replace H := Option.bind_eq_some_iff.mp H
              obtain ⟨⟨t196, t197⟩, A130, H⟩ := H
              replace H : (some (t196, t197)) = some (r1, r2) := H
              have A13 := Aside0.mk A130
              clear A130
              simp only [Option.some.injEq, Prod.mk.injEq] at H
              obtain ⟨rfl, rfl⟩ := H
              go_wp2_with (first | ((with_reducible refine gate_callee (f := 22) rfl ?_); refine goesL_ (some 38) rfl rfl Try.func22 (by kernel_rfl) rfl #[.int .i64 x0_2, .int .i64 t192, .int .i64 65536] rfl (by (try simp only [List.map_toArray, List.map_cons, List.map_nil]); first | done | rfl | (simp only [List.length_drop, List.length_take]; rfl)) ?_; (with_reducible refine (gangerref01_MulDiv.calls k2 x0_2 t192 65536 t196 t197 _ A13.out).mono ?_); rintro e w14 ⟨rfl, hb⟩; refine ⟨_, rfl, ?_⟩; have n0_ := Aside0.mk (below_step (by repeat (first | (with_reducible first | exact HB.out | apply below_alloc | apply pw_below_drewN | apply below_drew1) | exact HB.out)) hb); clear HB; have HB := n0_; clear n0_; (try clear hb); (try clear hb2); (try clear hk); (try clear hi)))
              go_ret2
              exact ⟨by first | rfl | (simp [errW_none, errW_some] <;> rfl) | (simp [*, errW_none, errW_some] <;> rfl), by repeat (first | (with_reducible first | exact HB.out | apply below_alloc | apply pw_below_drewN | apply below_drew1) | exact HB.out)⟩

/-! ### gangerref02_Until: function 16 -/
mutual
def gangerref02_Until.j0 : Nat → Int → Int → Bool → Option (Int × Int)
  | 0, _, _, _ => none
  | k + 1, x0, x1, x16 => if x16 = true then (some (0, 2)) else (gangerref02_Until.l0 k x0 x1 0)
def gangerref02_Until.l0 : Nat → Int → Int → Int → Option (Int × Int)
  | 0, _, _, _ => none
  | k + 1, x0, x1, x6 => if x0 > 0 then (gangerref02_Until.l0 k (wrap64 (Int.tdiv x0 2)) x1 (wrap64 (x6 + x1))) else (some (x6, 0))
end
def gangerref02_Until.f (k : Nat) (a0 : Int) (a1 : Int) : Option (Int × Int) := if a0 < 0 then (gangerref02_Until.j0 k a0 a1 true) else (if a1 < 1 then (gangerref02_Until.j0 k a0 a1 true) else (gangerref02_Until.j0 k a0 a1 (decide (a1 > 4294967296))))
theorem gangerref02_Until.mono_l : ∀ k, (∀ y0 y1 y2, LeO (gangerref02_Until.j0 k y0 y1 y2) (gangerref02_Until.j0 (k + 1) y0 y1 y2)) ∧ (∀ y0 y1 y2, LeO (gangerref02_Until.l0 k y0 y1 y2) (gangerref02_Until.l0 (k + 1) y0 y1 y2))
  | 0 => ⟨fun _ _ _ r h => by simp [gangerref02_Until.j0] at h, fun _ _ _ r h => by simp [gangerref02_Until.l0] at h⟩
  | k + 1 => by
    obtain ⟨ih0, ih1⟩ := gangerref02_Until.mono_l k
    refine ⟨?_, ?_⟩
    · intro y0 y1 y2
      unfold gangerref02_Until.j0
      repeat' first
      | (with_reducible exact ih0 _ _ _)
      | (with_reducible exact ih1 _ _ _)
      | (with_reducible exact LeO.refl _)
      | (with_reducible exact LeO.none _)
      | (with_reducible refine LeO.ite ?_ ?_)
      | (with_reducible refine LeO.bind ?_ (fun _ => ?_))
      | exact ih0 _ _ _
      | exact ih1 _ _ _
      | exact LeO.none _
      | refine LeO.ite ?_ ?_
      | refine LeO.bind ?_ (fun _ => ?_)
    · intro y0 y1 y2
      unfold gangerref02_Until.l0
      repeat' first
      | (with_reducible exact ih0 _ _ _)
      | (with_reducible exact ih1 _ _ _)
      | (with_reducible exact LeO.refl _)
      | (with_reducible exact LeO.none _)
      | (with_reducible refine LeO.ite ?_ ?_)
      | (with_reducible refine LeO.bind ?_ (fun _ => ?_))
      | exact ih0 _ _ _
      | exact ih1 _ _ _
      | exact LeO.none _
      | refine LeO.ite ?_ ?_
      | refine LeO.bind ?_ (fun _ => ?_)
theorem gangerref02_Until.mono : ∀ a0 a1 k, LeO (gangerref02_Until.f k a0 a1) (gangerref02_Until.f (k + 1) a0 a1) := by
  intro a0 a1 k
  obtain ⟨ih0, ih1⟩ := gangerref02_Until.mono_l k
  unfold gangerref02_Until.f
  repeat' first
      | (with_reducible exact ih0 _ _ _)
      | (with_reducible exact ih1 _ _ _)
      | (with_reducible exact LeO.refl _)
      | (with_reducible exact LeO.none _)
      | (with_reducible refine LeO.ite ?_ ?_)
      | (with_reducible refine LeO.bind ?_ (fun _ => ?_))
      | exact ih0 _ _ _
      | exact ih1 _ _ _
      | exact LeO.none _
      | refine LeO.ite ?_ ?_
      | refine LeO.bind ?_ (fun _ => ?_)
set_option maxHeartbeats 8000000 in
set_option maxRecDepth 100000 in
theorem gangerref02_Until.calls (k : Nat) (a0 : Int) (a1 : Int) (r1 : Int) (r2 : Int) (w : World) (h : gangerref02_Until.f k a0 a1 = some (r1, r2)) :
    Calls Try.prog 16 #[.int .i64 a0, .int .i64 a1] w fun e w' => e = .returned (.tuple #[.int .i64 r1, .int .i64 r2]) ∧ Drawn0 w w' := by
  have H : (if a0 < 0 then (gangerref02_Until.j0 k a0 a1 true) else (if a1 < 1 then (gangerref02_Until.j0 k a0 a1 true) else (gangerref02_Until.j0 k a0 a1 (decide (a1 > 4294967296))))) = some (r1, r2) := h
  clear h
  have HC3 := Aside0.mk H
  clear H
  go_enter Try.func16, Try.ntmps16
  go_upto_region 1 with (fail)
  go_cut [16] (fun v16 wc => ∃ (kq : Nat) (x16_2 : Bool), v16 = .bool x16_2 ∧ Aside0 (gangerref02_Until.j0 kq a0 a1 x16_2 = some (r1, r2)) ∧ Aside0 (kq ≤ k) ∧ Drawn0 w wc)
  case first =>
    have H := HC3.out
    clear HC3
    by_cases c4 : a0 < 0
    · rw [if_pos c4] at H
      have c4b0 : decide (a0 < 0) = true := decide_eq_true c4
      clear c4
      (first | rw [c4b0] | (simp only [i64_w, i32_w]; rw [c4b0]) | skip)
      have H' := Aside0.mk H
      clear H
      go_wp2
      go_meet
      case rel => exact ⟨_, (true), (by first | rfl | (simp; done) | (simp [*]; done)), H', ⟨by first | omega | exact Nat.le_refl _⟩, by repeat (first | exact Drawn0.refl _ | apply Drawn0.step)⟩
    · rw [if_neg c4] at H
      have c4b0 : decide (a0 < 0) = false := decide_eq_false c4
      clear c4
      (first | rw [c4b0] | (simp only [i64_w, i32_w]; rw [c4b0]) | skip)
      by_cases c5 : a1 < 1
      · rw [if_pos c5] at H
        have c5b0 : decide (a1 < 1) = true := decide_eq_true c5
        clear c5
        have H' := Aside0.mk H
        clear H
        go_wp2
        go_meet
        case rel => exact ⟨_, (true), (by first | rfl | (simp; done) | (simp [*]; done)), H', ⟨by first | omega | exact Nat.le_refl _⟩, by repeat (first | exact Drawn0.refl _ | apply Drawn0.step)⟩
      · rw [if_neg c5] at H
        have c5b0 : decide (a1 < 1) = false := decide_eq_false c5
        clear c5
        have H' := Aside0.mk H
        clear H
        go_wp2
        go_meet
        case rel => exact ⟨_, (decide (a1 > 4294967296)), (by first | rfl | (simp; done) | (simp [*]; done)), H', ⟨by first | omega | exact Nat.le_refl _⟩, by repeat (first | exact Drawn0.refl _ | apply Drawn0.step)⟩
  case rest =>
    clear HC3
    try clear c1
    try clear p2
    try clear c4
    try clear c4b0
    try clear c5
    try clear c5b0
    obtain ⟨kq, x16_2, rfl, HA, HJ2, ⟨mc2, rfl⟩⟩ := hcut
    cases kq with
    | zero => exact absurd HA.out (by simp [gangerref02_Until.j0])
    | succ kj2 =>
      have H := HA.out
      clear HA
      simp only [gangerref02_Until.j0] at H
      by_cases c6 : x16_2 = true
      · subst c6
        have H1 : (some (0, 2)) = some (r1, r2) := by rw [if_pos rfl] at H; exact H
        clear H
        have H := H1
        clear H1
        simp only [Option.some.injEq, Prod.mk.injEq] at H
        obtain ⟨rfl, rfl⟩ := H
        go_wp2
        go_ret2
        exact ⟨by first | rfl | (simp; done) | (simp [*]; done), by repeat (first | exact Drawn0.refl _ | apply Drawn0.step)⟩
      · replace c6 := Bool.eq_false_iff.mpr c6
        subst c6
        have H1 : (gangerref02_Until.l0 kj2 a0 a1 0) = some (r1, r2) := by rw [if_neg (show ¬ (false = true) by decide)] at H; exact H
        clear H
        have H := H1
        clear H1
        have H' := Aside0.mk H
        clear H
        go_wp2
        go_loopg [0, 6] kj2 (fun kq v0 v6 w' => ∃ (x0_2 : Int) (x6_2 : Int), v0 = .int .i64 x0_2 ∧ v6 = .int .i64 x6_2 ∧ Aside0 (gangerref02_Until.l0 kq x0_2 a1 x6_2 = some (r1, r2)) ∧ Aside0 (kq ≤ kj2) ∧ Drawn0 w w')
        case atStart => exact ⟨(a0), (0), (by first | rfl | (simp; done) | (simp [*]; done)), (by first | rfl | (simp; done) | (simp [*]; done)), H', ⟨Nat.le_refl _⟩, by repeat (first | exact Drawn0.refl _ | apply Drawn0.step)⟩
        case round =>
          clear H'
          try clear c1
          try clear c2
          try clear p2
          try clear c4
          try clear c4b0
          try clear c5
          try clear c5b0
          try clear c6
          try clear p2
          obtain ⟨x0_2, x6_2, rfl, rfl, HA, HK2, ⟨m2, rfl⟩⟩ := hrel
          cases gk with
          | zero => exact absurd HA.out (by simp [gangerref02_Until.l0])
          | succ k2 =>
            have H := HA.out
            clear HA
            simp only [gangerref02_Until.l0] at H
            by_cases c7 : x0_2 > 0
            · rw [if_pos c7] at H
              have c7b0 : decide (0 < x0_2) = true := decide_eq_true c7
              clear c7
              have H' := Aside0.mk H
              clear H
              go_wp2
              go_roundg k2
              case measure => have := HJ2.out; have := HK2.out; omega
              case rel => exact ⟨(wrap64 (Int.tdiv x0_2 2)), (wrap64 (x6_2 + a1)), (by first | rfl | (simp; done) | (simp [*]; done)), (by first | rfl | (simp; done) | (simp [*]; done)), H', ⟨by have := HJ2.out; have := HK2.out; omega⟩, by repeat (first | exact Drawn0.refl _ | apply Drawn0.step)⟩
            · rw [if_neg c7] at H
              have c7b0 : decide (0 < x0_2) = false := decide_eq_false c7
              clear c7
              simp only [Option.some.injEq, Prod.mk.injEq] at H
              obtain ⟨rfl, rfl⟩ := H
              go_wp2
              go_ret2
              exact ⟨by first | rfl | (simp; done) | (simp [*]; done), by repeat (first | exact Drawn0.refl _ | apply Drawn0.step)⟩

/-! ### gangerlaw02_DecayAfters: function 4 -/
def gangerlaw02_DecayAfters.f (k : Nat) (a0 : Int) (a1 : Int) (a2 : Int) : Option (Bool) := (decay_After.f k a0 a1 a2).bind fun bt198 => ((gangerref02_After.f k a0 a1 a2).bind fun bt200 => ((decay_Until.f k a0 a2).bind fun bt202 => ((gangerref02_Until.f k a0 a2).bind fun bt204 => (if bt198.1 = bt200.1 then (if bt198.2 = bt200.2 then (if bt202.1 = bt204.1 then (if bt202.2 = bt204.2 then ((gangerlaw02_known.f k).bind fun t206 => (some t206)) else (none)) else (none)) else (none)) else (none)))))
theorem gangerlaw02_DecayAfters.mono : ∀ a0 a1 a2 k, LeO (gangerlaw02_DecayAfters.f k a0 a1 a2) (gangerlaw02_DecayAfters.f (k + 1) a0 a1 a2) := by
  intro a0 a1 a2 k
  unfold gangerlaw02_DecayAfters.f
  repeat' first
      | (with_reducible exact decay_After.mono _ _ _ _)
      | (with_reducible exact decay_Until.mono _ _ _)
      | (with_reducible exact gangerlaw02_known.mono _)
      | (with_reducible exact gangerref02_After.mono _ _ _ _)
      | (with_reducible exact gangerref02_Until.mono _ _ _)
      | (with_reducible exact LeO.refl _)
      | (with_reducible exact LeO.none _)
      | (with_reducible refine LeO.ite ?_ ?_)
      | (with_reducible refine LeO.bind ?_ (fun _ => ?_))
      | exact decay_After.mono _ _ _ _
      | exact decay_Until.mono _ _ _
      | exact gangerlaw02_known.mono _
      | exact gangerref02_After.mono _ _ _ _
      | exact gangerref02_Until.mono _ _ _
      | exact LeO.none _
      | refine LeO.ite ?_ ?_
      | refine LeO.bind ?_ (fun _ => ?_)
set_option maxHeartbeats 8000000 in
set_option maxRecDepth 100000 in
theorem gangerlaw02_DecayAfters.calls (k : Nat) (a0 : Int) (a1 : Int) (a2 : Int) (r : Bool) (w : World) (h : gangerlaw02_DecayAfters.f k a0 a1 a2 = some r) :
    Calls Try.prog 4 #[.int .i64 a0, .int .i64 a1, .int .i64 a2] w fun e w' => e = .returned (.bool r) ∧ Below w.heap.size w w' := by
  have HB := Aside0.mk (Below.refl w.heap.size w)
  have H : ((decay_After.f k a0 a1 a2).bind fun bt198 => ((gangerref02_After.f k a0 a1 a2).bind fun bt200 => ((decay_Until.f k a0 a2).bind fun bt202 => ((gangerref02_Until.f k a0 a2).bind fun bt204 => (if bt198.1 = bt200.1 then (if bt198.2 = bt200.2 then (if bt202.1 = bt204.1 then (if bt202.2 = bt204.2 then ((gangerlaw02_known.f k).bind fun t206 => (some t206)) else (none)) else (none)) else (none)) else (none)))))) = some r := h
  clear h
  replace H := Option.bind_eq_some_iff.mp H
  obtain ⟨⟨t198, t199⟩, A40, H⟩ := H
  replace H : ((gangerref02_After.f k a0 a1 a2).bind fun bt200 => ((decay_Until.f k a0 a2).bind fun bt202 => ((gangerref02_Until.f k a0 a2).bind fun bt204 => (if t198 = bt200.1 then (if t199 = bt200.2 then (if bt202.1 = bt204.1 then (if bt202.2 = bt204.2 then ((gangerlaw02_known.f k).bind fun t206 => (some t206)) else (none)) else (none)) else (none)) else (none))))) = some r := H
  have A4 := Aside0.mk A40
  clear A40
  replace H := Option.bind_eq_some_iff.mp H
  obtain ⟨⟨t200, t201⟩, A50, H⟩ := H
  replace H : ((decay_Until.f k a0 a2).bind fun bt202 => ((gangerref02_Until.f k a0 a2).bind fun bt204 => (if t198 = t200 then (if t199 = t201 then (if bt202.1 = bt204.1 then (if bt202.2 = bt204.2 then ((gangerlaw02_known.f k).bind fun t206 => (some t206)) else (none)) else (none)) else (none)) else (none)))) = some r := H
  have A5 := Aside0.mk A50
  clear A50
  replace H := Option.bind_eq_some_iff.mp H
  obtain ⟨⟨t202, t203⟩, A60, H⟩ := H
  replace H : ((gangerref02_Until.f k a0 a2).bind fun bt204 => (if t198 = t200 then (if t199 = t201 then (if t202 = bt204.1 then (if t203 = bt204.2 then ((gangerlaw02_known.f k).bind fun t206 => (some t206)) else (none)) else (none)) else (none)) else (none))) = some r := H
  have A6 := Aside0.mk A60
  clear A60
  replace H := Option.bind_eq_some_iff.mp H
  obtain ⟨⟨t204, t205⟩, A70, H⟩ := H
  replace H : (if t198 = t200 then (if t199 = t201 then (if t202 = t204 then (if t203 = t205 then ((gangerlaw02_known.f k).bind fun t206 => (some t206)) else (none)) else (none)) else (none)) else (none)) = some r := H
  have A7 := Aside0.mk A70
  clear A70
  by_cases c8 : t198 = t200
  · rw [if_pos c8] at H
    have c8b0 : (t198 == t200) = true := beq_iff_eq.mpr c8
    have c8b1 : (t198 != t200) = false := bne_eq_false_iff_eq.mpr c8
    clear c8
    by_cases c9 : t199 = t201
    · rw [if_pos c9] at H
      have c9b0 : (t199 == t201) = true := beq_iff_eq.mpr c9
      have c9b1 : (t199 != t201) = false := bne_eq_false_iff_eq.mpr c9
      clear c9
      by_cases c10 : t202 = t204
      · rw [if_pos c10] at H
        have c10b0 : (t202 == t204) = true := beq_iff_eq.mpr c10
        have c10b1 : (t202 != t204) = false := bne_eq_false_iff_eq.mpr c10
        clear c10
        by_cases c11 : t203 = t205
        · rw [if_pos c11] at H
          have c11b0 : (t203 == t205) = true := beq_iff_eq.mpr c11
          have c11b1 : (t203 != t205) = false := bne_eq_false_iff_eq.mpr c11
          clear c11
          replace H := Option.bind_eq_some_iff.mp H
          obtain ⟨t206, A120, H⟩ := H
          replace H : (some t206) = some r := H
          have A12 := Aside0.mk A120
          clear A120
          obtain rfl := Option.some.inj H
          go_enter Try.func4, Try.ntmps4
          go_wp2_with (first | ((with_reducible refine gate_callee (f := 13) rfl ?_); refine goesL_ (some 19) rfl rfl Try.func13 (by kernel_rfl) rfl #[.int .i64 a0, .int .i64 a1, .int .i64 a2] rfl (by (try simp only [List.map_toArray, List.map_cons, List.map_nil]); first | done | rfl | (simp only [List.length_drop, List.length_take]; rfl)) ?_; (with_reducible refine (decay_After.calls k a0 a1 a2 t198 t199 _ A4.out).mono ?_); rintro e w13 ⟨rfl, hb⟩; refine ⟨_, rfl, ?_⟩; have n0_ := Aside0.mk (below_step (by repeat (first | (with_reducible first | exact HB.out | apply below_alloc | apply pw_below_drewN | apply below_drew1) | exact HB.out)) hb); clear HB; have HB := n0_; clear n0_; (try clear hb); (try clear hb2); (try clear hk); (try clear hi)) | ((with_reducible refine gate_callee (f := 14) rfl ?_); refine goesL_ (some 26) rfl rfl Try.func14 (by kernel_rfl) rfl #[.int .i64 a0, .int .i64 a1, .int .i64 a2] rfl (by (try simp only [List.map_toArray, List.map_cons, List.map_nil]); first | done | rfl | (simp only [List.length_drop, List.length_take]; rfl)) ?_; (with_reducible refine (gangerref02_After.calls k a0 a1 a2 t200 t201 _ A5.out).mono ?_); rintro e w14 ⟨rfl, hb⟩; refine ⟨_, rfl, ?_⟩; have n0_ := Aside0.mk (below_step (by repeat (first | (with_reducible first | exact HB.out | apply below_alloc | apply pw_below_drewN | apply below_drew1) | exact HB.out)) hb); clear HB; have HB := n0_; clear n0_; (try clear hb); (try clear hb2); (try clear hk); (try clear hi)) | ((with_reducible refine gate_callee (f := 15) rfl ?_); refine goesL_ (some 32) rfl rfl Try.func15 (by kernel_rfl) rfl #[.int .i64 a0, .int .i64 a2] rfl (by (try simp only [List.map_toArray, List.map_cons, List.map_nil]); first | done | rfl | (simp only [List.length_drop, List.length_take]; rfl)) ?_; (with_reducible refine (decay_Until.calls k a0 a2 t202 t203 _ A6.out).mono ?_); rintro e w' ⟨rfl, ⟨nd, rfl⟩⟩; refine ⟨_, rfl, ?_⟩) | ((with_reducible refine gate_callee (f := 16) rfl ?_); refine goesL_ (some 38) rfl rfl Try.func16 (by kernel_rfl) rfl #[.int .i64 a0, .int .i64 a2] rfl (by (try simp only [List.map_toArray, List.map_cons, List.map_nil]); first | done | rfl | (simp only [List.length_drop, List.length_take]; rfl)) ?_; (with_reducible refine (gangerref02_Until.calls k a0 a2 t204 t205 _ A7.out).mono ?_); rintro e w' ⟨rfl, ⟨nd, rfl⟩⟩; refine ⟨_, rfl, ?_⟩) | (go_at_call 12; (with_reducible refine (gangerlaw02_known.calls k  t206 _ A12.out).mono ?_); rintro e w15 ⟨rfl, hb⟩; have n0_ := Aside0.mk (below_step (by repeat (first | (with_reducible first | exact HB.out | apply below_alloc | apply pw_below_drewN | apply below_drew1) | exact HB.out)) hb); clear HB; have HB := n0_; clear n0_; (try clear hb); (try clear hb2); (try clear hk); (try clear hi)))
          go_ret
          exact ⟨by first | rfl | (simp [errW_none, errW_some] <;> rfl) | (simp [*, errW_none, errW_some] <;> rfl), by repeat (first | (with_reducible first | exact HB.out | apply below_alloc | apply pw_below_drewN | apply below_drew1) | exact HB.out)⟩
        · rw [if_neg c11] at H
          exact absurd H (by simp)
      · rw [if_neg c10] at H
        exact absurd H (by simp)
    · rw [if_neg c9] at H
      exact absurd H (by simp)
  · rw [if_neg c8] at H
    exact absurd H (by simp)

/-- THE ONE PURE STATEMENT of gangerlaw02_DecayAfters: yours. -/
def gangerlaw02_DecayAfters.Pure : Prop := ∀ (a0 : Int) (a1 : Int) (a2 : Int), (Lit.int .i64 a0).wf = true → (Lit.int .i64 a1).wf = true → (Lit.int .i64 a2).wf = true → ∃ k, gangerlaw02_DecayAfters.f k a0 a1 a2 = some true
theorem gangerlaw02_DecayAfters.walk (P : gangerlaw02_DecayAfters.Pure) (a0 : Int) (a1 : Int) (a2 : Int) (w : World) (w0 : (Lit.int .i64 a0).wf = true) (w1 : (Lit.int .i64 a1).wf = true) (w2 : (Lit.int .i64 a2).wf = true) :
    Calls Try.prog 4 #[.int .i64 a0, .int .i64 a1, .int .i64 a2] w fun e w' => e = .returned (.bool true) ∧ Below w.heap.size w w' := by
  obtain ⟨k, h⟩ := P a0 a1 a2 w0 w1 w2
  refine (gangerlaw02_DecayAfters.calls k a0 a1 a2 true w h).mono ?_
  rintro e w' ⟨rfl, hd⟩
  exact ⟨rfl, hd⟩

end Go.Proofs.Ytaagimadfhcflaa.P
