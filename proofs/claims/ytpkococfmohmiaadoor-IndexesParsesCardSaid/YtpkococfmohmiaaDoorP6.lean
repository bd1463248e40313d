/- The machine's side of the laws of this seat: each function's plain form and its contract, written by a program of this session out of Lean's print of the loaded functions; no condition beyond what each statement says. -/
import Derived.Test.YtpkococfmohmiaaDoorP0
import Derived.Test.YtpkococfmohmiaaDoorP4
import Derived.Test.YtpkococfmohmiaaDoorP5
namespace Go.Proofs.YtpkococfmohmiaaDoor.P
open Go.RowKit Go.Proofs.YtpkococfmohmiaaDoorW.PrintWords Go.Proofs.YtpkococfmohmiaaDoorW.PrintLast Go.Proofs.YtpkococfmohmiaaDoorW.PrintMore
attribute [local go_sem] max2_int min2_int max_two min_two max_three min_three max_four min_four   -- for this text's walks alone
set_option linter.unusedVariables false
set_option linter.unusedSimpArgs false

attribute [local go_sem] isSome_setCell
/-! ### gangerref06_Parse: function 12 -/
mutual
def gangerref06_Parse.l0 : Nat → ByteArray → List Bool → Int → Int → Option (List Int × Int × Int × Int)
  | 0, _, _, _, _ => none
  | k + 1, x0, x5, x6, x7 => (gangerref06_one.f k x0 x7).bind fun bt185 => (if bt185.2.2.2.2 ≥ 0 then (some (([] : List Int), 0, bt185.2.2.2.2, 60)) else ((gangerref06_mark.f k x5 bt185.1 bt185.2.1 bt185.2.2.1).bind fun bt191 => (if bt191.1 = true then (gangerref06_Parse.j1 k x0 bt191.2 x6 x7 false bt185.1 bt185.2.1 bt185.2.2.1 bt185.2.2.2.1 bt185.2.2.2.2) else (gangerref06_Parse.j1 k x0 bt191.2 x6 x7 (decide (x6 < 0)) bt185.1 bt185.2.1 bt185.2.2.1 bt185.2.2.2.1 bt185.2.2.2.2))))
def gangerref06_Parse.j1 : Nat → ByteArray → List Bool → Int → Int → Bool → Int → Int → Int → Int → Int → Option (List Int × Int × Int × Int)
  | 0, _, _, _, _, _, _, _, _, _, _ => none
  | k + 1, x0, x5, x6, x7, x39, x191000, x191001, x191002, x191003, x191004 => if x39 = true then (gangerref06_Parse.j2 k x0 x5 x7 x191000 x191001 x191002 x191003 x191004) else (gangerref06_Parse.j2 k x0 x5 x6 x191000 x191001 x191002 x191003 x191004)
def gangerref06_Parse.j2 : Nat → ByteArray → List Bool → Int → Int → Int → Int → Int → Int → Option (List Int × Int × Int × Int)
  | 0, _, _, _, _, _, _, _, _ => none
  | k + 1, x0, x5, x6, x191000, x191001, x191002, x191003, x191004 => (gangerref06_is.f x0 x191003 44).bind fun t193 => (if t193 = true then (gangerref06_Parse.l0 k x0 x5 x6 (wrap64 (x191003 + 1))) else ((gangerref06_is.f x0 x191003 37).bind fun t194 => (if t194 = true then ((gangerref06_number.f k x0 (wrap64 (x191003 + 1))).bind fun bt195 => (if bt195.2 = (wrap64 (x191003 + 1)) then (some (([] : List Int), 0, wrap64 (x191003 + 1), 60)) else (if bt195.1 = 0 then (gangerref06_Parse.j3 k x0 x5 x6 bt195.2 bt195.1 x191003 (decide (x6 < 0))) else (if bt195.1 > 1000 then (gangerref06_Parse.j3 k x0 x5 x6 bt195.2 bt195.1 x191003 (decide (x6 < 0))) else (gangerref06_Parse.j3 k x0 x5 x6 bt195.2 bt195.1 x191003 false))))) else (gangerref06_Parse.j4 k x0 x5 x6 x191003 0))))
def gangerref06_Parse.j4 : Nat → ByteArray → List Bool → Int → Int → Int → Option (List Int × Int × Int × Int)
  | 0, _, _, _, _, _ => none
  | k + 1, x0, x5, x6, x7, x10 => if x7 < (x0.size : Int) then (some (([] : List Int), 0, x7, 60)) else (if x6 ≥ 0 then (some (([] : List Int), 0, x6, 2)) else (gangerref06_Parse.l1 k x5 0 ([] : List Int) x10))
def gangerref06_Parse.l1 : Nat → List Bool → Int → List Int → Int → Option (List Int × Int × Int × Int)
  | 0, _, _, _, _ => none
  | k + 1, x5, x15, x198000, x198001 => if x15 ≤ 1000 then (if 0 ≤ x15 then (if x15 < (x5.length : Int) then (if rdOf false x5 x15 = true then (if x198000.length < 17592186044416 then (gangerref06_Parse.l1 k x5 (wrap64 (x15 + 1)) (x198000 ++ [x15]) x198001) else (none)) else (gangerref06_Parse.l1 k x5 (wrap64 (x15 + 1)) x198000 x198001)) else (none)) else (none)) else (some (x198000, x198001, 0, 0))
def gangerref06_Parse.j3 : Nat → ByteArray → List Bool → Int → Int → Int → Int → Bool → Option (List Int × Int × Int × Int)
  | 0, _, _, _, _, _, _, _ => none
  | k + 1, x0, x5, x6, x7, x10, x11, x78 => if x78 = true then (gangerref06_Parse.j4 k x0 x5 x11 x7 x10) else (gangerref06_Parse.j4 k x0 x5 x6 x7 x10)
end
def gangerref06_Parse.f (k : Nat) (a0 : ByteArray) : Option (List Int × Int × Int × Int) := if 1001 ≤ 281474976710656 then (gangerref06_Parse.l0 k a0 (List.replicate 1001 false) (-1) 0) else (none)
theorem gangerref06_Parse.mono_l : ∀ k, (∀ y0 y1 y2 y3, LeO (gangerref06_Parse.l0 k y0 y1 y2 y3) (gangerref06_Parse.l0 (k + 1) y0 y1 y2 y3)) ∧ (∀ y0 y1 y2 y3 y4 y5 y6 y7 y8 y9, LeO (gangerref06_Parse.j1 k y0 y1 y2 y3 y4 y5 y6 y7 y8 y9) (gangerref06_Parse.j1 (k + 1) y0 y1 y2 y3 y4 y5 y6 y7 y8 y9)) ∧ (∀ y0 y1 y2 y3 y4 y5 y6 y7, LeO (gangerref06_Parse.j2 k y0 y1 y2 y3 y4 y5 y6 y7) (gangerref06_Parse.j2 (k + 1) y0 y1 y2 y3 y4 y5 y6 y7)) ∧ (∀ y0 y1 y2 y3 y4, LeO (gangerref06_Parse.j4 k y0 y1 y2 y3 y4) (gangerref06_Parse.j4 (k + 1) y0 y1 y2 y3 y4)) ∧ (∀ y0 y1 y2 y3, LeO (gangerref06_Parse.l1 k y0 y1 y2 y3) (gangerref06_Parse.l1 (k + 1) y0 y1 y2 y3)) ∧ (∀ y0 y1 y2 y3 y4 y5 y6, LeO (gangerref06_Parse.j3 k y0 y1 y2 y3 y4 y5 y6) (gangerref06_Parse.j3 (k + 1) y0 y1 y2 y3 y4 y5 y6))
  | 0 => ⟨fun _ _ _ _ r h => by simp [gangerref06_Parse.l0] at h, fun _ _ _ _ _ _ _ _ _ _ r h => by simp [gangerref06_Parse.j1] at h, fun _ _ _ _ _ _ _ _ r h => by simp [gangerref06_Parse.j2] at h, fun _ _ _ _ _ r h => by simp [gangerref06_Parse.j4] at h, fun _ _ _ _ r h => by simp [gangerref06_Parse.l1] at h, fun _ _ _ _ _ _ _ r h => by simp [gangerref06_Parse.j3] at h⟩
  | k + 1 => by
    obtain ⟨ih0, ih1, ih2, ih3, ih4, ih5⟩ := gangerref06_Parse.mono_l k
    refine ⟨?_, ?_, ?_, ?_, ?_, ?_⟩
    · intro y0 y1 y2 y3
      unfold gangerref06_Parse.l0
      repeat' first
      | (with_reducible exact ih0 _ _ _ _)
      | (with_reducible exact ih1 _ _ _ _ _ _ _ _ _ _)
      | (with_reducible exact ih2 _ _ _ _ _ _ _ _)
      | (with_reducible exact ih3 _ _ _ _ _)
      | (with_reducible exact ih4 _ _ _ _)
      | (with_reducible exact ih5 _ _ _ _ _ _ _)
      | (with_reducible exact gangerref06_mark.mono _ _ _ _ _)
      | (with_reducible exact gangerref06_number.mono _ _ _)
      | (with_reducible exact gangerref06_one.mono _ _ _)
      | (with_reducible exact LeO.refl _)
      | (with_reducible exact LeO.none _)
      | (with_reducible refine LeO.ite ?_ ?_)
      | (with_reducible refine LeO.bind ?_ (fun _ => ?_))
      | exact ih0 _ _ _ _
      | exact ih1 _ _ _ _ _ _ _ _ _ _
      | exact ih2 _ _ _ _ _ _ _ _
      | exact ih3 _ _ _ _ _
      | exact ih4 _ _ _ _
      | exact ih5 _ _ _ _ _ _ _
      | exact gangerref06_mark.mono _ _ _ _ _
      | exact gangerref06_number.mono _ _ _
      | exact gangerref06_one.mono _ _ _
      | exact LeO.none _
      | refine LeO.ite ?_ ?_
      | refine LeO.bind ?_ (fun _ => ?_)
    · intro y0 y1 y2 y3 y4 y5 y6 y7 y8 y9
      unfold gangerref06_Parse.j1
      repeat' first
      | (with_reducible exact ih0 _ _ _ _)
      | (with_reducible exact ih1 _ _ _ _ _ _ _ _ _ _)
      | (with_reducible exact ih2 _ _ _ _ _ _ _ _)
      | (with_reducible exact ih3 _ _ _ _ _)
      | (with_reducible exact ih4 _ _ _ _)
      | (with_reducible exact ih5 _ _ _ _ _ _ _)
      | (with_reducible exact gangerref06_mark.mono _ _ _ _ _)
      | (with_reducible exact gangerref06_number.mono _ _ _)
      | (with_reducible exact gangerref06_one.mono _ _ _)
      | (with_reducible exact LeO.refl _)
      | (with_reducible exact LeO.none _)
      | (with_reducible refine LeO.ite ?_ ?_)
      | (with_reducible refine LeO.bind ?_ (fun _ => ?_))
      | exact ih0 _ _ _ _
      | exact ih1 _ _ _ _ _ _ _ _ _ _
      | exact ih2 _ _ _ _ _ _ _ _
      | exact ih3 _ _ _ _ _
      | exact ih4 _ _ _ _
      | exact ih5 _ _ _ _ _ _ _
      | exact gangerref06_mark.mono _ _ _ _ _
      | exact gangerref06_number.mono _ _ _
      | exact gangerref06_one.mono _ _ _
      | exact LeO.none _
      | refine LeO.ite ?_ ?_
      | refine LeO.bind ?_ (fun _ => ?_)
    · intro y0 y1 y2 y3 y4 y5 y6 y7
      unfold gangerref06_Parse.j2
      repeat' first
      | (with_reducible exact ih0 _ _ _ _)
      | (with_reducible exact ih1 _ _ _ _ _ _ _ _ _ _)
      | (with_reducible exact ih2 _ _ _ _ _ _ _ _)
      | (with_reducible exact ih3 _ _ _ _ _)
      | (with_reducible exact ih4 _ _ _ _)
      | (with_reducible exact ih5 _ _ _ _ _ _ _)
      | (with_reducible exact gangerref06_mark.mono _ _ _ _ _)
      | (with_reducible exact gangerref06_number.mono _ _ _)
      | (with_reducible exact gangerref06_one.mono _ _ _)
      | (with_reducible exact LeO.refl _)
      | (with_reducible exact LeO.none _)
      | (with_reducible refine LeO.ite ?_ ?_)
      | (with_reducible refine LeO.bind ?_ (fun _ => ?_))
      | exact ih0 _ _ _ _
      | exact ih1 _ _ _ _ _ _ _ _ _ _
      | exact ih2 _ _ _ _ _ _ _ _
      | exact ih3 _ _ _ _ _
      | exact ih4 _ _ _ _
      | exact ih5 _ _ _ _ _ _ _
      | exact gangerref06_mark.mono _ _ _ _ _
      | exact gangerref06_number.mono _ _ _
      | exact gangerref06_one.mono _ _ _
      | exact LeO.none _
      | refine LeO.ite ?_ ?_
      | refine LeO.bind ?_ (fun _ => ?_)
    · intro y0 y1 y2 y3 y4
      unfold gangerref06_Parse.j4
      repeat' first
      | (with_reducible exact ih0 _ _ _ _)
      | (with_reducible exact ih1 _ _ _ _ _ _ _ _ _ _)
      | (with_reducible exact ih2 _ _ _ _ _ _ _ _)
      | (with_reducible exact ih3 _ _ _ _ _)
      | (with_reducible exact ih4 _ _ _ _)
      | (with_reducible exact ih5 _ _ _ _ _ _ _)
      | (with_reducible exact gangerref06_mark.mono _ _ _ _ _)
      | (with_reducible exact gangerref06_number.mono _ _ _)
      | (with_reducible exact gangerref06_one.mono _ _ _)
      | (with_reducible exact LeO.refl _)
      | (with_reducible exact LeO.none _)
      | (with_reducible refine LeO.ite ?_ ?_)
      | (with_reducible refine LeO.bind ?_ (fun _ => ?_))
      | exact ih0 _ _ _ _
      | exact ih1 _ _ _ _ _ _ _ _ _ _
      | exact ih2 _ _ _ _ _ _ _ _
      | exact ih3 _ _ _ _ _
      | exact ih4 _ _ _ _
      | exact ih5 _ _ _ _ _ _ _
      | exact gangerref06_mark.mono _ _ _ _ _
      | exact gangerref06_number.mono _ _ _
      | exact gangerref06_one.mono _ _ _
      | exact LeO.none _
      | refine LeO.ite ?_ ?_
      | refine LeO.bind ?_ (fun _ => ?_)
    · intro y0 y1 y2 y3
      unfold gangerref06_Parse.l1
      repeat' first
      | (with_reducible exact ih0 _ _ _ _)
      | (with_reducible exact ih1 _ _ _ _ _ _ _ _ _ _)
      | (with_reducible exact ih2 _ _ _ _ _ _ _ _)
      | (with_reducible exact ih3 _ _ _ _ _)
      | (with_reducible exact ih4 _ _ _ _)
      | (with_reducible exact ih5 _ _ _ _ _ _ _)
      | (with_reducible exact gangerref06_mark.mono _ _ _ _ _)
      | (with_reducible exact gangerref06_number.mono _ _ _)
      | (with_reducible exact gangerref06_one.mono _ _ _)
      | (with_reducible exact LeO.refl _)
      | (with_reducible exact LeO.none _)
      | (with_reducible refine LeO.ite ?_ ?_)
      | (with_reducible refine LeO.bind ?_ (fun _ => ?_))
      | exact ih0 _ _ _ _
      | exact ih1 _ _ _ _ _ _ _ _ _ _
      | exact ih2 _ _ _ _ _ _ _ _
      | exact ih3 _ _ _ _ _
      | exact ih4 _ _ _ _
      | exact ih5 _ _ _ _ _ _ _
      | exact gangerref06_mark.mono _ _ _ _ _
      | exact gangerref06_number.mono _ _ _
      | exact gangerref06_one.mono _ _ _
      | exact LeO.none _
      | refine LeO.ite ?_ ?_
      | refine LeO.bind ?_ (fun _ => ?_)
    · intro y0 y1 y2 y3 y4 y5 y6
      unfold gangerref06_Parse.j3
      repeat' first
      | (with_reducible exact ih0 _ _ _ _)
      | (with_reducible exact ih1 _ _ _ _ _ _ _ _ _ _)
      | (with_reducible exact ih2 _ _ _ _ _ _ _ _)
      | (with_reducible exact ih3 _ _ _ _ _)
      | (with_reducible exact ih4 _ _ _ _)
      | (with_reducible exact ih5 _ _ _ _ _ _ _)
      | (with_reducible exact gangerref06_mark.mono _ _ _ _ _)
      | (with_reducible exact gangerref06_number.mono _ _ _)
      | (with_reducible exact gangerref06_one.mono _ _ _)
      | (with_reducible exact LeO.refl _)
      | (with_reducible exact LeO.none _)
      | (with_reducible refine LeO.ite ?_ ?_)
      | (with_reducible refine LeO.bind ?_ (fun _ => ?_))
      | exact ih0 _ _ _ _
      | exact ih1 _ _ _ _ _ _ _ _ _ _
      | exact ih2 _ _ _ _ _ _ _ _
      | exact ih3 _ _ _ _ _
      | exact ih4 _ _ _ _
      | exact ih5 _ _ _ _ _ _ _
      | exact gangerref06_mark.mono _ _ _ _ _
      | exact gangerref06_number.mono _ _ _
      | exact gangerref06_one.mono _ _ _
      | exact LeO.none _
      | refine LeO.ite ?_ ?_
      | refine LeO.bind ?_ (fun _ => ?_)
theorem gangerref06_Parse.mono : ∀ a0 k, LeO (gangerref06_Parse.f k a0) (gangerref06_Parse.f (k + 1) a0) := by
  intro a0 k
  obtain ⟨ih0, ih1, ih2, ih3, ih4, ih5⟩ := gangerref06_Parse.mono_l k
  unfold gangerref06_Parse.f
  repeat' first
      | (with_reducible exact ih0 _ _ _ _)
      | (with_reducible exact ih1 _ _ _ _ _ _ _ _ _ _)
      | (with_reducible exact ih2 _ _ _ _ _ _ _ _)
      | (with_reducible exact ih3 _ _ _ _ _)
      | (with_reducible exact ih4 _ _ _ _)
      | (with_reducible exact ih5 _ _ _ _ _ _ _)
      | (with_reducible exact gangerref06_mark.mono _ _ _ _ _)
      | (with_reducible exact gangerref06_number.mono _ _ _)
      | (with_reducible exact gangerref06_one.mono _ _ _)
      | (with_reducible exact LeO.refl _)
      | (with_reducible exact LeO.none _)
      | (with_reducible refine LeO.ite ?_ ?_)
      | (with_reducible refine LeO.bind ?_ (fun _ => ?_))
      | exact ih0 _ _ _ _
      | exact ih1 _ _ _ _ _ _ _ _ _ _
      | exact ih2 _ _ _ _ _ _ _ _
      | exact ih3 _ _ _ _ _
      | exact ih4 _ _ _ _
      | exact ih5 _ _ _ _ _ _ _
      | exact gangerref06_mark.mono _ _ _ _ _
      | exact gangerref06_number.mono _ _ _
      | exact gangerref06_one.mono _ _ _
      | exact LeO.none _
      | refine LeO.ite ?_ ?_
      | refine LeO.bind ?_ (fun _ => ?_)
set_option maxHeartbeats 8000000 in
set_option maxRecDepth 100000 in
theorem gangerref06_Parse.calls (k : Nat) (a0 : ByteArray) (r1 : List Int) (r2 : Int) (r3 : Int) (r4 : Int) (w : World) (h : gangerref06_Parse.f k a0 = some (r1, r2, r3, r4)) :
    Calls Tryd.prog 12 #[.string a0] w fun e w' => ∃ v0_ : Value, e = .returned (.tuple #[.agg #[v0_, .int .i64 r2], .int .i64 r3, .int .i64 r4]) ∧ Kd.R (Kd.int .i64) 3 w' w.heap.size (fun _ => True) v0_ r1 ∧ Below w.heap.size w w' := by
  have hu25 := Tryd.underlying25
  have hu61 := Tryd.underlying61
  have HB := Aside0.mk (Below.refl w.heap.size w)
  have H : (if 1001 ≤ 281474976710656 then (gangerref06_Parse.l0 k a0 (List.replicate 1001 false) (-1) 0) else (none)) = some (r1, r2, r3, r4) := h
  clear h
  by_cases c2 : 1001 ≤ 281474976710656
  · rw [if_pos c2] at H
    have c2b0 := eq_true c2
    have c2b1 : decide (1001 ≤ 281474976710656) = true := decide_eq_true c2
    clear c2
    obtain ⟨y182, hy182⟩ : ∃ y_ : List Bool, y_ = (List.replicate 1001 false) := ⟨_, rfl⟩
    replace H : (gangerref06_Parse.l0 k a0 y182 (-1) 0) = some (r1, r2, r3, r4) := by first | (rw [hy182]; with_reducible exact H) | (have H2_ := (Option.bind_some _ _).symm.trans H; rw [hy182]; with_reducible exact H2_) | (have H2_ := (Option.bind_some _ _).symm.trans H; with_reducible exact H2_) | with_reducible exact H | (rw [hy182]; exact H) | exact H
    have Ny182 := Aside0.mk hy182
    clear hy182
    have H' := Aside0.mk H
    clear H
    go_enter Tryd.func12, Tryd.ntmps12
    go_wp2_with (first | ((with_reducible refine gate_dst (N := 2) rfl ?_); refine box_event ?hg (N := 2) ?hd (cs := #[.slice none 0 0, .int .i64 0]) (t := 25) ?hr ?_; (case hd => rfl); (case hg => rfl); (case hr => first | (go_simp; done) | (go_simp; rfl)); intro gb181 hg w3 hbox hb; have n0_ := Aside0.mk (below_step (by repeat (first | (with_reducible first | exact HB.out | apply below_alloc | apply pw_below_drewN | apply below_drew1) | exact HB.out)) hb); have n1_ := Aside0.mk (hbox); have n2_ := Aside0.mk ((by rw [hg]; exact (below_size (by repeat (first | (with_reducible first | exact HB.out | apply below_alloc | apply pw_below_drewN | apply below_drew1) | exact HB.out))) : w.heap.size ≤ gb181)); have n3_ := Aside0.mk ((by rw [hg]; exact (below_size (by repeat (first | (with_reducible first | exact HB.out | apply below_alloc | apply pw_below_drewN | apply below_drew1) | exact HB.out))) : w.heap.size ≤ gb181)); clear HB; have HB := n0_; have BK181 := n1_; have GW181 := n2_; have GE181 := n3_; clear n0_ n1_ n2_ n3_; clear hb hbox hg) | ((with_reducible refine gate_dst (N := 16) rfl ?_); refine Kd.R_make Kd.bool _ 4 rfl (N := 16) rfl 59 _ _ rfl 1001 rfl rfl Tryd.underlying59 (.bool false) 1 info4 rfl (by decide) (by omega) false (ok := fun _ => True) (okp := fun _ => True) rfl (fun _ hk => hk) trivial (by omega) (by omega) (Below.refl _ _) (Nat.le_refl _) ?_; intro v183 w4 ho5 hb hg_ hnew_; clear hg_ hnew_; (first | rw [← Ny182.out] at ho5 | (simp only [Int.reduceToNat] at ho5; rw [← Ny182.out] at ho5)); have n0_ := Aside0.mk (Kd.R_lower ho5 (below_size (by repeat (first | (with_reducible first | exact HB.out | apply below_alloc | apply pw_below_drewN | apply below_drew1 | refine below_set ?_ GE181.out) | exact HB.out)))); have n1_ := Aside0.mk (blk_below (g := gb181) (o := .cells #[.slice none 0 0, .int .i64 0] 25 (0, 0)) (by (with_reducible repeat (first | refine blk_drewN ?_ _ | refine blk_drew ?_ | refine blk_alloc ?_ _)); exact BK181.out) hb); have n2_ := Aside0.mk (below_step (by repeat (first | (with_reducible first | exact HB.out | apply below_alloc | apply pw_below_drewN | apply below_drew1 | refine below_set ?_ GE181.out) | exact HB.out)) hb); clear BK181; clear HB; have HO184 := n0_; have BK181 := n1_; have HB := n2_; clear n0_ n1_ n2_; clear hb ho5))
    go_loopg [6, 7] k (fun kq v6 v7 w' => ∃ (x5_1 : List Bool) (x6_1 : Int) (x7_1 : Int) (x182001_1 : Int), v6 = .int .i64 x6_1 ∧ v7 = .int .i64 x7_1 ∧ Aside0 (gangerref06_Parse.l0 kq a0 x5_1 x6_1 x7_1 = some (r1, r2, r3, r4)) ∧ Aside0 (kq ≤ k) ∧ Aside0 (Kd.R Kd.bool 4 w' w.heap.size (fun _ => True) v183 x5_1) ∧ Aside0 (w'.heap[gb181]? = some (.cells #[(.slice none 0 0), .int .i64 x182001_1] 25 (0, 0))) ∧ Aside0 (Below w.heap.size w w'))
    case atStart => exact ⟨(y182), ((-1)), (0), (0), (by first | rfl | (simp; done) | (simp [*]; done)), (by first | rfl | (simp; done) | (simp [*]; done)), H', ⟨Nat.le_refl _⟩, ⟨by (with_reducible repeat (first | apply Kd.R_alloc | apply Kd.R_drewN | apply Kd.R_drew)); exact HO184.out⟩, ⟨by (with_reducible repeat (first | refine blk_drewN ?_ _ | refine blk_drew ?_ | refine blk_alloc ?_ _)); exact BK181.out⟩, ⟨by repeat (first | (with_reducible first | exact HB.out | apply below_alloc | apply pw_below_drewN | apply below_drew1 | refine below_set ?_ GE181.out) | exact HB.out)⟩⟩
    case round =>
      clear H'
      try clear c1
      try clear c2
      try clear c2b0
      try clear c2b1
      try clear p2
      obtain ⟨x5_1, x6_1, x7_1, x182001_1, rfl, rfl, HA, HK1, HO_5, BK181, HB⟩ := hrel
      cases gk with
      | zero => exact absurd HA.out (by simp [gangerref06_Parse.l0])
      | succ k1 =>
        have H := HA.out
        clear HA
        simp only [gangerref06_Parse.l0] at H
        replace H := Option.bind_eq_some_iff.mp H
        obtain ⟨⟨t185, t186, t187, t188, t189⟩, A60, H⟩ := H
        replace H : (if t189 ≥ 0 then (some (([] : List Int), 0, t189, 60)) else ((gangerref06_mark.f k1 x5_1 t185 t186 t187).bind fun bt191 => (if bt191.1 = true then (gangerref06_Parse.j1 k1 a0 bt191.2 x6_1 x7_1 false t185 t186 t187 t188 t189) else (gangerref06_Parse.j1 k1 a0 bt191.2 x6_1 x7_1 (decide (x6_1 < 0)) t185 t186 t187 t188 t189)))) = some (r1, r2, r3, r4) := H
        have A6 := Aside0.mk A60
        clear A60
        by_cases c7 : t189 ≥ 0
        · rw [if_pos c7] at H
          have c7b0 : decide (0 ≤ t189) = true := decide_eq_true c7
          clear c7
          simp only [Option.some.injEq, Prod.mk.injEq] at H
          obtain ⟨rfl, rfl, rfl, rfl⟩ := H
          try go_wp2_with (first | ((with_reducible refine gate_callee (f := 24) rfl ?_); refine goesL_ (some 19) rfl rfl Tryd.func24 (by kernel_rfl) rfl #[.string a0, .int .i64 x7_1] rfl (by (try simp only [List.map_toArray, List.map_cons, List.map_nil]); first | done | rfl | (simp only [List.length_drop, List.length_take]; rfl)) ?_; (with_reducible refine (gangerref06_one.calls k1 a0 x7_1 t185 t186 t187 t188 t189 _ A6.out).mono ?_); rintro e w8 ⟨rfl, hb⟩; refine ⟨_, rfl, ?_⟩; have n0_ := Aside0.mk (Kd.R_below (by (with_reducible repeat (first | apply Kd.R_alloc | apply Kd.R_drewN | apply Kd.R_drew)); exact HO_5.out) hb); have n1_ := Aside0.mk (blk_below (g := gb181) (o := .cells #[.slice none 0 0, .int .i64 x182001_1] 25 (0, 0)) (by (with_reducible repeat (first | refine blk_drewN ?_ _ | refine blk_drew ?_ | refine blk_alloc ?_ _)); exact BK181.out) hb); have n2_ := Aside0.mk (below_step (by repeat (first | (with_reducible first | exact HB.out | apply below_alloc | apply pw_below_drewN | apply below_drew1 | refine below_set ?_ GE181.out) | exact HB.out)) hb); clear HO_5; clear BK181; clear HB; have HO_5 := n0_; have BK181 := n1_; have HB := n2_; clear n0_ n1_ n2_; (try clear hb); (try clear hb2); (try clear hk); (try clear hi)) | ((with_reducible refine gate_dst (N := 8) rfl ?_); refine box_event ?hg (N := 8) ?hd (cs := #[.int .i64 0, .int .i64 0, .int .i64 0, .int .i64 0, .int .i64 0]) (t := 61) ?hr ?_; (case hd => rfl); (case hg => rfl); (case hr => first | (go_simp; done) | (go_simp; rfl)); intro gb190 hg w9 hbox hb; have n0_ := Aside0.mk (Kd.R_below (by (with_reducible repeat (first | apply Kd.R_alloc | apply Kd.R_drewN | apply Kd.R_drew)); exact HO_5.out) hb); have n1_ := Aside0.mk (blk_below (g := gb181) (o := .cells #[.slice none 0 0, .int .i64 x182001_1] 25 (0, 0)) (by (with_reducible repeat (first | refine blk_drewN ?_ _ | refine blk_drew ?_ | refine blk_alloc ?_ _)); exact BK181.out) hb); have n2_ := Aside0.mk (below_step (by repeat (first | (with_reducible first | exact HB.out | apply below_alloc | apply pw_below_drewN | apply below_drew1 | refine below_set ?_ GE181.out) | exact HB.out)) hb); have n3_ := Aside0.mk (hbox); have n4_ := Aside0.mk ((by rw [hg]; exact (below_size (by repeat (first | (with_reducible first | exact HB.out | apply below_alloc | apply pw_below_drewN | apply below_drew1 | refine below_set ?_ GE181.out) | exact HB.out))) : w.heap.size ≤ gb190)); have n5_ := Aside0.mk ((by rw [hg]; exact (below_size (by repeat (first | (with_reducible first | exact HB.out | apply below_alloc | apply pw_below_drewN | apply below_drew1 | refine below_set ?_ GE181.out) | exact HB.out))) : w.heap.size ≤ gb190)); have n6_ := Aside0.mk ((by rw [hg]; exact Nat.ne_of_lt (blk_lt (g := gb181) (o := .cells #[.slice none 0 0, .int .i64 x182001_1] 25 (0, 0)) (by (with_reducible repeat (first | refine blk_drewN ?_ _ | refine blk_drew ?_ | refine blk_alloc ?_ _)); exact BK181.out)) : gb181 ≠ gb190)); have n7_ := Aside0.mk ((by rw [hg]; exact Nat.ne_of_gt (blk_lt (g := gb181) (o := .cells #[.slice none 0 0, .int .i64 x182001_1] 25 (0, 0)) (by (with_reducible repeat (first | refine blk_drewN ?_ _ | refine blk_drew ?_ | refine blk_alloc ?_ _)); exact BK181.out)) : gb190 ≠ gb181)); clear HO_5; clear BK181; clear HB; have HO_5 := n0_; have BK181 := n1_; have HB := n2_; have BK190 := n3_; have GW190 := n4_; have GE190 := n5_; have NB181_190 := n6_; have NB190_181 := n7_; clear n0_ n1_ n2_ n3_ n4_ n5_ n6_ n7_; clear hb hbox hg; have hnb10 := NB190_181.out; have hnc10 := NB181_190.out; have hcz11_0 : w9.cell? ⟨gb190, 0, none⟩ = some (.int .i64 0) := (blk_cell BK190.out 0).trans rfl; have hcz11_1 : w9.cell? ⟨gb190, 1, none⟩ = some (.int .i64 0) := (blk_cell BK190.out 1).trans rfl; have hcz11_2 : w9.cell? ⟨gb190, 2, none⟩ = some (.int .i64 0) := (blk_cell BK190.out 2).trans rfl; have hcz11_3 : w9.cell? ⟨gb190, 3, none⟩ = some (.int .i64 0) := (blk_cell BK190.out 3).trans rfl; have hcz11_4 : w9.cell? ⟨gb190, 4, none⟩ = some (.int .i64 0) := (blk_cell BK190.out 4).trans rfl; have hfz11_0 := blk_frozen BK190.out 0; have hfz11_1 := blk_frozen BK190.out 1; have hfz11_2 := blk_frozen BK190.out 2; have hfz11_3 := blk_frozen BK190.out 3; have hfz11_4 := blk_frozen BK190.out 4))
          have n0_ : Aside0 (Kd.R Kd.bool 4 (((((w9.setCell ⟨gb190, 0, none⟩ (.int .i64 t185)).setCell ⟨gb190, 1, none⟩ (.int .i64 t186)).setCell ⟨gb190, 2, none⟩ (.int .i64 t187)).setCell ⟨gb190, 3, none⟩ (.int .i64 t188)).setCell ⟨gb190, 4, none⟩ (.int .i64 t189)) w.heap.size (fun _ => True) v183 x5_1) := ⟨by (with_reducible repeat (first | apply Kd.R_alloc | apply Kd.R_drewN | apply Kd.R_drew)); exact Kd.R_mono (Kd.R_far (p := ⟨gb190, 4, none⟩) (Kd.R_far (p := ⟨gb190, 3, none⟩) (Kd.R_far (p := ⟨gb190, 2, none⟩) (Kd.R_far (p := ⟨gb190, 1, none⟩) (Kd.R_far (p := ⟨gb190, 0, none⟩) (Kd.R_types HO_5.out BK190.out (by decide)) (fun _ hk => hk.2) (.int .i64 t185)) (fun _ hk => hk.2) (.int .i64 t186)) (fun _ hk => hk.2) (.int .i64 t187)) (fun _ hk => hk.2) (.int .i64 t188)) (fun _ hk => hk.2) (.int .i64 t189)) (fun _ hk => trivial)⟩
          have n1_ : Aside0 ((((((w9.setCell ⟨gb190, 0, none⟩ (.int .i64 t185)).setCell ⟨gb190, 1, none⟩ (.int .i64 t186)).setCell ⟨gb190, 2, none⟩ (.int .i64 t187)).setCell ⟨gb190, 3, none⟩ (.int .i64 t188)).setCell ⟨gb190, 4, none⟩ (.int .i64 t189)).heap[gb181]? = some (.cells #[.slice none 0 0, .int .i64 x182001_1] 25 (0, 0))) := ⟨by (with_reducible repeat (first | refine blk_drewN ?_ _ | refine blk_drew ?_ | refine blk_alloc ?_ _)); refine blk_far ?_ NB181_190.out _; (with_reducible repeat (first | refine blk_drewN ?_ _ | refine blk_drew ?_ | refine blk_alloc ?_ _)); refine blk_far ?_ NB181_190.out _; (with_reducible repeat (first | refine blk_drewN ?_ _ | refine blk_drew ?_ | refine blk_alloc ?_ _)); refine blk_far ?_ NB181_190.out _; (with_reducible repeat (first | refine blk_drewN ?_ _ | refine blk_drew ?_ | refine blk_alloc ?_ _)); refine blk_far ?_ NB181_190.out _; (with_reducible repeat (first | refine blk_drewN ?_ _ | refine blk_drew ?_ | refine blk_alloc ?_ _)); refine blk_far ?_ NB181_190.out _; (with_reducible repeat (first | refine blk_drewN ?_ _ | refine blk_drew ?_ | refine blk_alloc ?_ _)); exact BK181.out⟩
          have n2_ : Aside0 ((((((w9.setCell ⟨gb190, 0, none⟩ (.int .i64 t185)).setCell ⟨gb190, 1, none⟩ (.int .i64 t186)).setCell ⟨gb190, 2, none⟩ (.int .i64 t187)).setCell ⟨gb190, 3, none⟩ (.int .i64 t188)).setCell ⟨gb190, 4, none⟩ (.int .i64 t189)).heap[gb190]? = some (.cells #[.int .i64 t185, .int .i64 t186, .int .i64 t187, .int .i64 t188, .int .i64 t189] 61 (0, 0))) := ⟨by (with_reducible repeat (first | refine blk_drewN ?_ _ | refine blk_drew ?_ | refine blk_alloc ?_ _)); refine blk_put (cs := #[.int .i64 t185, .int .i64 t186, .int .i64 t187, .int .i64 t188, .int .i64 0]) ?_ 4 _ rfl; (with_reducible repeat (first | refine blk_drewN ?_ _ | refine blk_drew ?_ | refine blk_alloc ?_ _)); refine blk_put (cs := #[.int .i64 t185, .int .i64 t186, .int .i64 t187, .int .i64 0, .int .i64 0]) ?_ 3 _ rfl; (with_reducible repeat (first | refine blk_drewN ?_ _ | refine blk_drew ?_ | refine blk_alloc ?_ _)); refine blk_put (cs := #[.int .i64 t185, .int .i64 t186, .int .i64 0, .int .i64 0, .int .i64 0]) ?_ 2 _ rfl; (with_reducible repeat (first | refine blk_drewN ?_ _ | refine blk_drew ?_ | refine blk_alloc ?_ _)); refine blk_put (cs := #[.int .i64 t185, .int .i64 0, .int .i64 0, .int .i64 0, .int .i64 0]) ?_ 1 _ rfl; (with_reducible repeat (first | refine blk_drewN ?_ _ | refine blk_drew ?_ | refine blk_alloc ?_ _)); refine blk_put (cs := #[.int .i64 0, .int .i64 0, .int .i64 0, .int .i64 0, .int .i64 0]) ?_ 0 _ rfl; (with_reducible repeat (first | refine blk_drewN ?_ _ | refine blk_drew ?_ | refine blk_alloc ?_ _)); exact BK190.out⟩
          have n3_ : Aside0 (Below w.heap.size w (((((w9.setCell ⟨gb190, 0, none⟩ (.int .i64 t185)).setCell ⟨gb190, 1, none⟩ (.int .i64 t186)).setCell ⟨gb190, 2, none⟩ (.int .i64 t187)).setCell ⟨gb190, 3, none⟩ (.int .i64 t188)).setCell ⟨gb190, 4, none⟩ (.int .i64 t189))) := ⟨by repeat (first | (with_reducible first | exact HB.out | apply below_alloc | apply pw_below_drewN | apply below_drew1 | refine below_set ?_ GE181.out | refine below_set ?_ GE190.out) | exact HB.out)⟩
          (try clear HO_5)
          (try clear BK181)
          (try clear BK190)
          (try clear HB)
          generalize (((((w9.setCell ⟨gb190, 0, none⟩ (.int .i64 t185)).setCell ⟨gb190, 1, none⟩ (.int .i64 t186)).setCell ⟨gb190, 2, none⟩ (.int .i64 t187)).setCell ⟨gb190, 3, none⟩ (.int .i64 t188)).setCell ⟨gb190, 4, none⟩ (.int .i64 t189)) = w12 at n0_ n1_ n2_ n3_ ⊢
          have HO_5 := n0_
          have BK181 := n1_
          have BK190 := n2_
          have HB := n3_
          clear n0_ n1_ n2_ n3_
          have n0_ := Aside0.mk (Kd.R_drew HO_5.out)
          have n1_ := Aside0.mk (blk_drew BK181.out)
          have n2_ := Aside0.mk (blk_drew BK190.out)
          have n3_ := Aside0.mk (below_drew1 HB.out)
          clear HO_5
          clear BK181
          clear BK190
          clear HB
          have HO_5 := n0_
          have BK181 := n1_
          have BK190 := n2_
          have HB := n3_
          clear n0_ n1_ n2_ n3_
          refine start_ (n := 6) (S := fun w' => w'.cell? ⟨gb190, 0, none⟩ = some (.int .i64 t185) ∧ w'.cell? ⟨gb190, 1, none⟩ = some (.int .i64 t186) ∧ w'.cell? ⟨gb190, 2, none⟩ = some (.int .i64 t187) ∧ w'.cell? ⟨gb190, 3, none⟩ = some (.int .i64 t188) ∧ w'.cell? ⟨gb190, 4, none⟩ = some (.int .i64 t189)) (ds := []) #[false, false, false, false, false, false] (by kernel_rfl) rfl rfl ⟨(blk_cell BK190.out 0).trans rfl, (blk_cell BK190.out 1).trans rfl, (blk_cell BK190.out 2).trans rfl, (blk_cell BK190.out 3).trans rfl, (blk_cell BK190.out 4).trans rfl⟩ (fun hHeld => ?_)
          generalize w12.drew = w13 at HO_5 BK181 BK190 HB hHeld ⊢
          refine pure_ (i := 0) (N := some 23) (v := ?_) (a' := ?_) #[true, false, false, false, false, false] rfl rfl (by kernel_rfl) (fun _ _ _ h => h) (Or.inl ⟨by rfl, ?_⟩) ?_ ?_
          rotate_left
          · intro w'
            go_simp
            with_reducible rfl
          rotate_left
          · simp only [Act.put, List.setIfInBounds_toArray, List.set_cons_zero, List.set_cons_succ, i64_w, i32_w]
            rfl
          refine pure_ (i := 1) (N := some 24) (v := ?_) (a' := ?_) #[true, true, false, false, false, false] rfl rfl (by kernel_rfl) (fun _ _ _ h => h) (Or.inl ⟨by rfl, ?_⟩) ?_ ?_
          rotate_left
          · intro w'
            go_simp
            with_reducible rfl
          rotate_left
          · simp only [Act.put, List.setIfInBounds_toArray, List.set_cons_zero, List.set_cons_succ, i64_w, i32_w]
            rfl
          refine take_ (i := 2) (N := some 25) (v := ?_) (a' := ?_) #[true, true, true, false, false, false] rfl rfl (by kernel_rfl) (fun _ _ _ h => h) (Or.inl ⟨by rfl, ?_⟩) hHeld ?_ ?_
          rotate_left
          · rintro w' ⟨s0, s1, s2, s3, s4⟩
            go_simp
            with_reducible rfl
          rotate_left
          · simp only [Act.put, List.setIfInBounds_toArray, List.set_cons_zero, List.set_cons_succ, i64_w, i32_w]
            rfl
          refine one_ (i := 3) (N := none) #[true, true, true, true, false, false] rfl rfl (by kernel_rfl) (by decide) (fun K hK => ?_)
          have hs14 : w13.cell? ⟨gb181, 0, none⟩ = some (.slice none 0 0) := (blk_cell BK181.out 0).trans rfl
          have hfs14 := blk_frozen BK181.out 0
          have hns14_1 := NB190_181.out
          have hms14_1 := NB181_190.out
          have hs15 : w13.cell? ⟨gb181, 1, none⟩ = some (.int .i64 x182001_1) := (blk_cell BK181.out 1).trans rfl
          have hfs15 := blk_frozen BK181.out 1
          have hns15_1 := NB190_181.out
          have hms15_1 := NB181_190.out
          refine skip_ (w1 := ?_) (by rfl) rfl ?_ ?_
          rotate_left
          · go_simp
            rfl
          refine hK.out _ _ ⟨((cell_far (p := ⟨gb181, _, none⟩) NB190_181.out _).trans (((cell_far (p := ⟨gb181, _, none⟩) NB190_181.out _).trans (hHeld.1)))), ((cell_far (p := ⟨gb181, _, none⟩) NB190_181.out _).trans (((cell_far (p := ⟨gb181, _, none⟩) NB190_181.out _).trans (hHeld.2.1)))), ((cell_far (p := ⟨gb181, _, none⟩) NB190_181.out _).trans (((cell_far (p := ⟨gb181, _, none⟩) NB190_181.out _).trans (hHeld.2.2.1)))), ((cell_far (p := ⟨gb181, _, none⟩) NB190_181.out _).trans (((cell_far (p := ⟨gb181, _, none⟩) NB190_181.out _).trans (hHeld.2.2.2.1)))), ((cell_far (p := ⟨gb181, _, none⟩) NB190_181.out _).trans (((cell_far (p := ⟨gb181, _, none⟩) NB190_181.out _).trans (hHeld.2.2.2.2))))⟩ (fun hHeld => ?_)
          clear hK K
          refine pure_ (i := 4) (N := some 3) (v := ?_) (a' := ?_) #[true, true, true, true, true, false] rfl rfl (by kernel_rfl) (fun _ _ _ h => h) (Or.inl ⟨by rfl, ?_⟩) ?_ ?_
          rotate_left
          · intro w'
            go_simp
            with_reducible rfl
          rotate_left
          · simp only [Act.put, List.setIfInBounds_toArray, List.set_cons_zero, List.set_cons_succ, i64_w, i32_w]
            rfl
          refine pure_ (i := 5) (N := some 4) (v := ?_) (a' := ?_) #[true, true, true, true, true, true] rfl rfl (by kernel_rfl) (fun _ _ _ h => h) (Or.inl ⟨by rfl, ?_⟩) ?_ ?_
          rotate_left
          · intro w'
            go_simp
            with_reducible rfl
          rotate_left
          · simp only [Act.put, List.setIfInBounds_toArray, List.set_cons_zero, List.set_cons_succ, i64_w, i32_w]
            rfl
          refine done_ (by kernel_rfl) ?_
          try go_wp2
          refine bodyPost_ret (results_ctt rfl _ _ gb181 25 #[.slice none 0 0, .int .i64 0] (0, 0) _ rfl (by (with_reducible repeat (first | refine blk_drewN ?_ _ | refine blk_drew ?_ | refine blk_alloc ?_ _)); refine blk_put (cs := #[.slice none 0 0, .int .i64 x182001_1]) ?_ 1 _ rfl; (with_reducible repeat (first | refine blk_drewN ?_ _ | refine blk_drew ?_ | refine blk_alloc ?_ _)); refine blk_put (cs := #[.slice none 0 0, .int .i64 x182001_1]) ?_ 0 _ rfl; (with_reducible repeat (first | refine blk_drewN ?_ _ | refine blk_drew ?_ | refine blk_alloc ?_ _)); exact BK181.out) Tryd.underlying25 rfl (by kernel_rfl)) rfl ?_
          exact ⟨_, by first | rfl | (simp [errW_none, errW_some] <;> rfl) | (simp [*, errW_none, errW_some] <;> rfl), by first | exact Kd.R_nil _ _ _ _ _ | exact Kd.N_nil _ _ _ _ _ | exact Kd.V_nil _ _ _ _ _ | exact Kd.Q_nil _ _ _ _ _ | exact Kd.S_nil _ _ _ _ _, by repeat (first | (with_reducible first | exact HB.out | apply below_alloc | apply pw_below_drewN | apply below_drew1 | refine below_set ?_ GE181.out | refine below_set ?_ GE190.out) | exact HB.out)⟩
        · rw [if_neg c7] at H
          have c7b0 : decide (0 ≤ t189) = false := decide_eq_false c7
          clear c7
          replace H := Option.bind_eq_some_iff.mp H
          obtain ⟨⟨t191, t192⟩, A160, H⟩ := H
          replace H : (if t191 = true then (gangerref06_Parse.j1 k1 a0 t192 x6_1 x7_1 false t185 t186 t187 t188 t189) else (gangerref06_Parse.j1 k1 a0 t192 x6_1 x7_1 (decide (x6_1 < 0)) t185 t186 t187 t188 t189)) = some (r1, r2, r3, r4) := H
          have A16 := Aside0.mk A160
          clear A160
          have HC17 := Aside0.mk H
          clear H
          go_upto_region 8 with (first | ((with_reducible refine gate_callee (f := 24) rfl ?_); refine goesL_ (some 19) rfl rfl Tryd.func24 (by kernel_rfl) rfl #[.string a0, .int .i64 x7_1] rfl (by (try simp only [List.map_toArray, List.map_cons, List.map_nil]); first | done | rfl | (simp only [List.length_drop, List.length_take]; rfl)) ?_; (with_reducible refine (gangerref06_one.calls k1 a0 x7_1 t185 t186 t187 t188 t189 _ A6.out).mono ?_); rintro e w18 ⟨rfl, hb⟩; refine ⟨_, rfl, ?_⟩; have n0_ := Aside0.mk (Kd.R_below (by (with_reducible repeat (first | apply Kd.R_alloc | apply Kd.R_drewN | apply Kd.R_drew)); exact HO_5.out) hb); have n1_ := Aside0.mk (blk_below (g := gb181) (o := .cells #[.slice none 0 0, .int .i64 x182001_1] 25 (0, 0)) (by (with_reducible repeat (first | refine blk_drewN ?_ _ | refine blk_drew ?_ | refine blk_alloc ?_ _)); exact BK181.out) hb); have n2_ := Aside0.mk (below_step (by repeat (first | (with_reducible first | exact HB.out | apply below_alloc | apply pw_below_drewN | apply below_drew1 | refine below_set ?_ GE181.out) | exact HB.out)) hb); clear HO_5; clear BK181; clear HB; have HO_5 := n0_; have BK181 := n1_; have HB := n2_; clear n0_ n1_ n2_; (try clear hb); (try clear hb2); (try clear hk); (try clear hi)) | ((with_reducible refine gate_dst (N := 8) rfl ?_); refine box_event ?hg (N := 8) ?hd (cs := #[.int .i64 0, .int .i64 0, .int .i64 0, .int .i64 0, .int .i64 0]) (t := 61) ?hr ?_; (case hd => rfl); (case hg => rfl); (case hr => first | (go_simp; done) | (go_simp; rfl)); intro gb190 hg w19 hbox hb; have n0_ := Aside0.mk (Kd.R_below (by (with_reducible repeat (first | apply Kd.R_alloc | apply Kd.R_drewN | apply Kd.R_drew)); exact HO_5.out) hb); have n1_ := Aside0.mk (blk_below (g := gb181) (o := .cells #[.slice none 0 0, .int .i64 x182001_1] 25 (0, 0)) (by (with_reducible repeat (first | refine blk_drewN ?_ _ | refine blk_drew ?_ | refine blk_alloc ?_ _)); exact BK181.out) hb); have n2_ := Aside0.mk (below_step (by repeat (first | (with_reducible first | exact HB.out | apply below_alloc | apply pw_below_drewN | apply below_drew1 | refine below_set ?_ GE181.out) | exact HB.out)) hb); have n3_ := Aside0.mk (hbox); have n4_ := Aside0.mk ((by rw [hg]; exact (below_size (by repeat (first | (with_reducible first | exact HB.out | apply below_alloc | apply pw_below_drewN | apply below_drew1 | refine below_set ?_ GE181.out) | exact HB.out))) : w.heap.size ≤ gb190)); have n5_ := Aside0.mk ((by rw [hg]; exact (below_size (by repeat (first | (with_reducible first | exact HB.out | apply below_alloc | apply pw_below_drewN | apply below_drew1 | refine below_set ?_ GE181.out) | exact HB.out))) : w.heap.size ≤ gb190)); have n6_ := Aside0.mk ((by rw [hg]; exact Nat.ne_of_lt (blk_lt (g := gb181) (o := .cells #[.slice none 0 0, .int .i64 x182001_1] 25 (0, 0)) (by (with_reducible repeat (first | refine blk_drewN ?_ _ | refine blk_drew ?_ | refine blk_alloc ?_ _)); exact BK181.out)) : gb181 ≠ gb190)); have n7_ := Aside0.mk ((by rw [hg]; exact Nat.ne_of_gt (blk_lt (g := gb181) (o := .cells #[.slice none 0 0, .int .i64 x182001_1] 25 (0, 0)) (by (with_reducible repeat (first | refine blk_drewN ?_ _ | refine blk_drew ?_ | refine blk_alloc ?_ _)); exact BK181.out)) : gb190 ≠ gb181)); clear HO_5; clear BK181; clear HB; have HO_5 := n0_; have BK181 := n1_; have HB := n2_; have BK190 := n3_; have GW190 := n4_; have GE190 := n5_; have NB181_190 := n6_; have NB190_181 := n7_; clear n0_ n1_ n2_ n3_ n4_ n5_ n6_ n7_; clear hb hbox hg; have hnb20 := NB190_181.out; have hnc20 := NB181_190.out; have hcz21_0 : w19.cell? ⟨gb190, 0, none⟩ = some (.int .i64 0) := (blk_cell BK190.out 0).trans rfl; have hcz21_1 : w19.cell? ⟨gb190, 1, none⟩ = some (.int .i64 0) := (blk_cell BK190.out 1).trans rfl; have hcz21_2 : w19.cell? ⟨gb190, 2, none⟩ = some (.int .i64 0) := (blk_cell BK190.out 2).trans rfl; have hcz21_3 : w19.cell? ⟨gb190, 3, none⟩ = some (.int .i64 0) := (blk_cell BK190.out 3).trans rfl; have hcz21_4 : w19.cell? ⟨gb190, 4, none⟩ = some (.int .i64 0) := (blk_cell BK190.out 4).trans rfl; have hfz21_0 := blk_frozen BK190.out 0; have hfz21_1 := blk_frozen BK190.out 1; have hfz21_2 := blk_frozen BK190.out 2; have hfz21_3 := blk_frozen BK190.out 3; have hfz21_4 := blk_frozen BK190.out 4) | ((with_reducible refine gate_store (t := 61) (p := 8) rfl ?_); refine store_event (t := 61) (p := 8) (v := ?vo_w22) (w1 := (((((w19.setCell ⟨gb190, 0, none⟩ (.int .i64 t185)).setCell ⟨gb190, 1, none⟩ (.int .i64 t186)).setCell ⟨gb190, 2, none⟩ (.int .i64 t187)).setCell ⟨gb190, 3, none⟩ (.int .i64 t188)).setCell ⟨gb190, 4, none⟩ (.int .i64 t189))) ?hg ?ho ?hn ?hr ?_; (case ho => rfl); (case hg => rfl); (case hn => rfl); (case hr => first | (go_simp; done) | (go_simp; rfl)); intro w22 hw; have n0_ : Aside0 (Kd.R Kd.bool 4 w22 w.heap.size (fun _ => True) v183 x5_1) := ⟨(by rw [hw]; exact (by (with_reducible repeat (first | apply Kd.R_alloc | apply Kd.R_drewN | apply Kd.R_drew)); exact Kd.R_mono (Kd.R_far (p := ⟨gb190, 4, none⟩) (Kd.R_far (p := ⟨gb190, 3, none⟩) (Kd.R_far (p := ⟨gb190, 2, none⟩) (Kd.R_far (p := ⟨gb190, 1, none⟩) (Kd.R_far (p := ⟨gb190, 0, none⟩) (Kd.R_types HO_5.out BK190.out (by decide)) (fun _ hk => hk.2) (.int .i64 t185)) (fun _ hk => hk.2) (.int .i64 t186)) (fun _ hk => hk.2) (.int .i64 t187)) (fun _ hk => hk.2) (.int .i64 t188)) (fun _ hk => hk.2) (.int .i64 t189)) (fun _ hk => trivial)))⟩; have n1_ : Aside0 (w22.heap[gb181]? = some (.cells #[.slice none 0 0, .int .i64 x182001_1] 25 (0, 0))) := ⟨(by rw [hw]; exact (by (with_reducible repeat (first | refine blk_drewN ?_ _ | refine blk_drew ?_ | refine blk_alloc ?_ _)); refine blk_far ?_ NB181_190.out _; (with_reducible repeat (first | refine blk_drewN ?_ _ | refine blk_drew ?_ | refine blk_alloc ?_ _)); refine blk_far ?_ NB181_190.out _; (with_reducible repeat (first | refine blk_drewN ?_ _ | refine blk_drew ?_ | refine blk_alloc ?_ _)); refine blk_far ?_ NB181_190.out _; (with_reducible repeat (first | refine blk_drewN ?_ _ | refine blk_drew ?_ | refine blk_alloc ?_ _)); refine blk_far ?_ NB181_190.out _; (with_reducible repeat (first | refine blk_drewN ?_ _ | refine blk_drew ?_ | refine blk_alloc ?_ _)); refine blk_far ?_ NB181_190.out _; (with_reducible repeat (first | refine blk_drewN ?_ _ | refine blk_drew ?_ | refine blk_alloc ?_ _)); exact BK181.out))⟩; have n2_ : Aside0 (w22.heap[gb190]? = some (.cells #[.int .i64 t185, .int .i64 t186, .int .i64 t187, .int .i64 t188, .int .i64 t189] 61 (0, 0))) := ⟨(by rw [hw]; exact (by (with_reducible repeat (first | refine blk_drewN ?_ _ | refine blk_drew ?_ | refine blk_alloc ?_ _)); refine blk_put (cs := #[.int .i64 t185, .int .i64 t186, .int .i64 t187, .int .i64 t188, .int .i64 0]) ?_ 4 _ rfl; (with_reducible repeat (first | refine blk_drewN ?_ _ | refine blk_drew ?_ | refine blk_alloc ?_ _)); refine blk_put (cs := #[.int .i64 t185, .int .i64 t186, .int .i64 t187, .int .i64 0, .int .i64 0]) ?_ 3 _ rfl; (with_reducible repeat (first | refine blk_drewN ?_ _ | refine blk_drew ?_ | refine blk_alloc ?_ _)); refine blk_put (cs := #[.int .i64 t185, .int .i64 t186, .int .i64 0, .int .i64 0, .int .i64 0]) ?_ 2 _ rfl; (with_reducible repeat (first | refine blk_drewN ?_ _ | refine blk_drew ?_ | refine blk_alloc ?_ _)); refine blk_put (cs := #[.int .i64 t185, .int .i64 0, .int .i64 0, .int .i64 0, .int .i64 0]) ?_ 1 _ rfl; (with_reducible repeat (first | refine blk_drewN ?_ _ | refine blk_drew ?_ | refine blk_alloc ?_ _)); refine blk_put (cs := #[.int .i64 0, .int .i64 0, .int .i64 0, .int .i64 0, .int .i64 0]) ?_ 0 _ rfl; (with_reducible repeat (first | refine blk_drewN ?_ _ | refine blk_drew ?_ | refine blk_alloc ?_ _)); exact BK190.out))⟩; have n3_ : Aside0 (Below w.heap.size w w22) := ⟨(by rw [hw]; exact (by repeat (first | (with_reducible first | exact HB.out | apply below_alloc | apply pw_below_drewN | apply below_drew1 | refine below_set ?_ GE181.out | refine below_set ?_ GE190.out) | exact HB.out)))⟩; clear hw; clear HO_5; clear BK181; clear BK190; clear HB; have HO_5 := n0_; have BK181 := n1_; have BK190 := n2_; have HB := n3_; clear n0_ n1_ n2_ n3_; have hcz23_0 : w22.cell? ⟨gb190, 0, none⟩ = some (.int .i64 t185) := (blk_cell BK190.out 0).trans rfl; have hcz23_1 : w22.cell? ⟨gb190, 1, none⟩ = some (.int .i64 t186) := (blk_cell BK190.out 1).trans rfl; have hcz23_2 : w22.cell? ⟨gb190, 2, none⟩ = some (.int .i64 t187) := (blk_cell BK190.out 2).trans rfl; have hcz23_3 : w22.cell? ⟨gb190, 3, none⟩ = some (.int .i64 t188) := (blk_cell BK190.out 3).trans rfl; have hcz23_4 : w22.cell? ⟨gb190, 4, none⟩ = some (.int .i64 t189) := (blk_cell BK190.out 4).trans rfl; have hfz23_0 := blk_frozen BK190.out 0; have hfz23_1 := blk_frozen BK190.out 1; have hfz23_2 := blk_frozen BK190.out 2; have hfz23_3 := blk_frozen BK190.out 3; have hfz23_4 := blk_frozen BK190.out 4; obtain ⟨Ao24, co24, eo24⟩ := Kd.R_slice HO_5.out; subst eo24) | ((with_reducible refine gate_callee (f := 25) rfl ?_); refine goesL_ (some 33) rfl rfl Tryd.func25 (by kernel_rfl) rfl #[.slice Ao24 x5_1.length co24, .int .i64 t185, .int .i64 t186, .int .i64 t187] rfl (by (try simp only [List.map_toArray, List.map_cons, List.map_nil]); first | done | rfl | (simp only [List.length_drop, List.length_take]; rfl)) ?_; (with_reducible refine (gangerref06_mark.calls k1 (fun k_ => some k_ = (.slice Ao24 x5_1.length co24 : Value).ownBlock) (.slice Ao24 x5_1.length co24) x5_1 t185 t186 t187 t191 t192 w _ ?side1 ?side2 A16.out).mono ?_); (case side1 => repeat (first | (with_reducible first | exact HB.out | apply below_alloc | apply pw_below_drewN | apply below_drew1 | refine below_set ?_ GE181.out | refine below_set ?_ GE190.out) | exact HB.out)); (case side2 => exact Kd.R_tight rfl HO_5.out); rintro e w25 ⟨rfl, hy0, hb, hkp⟩; refine ⟨_, rfl, ?_⟩; have n0_ := Aside0.mk (Kd.R_reok rfl hy0 (fun k_ e_ => HO_5.out.1 k_ e_)); have n1_ := Aside0.mk (blk_kept (by (with_reducible repeat (first | refine blk_drewN ?_ _ | refine blk_drew ?_ | refine blk_alloc ?_ _)); exact BK181.out) hkp (fun hs_ => (fun e_ => (Kd.R_ne HO_5.out BK181.out (by decide)) e_) hs_)); have n2_ := Aside0.mk (blk_kept (by (with_reducible repeat (first | refine blk_drewN ?_ _ | refine blk_drew ?_ | refine blk_alloc ?_ _)); exact BK190.out) hkp (fun hs_ => (fun e_ => (Kd.R_ne HO_5.out BK190.out (by decide)) e_) hs_)); have n3_ := Aside0.mk (hb); clear HO_5; clear BK181; clear BK190; clear HB; have HO_5 := n0_; have BK181 := n1_; have BK190 := n2_; have HB := n3_; clear n0_ n1_ n2_ n3_; (try clear hb); (try clear hkp); (try clear hy0)))
          (try simp only [Act.put, List.setIfInBounds_toArray, List.set_cons_zero, List.set_cons_succ])
          go_cut [39] (fun v39 wc => ∃ (kq : Nat) (x39_16 : Bool), v39 = .bool x39_16 ∧ Aside0 (gangerref06_Parse.j1 kq a0 t192 x6_1 x7_1 x39_16 t185 t186 t187 t188 t189 = some (r1, r2, r3, r4)) ∧ Aside0 (kq ≤ k1) ∧ Aside0 (Kd.R Kd.bool 4 wc w.heap.size (fun _ => True) (.slice Ao24 x5_1.length co24) t192) ∧ Aside0 (wc.heap[gb181]? = some (.cells #[(.slice none 0 0), .int .i64 x182001_1] 25 (0, 0))) ∧ Aside0 (wc.heap[gb190]? = some (.cells #[.int .i64 t185, .int .i64 t186, .int .i64 t187, .int .i64 t188, .int .i64 t189] 61 (0, 0))) ∧ Aside0 (Below w.heap.size w wc))
          case first =>
            have H := HC17.out
            clear HC17
            by_cases c26 : t191 = true
            · subst c26
              have H1 : (gangerref06_Parse.j1 k1 a0 t192 x6_1 x7_1 false t185 t186 t187 t188 t189) = some (r1, r2, r3, r4) := by rw [if_pos rfl] at H; exact H
              clear H
              have H := H1
              clear H1
              have H' := Aside0.mk H
              clear H
              go_wp2
              go_meet
              case rel => exact ⟨_, (false), (by first | rfl | (simp; done) | (simp [*]; done)), H', ⟨by have := HK1.out; first | omega | exact Nat.le_refl _⟩, ⟨by (with_reducible repeat (first | apply Kd.R_alloc | apply Kd.R_drewN | apply Kd.R_drew)); exact HO_5.out⟩, ⟨by (with_reducible repeat (first | refine blk_drewN ?_ _ | refine blk_drew ?_ | refine blk_alloc ?_ _)); exact BK181.out⟩, ⟨by (with_reducible repeat (first | refine blk_drewN ?_ _ | refine blk_drew ?_ | refine blk_alloc ?_ _)); exact BK190.out⟩, ⟨by repeat (first | (with_reducible first | exact HB.out | apply below_alloc | apply pw_below_drewN | apply below_drew1 | refine below_set ?_ GE181.out | refine below_set ?_ GE190.out) | exact HB.out)⟩⟩
            · replace c26 := Bool.eq_false_iff.mpr c26
              subst c26
              have H1 : (gangerref06_Parse.j1 k1 a0 t192 x6_1 x7_1 (decide (x6_1 < 0)) t185 t186 t187 t188 t189) = some (r1, r2, r3, r4) := by rw [if_neg (show ¬ (false = true) by decide)] at H; exact H
              clear H
              have H := H1
              clear H1
              have H' := Aside0.mk H
              clear H
              go_wp2
              go_meet
              case rel => exact ⟨_, (decide (x6_1 < 0)), (by first | rfl | (simp; done) | (simp [*]; done)), H', ⟨by have := HK1.out; first | omega | exact Nat.le_refl _⟩, ⟨by (with_reducible repeat (first | apply Kd.R_alloc | apply Kd.R_drewN | apply Kd.R_drew)); exact HO_5.out⟩, ⟨by (with_reducible repeat (first | refine blk_drewN ?_ _ | refine blk_drew ?_ | refine blk_alloc ?_ _)); exact BK181.out⟩, ⟨by (with_reducible repeat (first | refine blk_drewN ?_ _ | refine blk_drew ?_ | refine blk_alloc ?_ _)); exact BK190.out⟩, ⟨by repeat (first | (with_reducible first | exact HB.out | apply below_alloc | apply pw_below_drewN | apply below_drew1 | refine below_set ?_ GE181.out | refine below_set ?_ GE190.out) | exact HB.out)⟩⟩
          case rest =>
            clear HC17
            try clear c1
            try clear c2
            try clear c2b0
            try clear c2b1
            try clear p2
            try clear c7
            try clear c7b0
            try clear c10
            try clear c12
            try clear c20
            try clear c24
            try clear c25
            try clear c26
            try clear hcz11_0
            try clear hcz11_1
            try clear hcz11_2
            try clear hcz11_3
            try clear hcz11_4
            try clear hcz21_0
            try clear hcz21_1
            try clear hcz21_2
            try clear hcz21_3
            try clear hcz21_4
            try clear hcz23_0
            try clear hcz23_1
            try clear hcz23_2
            try clear hcz23_3
            try clear hcz23_4
            try clear hfz11_0
            try clear hfz11_1
            try clear hfz11_2
            try clear hfz11_3
            try clear hfz11_4
            try clear hfz21_0
            try clear hfz21_1
            try clear hfz21_2
            try clear hfz21_3
            try clear hfz21_4
            try clear hfz23_0
            try clear hfz23_1
            try clear hfz23_2
            try clear hfz23_3
            try clear hfz23_4
            try clear p2
            obtain ⟨kq, x39_16, rfl, HA, HJ16, HO_5, BK181, BK190, HB⟩ := hcut
            have hl5_16 := (Kd.R_reads' HO_5.out).1
            rw [hl5_16] at HO_5
            (try simp only [hl5_16])
            (try simp only [hl5_16] at BK181)
            (try simp only [hl5_16] at BK190)
            cases kq with
            | zero => exact absurd HA.out (by simp [gangerref06_Parse.j1])
            | succ kj16 =>
              have H := HA.out
              clear HA
              simp only [gangerref06_Parse.j1] at H
              have HC27 := Aside0.mk H
              clear H
              go_upto_if 39 with (fail)
              go_cut [6] (fun v6 wc => ∃ (kq : Nat) (x6_26 : Int), v6 = .int .i64 x6_26 ∧ Aside0 (gangerref06_Parse.j2 kq a0 t192 x6_26 t185 t186 t187 t188 t189 = some (r1, r2, r3, r4)) ∧ Aside0 (kq ≤ kj16) ∧ Aside0 (Kd.R Kd.bool 4 wc w.heap.size (fun _ => True) (.slice Ao24 t192.length co24) t192) ∧ Aside0 (wc.heap[gb181]? = some (.cells #[(.slice none 0 0), .int .i64 x182001_1] 25 (0, 0))) ∧ Aside0 (wc.heap[gb190]? = some (.cells #[.int .i64 t185, .int .i64 t186, .int .i64 t187, .int .i64 t188, .int .i64 t189] 61 (0, 0))) ∧ Aside0 (Below w.heap.size w wc))
              case first =>
                have H := HC27.out
                clear HC27
                by_cases c28 : x39_16 = true
                · subst c28
                  have H1 : (gangerref06_Parse.j2 kj16 a0 t192 x7_1 t185 t186 t187 t188 t189) = some (r1, r2, r3, r4) := by rw [if_pos rfl] at H; exact H
                  clear H
                  have H := H1
                  clear H1
                  have H' := Aside0.mk H
                  clear H
                  go_wp2
                  go_meet
                  case rel => exact ⟨_, (x7_1), (by first | rfl | (simp; done) | (simp [*]; done)), H', ⟨by have := HK1.out; have := HJ16.out; first | omega | exact Nat.le_refl _⟩, ⟨by (try simp only [hl5_16]); (with_reducible repeat (first | apply Kd.R_alloc | apply Kd.R_drewN | apply Kd.R_drew)); exact HO_5.out⟩, ⟨by (try simp only [hl5_16]); (with_reducible repeat (first | refine blk_drewN ?_ _ | refine blk_drew ?_ | refine blk_alloc ?_ _)); exact BK181.out⟩, ⟨by (try simp only [hl5_16]); (with_reducible repeat (first | refine blk_drewN ?_ _ | refine blk_drew ?_ | refine blk_alloc ?_ _)); exact BK190.out⟩, ⟨by repeat (first | (with_reducible first | exact HB.out | apply below_alloc | apply pw_below_drewN | apply below_drew1 | refine below_set ?_ GE181.out | refine below_set ?_ GE190.out) | exact HB.out)⟩⟩
                · replace c28 := Bool.eq_false_iff.mpr c28
                  subst c28
                  have H1 : (gangerref06_Parse.j2 kj16 a0 t192 x6_1 t185 t186 t187 t188 t189) = some (r1, r2, r3, r4) := by rw [if_neg (show ¬ (false = true) by decide)] at H; exact H
                  clear H
                  have H := H1
                  clear H1
                  have H' := Aside0.mk H
                  clear H
                  go_wp2
                  go_meet
                  case rel => exact ⟨_, (x6_1), (by first | rfl | (simp; done) | (simp [*]; done)), H', ⟨by have := HK1.out; have := HJ16.out; first | omega | exact Nat.le_refl _⟩, ⟨by (try simp only [hl5_16]); (with_reducible repeat (first | apply Kd.R_alloc | apply Kd.R_drewN | apply Kd.R_drew)); exact HO_5.out⟩, ⟨by (try simp only [hl5_16]); (with_reducible repeat (first | refine blk_drewN ?_ _ | refine blk_drew ?_ | refine blk_alloc ?_ _)); exact BK181.out⟩, ⟨by (try simp only [hl5_16]); (with_reducible repeat (first | refine blk_drewN ?_ _ | refine blk_drew ?_ | refine blk_alloc ?_ _)); exact BK190.out⟩, ⟨by repeat (first | (with_reducible first | exact HB.out | apply below_alloc | apply pw_below_drewN | apply below_drew1 | refine below_set ?_ GE181.out | refine below_set ?_ GE190.out) | exact HB.out)⟩⟩
              case rest =>
                clear HC27
                try clear c1
                try clear c2
                try clear c2b0
                try clear c2b1
                try clear p2
                try clear c7
                try clear c7b0
                try clear c10
                try clear c12
                try clear c20
                try clear c24
                try clear c25
                try clear c26
                try clear c28
                try clear hcz11_0
                try clear hcz11_1
                try clear hcz11_2
                try clear hcz11_3
                try clear hcz11_4
                try clear hcz21_0
                try clear hcz21_1
                try clear hcz21_2
                try clear hcz21_3
                try clear hcz21_4
                try clear hcz23_0
                try clear hcz23_1
                try clear hcz23_2
                try clear hcz23_3
                try clear hcz23_4
                try clear hfz11_0
                try clear hfz11_1
                try clear hfz11_2
                try clear hfz11_3
                try clear hfz11_4
                try clear hfz21_0
                try clear hfz21_1
                try clear hfz21_2
                try clear hfz21_3
                try clear hfz21_4
                try clear hfz23_0
                try clear hfz23_1
                try clear hfz23_2
                try clear hfz23_3
                try clear hfz23_4
                try clear p2
                obtain ⟨kq, x6_26, rfl, HA, HJ26, HO_5, BK181, BK190, HB⟩ := hcut
                cases kq with
                | zero => exact absurd HA.out (by simp [gangerref06_Parse.j2])
                | succ kj26 =>
                  have H := HA.out
                  clear HA
                  simp only [gangerref06_Parse.j2] at H
                  replace H := Option.bind_eq_some_iff.mp H
                  obtain ⟨t193, A290, H⟩ := H
                  replace H : (if t193 = true then (gangerref06_Parse.l0 kj26 a0 t192 x6_26 (wrap64 (t188 + 1))) else ((gangerref06_is.f a0 t188 37).bind fun t194 => (if t194 = true then ((gangerref06_number.f kj26 a0 (wrap64 (t188 + 1))).bind fun bt195 => (if bt195.2 = (wrap64 (t188 + 1)) then (some (([] : List Int), 0, wrap64 (t188 + 1), 60)) else (if bt195.1 = 0 then (gangerref06_Parse.j3 kj26 a0 t192 x6_26 bt195.2 bt195.1 t188 (decide (x6_26 < 0))) else (if bt195.1 > 1000 then (gangerref06_Parse.j3 kj26 a0 t192 x6_26 bt195.2 bt195.1 t188 (decide (x6_26 < 0))) else (gangerref06_Parse.j3 kj26 a0 t192 x6_26 bt195.2 bt195.1 t188 false))))) else (gangerref06_Parse.j4 kj26 a0 t192 x6_26 t188 0)))) = some (r1, r2, r3, r4) := H
                  have A29 := Aside0.mk A290
                  clear A290
                  by_cases c30 : t193 = true
                  · subst c30
                    have H1 : (gangerref06_Parse.l0 kj26 a0 t192 x6_26 (wrap64 (t188 + 1))) = some (r1, r2, r3, r4) := by rw [if_pos rfl] at H; exact H
                    clear H
                    have H := H1
                    clear H1
                    have H' := Aside0.mk H
                    clear H
                    have hnb31 := NB190_181.out
                    have hnc31 := NB181_190.out
                    have hcz32_0 : wc.cell? ⟨gb190, 0, none⟩ = some (.int .i64 t185) := (blk_cell BK190.out 0).trans rfl
                    have hcz32_1 : wc.cell? ⟨gb190, 1, none⟩ = some (.int .i64 t186) := (blk_cell BK190.out 1).trans rfl
                    have hcz32_2 : wc.cell? ⟨gb190, 2, none⟩ = some (.int .i64 t187) := (blk_cell BK190.out 2).trans rfl
                    have hcz32_3 : wc.cell? ⟨gb190, 3, none⟩ = some (.int .i64 t188) := (blk_cell BK190.out 3).trans rfl
                    have hcz32_4 : wc.cell? ⟨gb190, 4, none⟩ = some (.int .i64 t189) := (blk_cell BK190.out 4).trans rfl
                    have hfz32_0 := blk_frozen BK190.out 0
                    have hfz32_1 := blk_frozen BK190.out 1
                    have hfz32_2 := blk_frozen BK190.out 2
                    have hfz32_3 := blk_frozen BK190.out 3
                    have hfz32_4 := blk_frozen BK190.out 4
                    go_wp2_with (first | ((with_reducible refine gate_callee (f := 26) rfl ?_); refine goesL_ (some 45) rfl rfl Tryd.func26 (by kernel_rfl) rfl #[.string a0, .int .i64 t188, .int .u8 44] rfl (by (try simp only [List.map_toArray, List.map_cons, List.map_nil]); first | done | rfl | (simp only [List.length_drop, List.length_take]; rfl)) ?_; (with_reducible refine (gangerref06_is.calls a0 t188 44 true _ A29.out).mono ?_); rintro e w' ⟨rfl, ⟨nd, rfl⟩⟩; refine ⟨_, rfl, ?_⟩))
                    (try simp only [← hl5_16])
                    go_roundg kj26
                    case measure => have := HK1.out; have := HJ16.out; have := HJ26.out; omega
                    case rel => exact ⟨(t192), (x6_26), (wrap64 (t188 + 1)), (x182001_1), (by first | rfl | (simp; done) | (simp [*]; done)), (by first | rfl | (simp; done) | (simp [*]; done)), H', ⟨by have := HK1.out; have := HJ16.out; have := HJ26.out; omega⟩, ⟨by (try simp only [hl5_16]); (with_reducible repeat (first | apply Kd.R_alloc | apply Kd.R_drewN | apply Kd.R_drew)); exact HO_5.out⟩, ⟨by (try simp only [hl5_16]); (with_reducible repeat (first | refine blk_drewN ?_ _ | refine blk_drew ?_ | refine blk_alloc ?_ _)); exact BK181.out⟩, ⟨by repeat (first | (with_reducible first | exact HB.out | apply below_alloc | apply pw_below_drewN | apply below_drew1 | refine below_set ?_ GE181.out | refine below_set ?_ GE190.out) | exact HB.out)⟩⟩
                  · replace c30 := Bool.eq_false_iff.mpr c30
                    subst c30
                    have H1 : ((gangerref06_is.f a0 t188 37).bind fun t194 => (if t194 = true then ((gangerref06_number.f kj26 a0 (wrap64 (t188 + 1))).bind fun bt195 => (if bt195.2 = (wrap64 (t188 + 1)) then (some (([] : List Int), 0, wrap64 (t188 + 1), 60)) else (if bt195.1 = 0 then (gangerref06_Parse.j3 kj26 a0 t192 x6_26 bt195.2 bt195.1 t188 (decide (x6_26 < 0))) else (if bt195.1 > 1000 then (gangerref06_Parse.j3 kj26 a0 t192 x6_26 bt195.2 bt195.1 t188 (decide (x6_26 < 0))) else (gangerref06_Parse.j3 kj26 a0 t192 x6_26 bt195.2 bt195.1 t188 false))))) else (gangerref06_Parse.j4 kj26 a0 t192 x6_26 t188 0))) = some (r1, r2, r3, r4) := by rw [if_neg (show ¬ (false = true) by decide)] at H; exact H
                    clear H
                    have H := H1
                    clear H1
                    replace H := Option.bind_eq_some_iff.mp H
                    obtain ⟨t194, A330, H⟩ := H
                    replace H : (if t194 = true then ((gangerref06_number.f kj26 a0 (wrap64 (t188 + 1))).bind fun bt195 => (if bt195.2 = (wrap64 (t188 + 1)) then (some (([] : List Int), 0, wrap64 (t188 + 1), 60)) else (if bt195.1 = 0 then (gangerref06_Parse.j3 kj26 a0 t192 x6_26 bt195.2 bt195.1 t188 (decide (x6_26 < 0))) else (if bt195.1 > 1000 then (gangerref06_Parse.j3 kj26 a0 t192 x6_26 bt195.2 bt195.1 t188 (decide (x6_26 < 0))) else (gangerref06_Parse.j3 kj26 a0 t192 x6_26 bt195.2 bt195.1 t188 false))))) else (gangerref06_Parse.j4 kj26 a0 t192 x6_26 t188 0)) = some (r1, r2, r3, r4) := H
                    have A33 := Aside0.mk A330
                    clear A330
                    have HC34 := Aside0.mk H
                    clear H
                    have hnb35 := NB190_181.out
                    have hnc35 := NB181_190.out
                    have hcz36_0 : wc.cell? ⟨gb190, 0, none⟩ = some (.int .i64 t185) := (blk_cell BK190.out 0).trans rfl
                    have hcz36_1 : wc.cell? ⟨gb190, 1, none⟩ = some (.int .i64 t186) := (blk_cell BK190.out 1).trans rfl
                    have hcz36_2 : wc.cell? ⟨gb190, 2, none⟩ = some (.int .i64 t187) := (blk_cell BK190.out 2).trans rfl
                    have hcz36_3 : wc.cell? ⟨gb190, 3, none⟩ = some (.int .i64 t188) := (blk_cell BK190.out 3).trans rfl
                    have hcz36_4 : wc.cell? ⟨gb190, 4, none⟩ = some (.int .i64 t189) := (blk_cell BK190.out 4).trans rfl
                    have hfz36_0 := blk_frozen BK190.out 0
                    have hfz36_1 := blk_frozen BK190.out 1
                    have hfz36_2 := blk_frozen BK190.out 2
                    have hfz36_3 := blk_frozen BK190.out 3
                    have hfz36_4 := blk_frozen BK190.out 4
                    go_upto_if 51 with (first | ((with_reducible refine gate_callee (f := 26) rfl ?_); refine goesL_ (some 45) rfl rfl Tryd.func26 (by kernel_rfl) rfl #[.string a0, .int .i64 t188, .int .u8 44] rfl (by (try simp only [List.map_toArray, List.map_cons, List.map_nil]); first | done | rfl | (simp only [List.length_drop, List.length_take]; rfl)) ?_; (with_reducible refine (gangerref06_is.calls a0 t188 44 false _ A29.out).mono ?_); rintro e w' ⟨rfl, ⟨nd, rfl⟩⟩; refine ⟨_, rfl, ?_⟩) | ((with_reducible refine gate_callee (f := 26) rfl ?_); refine goesL_ (some 51) rfl rfl Tryd.func26 (by kernel_rfl) rfl #[.string a0, .int .i64 t188, .int .u8 37] rfl (by (try simp only [List.map_toArray, List.map_cons, List.map_nil]); first | done | rfl | (simp only [List.length_drop, List.length_take]; rfl)) ?_; (with_reducible refine (gangerref06_is.calls a0 t188 37 t194 _ A33.out).mono ?_); rintro e w' ⟨rfl, ⟨nd, rfl⟩⟩; refine ⟨_, rfl, ?_⟩))
                    (try simp only [Act.put, List.setIfInBounds_toArray, List.set_cons_zero, List.set_cons_succ])
                    go_cut [6, 7, 10] (fun v6 v7 v10 wc => ∃ (kq : Nat) (x6_33 : Int) (x7_33 : Int) (x10_33 : Int) (x182001_33 : Int), v6 = .int .i64 x6_33 ∧ v7 = .int .i64 x7_33 ∧ v10 = .int .i64 x10_33 ∧ Aside0 (gangerref06_Parse.j4 kq a0 t192 x6_33 x7_33 x10_33 = some (r1, r2, r3, r4)) ∧ Aside0 (kq ≤ kj26) ∧ Aside0 (Kd.R Kd.bool 4 wc w.heap.size (fun _ => True) (.slice Ao24 t192.length co24) t192) ∧ Aside0 (wc.heap[gb181]? = some (.cells #[(.slice none 0 0), .int .i64 x182001_33] 25 (0, 0))) ∧ Aside0 (wc.heap[gb190]? = some (.cells #[.int .i64 t185, .int .i64 t186, .int .i64 t187, .int .i64 t188, .int .i64 t189] 61 (0, 0))) ∧ Aside0 (Below w.heap.size w wc))
                    case first =>
                      have H := HC34.out
                      clear HC34
                      by_cases c37 : t194 = true
                      · subst c37
                        have H1 : ((gangerref06_number.f kj26 a0 (wrap64 (t188 + 1))).bind fun bt195 => (if bt195.2 = (wrap64 (t188 + 1)) then (some (([] : List Int), 0, wrap64 (t188 + 1), 60)) else (if bt195.1 = 0 then (gangerref06_Parse.j3 kj26 a0 t192 x6_26 bt195.2 bt195.1 t188 (decide (x6_26 < 0))) else (if bt195.1 > 1000 then (gangerref06_Parse.j3 kj26 a0 t192 x6_26 bt195.2 bt195.1 t188 (decide (x6_26 < 0))) else (gangerref06_Parse.j3 kj26 a0 t192 x6_26 bt195.2 bt195.1 t188 false))))) = some (r1, r2, r3, r4) := by rw [if_pos rfl] at H; exact H
                        clear H
                        have H := H1
                        clear H1
                        replace H := Option.bind_eq_some_iff.mp H
                        obtain ⟨⟨t195, t196⟩, A380, H⟩ := H
                        replace H : (if t196 = (wrap64 (t188 + 1)) then (some (([] : List Int), 0, wrap64 (t188 + 1), 60)) else (if t195 = 0 then (gangerref06_Parse.j3 kj26 a0 t192 x6_26 t196 t195 t188 (decide (x6_26 < 0))) else (if t195 > 1000 then (gangerref06_Parse.j3 kj26 a0 t192 x6_26 t196 t195 t188 (decide (x6_26 < 0))) else (gangerref06_Parse.j3 kj26 a0 t192 x6_26 t196 t195 t188 false)))) = some (r1, r2, r3, r4) := H
                        have A38 := Aside0.mk A380
                        clear A380
                        by_cases c39 : t196 = (wrap64 (t188 + 1))
                        · rw [if_pos c39] at H
                          have c39b0 : (t196 == (wrap64 (t188 + 1))) = true := beq_iff_eq.mpr c39
                          have c39b1 : (t196 != (wrap64 (t188 + 1))) = false := bne_eq_false_iff_eq.mpr c39
                          clear c39
                          (first | rw [c39b0] | (simp only [i64_w, i32_w]; rw [c39b0]) | skip)
                          simp only [Option.some.injEq, Prod.mk.injEq] at H
                          obtain ⟨rfl, rfl, rfl, rfl⟩ := H
                          go_wp2_with (first | ((with_reducible refine gate_callee (f := 27) rfl ?_); refine goesL_ (some 57) rfl rfl Tryd.func27 (by kernel_rfl) rfl #[.string a0, .int .i64 (wrap64 (t188 + 1))] rfl (by (try simp only [List.map_toArray, List.map_cons, List.map_nil]); first | done | rfl | (simp only [List.length_drop, List.length_take]; rfl)) ?_; (with_reducible refine (gangerref06_number.calls kj26 a0 (wrap64 (t188 + 1)) t195 t196 _ A38.out).mono ?_); rintro e w' ⟨rfl, ⟨nd, rfl⟩⟩; refine ⟨_, rfl, ?_⟩; (try (rw [drewN_self wc]; generalize hq_ : World.drewN wc _ = wc; have n0_ : Aside0 (Kd.R Kd.bool 4 wc w.heap.size (fun _ => True) (.slice Ao24 t192.length co24) t192) := ⟨by rw [← hq_]; exact (by (with_reducible repeat (first | apply Kd.R_alloc | apply Kd.R_drewN | apply Kd.R_drew)); exact HO_5.out)⟩; have n1_ : Aside0 (wc.heap[gb181]? = some (.cells #[.slice none 0 0, .int .i64 x182001_1] 25 (0, 0))) := ⟨by rw [← hq_]; exact (by (with_reducible repeat (first | refine blk_drewN ?_ _ | refine blk_drew ?_ | refine blk_alloc ?_ _)); exact BK181.out)⟩; have n2_ : Aside0 (wc.heap[gb190]? = some (.cells #[.int .i64 t185, .int .i64 t186, .int .i64 t187, .int .i64 t188, .int .i64 t189] 61 (0, 0))) := ⟨by rw [← hq_]; exact (by (with_reducible repeat (first | refine blk_drewN ?_ _ | refine blk_drew ?_ | refine blk_alloc ?_ _)); exact BK190.out)⟩; have n3_ : Aside0 (Below w.heap.size w wc) := ⟨by rw [← hq_]; exact (by repeat (first | (with_reducible first | exact HB.out | apply below_alloc | apply pw_below_drewN | apply below_drew1 | refine below_set ?_ GE181.out | refine below_set ?_ GE190.out) | exact HB.out))⟩; clear HO_5 BK181 BK190 HB hq_; have HO_5 := n0_; have BK181 := n1_; have BK190 := n2_; have HB := n3_; clear n0_ n1_ n2_ n3_)); have hnb40 := NB181_190.out; have hnc40 := NB190_181.out; have hcz41_0 : wc.cell? ⟨gb181, 0, none⟩ = some (.slice none 0 0) := (blk_cell BK181.out 0).trans rfl; have hcz41_1 : wc.cell? ⟨gb181, 1, none⟩ = some (.int .i64 x182001_1) := (blk_cell BK181.out 1).trans rfl; have hfz41_0 := blk_frozen BK181.out 0; have hfz41_1 := blk_frozen BK181.out 1))
                          refine bodyPost_ret (results_ctt rfl _ _ gb181 25 #[.slice none 0 0, .int .i64 0] (0, 0) _ rfl (by (with_reducible repeat (first | refine blk_drewN ?_ _ | refine blk_drew ?_ | refine blk_alloc ?_ _)); refine blk_put (cs := #[.slice none 0 0, .int .i64 x182001_1]) ?_ 1 _ rfl; (with_reducible repeat (first | refine blk_drewN ?_ _ | refine blk_drew ?_ | refine blk_alloc ?_ _)); refine blk_put (cs := #[.slice none 0 0, .int .i64 x182001_1]) ?_ 0 _ rfl; (with_reducible repeat (first | refine blk_drewN ?_ _ | refine blk_drew ?_ | refine blk_alloc ?_ _)); exact BK181.out) Tryd.underlying25 rfl (by kernel_rfl)) rfl ?_
                          exact ⟨_, by first | rfl | (simp [errW_none, errW_some] <;> rfl) | (simp [*, errW_none, errW_some] <;> rfl), by first | exact Kd.R_nil _ _ _ _ _ | exact Kd.N_nil _ _ _ _ _ | exact Kd.V_nil _ _ _ _ _ | exact Kd.Q_nil _ _ _ _ _ | exact Kd.S_nil _ _ _ _ _, by repeat (first | (with_reducible first | exact HB.out | apply below_alloc | apply pw_below_drewN | apply below_drew1 | refine below_set ?_ GE181.out | refine below_set ?_ GE190.out) | exact HB.out)⟩
                        · rw [if_neg c39] at H
                          have c39b0 : (t196 == (wrap64 (t188 + 1))) = false := beq_eq_false_iff_ne.mpr c39
                          have c39b1 : (t196 != (wrap64 (t188 + 1))) = true := bne_iff_ne.mpr c39
                          (first | rw [c39b0] | (simp only [i64_w, i32_w]; rw [c39b0]) | skip)
                          have HC42 := Aside0.mk H
                          clear H
                          go_upto_region 21 with (first | ((with_reducible refine gate_callee (f := 27) rfl ?_); refine goesL_ (some 57) rfl rfl Tryd.func27 (by kernel_rfl) rfl #[.string a0, .int .i64 (wrap64 (t188 + 1))] rfl (by (try simp only [List.map_toArray, List.map_cons, List.map_nil]); first | done | rfl | (simp only [List.length_drop, List.length_take]; rfl)) ?_; (with_reducible refine (gangerref06_number.calls kj26 a0 (wrap64 (t188 + 1)) t195 t196 _ A38.out).mono ?_); rintro e w' ⟨rfl, ⟨nd, rfl⟩⟩; refine ⟨_, rfl, ?_⟩))
                          (try simp only [Act.put, List.setIfInBounds_toArray, List.set_cons_zero, List.set_cons_succ])
                          go_cut [78] (fun v78 wc => ∃ (kq : Nat) (x78_41 : Bool), v78 = .bool x78_41 ∧ Aside0 (gangerref06_Parse.j3 kq a0 t192 x6_26 t196 t195 t188 x78_41 = some (r1, r2, r3, r4)) ∧ Aside0 (kq ≤ kj26) ∧ Aside0 (Kd.R Kd.bool 4 wc w.heap.size (fun _ => True) (.slice Ao24 t192.length co24) t192) ∧ Aside0 (wc.heap[gb181]? = some (.cells #[(.slice none 0 0), .int .i64 x182001_1] 25 (0, 0))) ∧ Aside0 (wc.heap[gb190]? = some (.cells #[.int .i64 t185, .int .i64 t186, .int .i64 t187, .int .i64 t188, .int .i64 t189] 61 (0, 0))) ∧ Aside0 (Below w.heap.size w wc))
                          case first =>
                            have H := HC42.out
                            clear HC42
                            by_cases c43 : t195 = 0
                            · rw [if_pos c43] at H
                              have c43b0 : (t195 == 0) = true := beq_iff_eq.mpr c43
                              have c43b1 : (t195 != 0) = false := bne_eq_false_iff_eq.mpr c43
                              clear c43
                              (first | rw [c43b0] | (simp only [i64_w, i32_w]; rw [c43b0]) | skip)
                              have H' := Aside0.mk H
                              clear H
                              go_wp2
                              go_meet
                              case rel => exact ⟨_, (decide (x6_26 < 0)), (by first | rfl | (simp; done) | (simp [*]; done)), H', ⟨by have := HK1.out; have := HJ16.out; have := HJ26.out; first | omega | exact Nat.le_refl _⟩, ⟨by (try simp only [hl5_16]); (with_reducible repeat (first | apply Kd.R_alloc | apply Kd.R_drewN | apply Kd.R_drew)); exact HO_5.out⟩, ⟨by (try simp only [hl5_16]); (with_reducible repeat (first | refine blk_drewN ?_ _ | refine blk_drew ?_ | refine blk_alloc ?_ _)); exact BK181.out⟩, ⟨by (try simp only [hl5_16]); (with_reducible repeat (first | refine blk_drewN ?_ _ | refine blk_drew ?_ | refine blk_alloc ?_ _)); exact BK190.out⟩, ⟨by repeat (first | (with_reducible first | exact HB.out | apply below_alloc | apply pw_below_drewN | apply below_drew1 | refine below_set ?_ GE181.out | refine below_set ?_ GE190.out) | exact HB.out)⟩⟩
                            · rw [if_neg c43] at H
                              have c43b0 : (t195 == 0) = false := beq_eq_false_iff_ne.mpr c43
                              have c43b1 : (t195 != 0) = true := bne_iff_ne.mpr c43
                              (first | rw [c43b0] | (simp only [i64_w, i32_w]; rw [c43b0]) | skip)
                              by_cases c44 : t195 > 1000
                              · rw [if_pos c44] at H
                                have c44b0 : decide (1000 < t195) = true := decide_eq_true c44
                                clear c44
                                have H' := Aside0.mk H
                                clear H
                                go_wp2
                                go_meet
                                case rel => exact ⟨_, (decide (x6_26 < 0)), (by first | rfl | (simp; done) | (simp [*]; done)), H', ⟨by have := HK1.out; have := HJ16.out; have := HJ26.out; first | omega | exact Nat.le_refl _⟩, ⟨by (try simp only [hl5_16]); (with_reducible repeat (first | apply Kd.R_alloc | apply Kd.R_drewN | apply Kd.R_drew)); exact HO_5.out⟩, ⟨by (try simp only [hl5_16]); (with_reducible repeat (first | refine blk_drewN ?_ _ | refine blk_drew ?_ | refine blk_alloc ?_ _)); exact BK181.out⟩, ⟨by (try simp only [hl5_16]); (with_reducible repeat (first | refine blk_drewN ?_ _ | refine blk_drew ?_ | refine blk_alloc ?_ _)); exact BK190.out⟩, ⟨by repeat (first | (with_reducible first | exact HB.out | apply below_alloc | apply pw_below_drewN | apply below_drew1 | refine below_set ?_ GE181.out | refine below_set ?_ GE190.out) | exact HB.out)⟩⟩
                              · rw [if_neg c44] at H
                                have c44b0 : decide (1000 < t195) = false := decide_eq_false c44
                                clear c44
                                have H' := Aside0.mk H
                                clear H
                                go_wp2
                                go_meet
                                case rel => exact ⟨_, (false), (by first | rfl | (simp; done) | (simp [*]; done)), H', ⟨by have := HK1.out; have := HJ16.out; have := HJ26.out; first | omega | exact Nat.le_refl _⟩, ⟨by (try simp only [hl5_16]); (with_reducible repeat (first | apply Kd.R_alloc | apply Kd.R_drewN | apply Kd.R_drew)); exact HO_5.out⟩, ⟨by (try simp only [hl5_16]); (with_reducible repeat (first | refine blk_drewN ?_ _ | refine blk_drew ?_ | refine blk_alloc ?_ _)); exact BK181.out⟩, ⟨by (try simp only [hl5_16]); (with_reducible repeat (first | refine blk_drewN ?_ _ | refine blk_drew ?_ | refine blk_alloc ?_ _)); exact BK190.out⟩, ⟨by repeat (first | (with_reducible first | exact HB.out | apply below_alloc | apply pw_below_drewN | apply below_drew1 | refine below_set ?_ GE181.out | refine below_set ?_ GE190.out) | exact HB.out)⟩⟩
                          case rest =>
                            clear HC42
                            try clear c1
                            try clear c2
                            try clear c2b0
                            try clear c2b1
                            try clear p2
                            try clear c3
                            try clear c4
                            try clear p6
                            try clear c7
                            try clear c7b0
                            try clear c10
                            try clear c12
                            try clear c20
                            try clear c24
                            try clear c25
                            try clear c26
                            try clear c27
                            try clear c28
                            try clear c30
                            try clear c31
                            try clear c35
                            try clear c37
                            try clear c39
                            try clear c39b0
                            try clear c39b1
                            try clear c40
                            try clear c43
                            try clear c43b0
                            try clear c43b1
                            try clear c44
                            try clear c44b0
                            try clear hcz11_0
                            try clear hcz11_1
                            try clear hcz11_2
                            try clear hcz11_3
                            try clear hcz11_4
                            try clear hcz21_0
                            try clear hcz21_1
                            try clear hcz21_2
                            try clear hcz21_3
                            try clear hcz21_4
                            try clear hcz23_0
                            try clear hcz23_1
                            try clear hcz23_2
                            try clear hcz23_3
                            try clear hcz23_4
                            try clear hcz32_0
                            try clear hcz32_1
                            try clear hcz32_2
                            try clear hcz32_3
                            try clear hcz32_4
                            try clear hcz36_0
                            try clear hcz36_1
                            try clear hcz36_2
                            try clear hcz36_3
                            try clear hcz36_4
                            try clear hcz41_0
                            try clear hcz41_1
                            try clear hfz11_0
                            try clear hfz11_1
                            try clear hfz11_2
                            try clear hfz11_3
                            try clear hfz11_4
                            try clear hfz21_0
                            try clear hfz21_1
                            try clear hfz21_2
                            try clear hfz21_3
                            try clear hfz21_4
                            try clear hfz23_0
                            try clear hfz23_1
                            try clear hfz23_2
                            try clear hfz23_3
                            try clear hfz23_4
                            try clear hfz32_0
                            try clear hfz32_1
                            try clear hfz32_2
                            try clear hfz32_3
                            try clear hfz32_4
                            try clear hfz36_0
                            try clear hfz36_1
                            try clear hfz36_2
                            try clear hfz36_3
                            try clear hfz36_4
                            try clear hfz41_0
                            try clear hfz41_1
                            try clear p2
                            obtain ⟨kq, x78_41, rfl, HA, HJ41, HO_5, BK181, BK190, HB⟩ := hcut
                            cases kq with
                            | zero => exact absurd HA.out (by simp [gangerref06_Parse.j3])
                            | succ kj41 =>
                              have H := HA.out
                              clear HA
                              simp only [gangerref06_Parse.j3] at H
                              by_cases c45 : x78_41 = true
                              · subst c45
                                have H1 : (gangerref06_Parse.j4 kj41 a0 t192 t188 t196 t195) = some (r1, r2, r3, r4) := by rw [if_pos rfl] at H; exact H
                                clear H
                                have H := H1
                                clear H1
                                have H' := Aside0.mk H
                                clear H
                                go_wp2
                                go_meet
                                case rel => exact ⟨_, (t188), (t196), (t195), (x182001_1), (by first | rfl | (simp; done) | (simp [*]; done)), (by first | rfl | (simp; done) | (simp [*]; done)), (by first | rfl | (simp; done) | (simp [*]; done)), H', ⟨by have := HK1.out; have := HJ16.out; have := HJ26.out; have := HJ41.out; first | omega | exact Nat.le_refl _⟩, ⟨by (try simp only [hl5_16]); (with_reducible repeat (first | apply Kd.R_alloc | apply Kd.R_drewN | apply Kd.R_drew)); exact HO_5.out⟩, ⟨by (try simp only [hl5_16]); (with_reducible repeat (first | refine blk_drewN ?_ _ | refine blk_drew ?_ | refine blk_alloc ?_ _)); exact BK181.out⟩, ⟨by (try simp only [hl5_16]); (with_reducible repeat (first | refine blk_drewN ?_ _ | refine blk_drew ?_ | refine blk_alloc ?_ _)); exact BK190.out⟩, ⟨by repeat (first | (with_reducible first | exact HB.out | apply below_alloc | apply pw_below_drewN | apply below_drew1 | refine below_set ?_ GE181.out | refine below_set ?_ GE190.out) | exact HB.out)⟩⟩
                              · replace c45 := Bool.eq_false_iff.mpr c45
                                subst c45
                                have H1 : (gangerref06_Parse.j4 kj41 a0 t192 x6_26 t196 t195) = some (r1, r2, r3, r4) := by rw [if_neg (show ¬ (false = true) by decide)] at H; exact H
                                clear H
                                have H := H1
                                clear H1
                                have H' := Aside0.mk H
                                clear H
                                go_wp2
                                go_meet
                                case rel => exact ⟨_, (x6_26), (t196), (t195), (x182001_1), (by first | rfl | (simp; done) | (simp [*]; done)), (by first | rfl | (simp; done) | (simp [*]; done)), (by first | rfl | (simp; done) | (simp [*]; done)), H', ⟨by have := HK1.out; have := HJ16.out; have := HJ26.out; have := HJ41.out; first | omega | exact Nat.le_refl _⟩, ⟨by (try simp only [hl5_16]); (with_reducible repeat (first | apply Kd.R_alloc | apply Kd.R_drewN | apply Kd.R_drew)); exact HO_5.out⟩, ⟨by (try simp only [hl5_16]); (with_reducible repeat (first | refine blk_drewN ?_ _ | refine blk_drew ?_ | refine blk_alloc ?_ _)); exact BK181.out⟩, ⟨by (try simp only [hl5_16]); (with_reducible repeat (first | refine blk_drewN ?_ _ | refine blk_drew ?_ | refine blk_alloc ?_ _)); exact BK190.out⟩, ⟨by repeat (first | (with_reducible first | exact HB.out | apply below_alloc | apply pw_below_drewN | apply below_drew1 | refine below_set ?_ GE181.out | refine below_set ?_ GE190.out) | exact HB.out)⟩⟩
                      · replace c37 := Bool.eq_false_iff.mpr c37
                        subst c37
                        have H1 : (gangerref06_Parse.j4 kj26 a0 t192 x6_26 t188 0) = some (r1, r2, r3, r4) := by rw [if_neg (show ¬ (false = true) by decide)] at H; exact H
                        clear H
                        have H := H1
                        clear H1
                        have H' := Aside0.mk H
                        clear H
                        go_wp2
                        go_meet
                        case rel => exact ⟨_, (x6_26), (t188), (0), (x182001_1), (by first | rfl | (simp; done) | (simp [*]; done)), (by first | rfl | (simp; done) | (simp [*]; done)), (by first | rfl | (simp; done) | (simp [*]; done)), H', ⟨by have := HK1.out; have := HJ16.out; have := HJ26.out; first | omega | exact Nat.le_refl _⟩, ⟨by (try simp only [hl5_16]); (with_reducible repeat (first | apply Kd.R_alloc | apply Kd.R_drewN | apply Kd.R_drew)); exact HO_5.out⟩, ⟨by (try simp only [hl5_16]); (with_reducible repeat (first | refine blk_drewN ?_ _ | refine blk_drew ?_ | refine blk_alloc ?_ _)); exact BK181.out⟩, ⟨by (try simp only [hl5_16]); (with_reducible repeat (first | refine blk_drewN ?_ _ | refine blk_drew ?_ | refine blk_alloc ?_ _)); exact BK190.out⟩, ⟨by repeat (first | (with_reducible first | exact HB.out | apply below_alloc | apply pw_below_drewN | apply below_drew1 | refine below_set ?_ GE181.out | refine below_set ?_ GE190.out) | exact HB.out)⟩⟩
                    case rest =>
                      clear HC34
                      try clear c1
                      try clear c2
                      try clear c2b0
                      try clear c2b1
                      try clear p2
                      try clear c3
                      try clear c4
                      try clear p6
                      try clear c7
                      try clear c7b0
                      try clear c10
                      try clear c12
                      try clear c20
                      try clear c24
                      try clear c25
                      try clear c26
                      try clear c27
                      try clear c28
                      try clear c30
                      try clear c31
                      try clear c35
                      try clear c37
                      try clear c39
                      try clear c39b0
                      try clear c39b1
                      try clear c40
                      try clear c43
                      try clear c43b0
                      try clear c43b1
                      try clear c44
                      try clear c44b0
                      try clear c45
                      try clear hcz11_0
                      try clear hcz11_1
                      try clear hcz11_2
                      try clear hcz11_3
                      try clear hcz11_4
                      try clear hcz21_0
                      try clear hcz21_1
                      try clear hcz21_2
                      try clear hcz21_3
                      try clear hcz21_4
                      try clear hcz23_0
                      try clear hcz23_1
                      try clear hcz23_2
                      try clear hcz23_3
                      try clear hcz23_4
                      try clear hcz32_0
                      try clear hcz32_1
                      try clear hcz32_2
                      try clear hcz32_3
                      try clear hcz32_4
                      try clear hcz36_0
                      try clear hcz36_1
                      try clear hcz36_2
                      try clear hcz36_3
                      try clear hcz36_4
                      try clear hcz41_0
                      try clear hcz41_1
                      try clear hfz11_0
                      try clear hfz11_1
                      try clear hfz11_2
                      try clear hfz11_3
                      try clear hfz11_4
                      try clear hfz21_0
                      try clear hfz21_1
                      try clear hfz21_2
                      try clear hfz21_3
                      try clear hfz21_4
                      try clear hfz23_0
                      try clear hfz23_1
                      try clear hfz23_2
                      try clear hfz23_3
                      try clear hfz23_4
                      try clear hfz32_0
                      try clear hfz32_1
                      try clear hfz32_2
                      try clear hfz32_3
                      try clear hfz32_4
                      try clear hfz36_0
                      try clear hfz36_1
                      try clear hfz36_2
                      try clear hfz36_3
                      try clear hfz36_4
                      try clear hfz41_0
                      try clear hfz41_1
                      try clear p2
                      try clear p6
                      obtain ⟨kq, x6_33, x7_33, x10_33, x182001_33, rfl, rfl, rfl, HA, HJ33, HO_5, BK181, BK190, HB⟩ := hcut
                      cases kq with
                      | zero => exact absurd HA.out (by simp [gangerref06_Parse.j4])
                      | succ kj33 =>
                        have H := HA.out
                        clear HA
                        simp only [gangerref06_Parse.j4] at H
                        by_cases c46 : x7_33 < (a0.size : Int)
                        · rw [if_pos c46] at H
                          have c46b0 : decide (x7_33 < (a0.size : Int)) = true := decide_eq_true c46
                          clear c46
                          simp only [Option.some.injEq, Prod.mk.injEq] at H
                          obtain ⟨rfl, rfl, rfl, rfl⟩ := H
                          have hnb47 := NB181_190.out
                          have hnc47 := NB190_181.out
                          have hcz48_0 : wc.cell? ⟨gb181, 0, none⟩ = some (.slice none 0 0) := (blk_cell BK181.out 0).trans rfl
                          have hcz48_1 : wc.cell? ⟨gb181, 1, none⟩ = some (.int .i64 x182001_33) := (blk_cell BK181.out 1).trans rfl
                          have hfz48_0 := blk_frozen BK181.out 0
                          have hfz48_1 := blk_frozen BK181.out 1
                          go_wp2
                          refine bodyPost_ret (results_ctt rfl _ _ gb181 25 #[.slice none 0 0, .int .i64 0] (0, 0) _ rfl (by (with_reducible repeat (first | refine blk_drewN ?_ _ | refine blk_drew ?_ | refine blk_alloc ?_ _)); refine blk_put (cs := #[.slice none 0 0, .int .i64 x182001_33]) ?_ 1 _ rfl; (with_reducible repeat (first | refine blk_drewN ?_ _ | refine blk_drew ?_ | refine blk_alloc ?_ _)); refine blk_put (cs := #[.slice none 0 0, .int .i64 x182001_33]) ?_ 0 _ rfl; (with_reducible repeat (first | refine blk_drewN ?_ _ | refine blk_drew ?_ | refine blk_alloc ?_ _)); exact BK181.out) Tryd.underlying25 rfl (by kernel_rfl)) rfl ?_
                          exact ⟨_, by first | rfl | (simp [errW_none, errW_some] <;> rfl) | (simp [*, errW_none, errW_some] <;> rfl), by first | exact Kd.R_nil _ _ _ _ _ | exact Kd.N_nil _ _ _ _ _ | exact Kd.V_nil _ _ _ _ _ | exact Kd.Q_nil _ _ _ _ _ | exact Kd.S_nil _ _ _ _ _, by repeat (first | (with_reducible first | exact HB.out | apply below_alloc | apply pw_below_drewN | apply below_drew1 | refine below_set ?_ GE181.out | refine below_set ?_ GE190.out) | exact HB.out)⟩
                        · rw [if_neg c46] at H
                          have c46b0 : decide (x7_33 < (a0.size : Int)) = false := decide_eq_false c46
                          clear c46
                          by_cases c49 : x6_33 ≥ 0
                          · rw [if_pos c49] at H
                            have c49b0 : decide (0 ≤ x6_33) = true := decide_eq_true c49
                            clear c49
                            simp only [Option.some.injEq, Prod.mk.injEq] at H
                            obtain ⟨rfl, rfl, rfl, rfl⟩ := H
                            have hnb50 := NB181_190.out
                            have hnc50 := NB190_181.out
                            have hcz51_0 : wc.cell? ⟨gb181, 0, none⟩ = some (.slice none 0 0) := (blk_cell BK181.out 0).trans rfl
                            have hcz51_1 : wc.cell? ⟨gb181, 1, none⟩ = some (.int .i64 x182001_33) := (blk_cell BK181.out 1).trans rfl
                            have hfz51_0 := blk_frozen BK181.out 0
                            have hfz51_1 := blk_frozen BK181.out 1
                            go_wp2
                            refine bodyPost_ret (results_ctt rfl _ _ gb181 25 #[.slice none 0 0, .int .i64 0] (0, 0) _ rfl (by (with_reducible repeat (first | refine blk_drewN ?_ _ | refine blk_drew ?_ | refine blk_alloc ?_ _)); refine blk_put (cs := #[.slice none 0 0, .int .i64 x182001_33]) ?_ 1 _ rfl; (with_reducible repeat (first | refine blk_drewN ?_ _ | refine blk_drew ?_ | refine blk_alloc ?_ _)); refine blk_put (cs := #[.slice none 0 0, .int .i64 x182001_33]) ?_ 0 _ rfl; (with_reducible repeat (first | refine blk_drewN ?_ _ | refine blk_drew ?_ | refine blk_alloc ?_ _)); exact BK181.out) Tryd.underlying25 rfl (by kernel_rfl)) rfl ?_
                            exact ⟨_, by first | rfl | (simp [errW_none, errW_some] <;> rfl) | (simp [*, errW_none, errW_some] <;> rfl), by first | exact Kd.R_nil _ _ _ _ _ | exact Kd.N_nil _ _ _ _ _ | exact Kd.V_nil _ _ _ _ _ | exact Kd.Q_nil _ _ _ _ _ | exact Kd.S_nil _ _ _ _ _, by repeat (first | (with_reducible first | exact HB.out | apply below_alloc | apply pw_below_drewN | apply below_drew1 | refine below_set ?_ GE181.out | refine below_set ?_ GE190.out) | exact HB.out)⟩
                          · rw [if_neg c49] at H
                            have c49b0 : decide (0 ≤ x6_33) = false := decide_eq_false c49
                            clear c49
                            have H' := Aside0.mk H
                            clear H
                            go_wp2_with (first | ((with_reducible refine gate_dst (N := 14) rfl ?_); refine box_event ?hg (N := 14) ?hd (cs := #[.slice none 0 0, .int .i64 0]) (t := 25) ?hr ?_; (case hd => rfl); (case hg => rfl); (case hr => first | (go_simp; done) | (go_simp; rfl)); intro gb197 hg w52 hbox hb; have n0_ := Aside0.mk (Kd.R_below (by (with_reducible repeat (first | apply Kd.R_alloc | apply Kd.R_drewN | apply Kd.R_drew)); exact HO_5.out) hb); have n1_ := Aside0.mk (blk_below (g := gb181) (o := .cells #[.slice none 0 0, .int .i64 x182001_33] 25 (0, 0)) (by (with_reducible repeat (first | refine blk_drewN ?_ _ | refine blk_drew ?_ | refine blk_alloc ?_ _)); exact BK181.out) hb); have n2_ := Aside0.mk (blk_below (g := gb190) (o := .cells #[.int .i64 t185, .int .i64 t186, .int .i64 t187, .int .i64 t188, .int .i64 t189] 61 (0, 0)) (by (with_reducible repeat (first | refine blk_drewN ?_ _ | refine blk_drew ?_ | refine blk_alloc ?_ _)); exact BK190.out) hb); have n3_ := Aside0.mk (below_step (by repeat (first | (with_reducible first | exact HB.out | apply below_alloc | apply pw_below_drewN | apply below_drew1 | refine below_set ?_ GE181.out | refine below_set ?_ GE190.out) | exact HB.out)) hb); have n4_ := Aside0.mk (hbox); have n5_ := Aside0.mk ((by rw [hg]; exact (below_size (by repeat (first | (with_reducible first | exact HB.out | apply below_alloc | apply pw_below_drewN | apply below_drew1 | refine below_set ?_ GE181.out | refine below_set ?_ GE190.out) | exact HB.out))) : w.heap.size ≤ gb197)); have n6_ := Aside0.mk ((by rw [hg]; exact (below_size (by repeat (first | (with_reducible first | exact HB.out | apply below_alloc | apply pw_below_drewN | apply below_drew1 | refine below_set ?_ GE181.out | refine below_set ?_ GE190.out) | exact HB.out))) : w.heap.size ≤ gb197)); have n7_ := Aside0.mk ((by rw [hg]; exact Nat.ne_of_lt (blk_lt (g := gb181) (o := .cells #[.slice none 0 0, .int .i64 x182001_33] 25 (0, 0)) (by (with_reducible repeat (first | refine blk_drewN ?_ _ | refine blk_drew ?_ | refine blk_alloc ?_ _)); exact BK181.out)) : gb181 ≠ gb197)); have n8_ := Aside0.mk ((by rw [hg]; exact Nat.ne_of_gt (blk_lt (g := gb181) (o := .cells #[.slice none 0 0, .int .i64 x182001_33] 25 (0, 0)) (by (with_reducible repeat (first | refine blk_drewN ?_ _ | refine blk_drew ?_ | refine blk_alloc ?_ _)); exact BK181.out)) : gb197 ≠ gb181)); have n9_ := Aside0.mk ((by rw [hg]; exact Nat.ne_of_lt (blk_lt (g := gb190) (o := .cells #[.int .i64 t185, .int .i64 t186, .int .i64 t187, .int .i64 t188, .int .i64 t189] 61 (0, 0)) (by (with_reducible repeat (first | refine blk_drewN ?_ _ | refine blk_drew ?_ | refine blk_alloc ?_ _)); exact BK190.out)) : gb190 ≠ gb197)); have n10_ := Aside0.mk ((by rw [hg]; exact Nat.ne_of_gt (blk_lt (g := gb190) (o := .cells #[.int .i64 t185, .int .i64 t186, .int .i64 t187, .int .i64 t188, .int .i64 t189] 61 (0, 0)) (by (with_reducible repeat (first | refine blk_drewN ?_ _ | refine blk_drew ?_ | refine blk_alloc ?_ _)); exact BK190.out)) : gb197 ≠ gb190)); clear HO_5; clear BK181; clear BK190; clear HB; have HO_5 := n0_; have BK181 := n1_; have BK190 := n2_; have HB := n3_; have BK197 := n4_; have GW197 := n5_; have GE197 := n6_; have NB181_197 := n7_; have NB197_181 := n8_; have NB190_197 := n9_; have NB197_190 := n10_; clear n0_ n1_ n2_ n3_ n4_ n5_ n6_ n7_ n8_ n9_ n10_; clear hb hbox hg; have hnb53 := NB197_181.out; have hnc53 := NB181_197.out; have hnb54 := NB197_190.out; have hnc54 := NB190_197.out; have hcz55_0 : w52.cell? ⟨gb197, 0, none⟩ = some (.slice none 0 0) := (blk_cell BK197.out 0).trans rfl; have hcz55_1 : w52.cell? ⟨gb197, 1, none⟩ = some (.int .i64 0) := (blk_cell BK197.out 1).trans rfl; have hfz55_0 := blk_frozen BK197.out 0; have hfz55_1 := blk_frozen BK197.out 1))
                            go_loopg [15] kj33 (fun kq v15 w' => ∃ (x15_5 : Int) (x198000_5 : List Int) (u198000 : Value), v15 = .int .i64 x15_5 ∧ Aside0 (gangerref06_Parse.l1 kq t192 x15_5 x198000_5 x10_33 = some (r1, r2, r3, r4)) ∧ Aside0 (kq ≤ kj33) ∧ Aside0 (Kd.R Kd.bool 4 w' w.heap.size (fun _ => True) (.slice Ao24 t192.length co24) t192) ∧ Aside0 (Kd.R (Kd.int .i64) 3 w' w.heap.size (fun _ => True) u198000 x198000_5) ∧ Aside0 (w'.heap[gb181]? = some (.cells #[(.slice none 0 0), .int .i64 x182001_33] 25 (0, 0))) ∧ Aside0 (w'.heap[gb190]? = some (.cells #[.int .i64 t185, .int .i64 t186, .int .i64 t187, .int .i64 t188, .int .i64 t189] 61 (0, 0))) ∧ Aside0 (w'.heap[gb197]? = some (.cells #[u198000, .int .i64 x10_33] 25 (0, 0))) ∧ Aside0 (Below w.heap.size w w'))
                            case atStart => exact ⟨(0), (([] : List Int)), (.slice none 0 0), (by first | rfl | (simp; done) | (simp [*]; done)), H', ⟨Nat.le_refl _⟩, ⟨by (try simp only [hl5_16]); (with_reducible repeat (first | apply Kd.R_alloc | apply Kd.R_drewN | apply Kd.R_drew)); exact Kd.R_mono (Kd.R_far (p := ⟨gb197, 1, none⟩) (Kd.R_far (p := ⟨gb197, 0, none⟩) (Kd.R_types HO_5.out BK197.out (by decide)) (fun _ hk => hk.2) (.slice none 0 0)) (fun _ hk => hk.2) (.int .i64 x10_33)) (fun _ hk => trivial)⟩, ⟨by (try simp only [hl5_16]); first | exact Kd.R_nil _ _ _ _ _ | exact Kd.N_nil _ _ _ _ _ | exact Kd.V_nil _ _ _ _ _ | exact Kd.Q_nil _ _ _ _ _ | exact Kd.S_nil _ _ _ _ _⟩, ⟨by (try simp only [hl5_16]); (with_reducible repeat (first | refine blk_drewN ?_ _ | refine blk_drew ?_ | refine blk_alloc ?_ _)); refine blk_far ?_ NB181_197.out _; (with_reducible repeat (first | refine blk_drewN ?_ _ | refine blk_drew ?_ | refine blk_alloc ?_ _)); refine blk_far ?_ NB181_197.out _; (with_reducible repeat (first | refine blk_drewN ?_ _ | refine blk_drew ?_ | refine blk_alloc ?_ _)); exact BK181.out⟩, ⟨by (try simp only [hl5_16]); (with_reducible repeat (first | refine blk_drewN ?_ _ | refine blk_drew ?_ | refine blk_alloc ?_ _)); refine blk_far ?_ NB190_197.out _; (with_reducible repeat (first | refine blk_drewN ?_ _ | refine blk_drew ?_ | refine blk_alloc ?_ _)); refine blk_far ?_ NB190_197.out _; (with_reducible repeat (first | refine blk_drewN ?_ _ | refine blk_drew ?_ | refine blk_alloc ?_ _)); exact BK190.out⟩, ⟨by (try simp only [hl5_16]); (with_reducible repeat (first | refine blk_drewN ?_ _ | refine blk_drew ?_ | refine blk_alloc ?_ _)); refine blk_put (cs := #[.slice none 0 0, .int .i64 0]) ?_ 1 _ rfl; (with_reducible repeat (first | refine blk_drewN ?_ _ | refine blk_drew ?_ | refine blk_alloc ?_ _)); refine blk_put (cs := #[.slice none 0 0, .int .i64 0]) ?_ 0 _ rfl; (with_reducible repeat (first | refine blk_drewN ?_ _ | refine blk_drew ?_ | refine blk_alloc ?_ _)); exact BK197.out⟩, ⟨by repeat (first | (with_reducible first | exact HB.out | apply below_alloc | apply pw_below_drewN | apply below_drew1 | refine below_set ?_ GE181.out | refine below_set ?_ GE190.out | refine below_set ?_ GE197.out) | exact HB.out)⟩⟩
                            case round =>
                              clear H'
                              try clear c1
                              try clear c2
                              try clear c2b0
                              try clear c2b1
                              try clear p2
                              try clear c3
                              try clear c4
                              try clear c5
                              try clear p6
                              try clear c7
                              try clear c7b0
                              try clear c10
                              try clear c12
                              try clear c20
                              try clear c24
                              try clear c25
                              try clear c26
                              try clear c27
                              try clear c28
                              try clear c30
                              try clear c31
                              try clear c35
                              try clear c37
                              try clear c39
                              try clear c39b0
                              try clear c39b1
                              try clear c40
                              try clear c43
                              try clear c43b0
                              try clear c43b1
                              try clear c44
                              try clear c44b0
                              try clear c45
                              try clear c46
                              try clear c46b0
                              try clear c47
                              try clear c49
                              try clear c49b0
                              try clear c50
                              try clear c53
                              try clear c54
                              try clear hcz11_0
                              try clear hcz11_1
                              try clear hcz11_2
                              try clear hcz11_3
                              try clear hcz11_4
                              try clear hcz21_0
                              try clear hcz21_1
                              try clear hcz21_2
                              try clear hcz21_3
                              try clear hcz21_4
                              try clear hcz23_0
                              try clear hcz23_1
                              try clear hcz23_2
                              try clear hcz23_3
                              try clear hcz23_4
                              try clear hcz32_0
                              try clear hcz32_1
                              try clear hcz32_2
                              try clear hcz32_3
                              try clear hcz32_4
                              try clear hcz36_0
                              try clear hcz36_1
                              try clear hcz36_2
                              try clear hcz36_3
                              try clear hcz36_4
                              try clear hcz41_0
                              try clear hcz41_1
                              try clear hcz48_0
                              try clear hcz48_1
                              try clear hcz51_0
                              try clear hcz51_1
                              try clear hcz55_0
                              try clear hcz55_1
                              try clear hfz11_0
                              try clear hfz11_1
                              try clear hfz11_2
                              try clear hfz11_3
                              try clear hfz11_4
                              try clear hfz21_0
                              try clear hfz21_1
                              try clear hfz21_2
                              try clear hfz21_3
                              try clear hfz21_4
                              try clear hfz23_0
                              try clear hfz23_1
                              try clear hfz23_2
                              try clear hfz23_3
                              try clear hfz23_4
                              try clear hfz32_0
                              try clear hfz32_1
                              try clear hfz32_2
                              try clear hfz32_3
                              try clear hfz32_4
                              try clear hfz36_0
                              try clear hfz36_1
                              try clear hfz36_2
                              try clear hfz36_3
                              try clear hfz36_4
                              try clear hfz41_0
                              try clear hfz41_1
                              try clear hfz48_0
                              try clear hfz48_1
                              try clear hfz51_0
                              try clear hfz51_1
                              try clear hfz55_0
                              try clear hfz55_1
                              try clear p2
                              try clear p6
                              obtain ⟨x15_5, x198000_5, u198000, rfl, HA, HK5, HO_5, HO_198000, BK181, BK190, BK197, HB⟩ := hrel
                              cases gk with
                              | zero => exact absurd HA.out (by simp [gangerref06_Parse.l1])
                              | succ k5 =>
                                have H := HA.out
                                clear HA
                                simp only [gangerref06_Parse.l1] at H
                                by_cases c56 : x15_5 ≤ 1000
                                · rw [if_pos c56] at H
                                  have c56b0 : decide (x15_5 ≤ 1000) = true := decide_eq_true c56
                                  clear c56
                                  by_cases c57 : 0 ≤ x15_5
                                  · rw [if_pos c57] at H
                                    have c57b0 : decide (0 ≤ x15_5) = true := decide_eq_true c57
                                    clear c57
                                    by_cases c58 : x15_5 < (t192.length : Int)
                                    · rw [if_pos c58] at H
                                      have c58b0 : decide (x15_5 < (t192.length : Int)) = true := decide_eq_true c58
                                      clear c58
                                      obtain ⟨bq59, hbq59⟩ : ∃ b_ : Bool, b_ = (rdOf false t192 x15_5) := ⟨_, rfl⟩
                                      replace H : (if bq59 = true then (if x198000_5.length < 17592186044416 then (gangerref06_Parse.l1 k5 t192 (wrap64 (x15_5 + 1)) (x198000_5 ++ [x15_5]) x10_33) else (none)) else (gangerref06_Parse.l1 k5 t192 (wrap64 (x15_5 + 1)) x198000_5 x10_33)) = some (r1, r2, r3, r4) := by rw [← hbq59] at H; exact H
                                      have Nbq59 := Aside0.mk hbq59
                                      clear hbq59
                                      by_cases c60 : bq59 = true
                                      · subst c60
                                        have H1 : (if x198000_5.length < 17592186044416 then (gangerref06_Parse.l1 k5 t192 (wrap64 (x15_5 + 1)) (x198000_5 ++ [x15_5]) x10_33) else (none)) = some (r1, r2, r3, r4) := by rw [if_pos rfl] at H; exact H
                                        clear H
                                        have H := H1
                                        clear H1
                                        by_cases c61 : x198000_5.length < 17592186044416
                                        · rw [if_pos c61] at H
                                          have LMc61 := Aside0.mk c61
                                          clear c61
                                          obtain ⟨y199, hy199⟩ : ∃ y_ : List Int, y_ = (x198000_5 ++ [x15_5]) := ⟨_, rfl⟩
                                          replace H : (gangerref06_Parse.l1 k5 t192 (wrap64 (x15_5 + 1)) y199 x10_33) = some (r1, r2, r3, r4) := by first | (rw [hy199]; with_reducible exact H) | (have H2_ := (Option.bind_some _ _).symm.trans H; rw [hy199]; with_reducible exact H2_) | (have H2_ := (Option.bind_some _ _).symm.trans H; with_reducible exact H2_) | with_reducible exact H | (rw [hy199]; exact H) | exact H
                                          have Ny199 := Aside0.mk hy199
                                          clear hy199
                                          have H' := Aside0.mk H
                                          clear H
                                          have p198 : 0 ≤ (x15_5 : Int) := of_decide_eq_true (by first | (with_reducible assumption) | assumption)
                                          have q198 : x15_5 < (t192.length : Int) := of_decide_eq_true (by first | (with_reducible assumption) | assumption)
                                          obtain ⟨ad198, e198, hx198_0⟩ := Kd.at_bool (Kd.R_reads' HO_5.out).2.2 x15_5 p198 q198
                                          (try rw [← Nbq59.out] at hx198_0)
                                          cases e198
                                          replace p198 := eq_true p198
                                          replace q198 := eq_true q198
                                          have hnb62 := NB197_181.out
                                          have hnc62 := NB181_197.out
                                          have hnb63 := NB197_190.out
                                          have hnc63 := NB190_197.out
                                          have hcz64_0 : wr.cell? ⟨gb197, 0, none⟩ = some (u198000) := (blk_cell BK197.out 0).trans rfl
                                          have hcz64_1 : wr.cell? ⟨gb197, 1, none⟩ = some (.int .i64 x10_33) := (blk_cell BK197.out 1).trans rfl
                                          have hfz64_0 := blk_frozen BK197.out 0
                                          have hfz64_1 := blk_frozen BK197.out 1
                                          go_wp2_with (first | ((with_reducible refine gate_builtin (b := .append) (xs := #[.tmp 101, .tmp 103]) rfl ?_); at_builtin; refine Kd.R_append (Kd.int .i64) (w0 := w) w.heap.size rfl (.tmp 101) (.tmp 103) 23 3 (.int .i64 0) 8 rfl Tryd.underlying23 info3 rfl (by decide) (by omega) u198000 x198000_5 x15_5 [.int .i64 x15_5] (fun _ => True) (fun _ => False) rfl rfl ?aP (fun _ hk => hk.elim) ?aF ?aO ?aB ?aS ?aL ?_; (case aP => exact rfl); (case aB => exact (by repeat (first | (with_reducible first | exact HB.out | apply below_alloc | apply pw_below_drewN | apply below_drew1 | refine below_set ?_ GE181.out | refine below_set ?_ GE190.out | refine below_set ?_ GE197.out) | exact HB.out))); (case aF => exact (fun _ _ => trivial)); (case aO => exact (by (with_reducible repeat (first | apply Kd.R_alloc | apply Kd.R_drewN | apply Kd.R_drew)); exact HO_198000.out)); (case aS => exact (below_size (by repeat (first | (with_reducible first | exact HB.out | apply below_alloc | apply pw_below_drewN | apply below_drew1 | refine below_set ?_ GE181.out | refine below_set ?_ GE190.out | refine below_set ?_ GE197.out) | exact HB.out)))); (case aL => have := LMc61.out; omega); intro v200 w65 ho hb hg hat; rw [← Ny199.out] at ho; have n0_ := Aside0.mk (Kd.R_over' (by (with_reducible repeat (first | apply Kd.R_alloc | apply Kd.R_drewN | apply Kd.R_drew)); exact HO_5.out) (Kd.R_typed (by (with_reducible repeat (first | apply Kd.R_alloc | apply Kd.R_drewN | apply Kd.R_drew)); exact HO_198000.out)) (by decide) hg); have n1_ := Aside0.mk (blk_grown (g := gb181) (o := .cells #[.slice none 0 0, .int .i64 x182001_33] 25 (0, 0)) (by (with_reducible repeat (first | refine blk_drewN ?_ _ | refine blk_drew ?_ | refine blk_alloc ?_ _)); exact BK181.out) hg (Kd.R_ne HO_198000.out BK181.out (by decide))); have n2_ := Aside0.mk (blk_grown (g := gb190) (o := .cells #[.int .i64 t185, .int .i64 t186, .int .i64 t187, .int .i64 t188, .int .i64 t189] 61 (0, 0)) (by (with_reducible repeat (first | refine blk_drewN ?_ _ | refine blk_drew ?_ | refine blk_alloc ?_ _)); exact BK190.out) hg (Kd.R_ne HO_198000.out BK190.out (by decide))); have n3_ := Aside0.mk (blk_grown (g := gb197) (o := .cells #[u198000, .int .i64 x10_33] 25 (0, 0)) (by (with_reducible repeat (first | refine blk_drewN ?_ _ | refine blk_drew ?_ | refine blk_alloc ?_ _)); exact BK197.out) hg (Kd.R_ne HO_198000.out BK197.out (by decide))); have n4_ := Aside0.mk (hb); have n5_ := Aside0.mk (ho); clear HO_5; clear BK181; clear BK190; clear BK197; clear HB; clear HO_198000; have HO_5 := n0_; have BK181 := n1_; have BK190 := n2_; have BK197 := n3_; have HB := n4_; have HO201 := n5_; clear n0_ n1_ n2_ n3_ n4_ n5_; clear ho hb hg hat; obtain ⟨Ao66, co66, eo66⟩ := Kd.R_slice HO201.out; subst eo66; have hcz67_0 : w65.cell? ⟨gb197, 0, none⟩ = some (u198000) := (blk_cell BK197.out 0).trans rfl; have hcz67_1 : w65.cell? ⟨gb197, 1, none⟩ = some (.int .i64 x10_33) := (blk_cell BK197.out 1).trans rfl; have hfz67_0 := blk_frozen BK197.out 0; have hfz67_1 := blk_frozen BK197.out 1))
                                          go_roundg k5
                                          case measure => have := HK1.out; have := HJ16.out; have := HJ26.out; have := HJ33.out; have := HK5.out; omega
                                          case rel => exact ⟨(wrap64 (x15_5 + 1)), (y199), (.slice Ao66 y199.length co66), (by first | rfl | (simp; done) | (simp [*]; done)), H', ⟨by have := HK1.out; have := HJ16.out; have := HJ26.out; have := HJ33.out; have := HK5.out; omega⟩, ⟨by (try simp only [hl5_16]); (with_reducible repeat (first | apply Kd.R_alloc | apply Kd.R_drewN | apply Kd.R_drew)); exact Kd.R_mono (Kd.R_far (p := ⟨gb197, 0, none⟩) (Kd.R_types HO_5.out BK197.out (by decide)) (fun _ hk => hk.2) (.slice Ao66 y199.length co66)) (fun _ hk => trivial)⟩, ⟨by (try simp only [hl5_16]); (with_reducible repeat (first | apply Kd.R_alloc | apply Kd.R_drewN | apply Kd.R_drew)); exact Kd.R_mono (Kd.R_far (p := ⟨gb197, 0, none⟩) (Kd.R_types HO201.out BK197.out (by decide)) (fun _ hk => hk.2) (.slice Ao66 y199.length co66)) (fun _ hk => trivial)⟩, ⟨by (try simp only [hl5_16]); (with_reducible repeat (first | refine blk_drewN ?_ _ | refine blk_drew ?_ | refine blk_alloc ?_ _)); refine blk_far ?_ NB181_197.out _; (with_reducible repeat (first | refine blk_drewN ?_ _ | refine blk_drew ?_ | refine blk_alloc ?_ _)); exact BK181.out⟩, ⟨by (try simp only [hl5_16]); (with_reducible repeat (first | refine blk_drewN ?_ _ | refine blk_drew ?_ | refine blk_alloc ?_ _)); refine blk_far ?_ NB190_197.out _; (with_reducible repeat (first | refine blk_drewN ?_ _ | refine blk_drew ?_ | refine blk_alloc ?_ _)); exact BK190.out⟩, ⟨by (try simp only [hl5_16]); (with_reducible repeat (first | refine blk_drewN ?_ _ | refine blk_drew ?_ | refine blk_alloc ?_ _)); refine blk_put (cs := #[u198000, .int .i64 x10_33]) ?_ 0 _ rfl; (with_reducible repeat (first | refine blk_drewN ?_ _ | refine blk_drew ?_ | refine blk_alloc ?_ _)); exact BK197.out⟩, ⟨by repeat (first | (with_reducible first | exact HB.out | apply below_alloc | apply pw_below_drewN | apply below_drew1 | refine below_set ?_ GE181.out | refine below_set ?_ GE190.out | refine below_set ?_ GE197.out) | exact HB.out)⟩⟩
                                        · rw [if_neg c61] at H
                                          exact absurd H (by simp)
                                      · replace c60 := Bool.eq_false_iff.mpr c60
                                        subst c60
                                        have H1 : (gangerref06_Parse.l1 k5 t192 (wrap64 (x15_5 + 1)) x198000_5 x10_33) = some (r1, r2, r3, r4) := by rw [if_neg (show ¬ (false = true) by decide)] at H; exact H
                                        clear H
                                        have H := H1
                                        clear H1
                                        have H' := Aside0.mk H
                                        clear H
                                        have p198 : 0 ≤ (x15_5 : Int) := of_decide_eq_true (by first | (with_reducible assumption) | assumption)
                                        have q198 : x15_5 < (t192.length : Int) := of_decide_eq_true (by first | (with_reducible assumption) | assumption)
                                        obtain ⟨ad198, e198, hx198_0⟩ := Kd.at_bool (Kd.R_reads' HO_5.out).2.2 x15_5 p198 q198
                                        (try rw [← Nbq59.out] at hx198_0)
                                        cases e198
                                        replace p198 := eq_true p198
                                        replace q198 := eq_true q198
                                        go_wp2
                                        go_roundg k5
                                        case measure => have := HK1.out; have := HJ16.out; have := HJ26.out; have := HJ33.out; have := HK5.out; omega
                                        case rel => exact ⟨(wrap64 (x15_5 + 1)), (x198000_5), (u198000), (by first | rfl | (simp; done) | (simp [*]; done)), H', ⟨by have := HK1.out; have := HJ16.out; have := HJ26.out; have := HJ33.out; have := HK5.out; omega⟩, ⟨by (try simp only [hl5_16]); (with_reducible repeat (first | apply Kd.R_alloc | apply Kd.R_drewN | apply Kd.R_drew)); exact HO_5.out⟩, ⟨by (try simp only [hl5_16]); (with_reducible repeat (first | apply Kd.R_alloc | apply Kd.R_drewN | apply Kd.R_drew)); exact HO_198000.out⟩, ⟨by (try simp only [hl5_16]); (with_reducible repeat (first | refine blk_drewN ?_ _ | refine blk_drew ?_ | refine blk_alloc ?_ _)); exact BK181.out⟩, ⟨by (try simp only [hl5_16]); (with_reducible repeat (first | refine blk_drewN ?_ _ | refine blk_drew ?_ | refine blk_alloc ?_ _)); exact BK190.out⟩, ⟨by (try simp only [hl5_16]); (with_reducible repeat (first | refine blk_drewN ?_ _ | refine blk_drew ?_ | refine blk_alloc ?_ _)); exact BK197.out⟩, ⟨by repeat (first | (with_reducible first | exact HB.out | apply below_alloc | apply pw_below_drewN | apply below_drew1 | refine below_set ?_ GE181.out | refine below_set ?_ GE190.out | refine below_set ?_ GE197.out) | exact HB.out)⟩⟩
                                    · rw [if_neg c58] at H
                                      exact absurd H (by simp)
                                  · rw [if_neg c57] at H
                                    exact absurd H (by simp)
                                · rw [if_neg c56] at H
                                  have c56b0 : decide (x15_5 ≤ 1000) = false := decide_eq_false c56
                                  clear c56
                                  simp only [Option.some.injEq, Prod.mk.injEq] at H
                                  obtain ⟨rfl, rfl, rfl, rfl⟩ := H
                                  have hnb68 := NB197_181.out
                                  have hnc68 := NB181_197.out
                                  have hnb69 := NB197_190.out
                                  have hnc69 := NB190_197.out
                                  have hcz70_0 : wr.cell? ⟨gb197, 0, none⟩ = some (u198000) := (blk_cell BK197.out 0).trans rfl
                                  have hcz70_1 : wr.cell? ⟨gb197, 1, none⟩ = some (.int .i64 x10_33) := (blk_cell BK197.out 1).trans rfl
                                  have hfz70_0 := blk_frozen BK197.out 0
                                  have hfz70_1 := blk_frozen BK197.out 1
                                  obtain ⟨Ao71, co71, eo71⟩ := Kd.R_slice HO_198000.out
                                  subst eo71
                                  have hnb72 := NB181_190.out
                                  have hnc72 := NB190_181.out
                                  have hcz73_0 : wr.cell? ⟨gb181, 0, none⟩ = some (.slice none 0 0) := (blk_cell BK181.out 0).trans rfl
                                  have hcz73_1 : wr.cell? ⟨gb181, 1, none⟩ = some (.int .i64 x182001_33) := (blk_cell BK181.out 1).trans rfl
                                  have hfz73_0 := blk_frozen BK181.out 0
                                  have hfz73_1 := blk_frozen BK181.out 1
                                  go_wp2
                                  refine bodyPost_ret (results_ctt rfl _ _ gb181 25 #[.slice Ao71 x198000_5.length co71, .int .i64 x10_33] (0, 0) _ rfl (by (with_reducible repeat (first | refine blk_drewN ?_ _ | refine blk_drew ?_ | refine blk_alloc ?_ _)); refine blk_put (cs := #[.slice Ao71 x198000_5.length co71, .int .i64 x182001_33]) ?_ 1 _ rfl; (with_reducible repeat (first | refine blk_drewN ?_ _ | refine blk_drew ?_ | refine blk_alloc ?_ _)); refine blk_put (cs := #[.slice none 0 0, .int .i64 x182001_33]) ?_ 0 _ rfl; (with_reducible repeat (first | refine blk_drewN ?_ _ | refine blk_drew ?_ | refine blk_alloc ?_ _)); exact BK181.out) Tryd.underlying25 rfl (by kernel_rfl)) rfl ?_
                                  exact ⟨_, by first | rfl | (simp [errW_none, errW_some] <;> rfl) | (simp [*, errW_none, errW_some] <;> rfl), by (with_reducible repeat (first | apply Kd.R_alloc | apply Kd.R_drewN | apply Kd.R_drew)); exact Kd.R_mono (Kd.R_far (p := ⟨gb181, 1, none⟩) (Kd.R_far (p := ⟨gb181, 0, none⟩) (Kd.R_types HO_198000.out BK181.out (by decide)) (fun _ hk => hk.2) (.slice Ao71 x198000_5.length co71)) (fun _ hk => hk.2) (.int .i64 x10_33)) (fun _ hk => trivial), by repeat (first | (with_reducible first | exact HB.out | apply below_alloc | apply pw_below_drewN | apply below_drew1 | refine below_set ?_ GE181.out | refine below_set ?_ GE190.out | refine below_set ?_ GE197.out) | exact HB.out)⟩
  · rw [if_neg c2] at H
    exact absurd H (by simp)

end Go.Proofs.YtpkococfmohmiaaDoor.P
