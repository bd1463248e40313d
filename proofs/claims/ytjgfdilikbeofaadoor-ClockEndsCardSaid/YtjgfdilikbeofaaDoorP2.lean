/- The machine's side of the laws of this seat: each function's plain form and its contract, written by a program of this session out of Lean's print of the loaded functions; no condition beyond what each statement says. -/
import Derived.Test.YtjgfdilikbeofaaDoorP0
import Derived.Test.YtjgfdilikbeofaaDoorP1
namespace Go.Proofs.YtjgfdilikbeofaaDoor.P
open Go.RowKit Go.Proofs.YtjgfdilikbeofaaDoorW.PrintWords Go.Proofs.YtjgfdilikbeofaaDoorW.PrintLast Go.Proofs.YtjgfdilikbeofaaDoorW.PrintMore
attribute [local go_sem] max2_int min2_int max_two min_two max_three min_three max_four min_four   -- for this text's walks alone
set_option linter.unusedVariables false
set_option linter.unusedSimpArgs false

attribute [local go_sem] isSome_setCell
/-! ### clock_Parse: function 11 -/
mutual
def clock_Parse.j0 : Nat → ByteArray → ByteArray → ByteArray → Bool → Option (Int × Int)
  | 0, _, _, _, _ => none
  | k + 1, x0, x4, x5, x6 => (clock_part.f x4).bind fun bt104 => ((strings_Split.f x5 (⟨#[58]⟩ : ByteArray)).bind fun t109 => (clock_Parse.l0 k x0 x6 bt104.1 bt104.2 (([] : List Int)) t109 (t109.length : Int) 0))
def clock_Parse.l0 : Nat → ByteArray → Bool → Int → Bool → List Int → List ByteArray → Int → Int → Option (Int × Int)
  | 0, _, _, _, _, _, _, _, _ => none
  | k + 1, x0, x6, x7, x8, x9, x32, x33, x34 => if x34 < x33 then (if 0 ≤ x34 then (if x34 < (x32.length : Int) then ((clock_part.f (rdOf ByteArray.empty x32 x34)).bind fun bt113 => (if x8 = true then (if x9.length < 17592186044416 then (clock_Parse.l0 k x0 x6 x7 bt113.2 (x9 ++ [bt113.1]) x32 x33 (wrap64 (x34 + 1))) else (none)) else (if x9.length < 17592186044416 then (clock_Parse.l0 k x0 x6 x7 false (x9 ++ [bt113.1]) x32 x33 (wrap64 (x34 + 1))) else (none)))) else (none)) else (none)) else (if x8 = true then (clock_Parse.j2 k x0 x6 x7 x9 (decide ((x9.length : Int) > 3))) else (clock_Parse.j2 k x0 x6 x7 x9 true))
def clock_Parse.j2 : Nat → ByteArray → Bool → Int → List Int → Bool → Option (Int × Int)
  | 0, _, _, _, _, _ => none
  | k + 1, x0, x6, x7, x9, x58 => if x58 = true then (some (0, 60)) else (if x6 = true then ((some (([0, 0] : List Int) : List Int)).bind fun y121 => (if x9.length + y121.length < 17592186044416 then ((some (x9 ++ y121 : List Int)).bind fun y124 => (if 3 ≤ (y124.length : Int) then (clock_Parse.j3 k x0 x6 x7 (y124.take (3 : Int).toNat)) else (none))) else (none))) else (if (x9.length : Int) = 1 then (if 0 < (x9.length : Int) then (clock_Parse.j3 k x0 x6 x7 (([0, rd x9 0, 0] : List Int))) else (none)) else (if (x9.length : Int) = 2 then (if 0 < (x9.length : Int) then (if 1 < (x9.length : Int) then (clock_Parse.j3 k x0 x6 x7 (([0, rd x9 0, rd x9 1] : List Int))) else (none)) else (none)) else (clock_Parse.j3 k x0 x6 x7 x9))))
def clock_Parse.j3 : Nat → ByteArray → Bool → Int → List Int → Option (Int × Int)
  | 0, _, _, _, _ => none
  | k + 1, x0, x6, x7, x9 => (strings_Count.f x0 (⟨#[58]⟩ : ByteArray)).bind fun t139 => (if t139 = 2 then (clock_Parse.j4 k x6 x7 x9 true) else (clock_Parse.j4 k x6 x7 x9 x6))
def clock_Parse.j4 : Nat → Bool → Int → List Int → Bool → Option (Int × Int)
  | 0, _, _, _, _ => none
  | k + 1, x6, x7, x9, x14 => if x6 = true then (if 0 < (x9.length : Int) then (if (rd x9 0) > 23 then (clock_Parse.j5 k x7 x9 true) else (if x14 = true then (if 1 < (x9.length : Int) then (if (rd x9 1) > 59 then (clock_Parse.j5 k x7 x9 true) else (if 2 < (x9.length : Int) then (clock_Parse.j5 k x7 x9 (decide ((rd x9 2) > 59))) else (none))) else (none)) else (if 2 < (x9.length : Int) then (clock_Parse.j5 k x7 x9 (decide ((rd x9 2) > 59))) else (none)))) else (none)) else (if x14 = true then (if 1 < (x9.length : Int) then (if (rd x9 1) > 59 then (clock_Parse.j5 k x7 x9 true) else (if 2 < (x9.length : Int) then (clock_Parse.j5 k x7 x9 (decide ((rd x9 2) > 59))) else (none))) else (none)) else (if 2 < (x9.length : Int) then (clock_Parse.j5 k x7 x9 (decide ((rd x9 2) > 59))) else (none)))
def clock_Parse.j5 : Nat → Int → List Int → Bool → Option (Int × Int)
  | 0, _, _, _ => none
  | k + 1, x7, x9, x111 => if x111 = true then (some (0, 2)) else (if 0 < (x9.length : Int) then (if 1 < (x9.length : Int) then (if 2 < (x9.length : Int) then (if (wrap64 ((wrap64 ((wrap64 ((wrap64 (86400 * x7)) + (wrap64 (3600 * (rd x9 0))))) + (wrap64 (60 * (rd x9 1))))) + (rd x9 2))) < 1 then (some (0, 2)) else (if (wrap64 ((wrap64 ((wrap64 ((wrap64 (86400 * x7)) + (wrap64 (3600 * (rd x9 0))))) + (wrap64 (60 * (rd x9 1))))) + (rd x9 2))) > 1073741824 then (some (0, 2)) else (some (wrap64 ((wrap64 ((wrap64 ((wrap64 (86400 * x7)) + (wrap64 (3600 * (rd x9 0))))) + (wrap64 (60 * (rd x9 1))))) + (rd x9 2)), 0)))) else (none)) else (none)) else (none))
end
def clock_Parse.f (k : Nat) (a0 : ByteArray) : Option (Int × Int) := (strings_Cut.f a0 (⟨#[45]⟩ : ByteArray)).bind fun bt101 => (if bt101.2.2 = true then (clock_Parse.j0 k a0 bt101.1 bt101.2.1 bt101.2.2) else (clock_Parse.j0 k a0 (⟨#[48]⟩ : ByteArray) a0 bt101.2.2))
theorem clock_Parse.mono_l : ∀ k, (∀ y0 y1 y2 y3, LeO (clock_Parse.j0 k y0 y1 y2 y3) (clock_Parse.j0 (k + 1) y0 y1 y2 y3)) ∧ (∀ y0 y1 y2 y3 y4 y5 y6 y7, LeO (clock_Parse.l0 k y0 y1 y2 y3 y4 y5 y6 y7) (clock_Parse.l0 (k + 1) y0 y1 y2 y3 y4 y5 y6 y7)) ∧ (∀ y0 y1 y2 y3 y4, LeO (clock_Parse.j2 k y0 y1 y2 y3 y4) (clock_Parse.j2 (k + 1) y0 y1 y2 y3 y4)) ∧ (∀ y0 y1 y2 y3, LeO (clock_Parse.j3 k y0 y1 y2 y3) (clock_Parse.j3 (k + 1) y0 y1 y2 y3)) ∧ (∀ y0 y1 y2 y3, LeO (clock_Parse.j4 k y0 y1 y2 y3) (clock_Parse.j4 (k + 1) y0 y1 y2 y3)) ∧ (∀ y0 y1 y2, LeO (clock_Parse.j5 k y0 y1 y2) (clock_Parse.j5 (k + 1) y0 y1 y2))
  | 0 => ⟨fun _ _ _ _ r h => by simp [clock_Parse.j0] at h, fun _ _ _ _ _ _ _ _ r h => by simp [clock_Parse.l0] at h, fun _ _ _ _ _ r h => by simp [clock_Parse.j2] at h, fun _ _ _ _ r h => by simp [clock_Parse.j3] at h, fun _ _ _ _ r h => by simp [clock_Parse.j4] at h, fun _ _ _ r h => by simp [clock_Parse.j5] at h⟩
  | k + 1 => by
    obtain ⟨ih0, ih1, ih2, ih3, ih4, ih5⟩ := clock_Parse.mono_l k
    refine ⟨?_, ?_, ?_, ?_, ?_, ?_⟩
    · intro y0 y1 y2 y3
      unfold clock_Parse.j0
      repeat' first
      | (with_reducible exact ih0 _ _ _ _)
      | (with_reducible exact ih1 _ _ _ _ _ _ _ _)
      | (with_reducible exact ih2 _ _ _ _ _)
      | (with_reducible exact ih3 _ _ _ _)
      | (with_reducible exact ih4 _ _ _ _)
      | (with_reducible exact ih5 _ _ _)
      | (with_reducible exact LeO.refl _)
      | (with_reducible exact LeO.none _)
      | (with_reducible refine LeO.ite ?_ ?_)
      | (with_reducible refine LeO.bind ?_ (fun _ => ?_))
      | exact ih0 _ _ _ _
      | exact ih1 _ _ _ _ _ _ _ _
      | exact ih2 _ _ _ _ _
      | exact ih3 _ _ _ _
      | exact ih4 _ _ _ _
      | exact ih5 _ _ _
      | exact LeO.none _
      | refine LeO.ite ?_ ?_
      | refine LeO.bind ?_ (fun _ => ?_)
    · intro y0 y1 y2 y3 y4 y5 y6 y7
      unfold clock_Parse.l0
      repeat' first
      | (with_reducible exact ih0 _ _ _ _)
      | (with_reducible exact ih1 _ _ _ _ _ _ _ _)
      | (with_reducible exact ih2 _ _ _ _ _)
      | (with_reducible exact ih3 _ _ _ _)
      | (with_reducible exact ih4 _ _ _ _)
      | (with_reducible exact ih5 _ _ _)
      | (with_reducible exact LeO.refl _)
      | (with_reducible exact LeO.none _)
      | (with_reducible refine LeO.ite ?_ ?_)
      | (with_reducible refine LeO.bind ?_ (fun _ => ?_))
      | exact ih0 _ _ _ _
      | exact ih1 _ _ _ _ _ _ _ _
      | exact ih2 _ _ _ _ _
      | exact ih3 _ _ _ _
      | exact ih4 _ _ _ _
      | exact ih5 _ _ _
      | exact LeO.none _
      | refine LeO.ite ?_ ?_
      | refine LeO.bind ?_ (fun _ => ?_)
    · intro y0 y1 y2 y3 y4
      unfold clock_Parse.j2
      repeat' first
      | (with_reducible exact ih0 _ _ _ _)
      | (with_reducible exact ih1 _ _ _ _ _ _ _ _)
      | (with_reducible exact ih2 _ _ _ _ _)
      | (with_reducible exact ih3 _ _ _ _)
      | (with_reducible exact ih4 _ _ _ _)
      | (with_reducible exact ih5 _ _ _)
      | (with_reducible exact LeO.refl _)
      | (with_reducible exact LeO.none _)
      | (with_reducible refine LeO.ite ?_ ?_)
      | (with_reducible refine LeO.bind ?_ (fun _ => ?_))
      | exact ih0 _ _ _ _
      | exact ih1 _ _ _ _ _ _ _ _
      | exact ih2 _ _ _ _ _
      | exact ih3 _ _ _ _
      | exact ih4 _ _ _ _
      | exact ih5 _ _ _
      | exact LeO.none _
      | refine LeO.ite ?_ ?_
      | refine LeO.bind ?_ (fun _ => ?_)
    · intro y0 y1 y2 y3
      unfold clock_Parse.j3
      repeat' first
      | (with_reducible exact ih0 _ _ _ _)
      | (with_reducible exact ih1 _ _ _ _ _ _ _ _)
      | (with_reducible exact ih2 _ _ _ _ _)
      | (with_reducible exact ih3 _ _ _ _)
      | (with_reducible exact ih4 _ _ _ _)
      | (with_reducible exact ih5 _ _ _)
      | (with_reducible exact LeO.refl _)
      | (with_reducible exact LeO.none _)
      | (with_reducible refine LeO.ite ?_ ?_)
      | (with_reducible refine LeO.bind ?_ (fun _ => ?_))
      | exact ih0 _ _ _ _
      | exact ih1 _ _ _ _ _ _ _ _
      | exact ih2 _ _ _ _ _
      | exact ih3 _ _ _ _
      | exact ih4 _ _ _ _
      | exact ih5 _ _ _
      | exact LeO.none _
      | refine LeO.ite ?_ ?_
      | refine LeO.bind ?_ (fun _ => ?_)
    · intro y0 y1 y2 y3
      unfold clock_Parse.j4
      repeat' first
      | (with_reducible exact ih0 _ _ _ _)
      | (with_reducible exact ih1 _ _ _ _ _ _ _ _)
      | (with_reducible exact ih2 _ _ _ _ _)
      | (with_reducible exact ih3 _ _ _ _)
      | (with_reducible exact ih4 _ _ _ _)
      | (with_reducible exact ih5 _ _ _)
      | (with_reducible exact LeO.refl _)
      | (with_reducible exact LeO.none _)
      | (with_reducible refine LeO.ite ?_ ?_)
      | (with_reducible refine LeO.bind ?_ (fun _ => ?_))
      | exact ih0 _ _ _ _
      | exact ih1 _ _ _ _ _ _ _ _
      | exact ih2 _ _ _ _ _
      | exact ih3 _ _ _ _
      | exact ih4 _ _ _ _
      | exact ih5 _ _ _
      | exact LeO.none _
      | refine LeO.ite ?_ ?_
      | refine LeO.bind ?_ (fun _ => ?_)
    · intro y0 y1 y2
      unfold clock_Parse.j5
      repeat' first
      | (with_reducible exact ih0 _ _ _ _)
      | (with_reducible exact ih1 _ _ _ _ _ _ _ _)
      | (with_reducible exact ih2 _ _ _ _ _)
      | (with_reducible exact ih3 _ _ _ _)
      | (with_reducible exact ih4 _ _ _ _)
      | (with_reducible exact ih5 _ _ _)
      | (with_reducible exact LeO.refl _)
      | (with_reducible exact LeO.none _)
      | (with_reducible refine LeO.ite ?_ ?_)
      | (with_reducible refine LeO.bind ?_ (fun _ => ?_))
      | exact ih0 _ _ _ _
      | exact ih1 _ _ _ _ _ _ _ _
      | exact ih2 _ _ _ _ _
      | exact ih3 _ _ _ _
      | exact ih4 _ _ _ _
      | exact ih5 _ _ _
      | exact LeO.none _
      | refine LeO.ite ?_ ?_
      | refine LeO.bind ?_ (fun _ => ?_)
theorem clock_Parse.mono : ∀ a0 k, LeO (clock_Parse.f k a0) (clock_Parse.f (k + 1) a0) := by
  intro a0 k
  obtain ⟨ih0, ih1, ih2, ih3, ih4, ih5⟩ := clock_Parse.mono_l k
  unfold clock_Parse.f
  repeat' first
      | (with_reducible exact ih0 _ _ _ _)
      | (with_reducible exact ih1 _ _ _ _ _ _ _ _)
      | (with_reducible exact ih2 _ _ _ _ _)
      | (with_reducible exact ih3 _ _ _ _)
      | (with_reducible exact ih4 _ _ _ _)
      | (with_reducible exact ih5 _ _ _)
      | (with_reducible exact LeO.refl _)
      | (with_reducible exact LeO.none _)
      | (with_reducible refine LeO.ite ?_ ?_)
      | (with_reducible refine LeO.bind ?_ (fun _ => ?_))
      | exact ih0 _ _ _ _
      | exact ih1 _ _ _ _ _ _ _ _
      | exact ih2 _ _ _ _ _
      | exact ih3 _ _ _ _
      | exact ih4 _ _ _ _
      | exact ih5 _ _ _
      | exact LeO.none _
      | refine LeO.ite ?_ ?_
      | refine LeO.bind ?_ (fun _ => ?_)
def clock_Parse.T20 : Bool × List (List Nat × List Nat) := (true, [([], []), ([0], [0]), ([1], [1]), ([], []), ([3], [3]), ([4], [4]), ([2, 5], [2, 5]), ([6, 0, 1, 2, 3, 4, 5, 6], [0, 3, 6])])
def clock_Parse.B20 : List Nat := [0, 1, 3, 0, 8, 24, 63, 127]
theorem clock_Parse.tab20 : rtab .any (opsOf Tryd.f11 20) = clock_Parse.T20 := by kernel_rfl
theorem clock_Parse.bits20 : waitsOk clock_Parse.T20.2 clock_Parse.B20 = true := by kernel_rfl
def clock_Parse.T24 : Bool × List (List Nat × List Nat) := (true, [([], []), ([0], [0]), ([], []), ([2], [2]), ([3], [3]), ([4], [4]), ([1, 5], [1, 5]), ([], []), ([7], [7]), ([8], [8]), ([9], [9]), ([6, 10], [6, 10]), ([], []), ([12], [12]), ([13], [13]), ([11, 14], [11, 14]), ([15, 0, 1, 2, 3, 4, 5, 6, 7, 8, 9, 10, 11, 12, 13, 14, 15], [15])])
def clock_Parse.B24 : List Nat := [0, 1, 0, 4, 12, 28, 63, 0, 128, 384, 896, 2047, 0, 4096, 12288, 32767, 65535]
theorem clock_Parse.tab24 : rtab .any (opsOf Tryd.f11 24) = clock_Parse.T24 := by kernel_rfl
theorem clock_Parse.bits24 : waitsOk clock_Parse.T24.2 clock_Parse.B24 = true := by kernel_rfl
set_option maxHeartbeats 8000000 in
set_option maxRecDepth 100000 in
theorem clock_Parse.calls (k : Nat) (a0 : ByteArray) (r1 : Int) (r2 : Int) (w : World) (hG : Glob w) (h : clock_Parse.f k a0 = some (r1, r2)) :
    Calls Tryd.prog 11 #[.string a0] w fun e w' => e = .returned (.tuple #[.int .i64 r1, .int .i64 r2]) ∧ Below w.heap.size w w' := by
  have HG := Aside0.mk hG
  clear hG
  have HB := Aside0.mk (Below.refl w.heap.size w)
  have H : ((strings_Cut.f a0 (⟨#[45]⟩ : ByteArray)).bind fun bt101 => (if bt101.2.2 = true then (clock_Parse.j0 k a0 bt101.1 bt101.2.1 bt101.2.2) else (clock_Parse.j0 k a0 (⟨#[48]⟩ : ByteArray) a0 bt101.2.2))) = some (r1, r2) := h
  clear h
  replace H := Option.bind_eq_some_iff.mp H
  obtain ⟨⟨t101, t102, t103⟩, A20, H⟩ := H
  replace H : (if t103 = true then (clock_Parse.j0 k a0 t101 t102 t103) else (clock_Parse.j0 k a0 (⟨#[48]⟩ : ByteArray) a0 t103)) = some (r1, r2) := H
  have A2 := Aside0.mk A20
  clear A20
  have HC3 := Aside0.mk H
  clear H
  go_enter Tryd.func11, Tryd.ntmps11
  go_upto_if 23 with (first | ((with_reducible refine gate_callee (f := 18) rfl ?_); refine goesL_ (some 18) rfl rfl Tryd.func18 (by kernel_rfl) rfl #[.string a0, .string (⟨#[45]⟩ : ByteArray)] rfl (by (try simp only [List.map_toArray, List.map_cons, List.map_nil]); first | done | rfl | (simp only [List.length_drop, List.length_take]; rfl)) ?_; (with_reducible refine (strings_Cut.calls a0 (⟨#[45]⟩ : ByteArray) t101 t102 t103 _ ?side1 A2.out).mono ?_); (case side1 => exact Glob.below HG.out (by repeat (first | (with_reducible first | exact HB.out | apply below_alloc | apply pw_below_drewN | apply below_drew1) | exact HB.out))); rintro e w4 ⟨rfl, hb⟩; refine ⟨_, rfl, ?_⟩; have n0_ := Aside0.mk (below_step (by repeat (first | (with_reducible first | exact HB.out | apply below_alloc | apply pw_below_drewN | apply below_drew1) | exact HB.out)) hb); clear HB; have HB := n0_; clear n0_; (try clear hb); (try clear hb2); (try clear hk); (try clear hi)))
  (try simp only [Act.put, List.setIfInBounds_toArray, List.set_cons_zero, List.set_cons_succ])
  go_cut [4, 5] (fun v4 v5 wc => ∃ (kq : Nat) (x4_2 : ByteArray) (x5_2 : ByteArray), v4 = .string x4_2 ∧ v5 = .string x5_2 ∧ Aside0 (clock_Parse.j0 kq a0 x4_2 x5_2 t103 = some (r1, r2)) ∧ Aside0 (kq ≤ k) ∧ Aside0 (Below w.heap.size w wc))
  case first =>
    have H := HC3.out
    clear HC3
    by_cases c5 : t103 = true
    · subst c5
      have H1 : (clock_Parse.j0 k a0 t101 t102 true) = some (r1, r2) := by rw [if_pos rfl] at H; exact H
      clear H
      have H := H1
      clear H1
      have H' := Aside0.mk H
      clear H
      go_wp2
      go_meet
      case rel => exact ⟨_, (t101), (t102), (by first | rfl | (simp; done) | (simp [*]; done)), (by first | rfl | (simp; done) | (simp [*]; done)), H', ⟨by first | omega | exact Nat.le_refl _⟩, ⟨by repeat (first | (with_reducible first | exact HB.out | apply below_alloc | apply pw_below_drewN | apply below_drew1) | exact HB.out)⟩⟩
    · replace c5 := Bool.eq_false_iff.mpr c5
      subst c5
      have H1 : (clock_Parse.j0 k a0 (⟨#[48]⟩ : ByteArray) a0 false) = some (r1, r2) := by rw [if_neg (show ¬ (false = true) by decide)] at H; exact H
      clear H
      have H := H1
      clear H1
      have H' := Aside0.mk H
      clear H
      go_wp2
      go_meet
      case rel => exact ⟨_, ((⟨#[48]⟩ : ByteArray)), (a0), (by first | rfl | (simp; done) | (simp [*]; done)), (by first | rfl | (simp; done) | (simp [*]; done)), H', ⟨by first | omega | exact Nat.le_refl _⟩, ⟨by repeat (first | (with_reducible first | exact HB.out | apply below_alloc | apply pw_below_drewN | apply below_drew1) | exact HB.out)⟩⟩
  case rest =>
    clear HC3
    try clear c1
    try clear p2
    try clear c5
    obtain ⟨kq, x4_2, x5_2, rfl, rfl, HA, HJ2, HB⟩ := hcut
    cases kq with
    | zero => exact absurd HA.out (by simp [clock_Parse.j0])
    | succ kj2 =>
      have H := HA.out
      clear HA
      simp only [clock_Parse.j0] at H
      replace H := Option.bind_eq_some_iff.mp H
      obtain ⟨⟨t104, t105⟩, A60, H⟩ := H
      replace H : ((strings_Split.f x5_2 (⟨#[58]⟩ : ByteArray)).bind fun t109 => (clock_Parse.l0 kj2 a0 t103 t104 t105 (([] : List Int)) t109 (t109.length : Int) 0)) = some (r1, r2) := H
      have A6 := Aside0.mk A60
      clear A60
      obtain ⟨y106, hy106⟩ : ∃ y_ : List Int, y_ = (([] : List Int)) := ⟨_, rfl⟩
      replace H : ((strings_Split.f x5_2 (⟨#[58]⟩ : ByteArray)).bind fun t109 => (clock_Parse.l0 kj2 a0 t103 t104 t105 y106 t109 (t109.length : Int) 0)) = some (r1, r2) := by first | (rw [hy106]; with_reducible exact H) | (have H2_ := (Option.bind_some _ _).symm.trans H; rw [hy106]; with_reducible exact H2_) | (have H2_ := (Option.bind_some _ _).symm.trans H; with_reducible exact H2_) | with_reducible exact H | (rw [hy106]; exact H) | exact H
      have Ny106 := Aside0.mk hy106
      clear hy106
      replace H := Option.bind_eq_some_iff.mp H
      obtain ⟨t109, A70, H⟩ := H
      replace H : (clock_Parse.l0 kj2 a0 t103 t104 t105 y106 t109 (t109.length : Int) 0) = some (r1, r2) := H
      have A7 := Aside0.mk A70
      clear A70
      have H' := Aside0.mk H
      clear H
      go_wp2_with (first | ((with_reducible refine gate_callee (f := 19) rfl ?_); refine goesL_ (some 27) rfl rfl Tryd.func19 (by kernel_rfl) rfl #[.string x4_2] rfl (by (try simp only [List.map_toArray, List.map_cons, List.map_nil]); first | done | rfl | (simp only [List.length_drop, List.length_take]; rfl)) ?_; (with_reducible refine (clock_part.calls x4_2 t104 t105 _ A6.out).mono ?_); rintro e w8 ⟨rfl, hb⟩; refine ⟨_, rfl, ?_⟩; have n0_ := Aside0.mk (below_step (by repeat (first | (with_reducible first | exact HB.out | apply below_alloc | apply pw_below_drewN | apply below_drew1) | exact HB.out)) hb); clear HB; have HB := n0_; clear n0_; (try clear hb); (try clear hb2); (try clear hk); (try clear hi)) | ((with_reducible refine gate_dst (N := 30) rfl ?_); (try (refine gate_guard (by rfl) ?_; dsimp only)); refine Kd.R_lit (Kd.int .i64) _ 3 ?hg (N := 30) ?hd (xs := ([] : List Int)) (inner := []) (ok := fun _ => True) (okp := fun _ => True) ?hr ?hp (fun _ hk => hk) trivial (Below.refl _ _) (Nat.le_refl _) (by simp) ?_; (case hd => rfl); (case hg => rfl); (case hr => first | (go_simp; done) | (go_simp; rfl)); (case hp => exact (Reps.none _ _)); intro v107 w9 ho10 hb hg_ hnew_; clear hg_ hnew_; (first | rw [← Ny106.out] at ho10 | (simp only [Int.reduceToNat] at ho10; rw [← Ny106.out] at ho10)); have n0_ := Aside0.mk (Kd.R_lower ho10 (below_size (by repeat (first | (with_reducible first | exact HB.out | apply below_alloc | apply pw_below_drewN | apply below_drew1) | exact HB.out)))); have n1_ := Aside0.mk (below_step (by repeat (first | (with_reducible first | exact HB.out | apply below_alloc | apply pw_below_drewN | apply below_drew1) | exact HB.out)) hb); clear HB; have HO108 := n0_; have HB := n1_; clear n0_ n1_; clear hb ho10) | ((with_reducible refine gate_callee (f := 20) rfl ?_); refine goesL_ (some 32) rfl rfl Tryd.func20 (by kernel_rfl) rfl #[.string x5_2, .string (⟨#[58]⟩ : ByteArray)] rfl (by (try simp only [List.map_toArray, List.map_cons, List.map_nil]); first | done | rfl | (simp only [List.length_drop, List.length_take]; rfl)) ?_; (with_reducible refine (strings_Split.calls x5_2 (⟨#[58]⟩ : ByteArray) t109 _ ?side1 A7.out).mono ?_); (case side1 => exact Glob.below HG.out (by repeat (first | (with_reducible first | exact HB.out | apply below_alloc | apply pw_below_drewN | apply below_drew1) | exact HB.out))); rintro e w11 ⟨v110, rfl, ho0, hb⟩; refine ⟨_, rfl, ?_⟩; have n0_ := Aside0.mk (Kd.R_below (by (with_reducible repeat (first | apply Kd.R_alloc | apply Kd.R_drewN | apply Kd.R_drew)); exact HO108.out) hb); have n1_ := Aside0.mk (Kd.R_lower ho0 (below_size (by repeat (first | (with_reducible first | exact HB.out | apply below_alloc | apply pw_below_drewN | apply below_drew1) | exact HB.out)))); have n2_ := Aside0.mk (below_step (by repeat (first | (with_reducible first | exact HB.out | apply below_alloc | apply pw_below_drewN | apply below_drew1) | exact HB.out)) hb); clear HO108; clear HB; have HO108 := n0_; have HO111 := n1_; have HB := n2_; clear n0_ n1_ n2_; (try clear hb); (try clear hb2); (try clear hk); (try clear hi); (try clear ho0); obtain ⟨Ao12, co12, eo12⟩ := Kd.R_slice HO111.out; subst eo12))
      go_loopg [8, 9, 34] kj2 (fun kq v8 v9 v34 w' => ∃ (x8_2 : Bool) (x9_2 : List Int) (x34_2 : Int), v8 = .bool x8_2 ∧ v34 = .int .i64 x34_2 ∧ Aside0 (clock_Parse.l0 kq a0 t103 t104 x8_2 x9_2 t109 (t109.length : Int) x34_2 = some (r1, r2)) ∧ Aside0 (kq ≤ kj2) ∧ Aside0 (Kd.R (Kd.int .i64) 3 w' w.heap.size (fun _ => True) v9 x9_2) ∧ Aside0 (Kd.R Kd.string 9 w' w.heap.size (fun _ => True) (.slice Ao12 t109.length co12) t109) ∧ Aside0 (Below w.heap.size w w'))
      case atStart => exact ⟨(t105), (y106), (0), (by first | rfl | (simp; done) | (simp [*]; done)), (by first | rfl | (simp; done) | (simp [*]; done)), H', ⟨Nat.le_refl _⟩, ⟨by (with_reducible repeat (first | apply Kd.R_alloc | apply Kd.R_drewN | apply Kd.R_drew)); exact HO108.out⟩, ⟨by (with_reducible repeat (first | apply Kd.R_alloc | apply Kd.R_drewN | apply Kd.R_drew)); exact HO111.out⟩, ⟨by repeat (first | (with_reducible first | exact HB.out | apply below_alloc | apply pw_below_drewN | apply below_drew1) | exact HB.out)⟩⟩
      case round =>
        clear H'
        try clear c1
        try clear c2
        try clear p2
        try clear c5
        try clear c11
        try clear p2
        obtain ⟨x8_2, x9_2, x34_2, rfl, rfl, HA, HK2, HO_9, HO_32, HB⟩ := hrel
        cases gk with
        | zero => exact absurd HA.out (by simp [clock_Parse.l0])
        | succ k2 =>
          have H := HA.out
          clear HA
          simp only [clock_Parse.l0] at H
          by_cases c13 : x34_2 < (t109.length : Int)
          · rw [if_pos c13] at H
            have c13b0 : decide (x34_2 < (t109.length : Int)) = true := decide_eq_true c13
            clear c13
            by_cases c14 : 0 ≤ x34_2
            · rw [if_pos c14] at H
              have c14b0 : decide (0 ≤ x34_2) = true := decide_eq_true c14
              clear c14
              by_cases c15 : x34_2 < (t109.length : Int)
              · rw [if_pos c15] at H
                have c15b0 : decide (x34_2 < (t109.length : Int)) = true := decide_eq_true c15
                clear c15
                replace H := Option.bind_eq_some_iff.mp H
                obtain ⟨⟨t113, t114⟩, A160, H⟩ := H
                replace H : (if x8_2 = true then (if x9_2.length < 17592186044416 then (clock_Parse.l0 k2 a0 t103 t104 t114 (x9_2 ++ [t113]) t109 (t109.length : Int) (wrap64 (x34_2 + 1))) else (none)) else (if x9_2.length < 17592186044416 then (clock_Parse.l0 k2 a0 t103 t104 false (x9_2 ++ [t113]) t109 (t109.length : Int) (wrap64 (x34_2 + 1))) else (none))) = some (r1, r2) := H
                have A16 := Aside0.mk A160
                clear A160
                by_cases c17 : x8_2 = true
                · subst c17
                  have H1 : (if x9_2.length < 17592186044416 then (clock_Parse.l0 k2 a0 t103 t104 t114 (x9_2 ++ [t113]) t109 (t109.length : Int) (wrap64 (x34_2 + 1))) else (none)) = some (r1, r2) := by rw [if_pos rfl] at H; exact H
                  clear H
                  have H := H1
                  clear H1
                  by_cases c18 : x9_2.length < 17592186044416
                  · rw [if_pos c18] at H
                    have LMc18 := Aside0.mk c18
                    clear c18
                    obtain ⟨y115, hy115⟩ : ∃ y_ : List Int, y_ = (x9_2 ++ [t113]) := ⟨_, rfl⟩
                    replace H : (clock_Parse.l0 k2 a0 t103 t104 t114 y115 t109 (t109.length : Int) (wrap64 (x34_2 + 1))) = some (r1, r2) := by first | (rw [hy115]; with_reducible exact H) | (have H2_ := (Option.bind_some _ _).symm.trans H; rw [hy115]; with_reducible exact H2_) | (have H2_ := (Option.bind_some _ _).symm.trans H; with_reducible exact H2_) | with_reducible exact H | (rw [hy115]; exact H) | exact H
                    have Ny115 := Aside0.mk hy115
                    clear hy115
                    have H' := Aside0.mk H
                    clear H
                    have p112 : 0 ≤ (x34_2 : Int) := of_decide_eq_true (by first | (with_reducible assumption) | assumption)
                    have q112 : x34_2 < (t109.length : Int) := of_decide_eq_true (by first | (with_reducible assumption) | assumption)
                    obtain ⟨ad112, e112, hx112_0⟩ := Kd.at_string (Kd.R_reads' HO_32.out).2.2 x34_2 p112 q112
                    cases e112
                    replace p112 := eq_true p112
                    replace q112 := eq_true q112
                    go_wp2_with (first | ((with_reducible refine gate_callee (f := 19) rfl ?_); refine goesL_ (some 40) rfl rfl Tryd.func19 (by kernel_rfl) rfl #[.string (rdOf ByteArray.empty t109 x34_2)] rfl (by (try simp only [List.map_toArray, List.map_cons, List.map_nil]); first | done | rfl | (simp only [List.length_drop, List.length_take]; rfl)) ?_; (with_reducible refine (clock_part.calls (rdOf ByteArray.empty t109 x34_2) t113 t114 _ A16.out).mono ?_); rintro e w19 ⟨rfl, hb⟩; refine ⟨_, rfl, ?_⟩; have n0_ := Aside0.mk (Kd.R_below (by (with_reducible repeat (first | apply Kd.R_alloc | apply Kd.R_drewN | apply Kd.R_drew)); exact HO_9.out) hb); have n1_ := Aside0.mk (Kd.R_below (by (with_reducible repeat (first | apply Kd.R_alloc | apply Kd.R_drewN | apply Kd.R_drew)); exact HO_32.out) hb); have n2_ := Aside0.mk (below_step (by repeat (first | (with_reducible first | exact HB.out | apply below_alloc | apply pw_below_drewN | apply below_drew1) | exact HB.out)) hb); clear HO_9; clear HO_32; clear HB; have HO_9 := n0_; have HO_32 := n1_; have HB := n2_; clear n0_ n1_ n2_; (try clear hb); (try clear hb2); (try clear hk); (try clear hi)) | ((with_reducible refine gate_builtin (b := .append) (xs := #[.tmp 47, .tmp 49]) rfl ?_); (try (refine gate_guard (by rfl) ?_; dsimp only)); at_builtin; refine Kd.R_append (Kd.int .i64) (w0 := w) w.heap.size rfl (.tmp 47) (.tmp 49) 45 3 (.int .i64 0) 8 rfl Tryd.underlying45 info3 rfl (by decide) (by omega) u9 x9_2 t113 [.int .i64 t113] (fun _ => True) (fun _ => False) rfl rfl ?aP (fun _ hk => hk.elim) ?aF ?aO ?aB ?aS ?aL ?_; (case aP => exact rfl); (case aB => exact (by repeat (first | (with_reducible first | exact HB.out | apply below_alloc | apply pw_below_drewN | apply below_drew1) | exact HB.out))); (case aF => exact (fun _ _ => trivial)); (case aO => exact (by (with_reducible repeat (first | apply Kd.R_alloc | apply Kd.R_drewN | apply Kd.R_drew)); exact HO_9.out)); (case aS => exact (below_size (by repeat (first | (with_reducible first | exact HB.out | apply below_alloc | apply pw_below_drewN | apply below_drew1) | exact HB.out)))); (case aL => have := LMc18.out; omega); intro v116 w20 ho hb hg hat; rw [← Ny115.out] at ho; have n0_ := Aside0.mk (Kd.R_over' (by (with_reducible repeat (first | apply Kd.R_alloc | apply Kd.R_drewN | apply Kd.R_drew)); exact HO_32.out) (Kd.R_typed (by (with_reducible repeat (first | apply Kd.R_alloc | apply Kd.R_drewN | apply Kd.R_drew)); exact HO_9.out)) (by decide) hg); have n1_ := Aside0.mk (hb); have n2_ := Aside0.mk (ho); clear HO_32; clear HB; clear HO_9; have HO_32 := n0_; have HB := n1_; have HO117 := n2_; clear n0_ n1_ n2_; clear ho hb hg hat))
                    go_roundg k2
                    case measure => have := HJ2.out; have := HK2.out; omega
                    case rel => exact ⟨(t114), (y115), (wrap64 (x34_2 + 1)), (by first | rfl | (simp; done) | (simp [*]; done)), (by first | rfl | (simp; done) | (simp [*]; done)), H', ⟨by have := HJ2.out; have := HK2.out; omega⟩, ⟨by (with_reducible repeat (first | apply Kd.R_alloc | apply Kd.R_drewN | apply Kd.R_drew)); exact HO117.out⟩, ⟨by (with_reducible repeat (first | apply Kd.R_alloc | apply Kd.R_drewN | apply Kd.R_drew)); exact HO_32.out⟩, ⟨by repeat (first | (with_reducible first | exact HB.out | apply below_alloc | apply pw_below_drewN | apply below_drew1) | exact HB.out)⟩⟩
                  · rw [if_neg c18] at H
                    exact absurd H (by simp)
                · replace c17 := Bool.eq_false_iff.mpr c17
                  subst c17
                  have H1 : (if x9_2.length < 17592186044416 then (clock_Parse.l0 k2 a0 t103 t104 false (x9_2 ++ [t113]) t109 (t109.length : Int) (wrap64 (x34_2 + 1))) else (none)) = some (r1, r2) := by rw [if_neg (show ¬ (false = true) by decide)] at H; exact H
                  clear H
                  have H := H1
                  clear H1
                  by_cases c21 : x9_2.length < 17592186044416
                  · rw [if_pos c21] at H
                    have LMc21 := Aside0.mk c21
                    clear c21
                    obtain ⟨y118, hy118⟩ : ∃ y_ : List Int, y_ = (x9_2 ++ [t113]) := ⟨_, rfl⟩
                    replace H : (clock_Parse.l0 k2 a0 t103 t104 false y118 t109 (t109.length : Int) (wrap64 (x34_2 + 1))) = some (r1, r2) := by first | (rw [hy118]; with_reducible exact H) | (have H2_ := (Option.bind_some _ _).symm.trans H; rw [hy118]; with_reducible exact H2_) | (have H2_ := (Option.bind_some _ _).symm.trans H; with_reducible exact H2_) | with_reducible exact H | (rw [hy118]; exact H) | exact H
                    have Ny118 := Aside0.mk hy118
                    clear hy118
                    have H' := Aside0.mk H
                    clear H
                    have p112 : 0 ≤ (x34_2 : Int) := of_decide_eq_true (by first | (with_reducible assumption) | assumption)
                    have q112 : x34_2 < (t109.length : Int) := of_decide_eq_true (by first | (with_reducible assumption) | assumption)
                    obtain ⟨ad112, e112, hx112_0⟩ := Kd.at_string (Kd.R_reads' HO_32.out).2.2 x34_2 p112 q112
                    cases e112
                    replace p112 := eq_true p112
                    replace q112 := eq_true q112
                    go_wp2_with (first | ((with_reducible refine gate_callee (f := 19) rfl ?_); refine goesL_ (some 40) rfl rfl Tryd.func19 (by kernel_rfl) rfl #[.string (rdOf ByteArray.empty t109 x34_2)] rfl (by (try simp only [List.map_toArray, List.map_cons, List.map_nil]); first | done | rfl | (simp only [List.length_drop, List.length_take]; rfl)) ?_; (with_reducible refine (clock_part.calls (rdOf ByteArray.empty t109 x34_2) t113 t114 _ A16.out).mono ?_); rintro e w22 ⟨rfl, hb⟩; refine ⟨_, rfl, ?_⟩; have n0_ := Aside0.mk (Kd.R_below (by (with_reducible repeat (first | apply Kd.R_alloc | apply Kd.R_drewN | apply Kd.R_drew)); exact HO_9.out) hb); have n1_ := Aside0.mk (Kd.R_below (by (with_reducible repeat (first | apply Kd.R_alloc | apply Kd.R_drewN | apply Kd.R_drew)); exact HO_32.out) hb); have n2_ := Aside0.mk (below_step (by repeat (first | (with_reducible first | exact HB.out | apply below_alloc | apply pw_below_drewN | apply below_drew1) | exact HB.out)) hb); clear HO_9; clear HO_32; clear HB; have HO_9 := n0_; have HO_32 := n1_; have HB := n2_; clear n0_ n1_ n2_; (try clear hb); (try clear hb2); (try clear hk); (try clear hi)) | ((with_reducible refine gate_builtin (b := .append) (xs := #[.tmp 47, .tmp 49]) rfl ?_); (try (refine gate_guard (by rfl) ?_; dsimp only)); at_builtin; refine Kd.R_append (Kd.int .i64) (w0 := w) w.heap.size rfl (.tmp 47) (.tmp 49) 45 3 (.int .i64 0) 8 rfl Tryd.underlying45 info3 rfl (by decide) (by omega) u9 x9_2 t113 [.int .i64 t113] (fun _ => True) (fun _ => False) rfl rfl ?aP (fun _ hk => hk.elim) ?aF ?aO ?aB ?aS ?aL ?_; (case aP => exact rfl); (case aB => exact (by repeat (first | (with_reducible first | exact HB.out | apply below_alloc | apply pw_below_drewN | apply below_drew1) | exact HB.out))); (case aF => exact (fun _ _ => trivial)); (case aO => exact (by (with_reducible repeat (first | apply Kd.R_alloc | apply Kd.R_drewN | apply Kd.R_drew)); exact HO_9.out)); (case aS => exact (below_size (by repeat (first | (with_reducible first | exact HB.out | apply below_alloc | apply pw_below_drewN | apply below_drew1) | exact HB.out)))); (case aL => have := LMc21.out; omega); intro v119 w23 ho hb hg hat; rw [← Ny118.out] at ho; have n0_ := Aside0.mk (Kd.R_over' (by (with_reducible repeat (first | apply Kd.R_alloc | apply Kd.R_drewN | apply Kd.R_drew)); exact HO_32.out) (Kd.R_typed (by (with_reducible repeat (first | apply Kd.R_alloc | apply Kd.R_drewN | apply Kd.R_drew)); exact HO_9.out)) (by decide) hg); have n1_ := Aside0.mk (hb); have n2_ := Aside0.mk (ho); clear HO_32; clear HB; clear HO_9; have HO_32 := n0_; have HB := n1_; have HO120 := n2_; clear n0_ n1_ n2_; clear ho hb hg hat))
                    go_roundg k2
                    case measure => have := HJ2.out; have := HK2.out; omega
                    case rel => exact ⟨(false), (y118), (wrap64 (x34_2 + 1)), (by first | rfl | (simp; done) | (simp [*]; done)), (by first | rfl | (simp; done) | (simp [*]; done)), H', ⟨by have := HJ2.out; have := HK2.out; omega⟩, ⟨by (with_reducible repeat (first | apply Kd.R_alloc | apply Kd.R_drewN | apply Kd.R_drew)); exact HO120.out⟩, ⟨by (with_reducible repeat (first | apply Kd.R_alloc | apply Kd.R_drewN | apply Kd.R_drew)); exact HO_32.out⟩, ⟨by repeat (first | (with_reducible first | exact HB.out | apply below_alloc | apply pw_below_drewN | apply below_drew1) | exact HB.out)⟩⟩
                  · rw [if_neg c21] at H
                    exact absurd H (by simp)
              · rw [if_neg c15] at H
                exact absurd H (by simp)
            · rw [if_neg c14] at H
              exact absurd H (by simp)
          · rw [if_neg c13] at H
            have c13b0 : decide (x34_2 < (t109.length : Int)) = false := decide_eq_false c13
            clear c13
            have HC24 := Aside0.mk H
            clear H
            go_upto_region 13 with (fail)
            go_cut [58] (fun v58 wc => ∃ (kq : Nat) (x58_23 : Bool), v58 = .bool x58_23 ∧ Aside0 (clock_Parse.j2 kq a0 t103 t104 x9_2 x58_23 = some (r1, r2)) ∧ Aside0 (kq ≤ k2) ∧ Aside0 (Kd.R (Kd.int .i64) 3 wc w.heap.size (fun _ => True) u9 x9_2) ∧ Aside0 (Below w.heap.size w wc))
            case first =>
              have H := HC24.out
              clear HC24
              by_cases c25 : x8_2 = true
              · subst c25
                have H1 : (clock_Parse.j2 k2 a0 t103 t104 x9_2 (decide ((x9_2.length : Int) > 3))) = some (r1, r2) := by rw [if_pos rfl] at H; exact H
                clear H
                have H := H1
                clear H1
                have H' := Aside0.mk H
                clear H
                obtain ⟨Ao26, co26, eo26⟩ := Kd.R_slice HO_9.out
                subst eo26
                go_wp2
                go_meet
                case rel => exact ⟨_, (decide ((x9_2.length : Int) > 3)), (by first | rfl | (simp; done) | (simp [*]; done)), H', ⟨by have := HJ2.out; have := HK2.out; first | omega | exact Nat.le_refl _⟩, ⟨by (with_reducible repeat (first | apply Kd.R_alloc | apply Kd.R_drewN | apply Kd.R_drew)); exact HO_9.out⟩, ⟨by repeat (first | (with_reducible first | exact HB.out | apply below_alloc | apply pw_below_drewN | apply below_drew1) | exact HB.out)⟩⟩
              · replace c25 := Bool.eq_false_iff.mpr c25
                subst c25
                have H1 : (clock_Parse.j2 k2 a0 t103 t104 x9_2 true) = some (r1, r2) := by rw [if_neg (show ¬ (false = true) by decide)] at H; exact H
                clear H
                have H := H1
                clear H1
                have H' := Aside0.mk H
                clear H
                go_wp2
                go_meet
                case rel => exact ⟨_, (true), (by first | rfl | (simp; done) | (simp [*]; done)), H', ⟨by have := HJ2.out; have := HK2.out; first | omega | exact Nat.le_refl _⟩, ⟨by (with_reducible repeat (first | apply Kd.R_alloc | apply Kd.R_drewN | apply Kd.R_drew)); exact HO_9.out⟩, ⟨by repeat (first | (with_reducible first | exact HB.out | apply below_alloc | apply pw_below_drewN | apply below_drew1) | exact HB.out)⟩⟩
            case rest =>
              clear HC24
              try clear c1
              try clear p1
              try clear q1
              try clear hx1
              try clear c2
              try clear p2
              try clear c5
              try clear p6
              try clear c11
              try clear p11
              try clear q11
              try clear hx11
              try clear c13
              try clear c13b0
              try clear c14
              try clear c14b0
              try clear c15
              try clear c15b0
              try clear c17
              try clear c18
              try clear c19
              try clear c20
              try clear c21
              try clear c25
              try clear hx112_0
              try clear p112
              try clear p2
              try clear q112
              obtain ⟨kq, x58_23, rfl, HA, HJ23, HO_9, HB⟩ := hcut
              cases kq with
              | zero => exact absurd HA.out (by simp [clock_Parse.j2])
              | succ kj23 =>
                have H := HA.out
                clear HA
                simp only [clock_Parse.j2] at H
                by_cases c27 : x58_23 = true
                · subst c27
                  have H1 : (some (0, 60)) = some (r1, r2) := by rw [if_pos rfl] at H; exact H
                  clear H
                  have H := H1
                  clear H1
                  simp only [Option.some.injEq, Prod.mk.injEq] at H
                  obtain ⟨rfl, rfl⟩ := H
                  go_wp2
                  go_ret2
                  exact ⟨by first | rfl | (simp [errW_none, errW_some] <;> rfl) | (simp [*, errW_none, errW_some] <;> rfl), by repeat (first | (with_reducible first | exact HB.out | apply below_alloc | apply pw_below_drewN | apply below_drew1) | exact HB.out)⟩
                · replace c27 := Bool.eq_false_iff.mpr c27
                  subst c27
                  have H1 : (if t103 = true then ((some (([0, 0] : List Int) : List Int)).bind fun y121 => (if x9_2.length + y121.length < 17592186044416 then ((some (x9_2 ++ y121 : List Int)).bind fun y124 => (if 3 ≤ (y124.length : Int) then (clock_Parse.j3 kj23 a0 t103 t104 (y124.take (3 : Int).toNat)) else (none))) else (none))) else (if (x9_2.length : Int) = 1 then (if 0 < (x9_2.length : Int) then (clock_Parse.j3 kj23 a0 t103 t104 (([0, rd x9_2 0, 0] : List Int))) else (none)) else (if (x9_2.length : Int) = 2 then (if 0 < (x9_2.length : Int) then (if 1 < (x9_2.length : Int) then (clock_Parse.j3 kj23 a0 t103 t104 (([0, rd x9_2 0, rd x9_2 1] : List Int))) else (none)) else (none)) else (clock_Parse.j3 kj23 a0 t103 t104 x9_2)))) = some (r1, r2) := by rw [if_neg (show ¬ (false = true) by decide)] at H; exact H
                  clear H
                  have H := H1
                  clear H1
                  have HC28 := Aside0.mk H
                  clear H
                  go_upto_block 2 with (fail)
                  go_cut [9] (fun v9 wc => ∃ (kq : Nat) (x9_27 : List Int), Aside0 (clock_Parse.j3 kq a0 t103 t104 x9_27 = some (r1, r2)) ∧ Aside0 (kq ≤ kj23) ∧ Aside0 (Kd.R (Kd.int .i64) 3 wc w.heap.size (fun _ => True) v9 x9_27) ∧ Aside0 (Below w.heap.size w wc))
                  case first =>
                    have H := HC28.out
                    clear HC28
                    by_cases c29 : t103 = true
                    · subst c29
                      have H1 : ((some (([0, 0] : List Int) : List Int)).bind fun y121 => (if x9_2.length + y121.length < 17592186044416 then ((some (x9_2 ++ y121 : List Int)).bind fun y124 => (if 3 ≤ (y124.length : Int) then (clock_Parse.j3 kj23 a0 true t104 (y124.take (3 : Int).toNat)) else (none))) else (none))) = some (r1, r2) := by rw [if_pos rfl] at H; exact H
                      clear H
                      have H := H1
                      clear H1
                      obtain ⟨y121, hy121⟩ : ∃ y_ : List Int, y_ = (([0, 0] : List Int)) := ⟨_, rfl⟩
                      replace H : (if x9_2.length + y121.length < 17592186044416 then ((some (x9_2 ++ y121 : List Int)).bind fun y124 => (if 3 ≤ (y124.length : Int) then (clock_Parse.j3 kj23 a0 true t104 (y124.take (3 : Int).toNat)) else (none))) else (none)) = some (r1, r2) := by first | (rw [hy121]; with_reducible exact H) | (have H2_ := (Option.bind_some _ _).symm.trans H; rw [hy121]; with_reducible exact H2_) | (have H2_ := (Option.bind_some _ _).symm.trans H; with_reducible exact H2_) | with_reducible exact H | (rw [hy121]; exact H) | exact H
                      have Ny121 := Aside0.mk hy121
                      clear hy121
                      by_cases c30 : x9_2.length + y121.length < 17592186044416
                      · rw [if_pos c30] at H
                        have LMc30 := Aside0.mk c30
                        clear c30
                        obtain ⟨y124, hy124⟩ : ∃ y_ : List Int, y_ = (x9_2 ++ y121) := ⟨_, rfl⟩
                        replace H : (if 3 ≤ (y124.length : Int) then (clock_Parse.j3 kj23 a0 true t104 (y124.take (3 : Int).toNat)) else (none)) = some (r1, r2) := by first | (rw [hy124]; with_reducible exact H) | (have H2_ := (Option.bind_some _ _).symm.trans H; rw [hy124]; with_reducible exact H2_) | (have H2_ := (Option.bind_some _ _).symm.trans H; with_reducible exact H2_) | with_reducible exact H | (rw [hy124]; exact H) | exact H
                        have Ny124 := Aside0.mk hy124
                        clear hy124
                        by_cases c31 : 3 ≤ (y124.length : Int)
                        · rw [if_pos c31] at H
                          have c31b0 := eq_true c31
                          have c31b1 : decide (3 ≤ (y124.length : Int)) = true := decide_eq_true c31
                          clear c31
                          obtain ⟨y127, hy127⟩ : ∃ y_ : List Int, y_ = (y124.take (3 : Int).toNat) := ⟨_, rfl⟩
                          replace H : (clock_Parse.j3 kj23 a0 true t104 y127) = some (r1, r2) := by first | (rw [hy127]; with_reducible exact H) | (have H2_ := (Option.bind_some _ _).symm.trans H; rw [hy127]; with_reducible exact H2_) | (have H2_ := (Option.bind_some _ _).symm.trans H; with_reducible exact H2_) | with_reducible exact H | (rw [hy127]; exact H) | exact H
                          have Ny127 := Aside0.mk hy127
                          clear hy127
                          have H' := Aside0.mk H
                          clear H
                          go_wp2_with (first | ((with_reducible refine gate_dst (N := 62) rfl ?_); (try (refine gate_guard (by rfl) ?_; dsimp only)); refine Kd.R_lit (Kd.int .i64) _ 3 ?hg (N := 62) ?hd (xs := ([0, 0] : List Int)) (inner := [.int .i64 0, .int .i64 0]) (ok := fun _ => True) (okp := fun _ => True) ?hr ?hp (fun _ hk => hk) trivial (Below.refl _ _) (Nat.le_refl _) (by simp) ?_; (case hd => rfl); (case hg => rfl); (case hr => first | (go_simp; done) | (go_simp; rfl)); (case hp => exact (Reps.one (show Kd.M (Kd.int .i64) _ _ _ 0 [.int .i64 0] from rfl) (Reps.one (show Kd.M (Kd.int .i64) _ _ _ 0 [.int .i64 0] from rfl) (Reps.none _ _)))); intro v122 w32 ho33 hb hg_ hnew_; clear hg_ hnew_; (first | rw [← Ny121.out] at ho33 | (simp only [Int.reduceToNat] at ho33; rw [← Ny121.out] at ho33)); have n0_ := Aside0.mk (Kd.R_elder' (by (with_reducible repeat (first | apply Kd.R_alloc | apply Kd.R_drewN | apply Kd.R_drew)); exact HO_9.out) (Kd.R_base ho33) hb); have n1_ := Aside0.mk (Kd.R_lower (Kd.R_new' ho33 (Kd.R_lt (by (with_reducible repeat (first | apply Kd.R_alloc | apply Kd.R_drewN | apply Kd.R_drew)); exact HO_9.out))) (below_size (by repeat (first | (with_reducible first | exact HB.out | apply below_alloc | apply pw_below_drewN | apply below_drew1) | exact HB.out)))); have n2_ := Aside0.mk (below_step (by repeat (first | (with_reducible first | exact HB.out | apply below_alloc | apply pw_below_drewN | apply below_drew1) | exact HB.out)) hb); clear HO_9; clear HB; have HO_9 := n0_; have HO123 := n1_; have HB := n2_; clear n0_ n1_ n2_; clear hb ho33; obtain ⟨Ao35, co35, eo35⟩ := Kd.R_slice HO123.out; subst eo35) | ((with_reducible refine gate_builtin (b := .append) (xs := #[.tmp 61, .tmp 62]) rfl ?_); (try (refine gate_guard (by rfl) ?_; dsimp only)); at_builtin; refine Kd.R_append_rows (Kd.int .i64) (w0 := w) w.heap.size rfl (.tmp 61) (.tmp 62) 45 3 (.int .i64 0) 8 rfl Tryd.underlying45 info3 rfl (by decide) (by omega) u9 x9_2 y121 _ _ _ (fun k_ => some k_ ≠ (.slice Ao35 y121.length co35 : Value).ownBlock) (fun _ => False) rfl rfl ?aO ?aR (fun _ _ h => h) (fun _ h => h.elim) ?aF ?aB ?aS ?aL ?_; (case aR => repeat (first | exact (Kd.R_reads' HO123.out).2.2 | (with_reducible refine Kd.C_alloc ?_ _) | (with_reducible refine Kd.C_drewN ?_ _) | (with_reducible refine Kd.C_drew ?_))); (case aB => exact (by repeat (first | (with_reducible first | exact HB.out | apply below_alloc | apply pw_below_drewN | apply below_drew1) | exact HB.out))); (case aF => exact (fun k_ hk => Kd.fresh' (Kd.R_lt (by (with_reducible repeat (first | apply Kd.R_alloc | apply Kd.R_drewN | apply Kd.R_drew)); exact HO123.out)) k_ hk)); (case aO => exact (by (with_reducible repeat (first | apply Kd.R_alloc | apply Kd.R_drewN | apply Kd.R_drew)); exact Kd.R_mono HO_9.out (fun _ hk => hk.2))); (case aS => exact (below_size (by repeat (first | (with_reducible first | exact HB.out | apply below_alloc | apply pw_below_drewN | apply below_drew1) | exact HB.out)))); (case aL => have := LMc30.out; omega); intro v125 w34 ho hb hg hat; rw [← Ny124.out] at ho; have n0_ := Aside0.mk (Kd.R_after (ok := (fun _ => True)) (by (with_reducible repeat (first | apply Kd.R_alloc | apply Kd.R_drewN | apply Kd.R_drew)); exact HO123.out) hg hat); have n1_ := Aside0.mk (hb); have n2_ := Aside0.mk (ho); clear HO123; clear HB; clear HO_9; have HO123 := n0_; have HB := n1_; have HO126 := n2_; clear n0_ n1_ n2_; clear ho hb hg hat; obtain ⟨Ao36, co36, eo36⟩ := Kd.R_slice HO126.out; subst eo36; have q37 : (3 : Int) ≤ ((y124.length : Int) : Int) := of_decide_eq_true (by first | (with_reducible assumption) | assumption); obtain ⟨i037, hi037, _, hsz37, _⟩ := info_parts info3; have hcut37 := cut_to (P := Tryd.prog) 45 3 .i64 Tryd.underlying45 hi037 Ao36 y124.length co36 3 (by omega) q37 (Kd.R_reads' HO126.out).2.1; have hr37 := Kd.R_take (m := (3 : Int).toNat) HO126.out (by omega); have hy37 : y127.length = (3 : Int).toNat := (by rw [Ny127.out, List.length_take]; omega); rw [← Ny127.out] at hr37; rw [← hy37] at hr37 hcut37; clear hy37 hi037 hsz37 HO126; have HO129 := Aside0.mk hr37; clear hr37; replace q37 := eq_true q37))
                          go_meet
                          case rel => exact ⟨_, (y127), H', ⟨by have := HJ2.out; have := HK2.out; have := HJ23.out; first | omega | exact Nat.le_refl _⟩, ⟨by (with_reducible repeat (first | apply Kd.R_alloc | apply Kd.R_drewN | apply Kd.R_drew)); exact Kd.R_mono HO129.out (fun _ hk => trivial)⟩, ⟨by repeat (first | (with_reducible first | exact HB.out | apply below_alloc | apply pw_below_drewN | apply below_drew1) | exact HB.out)⟩⟩
                        · rw [if_neg c31] at H
                          exact absurd H (by simp)
                      · rw [if_neg c30] at H
                        exact absurd H (by simp)
                    · replace c29 := Bool.eq_false_iff.mpr c29
                      subst c29
                      have H1 : (if (x9_2.length : Int) = 1 then (if 0 < (x9_2.length : Int) then (clock_Parse.j3 kj23 a0 false t104 (([0, rd x9_2 0, 0] : List Int))) else (none)) else (if (x9_2.length : Int) = 2 then (if 0 < (x9_2.length : Int) then (if 1 < (x9_2.length : Int) then (clock_Parse.j3 kj23 a0 false t104 (([0, rd x9_2 0, rd x9_2 1] : List Int))) else (none)) else (none)) else (clock_Parse.j3 kj23 a0 false t104 x9_2))) = some (r1, r2) := by rw [if_neg (show ¬ (false = true) by decide)] at H; exact H
                      clear H
                      have H := H1
                      clear H1
                      by_cases c38 : (x9_2.length : Int) = 1
                      · rw [if_pos c38] at H
                        have c38b0 : ((x9_2.length : Int) == 1) = true := beq_iff_eq.mpr c38
                        have c38b1 : ((x9_2.length : Int) != 1) = false := bne_eq_false_iff_eq.mpr c38
                        clear c38
                        (first | rw [c38b0] | (simp only [i64_w, i32_w]; rw [c38b0]) | skip)
                        by_cases c39 : 0 < (x9_2.length : Int)
                        · rw [if_pos c39] at H
                          have c39b0 : decide (0 < (x9_2.length : Int)) = true := decide_eq_true c39
                          have c39b1 : decide (0 < x9_2.length) = true := decide_eq_true (by omega)
                          clear c39
                          obtain ⟨y131, hy131⟩ : ∃ y_ : List Int, y_ = (([0, rd x9_2 0, 0] : List Int)) := ⟨_, rfl⟩
                          replace H : (clock_Parse.j3 kj23 a0 false t104 y131) = some (r1, r2) := by first | (rw [hy131]; with_reducible exact H) | (have H2_ := (Option.bind_some _ _).symm.trans H; rw [hy131]; with_reducible exact H2_) | (have H2_ := (Option.bind_some _ _).symm.trans H; with_reducible exact H2_) | with_reducible exact H | (rw [hy131]; exact H) | exact H
                          have Ny131 := Aside0.mk hy131
                          clear hy131
                          have H' := Aside0.mk H
                          clear H
                          obtain ⟨Ao40, co40, eo40⟩ := Kd.R_slice HO_9.out
                          subst eo40
                          have p130 : 0 ≤ (0 : Int) := (by omega)
                          have q130 : 0 < (x9_2.length : Int) := of_decide_eq_true (by first | (with_reducible assumption) | assumption)
                          obtain ⟨ad130, e130, hx130_0⟩ := Kd.at_int (Kd.R_reads' HO_9.out).2.2 0 p130 q130
                          cases e130
                          have qi130 : (0 < x9_2.length) = True := eq_true (by omega)
                          (try rw [show ((0 : Int)).toNat = 0 from rfl] at hx130_0)
                          (try rw [Addr.add_zero'] at hx130_0)
                          replace p130 := eq_true p130
                          replace q130 := eq_true q130
                          go_wp2_with (first | ((with_reducible refine gate_dst (N := 72) rfl ?_); (try (refine gate_guard (by rfl) ?_; dsimp only)); refine Kd.R_lit (Kd.int .i64) _ 3 ?hg (N := 72) ?hd (xs := ([0, rd x9_2 0, 0] : List Int)) (inner := [.int .i64 0, .int .i64 (rd x9_2 0), .int .i64 0]) (ok := fun _ => True) (okp := fun _ => True) ?hr ?hp (fun _ hk => hk) trivial (Below.refl _ _) (Nat.le_refl _) (by simp) ?_; (case hd => rfl); (case hg => rfl); (case hr => first | (go_simp; done) | (go_simp; rfl)); (case hp => exact (Reps.one (show Kd.M (Kd.int .i64) _ _ _ 0 [.int .i64 0] from rfl) (Reps.one (show Kd.M (Kd.int .i64) _ _ _ (rd x9_2 0) [.int .i64 (rd x9_2 0)] from rfl) (Reps.one (show Kd.M (Kd.int .i64) _ _ _ 0 [.int .i64 0] from rfl) (Reps.none _ _))))); intro v132 w41 ho42 hb hg_ hnew_; clear hg_ hnew_; (first | rw [← Ny131.out] at ho42 | (simp only [Int.reduceToNat] at ho42; rw [← Ny131.out] at ho42)); have n0_ := Aside0.mk (Kd.R_elder' (by (with_reducible repeat (first | apply Kd.R_alloc | apply Kd.R_drewN | apply Kd.R_drew)); exact HO_9.out) (Kd.R_base ho42) hb); have n1_ := Aside0.mk (Kd.R_lower (Kd.R_new' ho42 (Kd.R_lt (by (with_reducible repeat (first | apply Kd.R_alloc | apply Kd.R_drewN | apply Kd.R_drew)); exact HO_9.out))) (below_size (by repeat (first | (with_reducible first | exact HB.out | apply below_alloc | apply pw_below_drewN | apply below_drew1) | exact HB.out)))); have n2_ := Aside0.mk (below_step (by repeat (first | (with_reducible first | exact HB.out | apply below_alloc | apply pw_below_drewN | apply below_drew1) | exact HB.out)) hb); clear HO_9; clear HB; have HO_9 := n0_; have HO133 := n1_; have HB := n2_; clear n0_ n1_ n2_; clear hb ho42))
                          go_meet
                          case rel => exact ⟨_, (y131), H', ⟨by have := HJ2.out; have := HK2.out; have := HJ23.out; first | omega | exact Nat.le_refl _⟩, ⟨by (with_reducible repeat (first | apply Kd.R_alloc | apply Kd.R_drewN | apply Kd.R_drew)); exact Kd.R_mono HO133.out (fun _ hk => trivial)⟩, ⟨by repeat (first | (with_reducible first | exact HB.out | apply below_alloc | apply pw_below_drewN | apply below_drew1) | exact HB.out)⟩⟩
                        · rw [if_neg c39] at H
                          exact absurd H (by simp)
                      · rw [if_neg c38] at H
                        have c38b0 : ((x9_2.length : Int) == 1) = false := beq_eq_false_iff_ne.mpr c38
                        have c38b1 : ((x9_2.length : Int) != 1) = true := bne_iff_ne.mpr c38
                        (first | rw [c38b0] | (simp only [i64_w, i32_w]; rw [c38b0]) | skip)
                        by_cases c43 : (x9_2.length : Int) = 2
                        · rw [if_pos c43] at H
                          have c43b0 : ((x9_2.length : Int) == 2) = true := beq_iff_eq.mpr c43
                          have c43b1 : ((x9_2.length : Int) != 2) = false := bne_eq_false_iff_eq.mpr c43
                          clear c43
                          by_cases c44 : 0 < (x9_2.length : Int)
                          · rw [if_pos c44] at H
                            have c44b0 : decide (0 < (x9_2.length : Int)) = true := decide_eq_true c44
                            have c44b1 : decide (0 < x9_2.length) = true := decide_eq_true (by omega)
                            clear c44
                            by_cases c45 : 1 < (x9_2.length : Int)
                            · rw [if_pos c45] at H
                              have c45b0 : decide (1 < (x9_2.length : Int)) = true := decide_eq_true c45
                              have c45b1 : decide (1 < x9_2.length) = true := decide_eq_true (by omega)
                              clear c45
                              obtain ⟨y136, hy136⟩ : ∃ y_ : List Int, y_ = (([0, rd x9_2 0, rd x9_2 1] : List Int)) := ⟨_, rfl⟩
                              replace H : (clock_Parse.j3 kj23 a0 false t104 y136) = some (r1, r2) := by first | (rw [hy136]; with_reducible exact H) | (have H2_ := (Option.bind_some _ _).symm.trans H; rw [hy136]; with_reducible exact H2_) | (have H2_ := (Option.bind_some _ _).symm.trans H; with_reducible exact H2_) | with_reducible exact H | (rw [hy136]; exact H) | exact H
                              have Ny136 := Aside0.mk hy136
                              clear hy136
                              have H' := Aside0.mk H
                              clear H
                              obtain ⟨Ao46, co46, eo46⟩ := Kd.R_slice HO_9.out
                              subst eo46
                              try go_wp2
                              have n0_ := Aside0.mk (Kd.R_drew HO_9.out)
                              have n1_ := Aside0.mk (below_drew1 HB.out)
                              clear HO_9
                              clear HB
                              have HO_9 := n0_
                              have HB := n1_
                              clear n0_ n1_
                              have p134 : 0 ≤ (0 : Int) := (by omega)
                              have q134 : 0 < (x9_2.length : Int) := of_decide_eq_true (by first | (with_reducible assumption) | assumption)
                              obtain ⟨ad134, e134, hx134_0⟩ := Kd.at_int (Kd.R_reads' HO_9.out).2.2 0 p134 q134
                              cases e134
                              have qi134 : (0 < x9_2.length) = True := eq_true (by omega)
                              (try rw [show ((0 : Int)).toNat = 0 from rfl] at hx134_0)
                              (try rw [Addr.add_zero'] at hx134_0)
                              replace p134 := eq_true p134
                              replace q134 := eq_true q134
                              have p135 : 0 ≤ (1 : Int) := (by omega)
                              have q135 : 1 < (x9_2.length : Int) := of_decide_eq_true (by first | (with_reducible assumption) | assumption)
                              obtain ⟨ad135, e135, hx135_0⟩ := Kd.at_int (Kd.R_reads' HO_9.out).2.2 1 p135 q135
                              obtain rfl : ad134 = ad135 := (by injection e135)
                              (try simp only [show (1 : Int).toNat = 1 from rfl, Nat.reduceMul, Nat.reduceEqDiff, Go.Addr.add, ↓reduceIte] at hx135_0)
                              have qi135 : (1 < x9_2.length) = True := eq_true (by omega)
                              (try rw [show ((1 : Int)).toNat = 1 from rfl] at hx135_0)
                              replace p135 := eq_true p135
                              replace q135 := eq_true q135
                              refine start_ (n := 8) (S := fun w' => w'.cell? ad134 = some (.int .i64 (rd x9_2 0)) ∧ w'.cell? ⟨ad134.block, ad134.off + 1, none⟩ = some (.int .i64 (rd x9_2 1))) (ds := []) #[false, false, false, false, false, false, false, false] (by kernel_rfl) rfl rfl ⟨hx134_0, hx135_0⟩ (fun hHeld => ?_); refine with_tabW clock_Parse.tab20 clock_Parse.bits20 (fun HT_ HW_ => ?_)
                              generalize wc.drew = w47 at HO_9 HB hx134_0 hx135_0 hHeld ⊢
                              refine pure_ (i := 0) (N := some 77) (v := ?_) (a' := ?_) #[true, false, false, false, false, false, false, false] rfl rfl (any_of HT_.out (by kernel_rfl)) (fun _ _ _ h => h) (Or.inl ⟨by rfl, ?_⟩) ?_ ?_
                              rotate_left
                              · intro w'
                                go_simp
                                with_reducible rfl
                              rotate_left
                              · simp only [Act.put, List.setIfInBounds_toArray, List.set_cons_zero, List.set_cons_succ, i64_w, i32_w]
                                rfl
                              refine pure_ (i := 1) (N := some 78) (v := ?_) (a' := ?_) #[true, true, false, false, false, false, false, false] rfl rfl (any_of HT_.out (by kernel_rfl)) (fun _ _ _ h => h) (Or.inl ⟨by rfl, ?_⟩) ?_ ?_
                              rotate_left
                              · intro w'
                                go_simp
                                with_reducible rfl
                              rotate_left
                              · simp only [Act.put, List.setIfInBounds_toArray, List.set_cons_zero, List.set_cons_succ, i64_w, i32_w]
                                rfl
                              refine pure_ (i := 3) (N := some 80) (v := ?_) (a' := ?_) #[true, true, false, true, false, false, false, false] rfl rfl (any_of HT_.out (by kernel_rfl)) (fun _ _ _ h => h) (Or.inl ⟨by rfl, ?_⟩) ?_ ?_
                              rotate_left
                              · intro w'
                                go_simp
                                with_reducible rfl
                              rotate_left
                              · simp only [Act.put, List.setIfInBounds_toArray, List.set_cons_zero, List.set_cons_succ, i64_w, i32_w]
                                rfl
                              refine pure_ (i := 4) (N := some 81) (v := ?_) (a' := ?_) #[true, true, false, true, true, false, false, false] rfl rfl (any_of HT_.out (by kernel_rfl)) (fun _ _ _ h => h) (Or.inl ⟨by rfl, ?_⟩) ?_ ?_
                              rotate_left
                              · intro w'
                                go_simp
                                with_reducible rfl
                              rotate_left
                              · simp only [Act.put, List.setIfInBounds_toArray, List.set_cons_zero, List.set_cons_succ, i64_w, i32_w]
                                rfl
                              refine take_ (i := 2) (N := some 79) (v := ?_) (a' := ?_) #[true, true, true, true, true, false, false, false] rfl rfl (take_ofW HT_.out HW_.out (by kernel_rfl)) (fun _ _ _ h => h) (Or.inl ⟨by rfl, ?_⟩) hHeld ?_ ?_
                              rotate_left
                              · rintro w' ⟨s0, s1⟩
                                go_simp
                                with_reducible rfl
                              rotate_left
                              · simp only [Act.put, List.setIfInBounds_toArray, List.set_cons_zero, List.set_cons_succ, i64_w, i32_w]
                                rfl
                              refine take_ (i := 5) (N := some 82) (v := ?_) (a' := ?_) #[true, true, true, true, true, true, false, false] rfl rfl (take_ofW HT_.out HW_.out (by kernel_rfl)) (fun _ _ _ h => h) (Or.inl ⟨by rfl, ?_⟩) hHeld ?_ ?_
                              rotate_left
                              · rintro w' ⟨s0, s1⟩
                                go_simp
                                with_reducible rfl
                              rotate_left
                              · simp only [Act.put, List.setIfInBounds_toArray, List.set_cons_zero, List.set_cons_succ, i64_w, i32_w]
                                rfl
                              refine one_ (i := 6) (N := some 83) #[true, true, true, true, true, true, true, false] rfl rfl (one_of HT_.out (by kernel_rfl)) (by decide) (fun K hK => ?_)
                              refine Kd.R_lit_step (Kd.int .i64) _ 3 ?hg (N := 83) ?hd (xs := ([0, rd x9_2 0, rd x9_2 1] : List Int)) (inner := [.int .i64 0, .int .i64 (rd x9_2 0), .int .i64 (rd x9_2 1)]) (ok := fun _ => True) (okp := fun _ => True) ?hr ?hp (fun _ hk => hk) trivial (Below.refl _ _) (Nat.le_refl _) (by simp) ?_; (case hd => rfl); (case hg => rfl); (case hr => first | (go_simp; done) | (go_simp; rfl)); (case hp => exact (Reps.one (show Kd.M (Kd.int .i64) _ _ _ 0 [.int .i64 0] from rfl) (Reps.one (show Kd.M (Kd.int .i64) _ _ _ (rd x9_2 0) [.int .i64 (rd x9_2 0)] from rfl) (Reps.one (show Kd.M (Kd.int .i64) _ _ _ (rd x9_2 1) [.int .i64 (rd x9_2 1)] from rfl) (Reps.none _ _)))))
                              intro v137 w48 ho49 hb hg_ hnew_
                              have HS0_ := (hb.cell (World.block_lt_of_cell? _ _ (hHeld.1))).trans (hHeld.1)
                              have HS1_ := (hb.cell (World.block_lt_of_cell? _ _ (hHeld.2))).trans (hHeld.2)
                              clear hg_ hnew_
                              (first | rw [← Ny136.out] at ho49 | (simp only [Int.reduceToNat] at ho49; rw [← Ny136.out] at ho49))
                              have n0_ := Aside0.mk (Kd.R_elder' (by (with_reducible repeat (first | apply Kd.R_alloc | apply Kd.R_drewN | apply Kd.R_drew)); exact HO_9.out) (Kd.R_base ho49) hb)
                              have n1_ := Aside0.mk (Kd.R_lower (Kd.R_new' ho49 (Kd.R_lt (by (with_reducible repeat (first | apply Kd.R_alloc | apply Kd.R_drewN | apply Kd.R_drew)); exact HO_9.out))) (below_size (by repeat (first | (with_reducible first | exact HB.out | apply below_alloc | apply pw_below_drewN | apply below_drew1) | exact HB.out))))
                              have n2_ := Aside0.mk (below_step (by repeat (first | (with_reducible first | exact HB.out | apply below_alloc | apply pw_below_drewN | apply below_drew1) | exact HB.out)) hb)
                              clear HO_9
                              clear HB
                              have HO_9 := n0_
                              have HO138 := n1_
                              have HB := n2_
                              clear n0_ n1_ n2_
                              clear hb ho49
                              refine hK.out _ _ ⟨HS0_, HS1_⟩ (fun hHeld => ?_)
                              clear hK K
                              refine norm_ (a' := ?_) ?_ ?_
                              rotate_left
                              · show Act.put _ (some 83) _ = _
                                simp only [Act.put, List.setIfInBounds_toArray, List.set_cons_zero, List.set_cons_succ, i64_w, i32_w]
                                rfl
                              refine pure_ (i := 7) (N := some 9) (v := ?_) (a' := ?_) #[true, true, true, true, true, true, true, true] rfl rfl (any_of HT_.out (by kernel_rfl)) (fun _ _ _ h => h) (Or.inl ⟨by rfl, ?_⟩) ?_ ?_
                              rotate_left
                              · intro w'
                                go_simp
                                with_reducible rfl
                              rotate_left
                              · simp only [Act.put, List.setIfInBounds_toArray, List.set_cons_zero, List.set_cons_succ, i64_w, i32_w]
                                rfl
                              refine done_ (done_of HT_.out (by kernel_rfl)) ?_
                              try go_wp2
                              go_meet
                              case rel => exact ⟨_, (y136), H', ⟨by have := HJ2.out; have := HK2.out; have := HJ23.out; first | omega | exact Nat.le_refl _⟩, ⟨by (with_reducible repeat (first | apply Kd.R_alloc | apply Kd.R_drewN | apply Kd.R_drew)); exact Kd.R_mono HO138.out (fun _ hk => trivial)⟩, ⟨by repeat (first | (with_reducible first | exact HB.out | apply below_alloc | apply pw_below_drewN | apply below_drew1) | exact HB.out)⟩⟩
                            · rw [if_neg c45] at H
                              exact absurd H (by simp)
                          · rw [if_neg c44] at H
                            exact absurd H (by simp)
                        · rw [if_neg c43] at H
                          have c43b0 : ((x9_2.length : Int) == 2) = false := beq_eq_false_iff_ne.mpr c43
                          have c43b1 : ((x9_2.length : Int) != 2) = true := bne_iff_ne.mpr c43
                          have H' := Aside0.mk H
                          clear H
                          obtain ⟨Ao50, co50, eo50⟩ := Kd.R_slice HO_9.out
                          subst eo50
                          go_wp2
                          go_meet
                          case rel => exact ⟨_, (x9_2), H', ⟨by have := HJ2.out; have := HK2.out; have := HJ23.out; first | omega | exact Nat.le_refl _⟩, ⟨by (with_reducible repeat (first | apply Kd.R_alloc | apply Kd.R_drewN | apply Kd.R_drew)); exact HO_9.out⟩, ⟨by repeat (first | (with_reducible first | exact HB.out | apply below_alloc | apply pw_below_drewN | apply below_drew1) | exact HB.out)⟩⟩
                  case rest =>
                    clear HC28
                    try clear c1
                    try clear p1
                    try clear q1
                    try clear hx1
                    try clear qi1
                    try clear c2
                    try clear p2
                    try clear c3
                    try clear q3
                    try clear c4
                    try clear c5
                    try clear p6
                    try clear c11
                    try clear p11
                    try clear q11
                    try clear hx11
                    try clear c13
                    try clear c13b0
                    try clear p13
                    try clear q13
                    try clear hx13
                    try clear qi13
                    try clear c14
                    try clear c14b0
                    try clear c15
                    try clear c15b0
                    try clear c17
                    try clear c18
                    try clear c19
                    try clear c20
                    try clear c21
                    try clear c25
                    try clear c27
                    try clear c29
                    try clear c30
                    try clear c31
                    try clear c31b0
                    try clear c31b1
                    try clear q37
                    try clear c38
                    try clear c38b0
                    try clear c38b1
                    try clear c39
                    try clear c39b0
                    try clear c39b1
                    try clear c43
                    try clear c43b0
                    try clear c43b1
                    try clear c44
                    try clear c44b0
                    try clear c44b1
                    try clear c45
                    try clear c45b0
                    try clear c45b1
                    try clear hx112_0
                    try clear hx130_0
                    try clear hx134_0
                    try clear hx135_0
                    try clear p1
                    try clear p11
                    try clear p112
                    try clear p130
                    try clear p134
                    try clear p135
                    try clear p2
                    try clear p6
                    try clear q1
                    try clear q11
                    try clear q112
                    try clear q130
                    try clear q134
                    try clear q135
                    try clear q37
                    obtain ⟨kq, x9_27, HA, HJ27, HO_9, HB⟩ := hcut
                    cases kq with
                    | zero => exact absurd HA.out (by simp [clock_Parse.j3])
                    | succ kj27 =>
                      have H := HA.out
                      clear HA
                      simp only [clock_Parse.j3] at H
                      have HC51 := Aside0.mk H
                      clear H
                      go_upto_region 21 with (fail)
                      go_cut [14] (fun v14 wc => ∃ (kq : Nat) (x14_50 : Bool), v14 = .bool x14_50 ∧ Aside0 (clock_Parse.j4 kq t103 t104 x9_27 x14_50 = some (r1, r2)) ∧ Aside0 (kq ≤ kj27) ∧ Aside0 (Kd.R (Kd.int .i64) 3 wc w.heap.size (fun _ => True) u9 x9_27) ∧ Aside0 (Below w.heap.size w wc))
                      case first =>
                        have H := HC51.out
                        clear HC51
                        replace H := Option.bind_eq_some_iff.mp H
                        obtain ⟨t139, A520, H⟩ := H
                        replace H : (if t139 = 2 then (clock_Parse.j4 kj27 t103 t104 x9_27 true) else (clock_Parse.j4 kj27 t103 t104 x9_27 t103)) = some (r1, r2) := H
                        have A52 := Aside0.mk A520
                        clear A520
                        by_cases c53 : t139 = 2
                        · rw [if_pos c53] at H
                          have c53b0 : (t139 == 2) = true := beq_iff_eq.mpr c53
                          have c53b1 : (t139 != 2) = false := bne_eq_false_iff_eq.mpr c53
                          clear c53
                          (first | rw [c53b0] | (simp only [i64_w, i32_w]; rw [c53b0]) | skip)
                          have H' := Aside0.mk H
                          clear H
                          go_wp2_with (first | ((with_reducible refine gate_callee (f := 21) rfl ?_); refine goesL_ (some 85) rfl rfl Tryd.func21 (by kernel_rfl) rfl #[.string a0, .string (⟨#[58]⟩ : ByteArray)] rfl (by (try simp only [List.map_toArray, List.map_cons, List.map_nil]); first | done | rfl | (simp only [List.length_drop, List.length_take]; rfl)) ?_; (with_reducible refine (strings_Count.calls a0 (⟨#[58]⟩ : ByteArray) t139 _ ?side1 A52.out).mono ?_); (case side1 => exact Glob.below HG.out (by repeat (first | (with_reducible first | exact HB.out | apply below_alloc | apply pw_below_drewN | apply below_drew1) | exact HB.out))); rintro e w54 ⟨rfl, hb⟩; refine ⟨_, rfl, ?_⟩; have n0_ := Aside0.mk (Kd.R_below (by (with_reducible repeat (first | apply Kd.R_alloc | apply Kd.R_drewN | apply Kd.R_drew)); exact HO_9.out) hb); have n1_ := Aside0.mk (below_step (by repeat (first | (with_reducible first | exact HB.out | apply below_alloc | apply pw_below_drewN | apply below_drew1) | exact HB.out)) hb); clear HO_9; clear HB; have HO_9 := n0_; have HB := n1_; clear n0_ n1_; (try clear hb); (try clear hb2); (try clear hk); (try clear hi)))
                          go_meet
                          case rel => exact ⟨_, (true), (by first | rfl | (simp; done) | (simp [*]; done)), H', ⟨by have := HJ2.out; have := HK2.out; have := HJ23.out; have := HJ27.out; first | omega | exact Nat.le_refl _⟩, ⟨by (with_reducible repeat (first | apply Kd.R_alloc | apply Kd.R_drewN | apply Kd.R_drew)); exact HO_9.out⟩, ⟨by repeat (first | (with_reducible first | exact HB.out | apply below_alloc | apply pw_below_drewN | apply below_drew1) | exact HB.out)⟩⟩
                        · rw [if_neg c53] at H
                          have c53b0 : (t139 == 2) = false := beq_eq_false_iff_ne.mpr c53
                          have c53b1 : (t139 != 2) = true := bne_iff_ne.mpr c53
                          (first | rw [c53b0] | (simp only [i64_w, i32_w]; rw [c53b0]) | skip)
                          have H' := Aside0.mk H
                          clear H
                          go_wp2_with (first | ((with_reducible refine gate_callee (f := 21) rfl ?_); refine goesL_ (some 85) rfl rfl Tryd.func21 (by kernel_rfl) rfl #[.string a0, .string (⟨#[58]⟩ : ByteArray)] rfl (by (try simp only [List.map_toArray, List.map_cons, List.map_nil]); first | done | rfl | (simp only [List.length_drop, List.length_take]; rfl)) ?_; (with_reducible refine (strings_Count.calls a0 (⟨#[58]⟩ : ByteArray) t139 _ ?side1 A52.out).mono ?_); (case side1 => exact Glob.below HG.out (by repeat (first | (with_reducible first | exact HB.out | apply below_alloc | apply pw_below_drewN | apply below_drew1) | exact HB.out))); rintro e w55 ⟨rfl, hb⟩; refine ⟨_, rfl, ?_⟩; have n0_ := Aside0.mk (Kd.R_below (by (with_reducible repeat (first | apply Kd.R_alloc | apply Kd.R_drewN | apply Kd.R_drew)); exact HO_9.out) hb); have n1_ := Aside0.mk (below_step (by repeat (first | (with_reducible first | exact HB.out | apply below_alloc | apply pw_below_drewN | apply below_drew1) | exact HB.out)) hb); clear HO_9; clear HB; have HO_9 := n0_; have HB := n1_; clear n0_ n1_; (try clear hb); (try clear hb2); (try clear hk); (try clear hi)))
                          go_meet
                          case rel => exact ⟨_, (t103), (by first | rfl | (simp; done) | (simp [*]; done)), H', ⟨by have := HJ2.out; have := HK2.out; have := HJ23.out; have := HJ27.out; first | omega | exact Nat.le_refl _⟩, ⟨by (with_reducible repeat (first | apply Kd.R_alloc | apply Kd.R_drewN | apply Kd.R_drew)); exact HO_9.out⟩, ⟨by repeat (first | (with_reducible first | exact HB.out | apply below_alloc | apply pw_below_drewN | apply below_drew1) | exact HB.out)⟩⟩
                      case rest =>
                        clear HC51
                        try clear c1
                        try clear p1
                        try clear q1
                        try clear hx1
                        try clear qi1
                        try clear c2
                        try clear p2
                        try clear c3
                        try clear q3
                        try clear c4
                        try clear c5
                        try clear p6
                        try clear c11
                        try clear p11
                        try clear q11
                        try clear hx11
                        try clear c13
                        try clear c13b0
                        try clear p13
                        try clear q13
                        try clear hx13
                        try clear qi13
                        try clear c14
                        try clear c14b0
                        try clear c15
                        try clear c15b0
                        try clear c17
                        try clear c18
                        try clear c19
                        try clear c20
                        try clear c21
                        try clear c25
                        try clear c27
                        try clear c29
                        try clear c30
                        try clear c31
                        try clear c31b0
                        try clear c31b1
                        try clear q37
                        try clear c38
                        try clear c38b0
                        try clear c38b1
                        try clear c39
                        try clear c39b0
                        try clear c39b1
                        try clear c43
                        try clear c43b0
                        try clear c43b1
                        try clear c44
                        try clear c44b0
                        try clear c44b1
                        try clear c45
                        try clear c45b0
                        try clear c45b1
                        try clear c53
                        try clear c53b0
                        try clear c53b1
                        try clear hx112_0
                        try clear hx130_0
                        try clear hx134_0
                        try clear hx135_0
                        try clear p1
                        try clear p11
                        try clear p112
                        try clear p13
                        try clear p130
                        try clear p134
                        try clear p135
                        try clear p2
                        try clear p6
                        try clear q1
                        try clear q11
                        try clear q112
                        try clear q13
                        try clear q130
                        try clear q134
                        try clear q135
                        try clear q3
                        try clear q37
                        obtain ⟨kq, x14_50, rfl, HA, HJ50, HO_9, HB⟩ := hcut
                        cases kq with
                        | zero => exact absurd HA.out (by simp [clock_Parse.j4])
                        | succ kj50 =>
                          have H := HA.out
                          clear HA
                          simp only [clock_Parse.j4] at H
                          have HC56 := Aside0.mk H
                          clear H
                          go_upto_region 22 with (fail)
                          go_cut [111] (fun v111 wc => ∃ (kq : Nat) (x111_55 : Bool), v111 = .bool x111_55 ∧ Aside0 (clock_Parse.j5 kq t104 x9_27 x111_55 = some (r1, r2)) ∧ Aside0 (kq ≤ kj50) ∧ Aside0 (Kd.R (Kd.int .i64) 3 wc w.heap.size (fun _ => True) u9 x9_27) ∧ Aside0 (Below w.heap.size w wc))
                          case first =>
                            have H := HC56.out
                            clear HC56
                            by_cases c57 : t103 = true
                            · subst c57
                              have H1 : (if 0 < (x9_27.length : Int) then (if (rd x9_27 0) > 23 then (clock_Parse.j5 kj50 t104 x9_27 true) else (if x14_50 = true then (if 1 < (x9_27.length : Int) then (if (rd x9_27 1) > 59 then (clock_Parse.j5 kj50 t104 x9_27 true) else (if 2 < (x9_27.length : Int) then (clock_Parse.j5 kj50 t104 x9_27 (decide ((rd x9_27 2) > 59))) else (none))) else (none)) else (if 2 < (x9_27.length : Int) then (clock_Parse.j5 kj50 t104 x9_27 (decide ((rd x9_27 2) > 59))) else (none)))) else (none)) = some (r1, r2) := by rw [if_pos rfl] at H; exact H
                              clear H
                              have H := H1
                              clear H1
                              by_cases c58 : 0 < (x9_27.length : Int)
                              · rw [if_pos c58] at H
                                have c58b0 : decide (0 < (x9_27.length : Int)) = true := decide_eq_true c58
                                have c58b1 : decide (0 < x9_27.length) = true := decide_eq_true (by omega)
                                clear c58
                                (first | rw [c58b0] | (simp only [i64_w, i32_w]; rw [c58b0]) | skip)
                                by_cases c59 : (rd x9_27 0) > 23
                                · rw [if_pos c59] at H
                                  have c59b0 : decide (23 < (rd x9_27 0)) = true := decide_eq_true c59
                                  clear c59
                                  have H' := Aside0.mk H
                                  clear H
                                  obtain ⟨Ao60, co60, eo60⟩ := Kd.R_slice HO_9.out
                                  subst eo60
                                  have p140 : 0 ≤ (0 : Int) := (by omega)
                                  have q140 : 0 < (x9_27.length : Int) := of_decide_eq_true (by first | (with_reducible assumption) | assumption)
                                  obtain ⟨ad140, e140, hx140_0⟩ := Kd.at_int (Kd.R_reads' HO_9.out).2.2 0 p140 q140
                                  cases e140
                                  have qi140 : (0 < x9_27.length) = True := eq_true (by omega)
                                  (try rw [show ((0 : Int)).toNat = 0 from rfl] at hx140_0)
                                  (try rw [Addr.add_zero'] at hx140_0)
                                  replace p140 := eq_true p140
                                  replace q140 := eq_true q140
                                  go_wp2
                                  go_meet
                                  case rel => exact ⟨_, (true), (by first | rfl | (simp; done) | (simp [*]; done)), H', ⟨by have := HJ2.out; have := HK2.out; have := HJ23.out; have := HJ27.out; have := HJ50.out; first | omega | exact Nat.le_refl _⟩, ⟨by (with_reducible repeat (first | apply Kd.R_alloc | apply Kd.R_drewN | apply Kd.R_drew)); exact HO_9.out⟩, ⟨by repeat (first | (with_reducible first | exact HB.out | apply below_alloc | apply pw_below_drewN | apply below_drew1) | exact HB.out)⟩⟩
                                · rw [if_neg c59] at H
                                  have c59b0 : decide (23 < (rd x9_27 0)) = false := decide_eq_false c59
                                  clear c59
                                  by_cases c61 : x14_50 = true
                                  · subst c61
                                    have H1 : (if 1 < (x9_27.length : Int) then (if (rd x9_27 1) > 59 then (clock_Parse.j5 kj50 t104 x9_27 true) else (if 2 < (x9_27.length : Int) then (clock_Parse.j5 kj50 t104 x9_27 (decide ((rd x9_27 2) > 59))) else (none))) else (none)) = some (r1, r2) := by rw [if_pos rfl] at H; exact H
                                    clear H
                                    have H := H1
                                    clear H1
                                    by_cases c62 : 1 < (x9_27.length : Int)
                                    · rw [if_pos c62] at H
                                      have c62b0 : decide (1 < (x9_27.length : Int)) = true := decide_eq_true c62
                                      have c62b1 : decide (1 < x9_27.length) = true := decide_eq_true (by omega)
                                      clear c62
                                      by_cases c63 : (rd x9_27 1) > 59
                                      · rw [if_pos c63] at H
                                        have c63b0 : decide (59 < (rd x9_27 1)) = true := decide_eq_true c63
                                        clear c63
                                        have H' := Aside0.mk H
                                        clear H
                                        obtain ⟨Ao64, co64, eo64⟩ := Kd.R_slice HO_9.out
                                        subst eo64
                                        have p140 : 0 ≤ (0 : Int) := (by omega)
                                        have q140 : 0 < (x9_27.length : Int) := of_decide_eq_true (by first | (with_reducible assumption) | assumption)
                                        obtain ⟨ad140, e140, hx140_0⟩ := Kd.at_int (Kd.R_reads' HO_9.out).2.2 0 p140 q140
                                        cases e140
                                        have qi140 : (0 < x9_27.length) = True := eq_true (by omega)
                                        (try rw [show ((0 : Int)).toNat = 0 from rfl] at hx140_0)
                                        (try rw [Addr.add_zero'] at hx140_0)
                                        replace p140 := eq_true p140
                                        replace q140 := eq_true q140
                                        have p141 : 0 ≤ (1 : Int) := (by omega)
                                        have q141 : 1 < (x9_27.length : Int) := of_decide_eq_true (by first | (with_reducible assumption) | assumption)
                                        obtain ⟨ad141, e141, hx141_0⟩ := Kd.at_int (Kd.R_reads' HO_9.out).2.2 1 p141 q141
                                        obtain rfl : ad140 = ad141 := (by injection e141)
                                        (try simp only [show (1 : Int).toNat = 1 from rfl, Nat.reduceMul, Nat.reduceEqDiff, Go.Addr.add, ↓reduceIte] at hx141_0)
                                        have qi141 : (1 < x9_27.length) = True := eq_true (by omega)
                                        (try rw [show ((1 : Int)).toNat = 1 from rfl] at hx141_0)
                                        replace p141 := eq_true p141
                                        replace q141 := eq_true q141
                                        go_wp2
                                        go_meet
                                        case rel => exact ⟨_, (true), (by first | rfl | (simp; done) | (simp [*]; done)), H', ⟨by have := HJ2.out; have := HK2.out; have := HJ23.out; have := HJ27.out; have := HJ50.out; first | omega | exact Nat.le_refl _⟩, ⟨by (with_reducible repeat (first | apply Kd.R_alloc | apply Kd.R_drewN | apply Kd.R_drew)); exact HO_9.out⟩, ⟨by repeat (first | (with_reducible first | exact HB.out | apply below_alloc | apply pw_below_drewN | apply below_drew1) | exact HB.out)⟩⟩
                                      · rw [if_neg c63] at H
                                        have c63b0 : decide (59 < (rd x9_27 1)) = false := decide_eq_false c63
                                        clear c63
                                        by_cases c65 : 2 < (x9_27.length : Int)
                                        · rw [if_pos c65] at H
                                          have c65b0 : decide (2 < (x9_27.length : Int)) = true := decide_eq_true c65
                                          have c65b1 : decide (2 < x9_27.length) = true := decide_eq_true (by omega)
                                          clear c65
                                          have H' := Aside0.mk H
                                          clear H
                                          obtain ⟨Ao66, co66, eo66⟩ := Kd.R_slice HO_9.out
                                          subst eo66
                                          have p140 : 0 ≤ (0 : Int) := (by omega)
                                          have q140 : 0 < (x9_27.length : Int) := of_decide_eq_true (by first | (with_reducible assumption) | assumption)
                                          obtain ⟨ad140, e140, hx140_0⟩ := Kd.at_int (Kd.R_reads' HO_9.out).2.2 0 p140 q140
                                          cases e140
                                          have qi140 : (0 < x9_27.length) = True := eq_true (by omega)
                                          (try rw [show ((0 : Int)).toNat = 0 from rfl] at hx140_0)
                                          (try rw [Addr.add_zero'] at hx140_0)
                                          replace p140 := eq_true p140
                                          replace q140 := eq_true q140
                                          have p141 : 0 ≤ (1 : Int) := (by omega)
                                          have q141 : 1 < (x9_27.length : Int) := of_decide_eq_true (by first | (with_reducible assumption) | assumption)
                                          obtain ⟨ad141, e141, hx141_0⟩ := Kd.at_int (Kd.R_reads' HO_9.out).2.2 1 p141 q141
                                          obtain rfl : ad140 = ad141 := (by injection e141)
                                          (try simp only [show (1 : Int).toNat = 1 from rfl, Nat.reduceMul, Nat.reduceEqDiff, Go.Addr.add, ↓reduceIte] at hx141_0)
                                          have qi141 : (1 < x9_27.length) = True := eq_true (by omega)
                                          (try rw [show ((1 : Int)).toNat = 1 from rfl] at hx141_0)
                                          replace p141 := eq_true p141
                                          replace q141 := eq_true q141
                                          have p142 : 0 ≤ (2 : Int) := (by omega)
                                          have q142 : 2 < (x9_27.length : Int) := of_decide_eq_true (by first | (with_reducible assumption) | assumption)
                                          obtain ⟨ad142, e142, hx142_0⟩ := Kd.at_int (Kd.R_reads' HO_9.out).2.2 2 p142 q142
                                          obtain rfl : ad140 = ad142 := (by injection e142)
                                          (try simp only [show (2 : Int).toNat = 2 from rfl, Nat.reduceMul, Nat.reduceEqDiff, Go.Addr.add, ↓reduceIte] at hx142_0)
                                          have qi142 : (2 < x9_27.length) = True := eq_true (by omega)
                                          (try rw [show ((2 : Int)).toNat = 2 from rfl] at hx142_0)
                                          replace p142 := eq_true p142
                                          replace q142 := eq_true q142
                                          go_wp2
                                          go_meet
                                          case rel => exact ⟨_, (decide ((rd x9_27 2) > 59)), (by first | rfl | (simp; done) | (simp [*]; done)), H', ⟨by have := HJ2.out; have := HK2.out; have := HJ23.out; have := HJ27.out; have := HJ50.out; first | omega | exact Nat.le_refl _⟩, ⟨by (with_reducible repeat (first | apply Kd.R_alloc | apply Kd.R_drewN | apply Kd.R_drew)); exact HO_9.out⟩, ⟨by repeat (first | (with_reducible first | exact HB.out | apply below_alloc | apply pw_below_drewN | apply below_drew1) | exact HB.out)⟩⟩
                                        · rw [if_neg c65] at H
                                          exact absurd H (by simp)
                                    · rw [if_neg c62] at H
                                      exact absurd H (by simp)
                                  · replace c61 := Bool.eq_false_iff.mpr c61
                                    subst c61
                                    have H1 : (if 2 < (x9_27.length : Int) then (clock_Parse.j5 kj50 t104 x9_27 (decide ((rd x9_27 2) > 59))) else (none)) = some (r1, r2) := by rw [if_neg (show ¬ (false = true) by decide)] at H; exact H
                                    clear H
                                    have H := H1
                                    clear H1
                                    by_cases c67 : 2 < (x9_27.length : Int)
                                    · rw [if_pos c67] at H
                                      have c67b0 : decide (2 < (x9_27.length : Int)) = true := decide_eq_true c67
                                      have c67b1 : decide (2 < x9_27.length) = true := decide_eq_true (by omega)
                                      clear c67
                                      have H' := Aside0.mk H
                                      clear H
                                      obtain ⟨Ao68, co68, eo68⟩ := Kd.R_slice HO_9.out
                                      subst eo68
                                      have p140 : 0 ≤ (0 : Int) := (by omega)
                                      have q140 : 0 < (x9_27.length : Int) := of_decide_eq_true (by first | (with_reducible assumption) | assumption)
                                      obtain ⟨ad140, e140, hx140_0⟩ := Kd.at_int (Kd.R_reads' HO_9.out).2.2 0 p140 q140
                                      cases e140
                                      have qi140 : (0 < x9_27.length) = True := eq_true (by omega)
                                      (try rw [show ((0 : Int)).toNat = 0 from rfl] at hx140_0)
                                      (try rw [Addr.add_zero'] at hx140_0)
                                      replace p140 := eq_true p140
                                      replace q140 := eq_true q140
                                      have p143 : 0 ≤ (2 : Int) := (by omega)
                                      have q143 : 2 < (x9_27.length : Int) := of_decide_eq_true (by first | (with_reducible assumption) | assumption)
                                      obtain ⟨ad143, e143, hx143_0⟩ := Kd.at_int (Kd.R_reads' HO_9.out).2.2 2 p143 q143
                                      obtain rfl : ad140 = ad143 := (by injection e143)
                                      (try simp only [show (2 : Int).toNat = 2 from rfl, Nat.reduceMul, Nat.reduceEqDiff, Go.Addr.add, ↓reduceIte] at hx143_0)
                                      have qi143 : (2 < x9_27.length) = True := eq_true (by omega)
                                      (try rw [show ((2 : Int)).toNat = 2 from rfl] at hx143_0)
                                      replace p143 := eq_true p143
                                      replace q143 := eq_true q143
                                      go_wp2
                                      go_meet
                                      case rel => exact ⟨_, (decide ((rd x9_27 2) > 59)), (by first | rfl | (simp; done) | (simp [*]; done)), H', ⟨by have := HJ2.out; have := HK2.out; have := HJ23.out; have := HJ27.out; have := HJ50.out; first | omega | exact Nat.le_refl _⟩, ⟨by (with_reducible repeat (first | apply Kd.R_alloc | apply Kd.R_drewN | apply Kd.R_drew)); exact HO_9.out⟩, ⟨by repeat (first | (with_reducible first | exact HB.out | apply below_alloc | apply pw_below_drewN | apply below_drew1) | exact HB.out)⟩⟩
                                    · rw [if_neg c67] at H
                                      exact absurd H (by simp)
                              · rw [if_neg c58] at H
                                exact absurd H (by simp)
                            · replace c57 := Bool.eq_false_iff.mpr c57
                              subst c57
                              have H1 : (if x14_50 = true then (if 1 < (x9_27.length : Int) then (if (rd x9_27 1) > 59 then (clock_Parse.j5 kj50 t104 x9_27 true) else (if 2 < (x9_27.length : Int) then (clock_Parse.j5 kj50 t104 x9_27 (decide ((rd x9_27 2) > 59))) else (none))) else (none)) else (if 2 < (x9_27.length : Int) then (clock_Parse.j5 kj50 t104 x9_27 (decide ((rd x9_27 2) > 59))) else (none))) = some (r1, r2) := by rw [if_neg (show ¬ (false = true) by decide)] at H; exact H
                              clear H
                              have H := H1
                              clear H1
                              by_cases c69 : x14_50 = true
                              · subst c69
                                have H1 : (if 1 < (x9_27.length : Int) then (if (rd x9_27 1) > 59 then (clock_Parse.j5 kj50 t104 x9_27 true) else (if 2 < (x9_27.length : Int) then (clock_Parse.j5 kj50 t104 x9_27 (decide ((rd x9_27 2) > 59))) else (none))) else (none)) = some (r1, r2) := by rw [if_pos rfl] at H; exact H
                                clear H
                                have H := H1
                                clear H1
                                by_cases c70 : 1 < (x9_27.length : Int)
                                · rw [if_pos c70] at H
                                  have c70b0 : decide (1 < (x9_27.length : Int)) = true := decide_eq_true c70
                                  have c70b1 : decide (1 < x9_27.length) = true := decide_eq_true (by omega)
                                  clear c70
                                  by_cases c71 : (rd x9_27 1) > 59
                                  · rw [if_pos c71] at H
                                    have c71b0 : decide (59 < (rd x9_27 1)) = true := decide_eq_true c71
                                    clear c71
                                    have H' := Aside0.mk H
                                    clear H
                                    obtain ⟨Ao72, co72, eo72⟩ := Kd.R_slice HO_9.out
                                    subst eo72
                                    have p144 : 0 ≤ (1 : Int) := (by omega)
                                    have q144 : 1 < (x9_27.length : Int) := of_decide_eq_true (by first | (with_reducible assumption) | assumption)
                                    obtain ⟨ad144, e144, hx144_0⟩ := Kd.at_int (Kd.R_reads' HO_9.out).2.2 1 p144 q144
                                    cases e144
                                    (try simp only [show (1 : Int).toNat = 1 from rfl, Nat.reduceMul, Nat.reduceEqDiff, Go.Addr.add, ↓reduceIte] at hx144_0)
                                    have qi144 : (1 < x9_27.length) = True := eq_true (by omega)
                                    (try rw [show ((1 : Int)).toNat = 1 from rfl] at hx144_0)
                                    replace p144 := eq_true p144
                                    replace q144 := eq_true q144
                                    go_wp2
                                    go_meet
                                    case rel => exact ⟨_, (true), (by first | rfl | (simp; done) | (simp [*]; done)), H', ⟨by have := HJ2.out; have := HK2.out; have := HJ23.out; have := HJ27.out; have := HJ50.out; first | omega | exact Nat.le_refl _⟩, ⟨by (with_reducible repeat (first | apply Kd.R_alloc | apply Kd.R_drewN | apply Kd.R_drew)); exact HO_9.out⟩, ⟨by repeat (first | (with_reducible first | exact HB.out | apply below_alloc | apply pw_below_drewN | apply below_drew1) | exact HB.out)⟩⟩
                                  · rw [if_neg c71] at H
                                    have c71b0 : decide (59 < (rd x9_27 1)) = false := decide_eq_false c71
                                    clear c71
                                    by_cases c73 : 2 < (x9_27.length : Int)
                                    · rw [if_pos c73] at H
                                      have c73b0 : decide (2 < (x9_27.length : Int)) = true := decide_eq_true c73
                                      have c73b1 : decide (2 < x9_27.length) = true := decide_eq_true (by omega)
                                      clear c73
                                      have H' := Aside0.mk H
                                      clear H
                                      obtain ⟨Ao74, co74, eo74⟩ := Kd.R_slice HO_9.out
                                      subst eo74
                                      have p144 : 0 ≤ (1 : Int) := (by omega)
                                      have q144 : 1 < (x9_27.length : Int) := of_decide_eq_true (by first | (with_reducible assumption) | assumption)
                                      obtain ⟨ad144, e144, hx144_0⟩ := Kd.at_int (Kd.R_reads' HO_9.out).2.2 1 p144 q144
                                      cases e144
                                      (try simp only [show (1 : Int).toNat = 1 from rfl, Nat.reduceMul, Nat.reduceEqDiff, Go.Addr.add, ↓reduceIte] at hx144_0)
                                      have qi144 : (1 < x9_27.length) = True := eq_true (by omega)
                                      (try rw [show ((1 : Int)).toNat = 1 from rfl] at hx144_0)
                                      replace p144 := eq_true p144
                                      replace q144 := eq_true q144
                                      have p145 : 0 ≤ (2 : Int) := (by omega)
                                      have q145 : 2 < (x9_27.length : Int) := of_decide_eq_true (by first | (with_reducible assumption) | assumption)
                                      obtain ⟨ad145, e145, hx145_0⟩ := Kd.at_int (Kd.R_reads' HO_9.out).2.2 2 p145 q145
                                      obtain rfl : ad144 = ad145 := (by injection e145)
                                      (try simp only [show (2 : Int).toNat = 2 from rfl, Nat.reduceMul, Nat.reduceEqDiff, Go.Addr.add, ↓reduceIte] at hx145_0)
                                      have qi145 : (2 < x9_27.length) = True := eq_true (by omega)
                                      (try rw [show ((2 : Int)).toNat = 2 from rfl] at hx145_0)
                                      replace p145 := eq_true p145
                                      replace q145 := eq_true q145
                                      go_wp2
                                      go_meet
                                      case rel => exact ⟨_, (decide ((rd x9_27 2) > 59)), (by first | rfl | (simp; done) | (simp [*]; done)), H', ⟨by have := HJ2.out; have := HK2.out; have := HJ23.out; have := HJ27.out; have := HJ50.out; first | omega | exact Nat.le_refl _⟩, ⟨by (with_reducible repeat (first | apply Kd.R_alloc | apply Kd.R_drewN | apply Kd.R_drew)); exact HO_9.out⟩, ⟨by repeat (first | (with_reducible first | exact HB.out | apply below_alloc | apply pw_below_drewN | apply below_drew1) | exact HB.out)⟩⟩
                                    · rw [if_neg c73] at H
                                      exact absurd H (by simp)
                                · rw [if_neg c70] at H
                                  exact absurd H (by simp)
                              · replace c69 := Bool.eq_false_iff.mpr c69
                                subst c69
                                have H1 : (if 2 < (x9_27.length : Int) then (clock_Parse.j5 kj50 t104 x9_27 (decide ((rd x9_27 2) > 59))) else (none)) = some (r1, r2) := by rw [if_neg (show ¬ (false = true) by decide)] at H; exact H
                                clear H
                                have H := H1
                                clear H1
                                by_cases c75 : 2 < (x9_27.length : Int)
                                · rw [if_pos c75] at H
                                  have c75b0 : decide (2 < (x9_27.length : Int)) = true := decide_eq_true c75
                                  have c75b1 : decide (2 < x9_27.length) = true := decide_eq_true (by omega)
                                  clear c75
                                  have H' := Aside0.mk H
                                  clear H
                                  obtain ⟨Ao76, co76, eo76⟩ := Kd.R_slice HO_9.out
                                  subst eo76
                                  have p146 : 0 ≤ (2 : Int) := (by omega)
                                  have q146 : 2 < (x9_27.length : Int) := of_decide_eq_true (by first | (with_reducible assumption) | assumption)
                                  obtain ⟨ad146, e146, hx146_0⟩ := Kd.at_int (Kd.R_reads' HO_9.out).2.2 2 p146 q146
                                  cases e146
                                  (try simp only [show (2 : Int).toNat = 2 from rfl, Nat.reduceMul, Nat.reduceEqDiff, Go.Addr.add, ↓reduceIte] at hx146_0)
                                  have qi146 : (2 < x9_27.length) = True := eq_true (by omega)
                                  (try rw [show ((2 : Int)).toNat = 2 from rfl] at hx146_0)
                                  replace p146 := eq_true p146
                                  replace q146 := eq_true q146
                                  go_wp2
                                  go_meet
                                  case rel => exact ⟨_, (decide ((rd x9_27 2) > 59)), (by first | rfl | (simp; done) | (simp [*]; done)), H', ⟨by have := HJ2.out; have := HK2.out; have := HJ23.out; have := HJ27.out; have := HJ50.out; first | omega | exact Nat.le_refl _⟩, ⟨by (with_reducible repeat (first | apply Kd.R_alloc | apply Kd.R_drewN | apply Kd.R_drew)); exact HO_9.out⟩, ⟨by repeat (first | (with_reducible first | exact HB.out | apply below_alloc | apply pw_below_drewN | apply below_drew1) | exact HB.out)⟩⟩
                                · rw [if_neg c75] at H
                                  exact absurd H (by simp)
                          case rest =>
                            clear HC56
                            try clear c1
                            try clear p1
                            try clear q1
                            try clear hx1
                            try clear qi1
                            try clear c2
                            try clear p2
                            try clear c3
                            try clear q3
                            try clear c4
                            try clear c5
                            try clear c6
                            try clear p6
                            try clear c7
                            try clear c11
                            try clear p11
                            try clear q11
                            try clear hx11
                            try clear c13
                            try clear c13b0
                            try clear p13
                            try clear q13
                            try clear hx13
                            try clear qi13
                            try clear c14
                            try clear c14b0
                            try clear p14
                            try clear q14
                            try clear hx14
                            try clear qi14
                            try clear c15
                            try clear c15b0
                            try clear c17
                            try clear c18
                            try clear c19
                            try clear c20
                            try clear c21
                            try clear c25
                            try clear c27
                            try clear c29
                            try clear c30
                            try clear c31
                            try clear c31b0
                            try clear c31b1
                            try clear q37
                            try clear c38
                            try clear c38b0
                            try clear c38b1
                            try clear c39
                            try clear c39b0
                            try clear c39b1
                            try clear c43
                            try clear c43b0
                            try clear c43b1
                            try clear c44
                            try clear c44b0
                            try clear c44b1
                            try clear c45
                            try clear c45b0
                            try clear c45b1
                            try clear c53
                            try clear c53b0
                            try clear c53b1
                            try clear c57
                            try clear c58
                            try clear c58b0
                            try clear c58b1
                            try clear c59
                            try clear c59b0
                            try clear c61
                            try clear c62
                            try clear c62b0
                            try clear c62b1
                            try clear c63
                            try clear c63b0
                            try clear c65
                            try clear c65b0
                            try clear c65b1
                            try clear c67
                            try clear c67b0
                            try clear c67b1
                            try clear c69
                            try clear c70
                            try clear c70b0
                            try clear c70b1
                            try clear c71
                            try clear c71b0
                            try clear c73
                            try clear c73b0
                            try clear c73b1
                            try clear c75
                            try clear c75b0
                            try clear c75b1
                            try clear hx112_0
                            try clear hx130_0
                            try clear hx134_0
                            try clear hx135_0
                            try clear hx140_0
                            try clear hx141_0
                            try clear hx142_0
                            try clear hx143_0
                            try clear hx144_0
                            try clear hx145_0
                            try clear hx146_0
                            try clear p1
                            try clear p11
                            try clear p112
                            try clear p13
                            try clear p130
                            try clear p134
                            try clear p135
                            try clear p140
                            try clear p141
                            try clear p142
                            try clear p143
                            try clear p144
                            try clear p145
                            try clear p146
                            try clear p2
                            try clear p6
                            try clear q1
                            try clear q11
                            try clear q112
                            try clear q13
                            try clear q130
                            try clear q134
                            try clear q135
                            try clear q140
                            try clear q141
                            try clear q142
                            try clear q143
                            try clear q144
                            try clear q145
                            try clear q146
                            try clear q3
                            try clear q37
                            obtain ⟨kq, x111_55, rfl, HA, HJ55, HO_9, HB⟩ := hcut
                            cases kq with
                            | zero => exact absurd HA.out (by simp [clock_Parse.j5])
                            | succ kj55 =>
                              have H := HA.out
                              clear HA
                              simp only [clock_Parse.j5] at H
                              by_cases c77 : x111_55 = true
                              · subst c77
                                have H1 : (some (0, 2)) = some (r1, r2) := by rw [if_pos rfl] at H; exact H
                                clear H
                                have H := H1
                                clear H1
                                simp only [Option.some.injEq, Prod.mk.injEq] at H
                                obtain ⟨rfl, rfl⟩ := H
                                go_wp2
                                go_ret2
                                exact ⟨by first | rfl | (simp [errW_none, errW_some] <;> rfl) | (simp [*, errW_none, errW_some] <;> rfl), by repeat (first | (with_reducible first | exact HB.out | apply below_alloc | apply pw_below_drewN | apply below_drew1) | exact HB.out)⟩
                              · replace c77 := Bool.eq_false_iff.mpr c77
                                subst c77
                                have H1 : (if 0 < (x9_27.length : Int) then (if 1 < (x9_27.length : Int) then (if 2 < (x9_27.length : Int) then (if (wrap64 ((wrap64 ((wrap64 ((wrap64 (86400 * t104)) + (wrap64 (3600 * (rd x9_27 0))))) + (wrap64 (60 * (rd x9_27 1))))) + (rd x9_27 2))) < 1 then (some (0, 2)) else (if (wrap64 ((wrap64 ((wrap64 ((wrap64 (86400 * t104)) + (wrap64 (3600 * (rd x9_27 0))))) + (wrap64 (60 * (rd x9_27 1))))) + (rd x9_27 2))) > 1073741824 then (some (0, 2)) else (some (wrap64 ((wrap64 ((wrap64 ((wrap64 (86400 * t104)) + (wrap64 (3600 * (rd x9_27 0))))) + (wrap64 (60 * (rd x9_27 1))))) + (rd x9_27 2)), 0)))) else (none)) else (none)) else (none)) = some (r1, r2) := by rw [if_neg (show ¬ (false = true) by decide)] at H; exact H
                                clear H
                                have H := H1
                                clear H1
                                by_cases c78 : 0 < (x9_27.length : Int)
                                · rw [if_pos c78] at H
                                  have c78b0 : decide (0 < (x9_27.length : Int)) = true := decide_eq_true c78
                                  have c78b1 : decide (0 < x9_27.length) = true := decide_eq_true (by omega)
                                  clear c78
                                  by_cases c79 : 1 < (x9_27.length : Int)
                                  · rw [if_pos c79] at H
                                    have c79b0 : decide (1 < (x9_27.length : Int)) = true := decide_eq_true c79
                                    have c79b1 : decide (1 < x9_27.length) = true := decide_eq_true (by omega)
                                    clear c79
                                    by_cases c80 : 2 < (x9_27.length : Int)
                                    · rw [if_pos c80] at H
                                      have c80b0 : decide (2 < (x9_27.length : Int)) = true := decide_eq_true c80
                                      have c80b1 : decide (2 < x9_27.length) = true := decide_eq_true (by omega)
                                      clear c80
                                      by_cases c81 : (wrap64 ((wrap64 ((wrap64 ((wrap64 (86400 * t104)) + (wrap64 (3600 * (rd x9_27 0))))) + (wrap64 (60 * (rd x9_27 1))))) + (rd x9_27 2))) < 1
                                      · rw [if_pos c81] at H
                                        have c81b0 : decide ((wrap64 ((wrap64 ((wrap64 ((wrap64 (86400 * t104)) + (wrap64 (3600 * (rd x9_27 0))))) + (wrap64 (60 * (rd x9_27 1))))) + (rd x9_27 2))) < 1) = true := decide_eq_true c81
                                        clear c81
                                        simp only [Option.some.injEq, Prod.mk.injEq] at H
                                        obtain ⟨rfl, rfl⟩ := H
                                        try go_wp2
                                        have n0_ := Aside0.mk (Kd.R_drew HO_9.out)
                                        have n1_ := Aside0.mk (below_drew1 HB.out)
                                        clear HO_9
                                        clear HB
                                        have HO_9 := n0_
                                        have HB := n1_
                                        clear n0_ n1_
                                        obtain ⟨Ao83, co83, eo83⟩ := Kd.R_slice HO_9.out
                                        (first | subst eo83 | (injection eo83 with f1_ f2_ f3_; have f4_ := f1_.symm; have f5_ := f3_.symm; clear f1_ f2_ f3_; subst f4_; subst f5_))
                                        have p147 : 0 ≤ (0 : Int) := (by omega)
                                        have q147 : 0 < (x9_27.length : Int) := of_decide_eq_true (by first | (with_reducible assumption) | assumption)
                                        obtain ⟨ad147, e147, hx147_0⟩ := Kd.at_int (Kd.R_reads' HO_9.out).2.2 0 p147 q147
                                        cases e147
                                        have qi147 : (0 < x9_27.length) = True := eq_true (by omega)
                                        (try rw [show ((0 : Int)).toNat = 0 from rfl] at hx147_0)
                                        (try rw [Addr.add_zero'] at hx147_0)
                                        replace p147 := eq_true p147
                                        replace q147 := eq_true q147
                                        have p148 : 0 ≤ (1 : Int) := (by omega)
                                        have q148 : 1 < (x9_27.length : Int) := of_decide_eq_true (by first | (with_reducible assumption) | assumption)
                                        obtain ⟨ad148, e148, hx148_0⟩ := Kd.at_int (Kd.R_reads' HO_9.out).2.2 1 p148 q148
                                        obtain rfl : ad147 = ad148 := (by injection e148)
                                        (try simp only [show (1 : Int).toNat = 1 from rfl, Nat.reduceMul, Nat.reduceEqDiff, Go.Addr.add, ↓reduceIte] at hx148_0)
                                        have qi148 : (1 < x9_27.length) = True := eq_true (by omega)
                                        (try rw [show ((1 : Int)).toNat = 1 from rfl] at hx148_0)
                                        replace p148 := eq_true p148
                                        replace q148 := eq_true q148
                                        have p149 : 0 ≤ (2 : Int) := (by omega)
                                        have q149 : 2 < (x9_27.length : Int) := of_decide_eq_true (by first | (with_reducible assumption) | assumption)
                                        obtain ⟨ad149, e149, hx149_0⟩ := Kd.at_int (Kd.R_reads' HO_9.out).2.2 2 p149 q149
                                        obtain rfl : ad147 = ad149 := (by injection e149)
                                        (try simp only [show (2 : Int).toNat = 2 from rfl, Nat.reduceMul, Nat.reduceEqDiff, Go.Addr.add, ↓reduceIte] at hx149_0)
                                        have qi149 : (2 < x9_27.length) = True := eq_true (by omega)
                                        (try rw [show ((2 : Int)).toNat = 2 from rfl] at hx149_0)
                                        replace p149 := eq_true p149
                                        replace q149 := eq_true q149
                                        refine start_ (n := 17) (S := fun w' => w'.cell? ad147 = some (.int .i64 (rd x9_27 0)) ∧ w'.cell? ⟨ad147.block, ad147.off + 1, none⟩ = some (.int .i64 (rd x9_27 1)) ∧ w'.cell? ⟨ad147.block, ad147.off + 2, none⟩ = some (.int .i64 (rd x9_27 2))) (ds := []) #[false, false, false, false, false, false, false, false, false, false, false, false, false, false, false, false, false] (by kernel_rfl) rfl rfl ⟨hx147_0, hx148_0, hx149_0⟩ (fun hHeld => ?_); refine with_tabW clock_Parse.tab24 clock_Parse.bits24 (fun HT_ HW_ => ?_)
                                        generalize wc.drew = w82 at HO_9 HB hx147_0 hx148_0 hx149_0 hHeld ⊢
                                        refine pure_ (i := 0) (N := some 112) (v := ?_) (a' := ?_) #[true, false, false, false, false, false, false, false, false, false, false, false, false, false, false, false, false] rfl rfl (any_of HT_.out (by kernel_rfl)) (fun _ _ _ h => h) (Or.inl ⟨by rfl, ?_⟩) ?_ ?_
                                        rotate_left
                                        · intro w'
                                          go_simp
                                          with_reducible rfl
                                        rotate_left
                                        · simp only [Act.put, List.setIfInBounds_toArray, List.set_cons_zero, List.set_cons_succ, i64_w, i32_w]
                                          rfl
                                        refine pure_ (i := 1) (N := some 113) (v := ?_) (a' := ?_) #[true, true, false, false, false, false, false, false, false, false, false, false, false, false, false, false, false] rfl rfl (any_of HT_.out (by kernel_rfl)) (fun _ _ _ h => h) (Or.inl ⟨by rfl, ?_⟩) ?_ ?_
                                        rotate_left
                                        · intro w'
                                          go_simp
                                          with_reducible rfl
                                        rotate_left
                                        · simp only [Act.put, List.setIfInBounds_toArray, List.set_cons_zero, List.set_cons_succ, i64_w, i32_w]
                                          rfl
                                        refine pure_ (i := 2) (N := some 114) (v := ?_) (a' := ?_) #[true, true, true, false, false, false, false, false, false, false, false, false, false, false, false, false, false] rfl rfl (any_of HT_.out (by kernel_rfl)) (fun _ _ _ h => h) (Or.inl ⟨by rfl, ?_⟩) ?_ ?_
                                        rotate_left
                                        · intro w'
                                          go_simp
                                          with_reducible rfl
                                        rotate_left
                                        · simp only [Act.put, List.setIfInBounds_toArray, List.set_cons_zero, List.set_cons_succ, i64_w, i32_w]
                                          rfl
                                        refine pure_ (i := 3) (N := some 115) (v := ?_) (a' := ?_) #[true, true, true, true, false, false, false, false, false, false, false, false, false, false, false, false, false] rfl rfl (any_of HT_.out (by kernel_rfl)) (fun _ _ _ h => h) (Or.inl ⟨by rfl, ?_⟩) ?_ ?_
                                        rotate_left
                                        · intro w'
                                          go_simp
                                          with_reducible rfl
                                        rotate_left
                                        · simp only [Act.put, List.setIfInBounds_toArray, List.set_cons_zero, List.set_cons_succ, i64_w, i32_w]
                                          rfl
                                        refine pure_ (i := 7) (N := some 119) (v := ?_) (a' := ?_) #[true, true, true, true, false, false, false, true, false, false, false, false, false, false, false, false, false] rfl rfl (any_of HT_.out (by kernel_rfl)) (fun _ _ _ h => h) (Or.inl ⟨by rfl, ?_⟩) ?_ ?_
                                        rotate_left
                                        · intro w'
                                          go_simp
                                          with_reducible rfl
                                        rotate_left
                                        · simp only [Act.put, List.setIfInBounds_toArray, List.set_cons_zero, List.set_cons_succ, i64_w, i32_w]
                                          rfl
                                        refine pure_ (i := 8) (N := some 120) (v := ?_) (a' := ?_) #[true, true, true, true, false, false, false, true, true, false, false, false, false, false, false, false, false] rfl rfl (any_of HT_.out (by kernel_rfl)) (fun _ _ _ h => h) (Or.inl ⟨by rfl, ?_⟩) ?_ ?_
                                        rotate_left
                                        · intro w'
                                          go_simp
                                          with_reducible rfl
                                        rotate_left
                                        · simp only [Act.put, List.setIfInBounds_toArray, List.set_cons_zero, List.set_cons_succ, i64_w, i32_w]
                                          rfl
                                        refine pure_ (i := 12) (N := some 124) (v := ?_) (a' := ?_) #[true, true, true, true, false, false, false, true, true, false, false, false, true, false, false, false, false] rfl rfl (any_of HT_.out (by kernel_rfl)) (fun _ _ _ h => h) (Or.inl ⟨by rfl, ?_⟩) ?_ ?_
                                        rotate_left
                                        · intro w'
                                          go_simp
                                          with_reducible rfl
                                        rotate_left
                                        · simp only [Act.put, List.setIfInBounds_toArray, List.set_cons_zero, List.set_cons_succ, i64_w, i32_w]
                                          rfl
                                        refine pure_ (i := 13) (N := some 125) (v := ?_) (a' := ?_) #[true, true, true, true, false, false, false, true, true, false, false, false, true, true, false, false, false] rfl rfl (any_of HT_.out (by kernel_rfl)) (fun _ _ _ h => h) (Or.inl ⟨by rfl, ?_⟩) ?_ ?_
                                        rotate_left
                                        · intro w'
                                          go_simp
                                          with_reducible rfl
                                        rotate_left
                                        · simp only [Act.put, List.setIfInBounds_toArray, List.set_cons_zero, List.set_cons_succ, i64_w, i32_w]
                                          rfl
                                        refine take_ (i := 4) (N := some 116) (v := ?_) (a' := ?_) #[true, true, true, true, true, false, false, true, true, false, false, false, true, true, false, false, false] rfl rfl (take_ofW HT_.out HW_.out (by kernel_rfl)) (fun _ _ _ h => h) (Or.inl ⟨by rfl, ?_⟩) hHeld ?_ ?_
                                        rotate_left
                                        · rintro w' ⟨s0, s1, s2⟩
                                          go_simp
                                          with_reducible rfl
                                        rotate_left
                                        · simp only [Act.put, List.setIfInBounds_toArray, List.set_cons_zero, List.set_cons_succ, i64_w, i32_w]
                                          rfl
                                        refine pure_ (i := 5) (N := some 117) (v := ?_) (a' := ?_) #[true, true, true, true, true, true, false, true, true, false, false, false, true, true, false, false, false] rfl rfl (any_of HT_.out (by kernel_rfl)) (fun _ _ _ h => h) (Or.inl ⟨by rfl, ?_⟩) ?_ ?_
                                        rotate_left
                                        · intro w'
                                          go_simp
                                          with_reducible rfl
                                        rotate_left
                                        · simp only [Act.put, List.setIfInBounds_toArray, List.set_cons_zero, List.set_cons_succ, i64_w, i32_w]
                                          rfl
                                        refine pure_ (i := 6) (N := some 118) (v := ?_) (a' := ?_) #[true, true, true, true, true, true, true, true, true, false, false, false, true, true, false, false, false] rfl rfl (any_of HT_.out (by kernel_rfl)) (fun _ _ _ h => h) (Or.inl ⟨by rfl, ?_⟩) ?_ ?_
                                        rotate_left
                                        · intro w'
                                          go_simp
                                          with_reducible rfl
                                        rotate_left
                                        · simp only [Act.put, List.setIfInBounds_toArray, List.set_cons_zero, List.set_cons_succ, i64_w, i32_w]
                                          rfl
                                        refine take_ (i := 9) (N := some 121) (v := ?_) (a' := ?_) #[true, true, true, true, true, true, true, true, true, true, false, false, true, true, false, false, false] rfl rfl (take_ofW HT_.out HW_.out (by kernel_rfl)) (fun _ _ _ h => h) (Or.inl ⟨by rfl, ?_⟩) hHeld ?_ ?_
                                        rotate_left
                                        · rintro w' ⟨s0, s1, s2⟩
                                          go_simp
                                          with_reducible rfl
                                        rotate_left
                                        · simp only [Act.put, List.setIfInBounds_toArray, List.set_cons_zero, List.set_cons_succ, i64_w, i32_w]
                                          rfl
                                        refine pure_ (i := 10) (N := some 122) (v := ?_) (a' := ?_) #[true, true, true, true, true, true, true, true, true, true, true, false, true, true, false, false, false] rfl rfl (any_of HT_.out (by kernel_rfl)) (fun _ _ _ h => h) (Or.inl ⟨by rfl, ?_⟩) ?_ ?_
                                        rotate_left
                                        · intro w'
                                          go_simp
                                          with_reducible rfl
                                        rotate_left
                                        · simp only [Act.put, List.setIfInBounds_toArray, List.set_cons_zero, List.set_cons_succ, i64_w, i32_w]
                                          rfl
                                        refine pure_ (i := 11) (N := some 123) (v := ?_) (a' := ?_) #[true, true, true, true, true, true, true, true, true, true, true, true, true, true, false, false, false] rfl rfl (any_of HT_.out (by kernel_rfl)) (fun _ _ _ h => h) (Or.inl ⟨by rfl, ?_⟩) ?_ ?_
                                        rotate_left
                                        · intro w'
                                          go_simp
                                          with_reducible rfl
                                        rotate_left
                                        · simp only [Act.put, List.setIfInBounds_toArray, List.set_cons_zero, List.set_cons_succ, i64_w, i32_w]
                                          rfl
                                        refine take_ (i := 14) (N := some 126) (v := ?_) (a' := ?_) #[true, true, true, true, true, true, true, true, true, true, true, true, true, true, true, false, false] rfl rfl (take_ofW HT_.out HW_.out (by kernel_rfl)) (fun _ _ _ h => h) (Or.inl ⟨by rfl, ?_⟩) hHeld ?_ ?_
                                        rotate_left
                                        · rintro w' ⟨s0, s1, s2⟩
                                          go_simp
                                          with_reducible rfl
                                        rotate_left
                                        · simp only [Act.put, List.setIfInBounds_toArray, List.set_cons_zero, List.set_cons_succ, i64_w, i32_w]
                                          rfl
                                        refine pure_ (i := 15) (N := some 127) (v := ?_) (a' := ?_) #[true, true, true, true, true, true, true, true, true, true, true, true, true, true, true, true, false] rfl rfl (any_of HT_.out (by kernel_rfl)) (fun _ _ _ h => h) (Or.inl ⟨by rfl, ?_⟩) ?_ ?_
                                        rotate_left
                                        · intro w'
                                          go_simp
                                          with_reducible rfl
                                        rotate_left
                                        · simp only [Act.put, List.setIfInBounds_toArray, List.set_cons_zero, List.set_cons_succ, i64_w, i32_w]
                                          rfl
                                        refine pure_ (i := 16) (N := some 15) (v := ?_) (a' := ?_) #[true, true, true, true, true, true, true, true, true, true, true, true, true, true, true, true, true] rfl rfl (any_of HT_.out (by kernel_rfl)) (fun _ _ _ h => h) (Or.inl ⟨by rfl, ?_⟩) ?_ ?_
                                        rotate_left
                                        · intro w'
                                          go_simp
                                          with_reducible rfl
                                        rotate_left
                                        · simp only [Act.put, List.setIfInBounds_toArray, List.set_cons_zero, List.set_cons_succ, i64_w, i32_w]
                                          rfl
                                        refine done_ (done_of HT_.out (by kernel_rfl)) ?_
                                        try go_wp2
                                        go_ret2
                                        exact ⟨by first | rfl | (simp [errW_none, errW_some] <;> rfl) | (simp [*, errW_none, errW_some] <;> rfl), by repeat (first | (with_reducible first | exact HB.out | apply below_alloc | apply pw_below_drewN | apply below_drew1) | exact HB.out)⟩
                                      · rw [if_neg c81] at H
                                        have c81b0 : decide ((wrap64 ((wrap64 ((wrap64 ((wrap64 (86400 * t104)) + (wrap64 (3600 * (rd x9_27 0))))) + (wrap64 (60 * (rd x9_27 1))))) + (rd x9_27 2))) < 1) = false := decide_eq_false c81
                                        clear c81
                                        by_cases c84 : (wrap64 ((wrap64 ((wrap64 ((wrap64 (86400 * t104)) + (wrap64 (3600 * (rd x9_27 0))))) + (wrap64 (60 * (rd x9_27 1))))) + (rd x9_27 2))) > 1073741824
                                        · rw [if_pos c84] at H
                                          have c84b0 : decide (1073741824 < (wrap64 ((wrap64 ((wrap64 ((wrap64 (86400 * t104)) + (wrap64 (3600 * (rd x9_27 0))))) + (wrap64 (60 * (rd x9_27 1))))) + (rd x9_27 2)))) = true := decide_eq_true c84
                                          clear c84
                                          simp only [Option.some.injEq, Prod.mk.injEq] at H
                                          obtain ⟨rfl, rfl⟩ := H
                                          try go_wp2
                                          have n0_ := Aside0.mk (Kd.R_drew HO_9.out)
                                          have n1_ := Aside0.mk (below_drew1 HB.out)
                                          clear HO_9
                                          clear HB
                                          have HO_9 := n0_
                                          have HB := n1_
                                          clear n0_ n1_
                                          obtain ⟨Ao86, co86, eo86⟩ := Kd.R_slice HO_9.out
                                          (first | subst eo86 | (injection eo86 with f1_ f2_ f3_; have f4_ := f1_.symm; have f5_ := f3_.symm; clear f1_ f2_ f3_; subst f4_; subst f5_))
                                          have p147 : 0 ≤ (0 : Int) := (by omega)
                                          have q147 : 0 < (x9_27.length : Int) := of_decide_eq_true (by first | (with_reducible assumption) | assumption)
                                          obtain ⟨ad147, e147, hx147_0⟩ := Kd.at_int (Kd.R_reads' HO_9.out).2.2 0 p147 q147
                                          cases e147
                                          have qi147 : (0 < x9_27.length) = True := eq_true (by omega)
                                          (try rw [show ((0 : Int)).toNat = 0 from rfl] at hx147_0)
                                          (try rw [Addr.add_zero'] at hx147_0)
                                          replace p147 := eq_true p147
                                          replace q147 := eq_true q147
                                          have p148 : 0 ≤ (1 : Int) := (by omega)
                                          have q148 : 1 < (x9_27.length : Int) := of_decide_eq_true (by first | (with_reducible assumption) | assumption)
                                          obtain ⟨ad148, e148, hx148_0⟩ := Kd.at_int (Kd.R_reads' HO_9.out).2.2 1 p148 q148
                                          obtain rfl : ad147 = ad148 := (by injection e148)
                                          (try simp only [show (1 : Int).toNat = 1 from rfl, Nat.reduceMul, Nat.reduceEqDiff, Go.Addr.add, ↓reduceIte] at hx148_0)
                                          have qi148 : (1 < x9_27.length) = True := eq_true (by omega)
                                          (try rw [show ((1 : Int)).toNat = 1 from rfl] at hx148_0)
                                          replace p148 := eq_true p148
                                          replace q148 := eq_true q148
                                          have p149 : 0 ≤ (2 : Int) := (by omega)
                                          have q149 : 2 < (x9_27.length : Int) := of_decide_eq_true (by first | (with_reducible assumption) | assumption)
                                          obtain ⟨ad149, e149, hx149_0⟩ := Kd.at_int (Kd.R_reads' HO_9.out).2.2 2 p149 q149
                                          obtain rfl : ad147 = ad149 := (by injection e149)
                                          (try simp only [show (2 : Int).toNat = 2 from rfl, Nat.reduceMul, Nat.reduceEqDiff, Go.Addr.add, ↓reduceIte] at hx149_0)
                                          have qi149 : (2 < x9_27.length) = True := eq_true (by omega)
                                          (try rw [show ((2 : Int)).toNat = 2 from rfl] at hx149_0)
                                          replace p149 := eq_true p149
                                          replace q149 := eq_true q149
                                          refine start_ (n := 17) (S := fun w' => w'.cell? ad147 = some (.int .i64 (rd x9_27 0)) ∧ w'.cell? ⟨ad147.block, ad147.off + 1, none⟩ = some (.int .i64 (rd x9_27 1)) ∧ w'.cell? ⟨ad147.block, ad147.off + 2, none⟩ = some (.int .i64 (rd x9_27 2))) (ds := []) #[false, false, false, false, false, false, false, false, false, false, false, false, false, false, false, false, false] (by kernel_rfl) rfl rfl ⟨hx147_0, hx148_0, hx149_0⟩ (fun hHeld => ?_); refine with_tabW clock_Parse.tab24 clock_Parse.bits24 (fun HT_ HW_ => ?_)
                                          generalize wc.drew = w85 at HO_9 HB hx147_0 hx148_0 hx149_0 hHeld ⊢
                                          refine pure_ (i := 0) (N := some 112) (v := ?_) (a' := ?_) #[true, false, false, false, false, false, false, false, false, false, false, false, false, false, false, false, false] rfl rfl (any_of HT_.out (by kernel_rfl)) (fun _ _ _ h => h) (Or.inl ⟨by rfl, ?_⟩) ?_ ?_
                                          rotate_left
                                          · intro w'
                                            go_simp
                                            with_reducible rfl
                                          rotate_left
                                          · simp only [Act.put, List.setIfInBounds_toArray, List.set_cons_zero, List.set_cons_succ, i64_w, i32_w]
                                            rfl
                                          refine pure_ (i := 1) (N := some 113) (v := ?_) (a' := ?_) #[true, true, false, false, false, false, false, false, false, false, false, false, false, false, false, false, false] rfl rfl (any_of HT_.out (by kernel_rfl)) (fun _ _ _ h => h) (Or.inl ⟨by rfl, ?_⟩) ?_ ?_
                                          rotate_left
                                          · intro w'
                                            go_simp
                                            with_reducible rfl
                                          rotate_left
                                          · simp only [Act.put, List.setIfInBounds_toArray, List.set_cons_zero, List.set_cons_succ, i64_w, i32_w]
                                            rfl
                                          refine pure_ (i := 2) (N := some 114) (v := ?_) (a' := ?_) #[true, true, true, false, false, false, false, false, false, false, false, false, false, false, false, false, false] rfl rfl (any_of HT_.out (by kernel_rfl)) (fun _ _ _ h => h) (Or.inl ⟨by rfl, ?_⟩) ?_ ?_
                                          rotate_left
                                          · intro w'
                                            go_simp
                                            with_reducible rfl
                                          rotate_left
                                          · simp only [Act.put, List.setIfInBounds_toArray, List.set_cons_zero, List.set_cons_succ, i64_w, i32_w]
                                            rfl
                                          refine pure_ (i := 3) (N := some 115) (v := ?_) (a' := ?_) #[true, true, true, true, false, false, false, false, false, false, false, false, false, false, false, false, false] rfl rfl (any_of HT_.out (by kernel_rfl)) (fun _ _ _ h => h) (Or.inl ⟨by rfl, ?_⟩) ?_ ?_
                                          rotate_left
                                          · intro w'
                                            go_simp
                                            with_reducible rfl
                                          rotate_left
                                          · simp only [Act.put, List.setIfInBounds_toArray, List.set_cons_zero, List.set_cons_succ, i64_w, i32_w]
                                            rfl
                                          refine pure_ (i := 7) (N := some 119) (v := ?_) (a' := ?_) #[true, true, true, true, false, false, false, true, false, false, false, false, false, false, false, false, false] rfl rfl (any_of HT_.out (by kernel_rfl)) (fun _ _ _ h => h) (Or.inl ⟨by rfl, ?_⟩) ?_ ?_
                                          rotate_left
                                          · intro w'
                                            go_simp
                                            with_reducible rfl
                                          rotate_left
                                          · simp only [Act.put, List.setIfInBounds_toArray, List.set_cons_zero, List.set_cons_succ, i64_w, i32_w]
                                            rfl
                                          refine pure_ (i := 8) (N := some 120) (v := ?_) (a' := ?_) #[true, true, true, true, false, false, false, true, true, false, false, false, false, false, false, false, false] rfl rfl (any_of HT_.out (by kernel_rfl)) (fun _ _ _ h => h) (Or.inl ⟨by rfl, ?_⟩) ?_ ?_
                                          rotate_left
                                          · intro w'
                                            go_simp
                                            with_reducible rfl
                                          rotate_left
                                          · simp only [Act.put, List.setIfInBounds_toArray, List.set_cons_zero, List.set_cons_succ, i64_w, i32_w]
                                            rfl
                                          refine pure_ (i := 12) (N := some 124) (v := ?_) (a' := ?_) #[true, true, true, true, false, false, false, true, true, false, false, false, true, false, false, false, false] rfl rfl (any_of HT_.out (by kernel_rfl)) (fun _ _ _ h => h) (Or.inl ⟨by rfl, ?_⟩) ?_ ?_
                                          rotate_left
                                          · intro w'
                                            go_simp
                                            with_reducible rfl
                                          rotate_left
                                          · simp only [Act.put, List.setIfInBounds_toArray, List.set_cons_zero, List.set_cons_succ, i64_w, i32_w]
                                            rfl
                                          refine pure_ (i := 13) (N := some 125) (v := ?_) (a' := ?_) #[true, true, true, true, false, false, false, true, true, false, false, false, true, true, false, false, false] rfl rfl (any_of HT_.out (by kernel_rfl)) (fun _ _ _ h => h) (Or.inl ⟨by rfl, ?_⟩) ?_ ?_
                                          rotate_left
                                          · intro w'
                                            go_simp
                                            with_reducible rfl
                                          rotate_left
                                          · simp only [Act.put, List.setIfInBounds_toArray, List.set_cons_zero, List.set_cons_succ, i64_w, i32_w]
                                            rfl
                                          refine take_ (i := 4) (N := some 116) (v := ?_) (a' := ?_) #[true, true, true, true, true, false, false, true, true, false, false, false, true, true, false, false, false] rfl rfl (take_ofW HT_.out HW_.out (by kernel_rfl)) (fun _ _ _ h => h) (Or.inl ⟨by rfl, ?_⟩) hHeld ?_ ?_
                                          rotate_left
                                          · rintro w' ⟨s0, s1, s2⟩
                                            go_simp
                                            with_reducible rfl
                                          rotate_left
                                          · simp only [Act.put, List.setIfInBounds_toArray, List.set_cons_zero, List.set_cons_succ, i64_w, i32_w]
                                            rfl
                                          refine pure_ (i := 5) (N := some 117) (v := ?_) (a' := ?_) #[true, true, true, true, true, true, false, true, true, false, false, false, true, true, false, false, false] rfl rfl (any_of HT_.out (by kernel_rfl)) (fun _ _ _ h => h) (Or.inl ⟨by rfl, ?_⟩) ?_ ?_
                                          rotate_left
                                          · intro w'
                                            go_simp
                                            with_reducible rfl
                                          rotate_left
                                          · simp only [Act.put, List.setIfInBounds_toArray, List.set_cons_zero, List.set_cons_succ, i64_w, i32_w]
                                            rfl
                                          refine pure_ (i := 6) (N := some 118) (v := ?_) (a' := ?_) #[true, true, true, true, true, true, true, true, true, false, false, false, true, true, false, false, false] rfl rfl (any_of HT_.out (by kernel_rfl)) (fun _ _ _ h => h) (Or.inl ⟨by rfl, ?_⟩) ?_ ?_
                                          rotate_left
                                          · intro w'
                                            go_simp
                                            with_reducible rfl
                                          rotate_left
                                          · simp only [Act.put, List.setIfInBounds_toArray, List.set_cons_zero, List.set_cons_succ, i64_w, i32_w]
                                            rfl
                                          refine take_ (i := 9) (N := some 121) (v := ?_) (a' := ?_) #[true, true, true, true, true, true, true, true, true, true, false, false, true, true, false, false, false] rfl rfl (take_ofW HT_.out HW_.out (by kernel_rfl)) (fun _ _ _ h => h) (Or.inl ⟨by rfl, ?_⟩) hHeld ?_ ?_
                                          rotate_left
                                          · rintro w' ⟨s0, s1, s2⟩
                                            go_simp
                                            with_reducible rfl
                                          rotate_left
                                          · simp only [Act.put, List.setIfInBounds_toArray, List.set_cons_zero, List.set_cons_succ, i64_w, i32_w]
                                            rfl
                                          refine pure_ (i := 10) (N := some 122) (v := ?_) (a' := ?_) #[true, true, true, true, true, true, true, true, true, true, true, false, true, true, false, false, false] rfl rfl (any_of HT_.out (by kernel_rfl)) (fun _ _ _ h => h) (Or.inl ⟨by rfl, ?_⟩) ?_ ?_
                                          rotate_left
                                          · intro w'
                                            go_simp
                                            with_reducible rfl
                                          rotate_left
                                          · simp only [Act.put, List.setIfInBounds_toArray, List.set_cons_zero, List.set_cons_succ, i64_w, i32_w]
                                            rfl
                                          refine pure_ (i := 11) (N := some 123) (v := ?_) (a' := ?_) #[true, true, true, true, true, true, true, true, true, true, true, true, true, true, false, false, false] rfl rfl (any_of HT_.out (by kernel_rfl)) (fun _ _ _ h => h) (Or.inl ⟨by rfl, ?_⟩) ?_ ?_
                                          rotate_left
                                          · intro w'
                                            go_simp
                                            with_reducible rfl
                                          rotate_left
                                          · simp only [Act.put, List.setIfInBounds_toArray, List.set_cons_zero, List.set_cons_succ, i64_w, i32_w]
                                            rfl
                                          refine take_ (i := 14) (N := some 126) (v := ?_) (a' := ?_) #[true, true, true, true, true, true, true, true, true, true, true, true, true, true, true, false, false] rfl rfl (take_ofW HT_.out HW_.out (by kernel_rfl)) (fun _ _ _ h => h) (Or.inl ⟨by rfl, ?_⟩) hHeld ?_ ?_
                                          rotate_left
                                          · rintro w' ⟨s0, s1, s2⟩
                                            go_simp
                                            with_reducible rfl
                                          rotate_left
                                          · simp only [Act.put, List.setIfInBounds_toArray, List.set_cons_zero, List.set_cons_succ, i64_w, i32_w]
                                            rfl
                                          refine pure_ (i := 15) (N := some 127) (v := ?_) (a' := ?_) #[true, true, true, true, true, true, true, true, true, true, true, true, true, true, true, true, false] rfl rfl (any_of HT_.out (by kernel_rfl)) (fun _ _ _ h => h) (Or.inl ⟨by rfl, ?_⟩) ?_ ?_
                                          rotate_left
                                          · intro w'
                                            go_simp
                                            with_reducible rfl
                                          rotate_left
                                          · simp only [Act.put, List.setIfInBounds_toArray, List.set_cons_zero, List.set_cons_succ, i64_w, i32_w]
                                            rfl
                                          refine pure_ (i := 16) (N := some 15) (v := ?_) (a' := ?_) #[true, true, true, true, true, true, true, true, true, true, true, true, true, true, true, true, true] rfl rfl (any_of HT_.out (by kernel_rfl)) (fun _ _ _ h => h) (Or.inl ⟨by rfl, ?_⟩) ?_ ?_
                                          rotate_left
                                          · intro w'
                                            go_simp
                                            with_reducible rfl
                                          rotate_left
                                          · simp only [Act.put, List.setIfInBounds_toArray, List.set_cons_zero, List.set_cons_succ, i64_w, i32_w]
                                            rfl
                                          refine done_ (done_of HT_.out (by kernel_rfl)) ?_
                                          try go_wp2
                                          go_ret2
                                          exact ⟨by first | rfl | (simp [errW_none, errW_some] <;> rfl) | (simp [*, errW_none, errW_some] <;> rfl), by repeat (first | (with_reducible first | exact HB.out | apply below_alloc | apply pw_below_drewN | apply below_drew1) | exact HB.out)⟩
                                        · rw [if_neg c84] at H
                                          have c84b0 : decide (1073741824 < (wrap64 ((wrap64 ((wrap64 ((wrap64 (86400 * t104)) + (wrap64 (3600 * (rd x9_27 0))))) + (wrap64 (60 * (rd x9_27 1))))) + (rd x9_27 2)))) = false := decide_eq_false c84
                                          clear c84
                                          simp only [Option.some.injEq, Prod.mk.injEq] at H
                                          obtain ⟨rfl, rfl⟩ := H
                                          try go_wp2
                                          have n0_ := Aside0.mk (Kd.R_drew HO_9.out)
                                          have n1_ := Aside0.mk (below_drew1 HB.out)
                                          clear HO_9
                                          clear HB
                                          have HO_9 := n0_
                                          have HB := n1_
                                          clear n0_ n1_
                                          obtain ⟨Ao88, co88, eo88⟩ := Kd.R_slice HO_9.out
                                          (first | subst eo88 | (injection eo88 with f1_ f2_ f3_; have f4_ := f1_.symm; have f5_ := f3_.symm; clear f1_ f2_ f3_; subst f4_; subst f5_))
                                          have p147 : 0 ≤ (0 : Int) := (by omega)
                                          have q147 : 0 < (x9_27.length : Int) := of_decide_eq_true (by first | (with_reducible assumption) | assumption)
                                          obtain ⟨ad147, e147, hx147_0⟩ := Kd.at_int (Kd.R_reads' HO_9.out).2.2 0 p147 q147
                                          cases e147
                                          have qi147 : (0 < x9_27.length) = True := eq_true (by omega)
                                          (try rw [show ((0 : Int)).toNat = 0 from rfl] at hx147_0)
                                          (try rw [Addr.add_zero'] at hx147_0)
                                          replace p147 := eq_true p147
                                          replace q147 := eq_true q147
                                          have p148 : 0 ≤ (1 : Int) := (by omega)
                                          have q148 : 1 < (x9_27.length : Int) := of_decide_eq_true (by first | (with_reducible assumption) | assumption)
                                          obtain ⟨ad148, e148, hx148_0⟩ := Kd.at_int (Kd.R_reads' HO_9.out).2.2 1 p148 q148
                                          obtain rfl : ad147 = ad148 := (by injection e148)
                                          (try simp only [show (1 : Int).toNat = 1 from rfl, Nat.reduceMul, Nat.reduceEqDiff, Go.Addr.add, ↓reduceIte] at hx148_0)
                                          have qi148 : (1 < x9_27.length) = True := eq_true (by omega)
                                          (try rw [show ((1 : Int)).toNat = 1 from rfl] at hx148_0)
                                          replace p148 := eq_true p148
                                          replace q148 := eq_true q148
                                          have p149 : 0 ≤ (2 : Int) := (by omega)
                                          have q149 : 2 < (x9_27.length : Int) := of_decide_eq_true (by first | (with_reducible assumption) | assumption)
                                          obtain ⟨ad149, e149, hx149_0⟩ := Kd.at_int (Kd.R_reads' HO_9.out).2.2 2 p149 q149
                                          obtain rfl : ad147 = ad149 := (by injection e149)
                                          (try simp only [show (2 : Int).toNat = 2 from rfl, Nat.reduceMul, Nat.reduceEqDiff, Go.Addr.add, ↓reduceIte] at hx149_0)
                                          have qi149 : (2 < x9_27.length) = True := eq_true (by omega)
                                          (try rw [show ((2 : Int)).toNat = 2 from rfl] at hx149_0)
                                          replace p149 := eq_true p149
                                          replace q149 := eq_true q149
                                          refine start_ (n := 17) (S := fun w' => w'.cell? ad147 = some (.int .i64 (rd x9_27 0)) ∧ w'.cell? ⟨ad147.block, ad147.off + 1, none⟩ = some (.int .i64 (rd x9_27 1)) ∧ w'.cell? ⟨ad147.block, ad147.off + 2, none⟩ = some (.int .i64 (rd x9_27 2))) (ds := []) #[false, false, false, false, false, false, false, false, false, false, false, false, false, false, false, false, false] (by kernel_rfl) rfl rfl ⟨hx147_0, hx148_0, hx149_0⟩ (fun hHeld => ?_); refine with_tabW clock_Parse.tab24 clock_Parse.bits24 (fun HT_ HW_ => ?_)
                                          generalize wc.drew = w87 at HO_9 HB hx147_0 hx148_0 hx149_0 hHeld ⊢
                                          refine pure_ (i := 0) (N := some 112) (v := ?_) (a' := ?_) #[true, false, false, false, false, false, false, false, false, false, false, false, false, false, false, false, false] rfl rfl (any_of HT_.out (by kernel_rfl)) (fun _ _ _ h => h) (Or.inl ⟨by rfl, ?_⟩) ?_ ?_
                                          rotate_left
                                          · intro w'
                                            go_simp
                                            with_reducible rfl
                                          rotate_left
                                          · simp only [Act.put, List.setIfInBounds_toArray, List.set_cons_zero, List.set_cons_succ, i64_w, i32_w]
                                            rfl
                                          refine pure_ (i := 1) (N := some 113) (v := ?_) (a' := ?_) #[true, true, false, false, false, false, false, false, false, false, false, false, false, false, false, false, false] rfl rfl (any_of HT_.out (by kernel_rfl)) (fun _ _ _ h => h) (Or.inl ⟨by rfl, ?_⟩) ?_ ?_
                                          rotate_left
                                          · intro w'
                                            go_simp
                                            with_reducible rfl
                                          rotate_left
                                          · simp only [Act.put, List.setIfInBounds_toArray, List.set_cons_zero, List.set_cons_succ, i64_w, i32_w]
                                            rfl
                                          refine pure_ (i := 2) (N := some 114) (v := ?_) (a' := ?_) #[true, true, true, false, false, false, false, false, false, false, false, false, false, false, false, false, false] rfl rfl (any_of HT_.out (by kernel_rfl)) (fun _ _ _ h => h) (Or.inl ⟨by rfl, ?_⟩) ?_ ?_
                                          rotate_left
                                          · intro w'
                                            go_simp
                                            with_reducible rfl
                                          rotate_left
                                          · simp only [Act.put, List.setIfInBounds_toArray, List.set_cons_zero, List.set_cons_succ, i64_w, i32_w]
                                            rfl
                                          refine pure_ (i := 3) (N := some 115) (v := ?_) (a' := ?_) #[true, true, true, true, false, false, false, false, false, false, false, false, false, false, false, false, false] rfl rfl (any_of HT_.out (by kernel_rfl)) (fun _ _ _ h => h) (Or.inl ⟨by rfl, ?_⟩) ?_ ?_
                                          rotate_left
                                          · intro w'
                                            go_simp
                                            with_reducible rfl
                                          rotate_left
                                          · simp only [Act.put, List.setIfInBounds_toArray, List.set_cons_zero, List.set_cons_succ, i64_w, i32_w]
                                            rfl
                                          refine pure_ (i := 7) (N := some 119) (v := ?_) (a' := ?_) #[true, true, true, true, false, false, false, true, false, false, false, false, false, false, false, false, false] rfl rfl (any_of HT_.out (by kernel_rfl)) (fun _ _ _ h => h) (Or.inl ⟨by rfl, ?_⟩) ?_ ?_
                                          rotate_left
                                          · intro w'
                                            go_simp
                                            with_reducible rfl
                                          rotate_left
                                          · simp only [Act.put, List.setIfInBounds_toArray, List.set_cons_zero, List.set_cons_succ, i64_w, i32_w]
                                            rfl
                                          refine pure_ (i := 8) (N := some 120) (v := ?_) (a' := ?_) #[true, true, true, true, false, false, false, true, true, false, false, false, false, false, false, false, false] rfl rfl (any_of HT_.out (by kernel_rfl)) (fun _ _ _ h => h) (Or.inl ⟨by rfl, ?_⟩) ?_ ?_
                                          rotate_left
                                          · intro w'
                                            go_simp
                                            with_reducible rfl
                                          rotate_left
                                          · simp only [Act.put, List.setIfInBounds_toArray, List.set_cons_zero, List.set_cons_succ, i64_w, i32_w]
                                            rfl
                                          refine pure_ (i := 12) (N := some 124) (v := ?_) (a' := ?_) #[true, true, true, true, false, false, false, true, true, false, false, false, true, false, false, false, false] rfl rfl (any_of HT_.out (by kernel_rfl)) (fun _ _ _ h => h) (Or.inl ⟨by rfl, ?_⟩) ?_ ?_
                                          rotate_left
                                          · intro w'
                                            go_simp
                                            with_reducible rfl
                                          rotate_left
                                          · simp only [Act.put, List.setIfInBounds_toArray, List.set_cons_zero, List.set_cons_succ, i64_w, i32_w]
                                            rfl
                                          refine pure_ (i := 13) (N := some 125) (v := ?_) (a' := ?_) #[true, true, true, true, false, false, false, true, true, false, false, false, true, true, false, false, false] rfl rfl (any_of HT_.out (by kernel_rfl)) (fun _ _ _ h => h) (Or.inl ⟨by rfl, ?_⟩) ?_ ?_
                                          rotate_left
                                          · intro w'
                                            go_simp
                                            with_reducible rfl
                                          rotate_left
                                          · simp only [Act.put, List.setIfInBounds_toArray, List.set_cons_zero, List.set_cons_succ, i64_w, i32_w]
                                            rfl
                                          refine take_ (i := 4) (N := some 116) (v := ?_) (a' := ?_) #[true, true, true, true, true, false, false, true, true, false, false, false, true, true, false, false, false] rfl rfl (take_ofW HT_.out HW_.out (by kernel_rfl)) (fun _ _ _ h => h) (Or.inl ⟨by rfl, ?_⟩) hHeld ?_ ?_
                                          rotate_left
                                          · rintro w' ⟨s0, s1, s2⟩
                                            go_simp
                                            with_reducible rfl
                                          rotate_left
                                          · simp only [Act.put, List.setIfInBounds_toArray, List.set_cons_zero, List.set_cons_succ, i64_w, i32_w]
                                            rfl
                                          refine pure_ (i := 5) (N := some 117) (v := ?_) (a' := ?_) #[true, true, true, true, true, true, false, true, true, false, false, false, true, true, false, false, false] rfl rfl (any_of HT_.out (by kernel_rfl)) (fun _ _ _ h => h) (Or.inl ⟨by rfl, ?_⟩) ?_ ?_
                                          rotate_left
                                          · intro w'
                                            go_simp
                                            with_reducible rfl
                                          rotate_left
                                          · simp only [Act.put, List.setIfInBounds_toArray, List.set_cons_zero, List.set_cons_succ, i64_w, i32_w]
                                            rfl
                                          refine pure_ (i := 6) (N := some 118) (v := ?_) (a' := ?_) #[true, true, true, true, true, true, true, true, true, false, false, false, true, true, false, false, false] rfl rfl (any_of HT_.out (by kernel_rfl)) (fun _ _ _ h => h) (Or.inl ⟨by rfl, ?_⟩) ?_ ?_
                                          rotate_left
                                          · intro w'
                                            go_simp
                                            with_reducible rfl
                                          rotate_left
                                          · simp only [Act.put, List.setIfInBounds_toArray, List.set_cons_zero, List.set_cons_succ, i64_w, i32_w]
                                            rfl
                                          refine take_ (i := 9) (N := some 121) (v := ?_) (a' := ?_) #[true, true, true, true, true, true, true, true, true, true, false, false, true, true, false, false, false] rfl rfl (take_ofW HT_.out HW_.out (by kernel_rfl)) (fun _ _ _ h => h) (Or.inl ⟨by rfl, ?_⟩) hHeld ?_ ?_
                                          rotate_left
                                          · rintro w' ⟨s0, s1, s2⟩
                                            go_simp
                                            with_reducible rfl
                                          rotate_left
                                          · simp only [Act.put, List.setIfInBounds_toArray, List.set_cons_zero, List.set_cons_succ, i64_w, i32_w]
                                            rfl
                                          refine pure_ (i := 10) (N := some 122) (v := ?_) (a' := ?_) #[true, true, true, true, true, true, true, true, true, true, true, false, true, true, false, false, false] rfl rfl (any_of HT_.out (by kernel_rfl)) (fun _ _ _ h => h) (Or.inl ⟨by rfl, ?_⟩) ?_ ?_
                                          rotate_left
                                          · intro w'
                                            go_simp
                                            with_reducible rfl
                                          rotate_left
                                          · simp only [Act.put, List.setIfInBounds_toArray, List.set_cons_zero, List.set_cons_succ, i64_w, i32_w]
                                            rfl
                                          refine pure_ (i := 11) (N := some 123) (v := ?_) (a' := ?_) #[true, true, true, true, true, true, true, true, true, true, true, true, true, true, false, false, false] rfl rfl (any_of HT_.out (by kernel_rfl)) (fun _ _ _ h => h) (Or.inl ⟨by rfl, ?_⟩) ?_ ?_
                                          rotate_left
                                          · intro w'
                                            go_simp
                                            with_reducible rfl
                                          rotate_left
                                          · simp only [Act.put, List.setIfInBounds_toArray, List.set_cons_zero, List.set_cons_succ, i64_w, i32_w]
                                            rfl
                                          refine take_ (i := 14) (N := some 126) (v := ?_) (a' := ?_) #[true, true, true, true, true, true, true, true, true, true, true, true, true, true, true, false, false] rfl rfl (take_ofW HT_.out HW_.out (by kernel_rfl)) (fun _ _ _ h => h) (Or.inl ⟨by rfl, ?_⟩) hHeld ?_ ?_
                                          rotate_left
                                          · rintro w' ⟨s0, s1, s2⟩
                                            go_simp
                                            with_reducible rfl
                                          rotate_left
                                          · simp only [Act.put, List.setIfInBounds_toArray, List.set_cons_zero, List.set_cons_succ, i64_w, i32_w]
                                            rfl
                                          refine pure_ (i := 15) (N := some 127) (v := ?_) (a' := ?_) #[true, true, true, true, true, true, true, true, true, true, true, true, true, true, true, true, false] rfl rfl (any_of HT_.out (by kernel_rfl)) (fun _ _ _ h => h) (Or.inl ⟨by rfl, ?_⟩) ?_ ?_
                                          rotate_left
                                          · intro w'
                                            go_simp
                                            with_reducible rfl
                                          rotate_left
                                          · simp only [Act.put, List.setIfInBounds_toArray, List.set_cons_zero, List.set_cons_succ, i64_w, i32_w]
                                            rfl
                                          refine pure_ (i := 16) (N := some 15) (v := ?_) (a' := ?_) #[true, true, true, true, true, true, true, true, true, true, true, true, true, true, true, true, true] rfl rfl (any_of HT_.out (by kernel_rfl)) (fun _ _ _ h => h) (Or.inl ⟨by rfl, ?_⟩) ?_ ?_
                                          rotate_left
                                          · intro w'
                                            go_simp
                                            with_reducible rfl
                                          rotate_left
                                          · simp only [Act.put, List.setIfInBounds_toArray, List.set_cons_zero, List.set_cons_succ, i64_w, i32_w]
                                            rfl
                                          refine done_ (done_of HT_.out (by kernel_rfl)) ?_
                                          try go_wp2
                                          go_ret2
                                          exact ⟨by first | rfl | (simp [errW_none, errW_some] <;> rfl) | (simp [*, errW_none, errW_some] <;> rfl), by repeat (first | (with_reducible first | exact HB.out | apply below_alloc | apply pw_below_drewN | apply below_drew1) | exact HB.out)⟩
                                    · rw [if_neg c80] at H
                                      exact absurd H (by simp)
                                  · rw [if_neg c79] at H
                                    exact absurd H (by simp)
                                · rw [if_neg c78] at H
                                  exact absurd H (by simp)

end Go.Proofs.YtjgfdilikbeofaaDoor.P
