/- The machine's side of the laws of this seat: each function's plain form and its contract, written by a program of this session out of Lean's print of the loaded functions; no condition beyond what each statement says. -/
import Derived.Test.YtpkococfmohmiaaDoorP0
import Derived.Test.YtpkococfmohmiaaDoorP2
import Derived.Test.YtpkococfmohmiaaDoorP3
import Derived.Test.YtpkococfmohmiaaDoorP4
import Derived.Test.YtpkococfmohmiaaDoorP11
namespace Go.Proofs.YtpkococfmohmiaaDoor.P
open Go.RowKit Go.Proofs.YtpkococfmohmiaaDoorW.PrintWords Go.Proofs.YtpkococfmohmiaaDoorW.PrintLast Go.Proofs.YtpkococfmohmiaaDoorW.PrintMore
attribute [local go_sem] max2_int min2_int max_two min_two max_three min_three max_four min_four   -- for this text's walks alone
set_option linter.unusedVariables false
set_option linter.unusedSimpArgs false

attribute [local go_sem] isSome_setCell
/-! ### gangerlaw06_IndexesJoins: function 6 -/
mutual
def gangerlaw06_IndexesJoins.j0 : Nat → ByteArray → ByteArray → Bool → Option (Bool)
  | 0, _, _, _ => none
  | k + 1, x0, x1, x25 => if x25 = true then ((gangerlaw06_known.f k).bind fun t301 => (some t301)) else ((indexes_Parse.f x0).bind fun bt302 => ((indexes_Parse.f x1).bind fun bt309 => (if bt302.2.2.2 = 0 then (if bt309.2.2.2 = 0 then (if bt302.2.1 > 0 then (gangerlaw06_IndexesJoins.j1 k x0 x1 true bt302.1 bt302.2.1 bt309.1 bt309.2.1) else (gangerlaw06_IndexesJoins.j1 k x0 x1 (decide (bt309.2.1 > 0)) bt302.1 bt302.2.1 bt309.1 bt309.2.1)) else (gangerlaw06_IndexesJoins.j1 k x0 x1 true bt302.1 bt302.2.1 bt309.1 bt309.2.1)) else (gangerlaw06_IndexesJoins.j1 k x0 x1 true bt302.1 bt302.2.1 bt309.1 bt309.2.1))))
def gangerlaw06_IndexesJoins.j1 : Nat → ByteArray → ByteArray → Bool → List Int → Int → List Int → Int → Option (Bool)
  | 0, _, _, _, _, _, _, _ => none
  | k + 1, x0, x1, x54, x309000, x309001, x316000, x316001 => if x54 = true then ((gangerlaw06_known.f k).bind fun t316 => (some t316)) else (if x0.size + 1 ≤ 9223372036854775807 then (if (x0 ++ (⟨#[44]⟩ : ByteArray)).size + x1.size ≤ 9223372036854775807 then ((indexes_Parse.f ((x0 ++ (⟨#[44]⟩ : ByteArray)) ++ x1)).bind fun bt317 => (if x1.size + 1 ≤ 9223372036854775807 then (if (x1 ++ (⟨#[44]⟩ : ByteArray)).size + x0.size ≤ 9223372036854775807 then ((indexes_Parse.f ((x1 ++ (⟨#[44]⟩ : ByteArray)) ++ x0)).bind fun bt324 => (if bt317.2.2.2 = 0 then (if bt324.2.2.2 = 0 then ((gangerref06_Same.f k bt317.1 bt317.2.1 bt324.1 bt324.2.1).bind fun t331 => (gangerlaw06_IndexesJoins.j2 k (!t331) x309000 x309001 x316000 x316001 bt317.1 bt317.2.1)) else (gangerlaw06_IndexesJoins.j2 k true x309000 x309001 x316000 x316001 bt317.1 bt317.2.1)) else (gangerlaw06_IndexesJoins.j2 k true x309000 x309001 x316000 x316001 bt317.1 bt317.2.1))) else (none)) else (none))) else (none)) else (none))
def gangerlaw06_IndexesJoins.j2 : Nat → Bool → List Int → Int → List Int → Int → List Int → Int → Option (Bool)
  | 0, _, _, _, _, _, _, _ => none
  | k + 1, x85, x309000, x309001, x316000, x316001, x324000, x324001 => if x85 = true then (none) else (gangerlaw06_IndexesJoins.l0 k 0 x309000 x309001 x316000 x316001 x324000 x324001)
def gangerlaw06_IndexesJoins.l0 : Nat → Int → List Int → Int → List Int → Int → List Int → Int → Option (Bool)
  | 0, _, _, _, _, _, _, _ => none
  | k + 1, x17, x309000, x309001, x316000, x316001, x324000, x324001 => if x17 ≤ 1000 then ((gangerlaw06_has.f k x324000 x324001 x17).bind fun t333 => ((gangerlaw06_has.f k x309000 x309001 x17).bind fun t334 => (if t334 = true then (if (t333 != true) = true then (none) else (gangerlaw06_IndexesJoins.l0 k (wrap64 (x17 + 1)) x309000 x309001 x316000 x316001 x324000 x324001)) else ((gangerlaw06_has.f k x316000 x316001 x17).bind fun t335 => (if (t333 != t335) = true then (none) else (gangerlaw06_IndexesJoins.l0 k (wrap64 (x17 + 1)) x309000 x309001 x316000 x316001 x324000 x324001)))))) else ((gangerlaw06_known.f k).bind fun t332 => (some t332))
end
def gangerlaw06_IndexesJoins.f (k : Nat) (a0 : ByteArray) (a1 : ByteArray) : Option (Bool) := if (a0.size : Int) > 300 then (gangerlaw06_IndexesJoins.j0 k a0 a1 true) else (gangerlaw06_IndexesJoins.j0 k a0 a1 (decide ((a1.size : Int) > 300)))
theorem gangerlaw06_IndexesJoins.mono_l : ∀ k, (∀ y0 y1 y2, LeO (gangerlaw06_IndexesJoins.j0 k y0 y1 y2) (gangerlaw06_IndexesJoins.j0 (k + 1) y0 y1 y2)) ∧ (∀ y0 y1 y2 y3 y4 y5 y6, LeO (gangerlaw06_IndexesJoins.j1 k y0 y1 y2 y3 y4 y5 y6) (gangerlaw06_IndexesJoins.j1 (k + 1) y0 y1 y2 y3 y4 y5 y6)) ∧ (∀ y0 y1 y2 y3 y4 y5 y6, LeO (gangerlaw06_IndexesJoins.j2 k y0 y1 y2 y3 y4 y5 y6) (gangerlaw06_IndexesJoins.j2 (k + 1) y0 y1 y2 y3 y4 y5 y6)) ∧ (∀ y0 y1 y2 y3 y4 y5 y6, LeO (gangerlaw06_IndexesJoins.l0 k y0 y1 y2 y3 y4 y5 y6) (gangerlaw06_IndexesJoins.l0 (k + 1) y0 y1 y2 y3 y4 y5 y6))
  | 0 => ⟨fun _ _ _ r h => by simp [gangerlaw06_IndexesJoins.j0] at h, fun _ _ _ _ _ _ _ r h => by simp [gangerlaw06_IndexesJoins.j1] at h, fun _ _ _ _ _ _ _ r h => by simp [gangerlaw06_IndexesJoins.j2] at h, fun _ _ _ _ _ _ _ r h => by simp [gangerlaw06_IndexesJoins.l0] at h⟩
  | k + 1 => by
    obtain ⟨ih0, ih1, ih2, ih3⟩ := gangerlaw06_IndexesJoins.mono_l k
    refine ⟨?_, ?_, ?_, ?_⟩
    · intro y0 y1 y2
      unfold gangerlaw06_IndexesJoins.j0
      repeat' first
      | (with_reducible exact ih0 _ _ _)
      | (with_reducible exact ih1 _ _ _ _ _ _ _)
      | (with_reducible exact ih2 _ _ _ _ _ _ _)
      | (with_reducible exact ih3 _ _ _ _ _ _ _)
      | (with_reducible exact gangerlaw06_has.mono _ _ _ _)
      | (with_reducible exact gangerlaw06_known.mono _)
      | (with_reducible exact gangerref06_Same.mono _ _ _ _ _)
      | (with_reducible exact LeO.refl _)
      | (with_reducible exact LeO.none _)
      | (with_reducible refine LeO.ite ?_ ?_)
      | (with_reducible refine LeO.bind ?_ (fun _ => ?_))
      | exact ih0 _ _ _
      | exact ih1 _ _ _ _ _ _ _
      | exact ih2 _ _ _ _ _ _ _
      | exact ih3 _ _ _ _ _ _ _
      | exact gangerlaw06_has.mono _ _ _ _
      | exact gangerlaw06_known.mono _
      | exact gangerref06_Same.mono _ _ _ _ _
      | exact LeO.none _
      | refine LeO.ite ?_ ?_
      | refine LeO.bind ?_ (fun _ => ?_)
    · intro y0 y1 y2 y3 y4 y5 y6
      unfold gangerlaw06_IndexesJoins.j1
      repeat' first
      | (with_reducible exact ih0 _ _ _)
      | (with_reducible exact ih1 _ _ _ _ _ _ _)
      | (with_reducible exact ih2 _ _ _ _ _ _ _)
      | (with_reducible exact ih3 _ _ _ _ _ _ _)
      | (with_reducible exact gangerlaw06_has.mono _ _ _ _)
      | (with_reducible exact gangerlaw06_known.mono _)
      | (with_reducible exact gangerref06_Same.mono _ _ _ _ _)
      | (with_reducible exact LeO.refl _)
      | (with_reducible exact LeO.none _)
      | (with_reducible refine LeO.ite ?_ ?_)
      | (with_reducible refine LeO.bind ?_ (fun _ => ?_))
      | exact ih0 _ _ _
      | exact ih1 _ _ _ _ _ _ _
      | exact ih2 _ _ _ _ _ _ _
      | exact ih3 _ _ _ _ _ _ _
      | exact gangerlaw06_has.mono _ _ _ _
      | exact gangerlaw06_known.mono _
      | exact gangerref06_Same.mono _ _ _ _ _
      | exact LeO.none _
      | refine LeO.ite ?_ ?_
      | refine LeO.bind ?_ (fun _ => ?_)
    · intro y0 y1 y2 y3 y4 y5 y6
      unfold gangerlaw06_IndexesJoins.j2
      repeat' first
      | (with_reducible exact ih0 _ _ _)
      | (with_reducible exact ih1 _ _ _ _ _ _ _)
      | (with_reducible exact ih2 _ _ _ _ _ _ _)
      | (with_reducible exact ih3 _ _ _ _ _ _ _)
      | (with_reducible exact gangerlaw06_has.mono _ _ _ _)
      | (with_reducible exact gangerlaw06_known.mono _)
      | (with_reducible exact gangerref06_Same.mono _ _ _ _ _)
      | (with_reducible exact LeO.refl _)
      | (with_reducible exact LeO.none _)
      | (with_reducible refine LeO.ite ?_ ?_)
      | (with_reducible refine LeO.bind ?_ (fun _ => ?_))
      | exact ih0 _ _ _
      | exact ih1 _ _ _ _ _ _ _
      | exact ih2 _ _ _ _ _ _ _
      | exact ih3 _ _ _ _ _ _ _
      | exact gangerlaw06_has.mono _ _ _ _
      | exact gangerlaw06_known.mono _
      | exact gangerref06_Same.mono _ _ _ _ _
      | exact LeO.none _
      | refine LeO.ite ?_ ?_
      | refine LeO.bind ?_ (fun _ => ?_)
    · intro y0 y1 y2 y3 y4 y5 y6
      unfold gangerlaw06_IndexesJoins.l0
      repeat' first
      | (with_reducible exact ih0 _ _ _)
      | (with_reducible exact ih1 _ _ _ _ _ _ _)
      | (with_reducible exact ih2 _ _ _ _ _ _ _)
      | (with_reducible exact ih3 _ _ _ _ _ _ _)
      | (with_reducible exact gangerlaw06_has.mono _ _ _ _)
      | (with_reducible exact gangerlaw06_known.mono _)
      | (with_reducible exact gangerref06_Same.mono _ _ _ _ _)
      | (with_reducible exact LeO.refl _)
      | (with_reducible exact LeO.none _)
      | (with_reducible refine LeO.ite ?_ ?_)
      | (with_reducible refine LeO.bind ?_ (fun _ => ?_))
      | exact ih0 _ _ _
      | exact ih1 _ _ _ _ _ _ _
      | exact ih2 _ _ _ _ _ _ _
      | exact ih3 _ _ _ _ _ _ _
      | exact gangerlaw06_has.mono _ _ _ _
      | exact gangerlaw06_known.mono _
      | exact gangerref06_Same.mono _ _ _ _ _
      | exact LeO.none _
      | refine LeO.ite ?_ ?_
      | refine LeO.bind ?_ (fun _ => ?_)
theorem gangerlaw06_IndexesJoins.mono : ∀ a0 a1 k, LeO (gangerlaw06_IndexesJoins.f k a0 a1) (gangerlaw06_IndexesJoins.f (k + 1) a0 a1) := by
  intro a0 a1 k
  obtain ⟨ih0, ih1, ih2, ih3⟩ := gangerlaw06_IndexesJoins.mono_l k
  unfold gangerlaw06_IndexesJoins.f
  repeat' first
      | (with_reducible exact ih0 _ _ _)
      | (with_reducible exact ih1 _ _ _ _ _ _ _)
      | (with_reducible exact ih2 _ _ _ _ _ _ _)
      | (with_reducible exact ih3 _ _ _ _ _ _ _)
      | (with_reducible exact gangerlaw06_has.mono _ _ _ _)
      | (with_reducible exact gangerlaw06_known.mono _)
      | (with_reducible exact gangerref06_Same.mono _ _ _ _ _)
      | (with_reducible exact LeO.refl _)
      | (with_reducible exact LeO.none _)
      | (with_reducible refine LeO.ite ?_ ?_)
      | (with_reducible refine LeO.bind ?_ (fun _ => ?_))
      | exact ih0 _ _ _
      | exact ih1 _ _ _ _ _ _ _
      | exact ih2 _ _ _ _ _ _ _
      | exact ih3 _ _ _ _ _ _ _
      | exact gangerlaw06_has.mono _ _ _ _
      | exact gangerlaw06_known.mono _
      | exact gangerref06_Same.mono _ _ _ _ _
      | exact LeO.none _
      | refine LeO.ite ?_ ?_
      | refine LeO.bind ?_ (fun _ => ?_)
def gangerlaw06_IndexesJoins.T14 : Bool × List (List Nat × List Nat) := (true, [([], []), ([], []), ([0, 1], [0, 1]), ([], []), ([], []), ([3, 4, 2], [3, 4]), ([5, 5], [5]), ([6], [6]), ([6], [6]), ([7, 8, 6, 6], [6, 7, 8]), ([6, 9], [6, 9]), ([2, 10], [2, 10])])
def gangerlaw06_IndexesJoins.B14 : List Nat := [0, 0, 3, 0, 0, 31, 63, 127, 127, 511, 1023, 2047]
theorem gangerlaw06_IndexesJoins.tab14 : rtab .any (opsOf Tryd.f6 14) = gangerlaw06_IndexesJoins.T14 := by kernel_rfl
theorem gangerlaw06_IndexesJoins.bits14 : waitsOk gangerlaw06_IndexesJoins.T14.2 gangerlaw06_IndexesJoins.B14 = true := by kernel_rfl
set_option maxHeartbeats 8000000 in
set_option maxRecDepth 100000 in
theorem gangerlaw06_IndexesJoins.calls (k : Nat) (a0 : ByteArray) (a1 : ByteArray) (r : Bool) (w : World) (hG : Glob w) (h : gangerlaw06_IndexesJoins.f k a0 a1 = some r) :
    Calls Tryd.prog 6 #[.string a0, .string a1] w fun e w' => e = .returned (.bool r) ∧ Below w.heap.size w w' := by
  have hu25 := Tryd.underlying25
  have HG := Aside0.mk hG
  clear hG
  have HB := Aside0.mk (Below.refl w.heap.size w)
  have H : (if (a0.size : Int) > 300 then (gangerlaw06_IndexesJoins.j0 k a0 a1 true) else (gangerlaw06_IndexesJoins.j0 k a0 a1 (decide ((a1.size : Int) > 300)))) = some r := h
  clear h
  have HC3 := Aside0.mk H
  clear H
  go_enter Tryd.func6, Tryd.ntmps6
  go_upto_region 1 with (fail)
  go_cut [25] (fun v25 wc => ∃ (kq : Nat) (x25_2 : Bool), v25 = .bool x25_2 ∧ Aside0 (gangerlaw06_IndexesJoins.j0 kq a0 a1 x25_2 = some r) ∧ Aside0 (kq ≤ k) ∧ Aside0 (Below w.heap.size w wc))
  case first =>
    have H := HC3.out
    clear HC3
    by_cases c4 : (a0.size : Int) > 300
    · rw [if_pos c4] at H
      have c4b0 : decide (300 < (a0.size : Int)) = true := decide_eq_true c4
      have c4b1 : decide (300 < a0.size) = true := decide_eq_true (by omega)
      clear c4
      (first | rw [c4b0] | (simp only [i64_w, i32_w]; rw [c4b0]) | skip)
      have H' := Aside0.mk H
      clear H
      go_wp2
      go_meet
      case rel => exact ⟨_, (true), (by first | rfl | (simp; done) | (simp [*]; done)), H', ⟨by first | omega | exact Nat.le_refl _⟩, ⟨by repeat (first | (with_reducible first | exact HB.out | apply below_alloc | apply pw_below_drewN | apply below_drew1) | exact HB.out)⟩⟩
    · rw [if_neg c4] at H
      have c4b0 : decide (300 < (a0.size : Int)) = false := decide_eq_false c4
      have c4b1 : decide (300 < a0.size) = false := decide_eq_false (by omega)
      clear c4
      (first | rw [c4b0] | (simp only [i64_w, i32_w]; rw [c4b0]) | skip)
      have H' := Aside0.mk H
      clear H
      go_wp2
      go_meet
      case rel => exact ⟨_, (decide ((a1.size : Int) > 300)), (by first | rfl | (simp; done) | (simp [*]; done)), H', ⟨by first | omega | exact Nat.le_refl _⟩, ⟨by repeat (first | (with_reducible first | exact HB.out | apply below_alloc | apply pw_below_drewN | apply below_drew1) | exact HB.out)⟩⟩
  case rest =>
    clear HC3
    try clear p2
    try clear c4
    try clear c4b0
    try clear c4b1
    obtain ⟨kq, x25_2, rfl, HA, HJ2, HB⟩ := hcut
    cases kq with
    | zero => exact absurd HA.out (by simp [gangerlaw06_IndexesJoins.j0])
    | succ kj2 =>
      have H := HA.out
      clear HA
      simp only [gangerlaw06_IndexesJoins.j0] at H
      by_cases c5 : x25_2 = true
      · subst c5
        have H1 : ((gangerlaw06_known.f kj2).bind fun t301 => (some t301)) = some r := by rw [if_pos rfl] at H; exact H
        clear H
        have H := H1
        clear H1
        replace H := Option.bind_eq_some_iff.mp H
        obtain ⟨t301, A60, H⟩ := H
        replace H : (some t301) = some r := H
        have A6 := Aside0.mk A60
        clear A60
        obtain rfl := Option.some.inj H
        go_wp2_with (first | ((with_reducible refine gate_callee (f := 10) rfl ?_); refine goesL_ (some 26) rfl rfl Tryd.func10 (by kernel_rfl) rfl #[] rfl (by (try simp only [List.map_toArray, List.map_cons, List.map_nil]); first | done | rfl | (simp only [List.length_drop, List.length_take]; rfl)) ?_; (with_reducible refine (gangerlaw06_known.calls kj2  t301 _ ?side1 A6.out).mono ?_); (case side1 => exact Glob.below HG.out (by repeat (first | (with_reducible first | exact HB.out | apply below_alloc | apply pw_below_drewN | apply below_drew1) | exact HB.out))); rintro e w7 ⟨rfl, hb⟩; refine ⟨_, rfl, ?_⟩; have n0_ := Aside0.mk (below_step (by repeat (first | (with_reducible first | exact HB.out | apply below_alloc | apply pw_below_drewN | apply below_drew1) | exact HB.out)) hb); clear HB; have HB := n0_; clear n0_; (try clear hb); (try clear hb2); (try clear hk); (try clear hi)))
        go_ret
        exact ⟨by first | rfl | (simp [errW_none, errW_some] <;> rfl) | (simp [*, errW_none, errW_some] <;> rfl), by repeat (first | (with_reducible first | exact HB.out | apply below_alloc | apply pw_below_drewN | apply below_drew1) | exact HB.out)⟩
      · replace c5 := Bool.eq_false_iff.mpr c5
        subst c5
        have H1 : ((indexes_Parse.f a0).bind fun bt302 => ((indexes_Parse.f a1).bind fun bt309 => (if bt302.2.2.2 = 0 then (if bt309.2.2.2 = 0 then (if bt302.2.1 > 0 then (gangerlaw06_IndexesJoins.j1 kj2 a0 a1 true bt302.1 bt302.2.1 bt309.1 bt309.2.1) else (gangerlaw06_IndexesJoins.j1 kj2 a0 a1 (decide (bt309.2.1 > 0)) bt302.1 bt302.2.1 bt309.1 bt309.2.1)) else (gangerlaw06_IndexesJoins.j1 kj2 a0 a1 true bt302.1 bt302.2.1 bt309.1 bt309.2.1)) else (gangerlaw06_IndexesJoins.j1 kj2 a0 a1 true bt302.1 bt302.2.1 bt309.1 bt309.2.1)))) = some r := by rw [if_neg (show ¬ (false = true) by decide)] at H; exact H
        clear H
        have H := H1
        clear H1
        replace H := Option.bind_eq_some_iff.mp H
        obtain ⟨⟨t302, t305, t306, t307⟩, A80, H⟩ := H
        replace H : ((indexes_Parse.f a1).bind fun bt309 => (if t307 = 0 then (if bt309.2.2.2 = 0 then (if t305 > 0 then (gangerlaw06_IndexesJoins.j1 kj2 a0 a1 true t302 t305 bt309.1 bt309.2.1) else (gangerlaw06_IndexesJoins.j1 kj2 a0 a1 (decide (bt309.2.1 > 0)) t302 t305 bt309.1 bt309.2.1)) else (gangerlaw06_IndexesJoins.j1 kj2 a0 a1 true t302 t305 bt309.1 bt309.2.1)) else (gangerlaw06_IndexesJoins.j1 kj2 a0 a1 true t302 t305 bt309.1 bt309.2.1))) = some r := H
        have A8 := Aside0.mk A80
        clear A80
        replace H := Option.bind_eq_some_iff.mp H
        obtain ⟨⟨t309, t312, t313, t314⟩, A90, H⟩ := H
        replace H : (if t307 = 0 then (if t314 = 0 then (if t305 > 0 then (gangerlaw06_IndexesJoins.j1 kj2 a0 a1 true t302 t305 t309 t312) else (gangerlaw06_IndexesJoins.j1 kj2 a0 a1 (decide (t312 > 0)) t302 t305 t309 t312)) else (gangerlaw06_IndexesJoins.j1 kj2 a0 a1 true t302 t305 t309 t312)) else (gangerlaw06_IndexesJoins.j1 kj2 a0 a1 true t302 t305 t309 t312)) = some r := H
        have A9 := Aside0.mk A90
        clear A90
        have HC10 := Aside0.mk H
        clear H
        go_upto_region 5 with (first | ((with_reducible refine gate_callee (f := 11) rfl ?_); refine goesL_ (some 29) rfl rfl Tryd.func11 (by kernel_rfl) rfl #[.string a0] rfl (by (try simp only [List.map_toArray, List.map_cons, List.map_nil]); first | done | rfl | (simp only [List.length_drop, List.length_take]; rfl)) ?_; (with_reducible refine (indexes_Parse.calls a0 t302 t305 t306 t307 _ A8.out).mono ?_); rintro e w11 ⟨v303, rfl, ho0, hb⟩; refine ⟨_, rfl, ?_⟩; have n0_ := Aside0.mk (Kd.R_lower ho0 (below_size (by repeat (first | (with_reducible first | exact HB.out | apply below_alloc | apply pw_below_drewN | apply below_drew1) | exact HB.out)))); have n1_ := Aside0.mk (below_step (by repeat (first | (with_reducible first | exact HB.out | apply below_alloc | apply pw_below_drewN | apply below_drew1) | exact HB.out)) hb); clear HB; have HO304 := n0_; have HB := n1_; clear n0_ n1_; (try clear hb); (try clear hb2); (try clear hk); (try clear hi); (try clear ho0)) | ((with_reducible refine gate_dst (N := 5) rfl ?_); (try (refine gate_guard (by rfl) ?_; dsimp only)); refine box_event ?hg (N := 5) ?hd (cs := #[.slice none 0 0, .int .i64 0]) (t := 25) ?hr ?_; (case hd => rfl); (case hg => rfl); (case hr => first | (go_simp; done) | (go_simp; rfl)); intro gb308 hg w12 hbox hb; have n0_ := Aside0.mk (Kd.R_below (by (with_reducible repeat (first | apply Kd.R_alloc | apply Kd.R_drewN | apply Kd.R_drew)); exact HO304.out) hb); have n1_ := Aside0.mk (below_step (by repeat (first | (with_reducible first | exact HB.out | apply below_alloc | apply pw_below_drewN | apply below_drew1) | exact HB.out)) hb); have n2_ := Aside0.mk (hbox); have n3_ := Aside0.mk ((by rw [hg]; exact (below_size (by repeat (first | (with_reducible first | exact HB.out | apply below_alloc | apply pw_below_drewN | apply below_drew1) | exact HB.out))) : w.heap.size ≤ gb308)); have n4_ := Aside0.mk ((by rw [hg]; exact (below_size (by repeat (first | (with_reducible first | exact HB.out | apply below_alloc | apply pw_below_drewN | apply below_drew1) | exact HB.out))) : w.heap.size ≤ gb308)); clear HO304; clear HB; have HO304 := n0_; have HB := n1_; have BK308 := n2_; have GW308 := n3_; have GE308 := n4_; clear n0_ n1_ n2_ n3_ n4_; clear hb hbox hg; obtain ⟨Ao13, co13, eo13⟩ := Kd.R_slice HO304.out; subst eo13; have hcz14_0 : w12.cell? ⟨gb308, 0, none⟩ = some (.slice none 0 0) := (blk_cell BK308.out 0).trans rfl; have hcz14_1 : w12.cell? ⟨gb308, 1, none⟩ = some (.int .i64 0) := (blk_cell BK308.out 1).trans rfl; have hfz14_0 := blk_frozen BK308.out 0; have hfz14_1 := blk_frozen BK308.out 1) | ((with_reducible refine gate_callee (f := 11) rfl ?_); refine goesL_ (some 35) rfl rfl Tryd.func11 (by kernel_rfl) rfl #[.string a1] rfl (by (try simp only [List.map_toArray, List.map_cons, List.map_nil]); first | done | rfl | (simp only [List.length_drop, List.length_take]; rfl)) ?_; (with_reducible refine (indexes_Parse.calls a1 t309 t312 t313 t314 _ A9.out).mono ?_); rintro e w15 ⟨v310, rfl, ho0, hb⟩; refine ⟨_, rfl, ?_⟩; have n0_ := Aside0.mk (Kd.R_elder' (by (with_reducible repeat (first | apply Kd.R_alloc | apply Kd.R_drewN | apply Kd.R_drew)); exact (Kd.R_mono (Kd.R_far (p := ⟨gb308, 1, none⟩) (Kd.R_far (p := ⟨gb308, 0, none⟩) (Kd.R_types HO304.out BK308.out (by decide)) (fun _ hk => hk.2) (.slice Ao13 t302.length co13)) (fun _ hk => hk.2) (.int .i64 t305)) (fun _ h_ => h_.1))) (Kd.R_base ho0) hb); have n1_ := Aside0.mk (Kd.R_lower (Kd.R_new' ho0 (Kd.R_lt (by (with_reducible repeat (first | apply Kd.R_alloc | apply Kd.R_drewN | apply Kd.R_drew)); exact (Kd.R_mono (Kd.R_far (p := ⟨gb308, 1, none⟩) (Kd.R_far (p := ⟨gb308, 0, none⟩) (Kd.R_types HO304.out BK308.out (by decide)) (fun _ hk => hk.2) (.slice Ao13 t302.length co13)) (fun _ hk => hk.2) (.int .i64 t305)) (fun _ h_ => h_.1))))) (below_size (by repeat (first | (with_reducible first | exact HB.out | apply below_alloc | apply pw_below_drewN | apply below_drew1 | refine below_set ?_ GE308.out) | exact HB.out)))); have n2_ := Aside0.mk (blk_below (g := gb308) (o := .cells #[.slice Ao13 t302.length co13, .int .i64 t305] 25 (0, 0)) (by (with_reducible repeat (first | refine blk_drewN ?_ _ | refine blk_drew ?_ | refine blk_alloc ?_ _)); refine blk_put (cs := #[.slice Ao13 t302.length co13, .int .i64 0]) ?_ 1 _ rfl; (with_reducible repeat (first | refine blk_drewN ?_ _ | refine blk_drew ?_ | refine blk_alloc ?_ _)); refine blk_put (cs := #[.slice none 0 0, .int .i64 0]) ?_ 0 _ rfl; (with_reducible repeat (first | refine blk_drewN ?_ _ | refine blk_drew ?_ | refine blk_alloc ?_ _)); exact BK308.out) hb); have n3_ := Aside0.mk (below_step (by repeat (first | (with_reducible first | exact HB.out | apply below_alloc | apply pw_below_drewN | apply below_drew1 | refine below_set ?_ GE308.out) | exact HB.out)) hb); clear HO304; clear BK308; clear HB; have HO304 := n0_; have HO311 := n1_; have BK308 := n2_; have HB := n3_; clear n0_ n1_ n2_ n3_; (try clear hb); (try clear hb2); (try clear hk); (try clear hi); (try clear ho0)) | ((with_reducible refine gate_dst (N := 8) rfl ?_); (try (refine gate_guard (by rfl) ?_; dsimp only)); refine box_event ?hg (N := 8) ?hd (cs := #[.slice none 0 0, .int .i64 0]) (t := 25) ?hr ?_; (case hd => rfl); (case hg => rfl); (case hr => first | (go_simp; done) | (go_simp; rfl)); intro gb315 hg w16 hbox hb; have n0_ := Aside0.mk (Kd.R_below (by (with_reducible repeat (first | apply Kd.R_alloc | apply Kd.R_drewN | apply Kd.R_drew)); exact HO304.out) hb); have n1_ := Aside0.mk (Kd.R_below (by (with_reducible repeat (first | apply Kd.R_alloc | apply Kd.R_drewN | apply Kd.R_drew)); exact HO311.out) hb); have n2_ := Aside0.mk (blk_below (g := gb308) (o := .cells #[.slice Ao13 t302.length co13, .int .i64 t305] 25 (0, 0)) (by (with_reducible repeat (first | refine blk_drewN ?_ _ | refine blk_drew ?_ | refine blk_alloc ?_ _)); exact BK308.out) hb); have n3_ := Aside0.mk (below_step (by repeat (first | (with_reducible first | exact HB.out | apply below_alloc | apply pw_below_drewN | apply below_drew1 | refine below_set ?_ GE308.out) | exact HB.out)) hb); have n4_ := Aside0.mk (hbox); have n5_ := Aside0.mk ((by rw [hg]; exact (below_size (by repeat (first | (with_reducible first | exact HB.out | apply below_alloc | apply pw_below_drewN | apply below_drew1 | refine below_set ?_ GE308.out) | exact HB.out))) : w.heap.size ≤ gb315)); have n6_ := Aside0.mk ((by rw [hg]; exact (below_size (by repeat (first | (with_reducible first | exact HB.out | apply below_alloc | apply pw_below_drewN | apply below_drew1 | refine below_set ?_ GE308.out) | exact HB.out))) : w.heap.size ≤ gb315)); have n7_ := Aside0.mk ((by rw [hg]; exact Nat.ne_of_lt (blk_lt (g := gb308) (o := .cells #[.slice Ao13 t302.length co13, .int .i64 t305] 25 (0, 0)) (by (with_reducible repeat (first | refine blk_drewN ?_ _ | refine blk_drew ?_ | refine blk_alloc ?_ _)); exact BK308.out)) : gb308 ≠ gb315)); have n8_ := Aside0.mk ((by rw [hg]; exact Nat.ne_of_gt (blk_lt (g := gb308) (o := .cells #[.slice Ao13 t302.length co13, .int .i64 t305] 25 (0, 0)) (by (with_reducible repeat (first | refine blk_drewN ?_ _ | refine blk_drew ?_ | refine blk_alloc ?_ _)); exact BK308.out)) : gb315 ≠ gb308)); clear HO304; clear HO311; clear BK308; clear HB; have HO304 := n0_; have HO311 := n1_; have BK308 := n2_; have HB := n3_; have BK315 := n4_; have GW315 := n5_; have GE315 := n6_; have NB308_315 := n7_; have NB315_308 := n8_; clear n0_ n1_ n2_ n3_ n4_ n5_ n6_ n7_ n8_; clear hb hbox hg; obtain ⟨Ao17, co17, eo17⟩ := Kd.R_slice HO311.out; subst eo17; have hnb18 := NB315_308.out; have hnc18 := NB308_315.out; have hcz19_0 : w16.cell? ⟨gb315, 0, none⟩ = some (.slice none 0 0) := (blk_cell BK315.out 0).trans rfl; have hcz19_1 : w16.cell? ⟨gb315, 1, none⟩ = some (.int .i64 0) := (blk_cell BK315.out 1).trans rfl; have hfz19_0 := blk_frozen BK315.out 0; have hfz19_1 := blk_frozen BK315.out 1))
        (try simp only [Act.put, List.setIfInBounds_toArray, List.set_cons_zero, List.set_cons_succ])
        go_cut [54] (fun v54 wc => ∃ (kq : Nat) (x54_9 : Bool), v54 = .bool x54_9 ∧ Aside0 (gangerlaw06_IndexesJoins.j1 kq a0 a1 x54_9 t302 t305 t309 t312 = some r) ∧ Aside0 (kq ≤ kj2) ∧ Aside0 (Kd.R (Kd.int .i64) 3 wc w.heap.size (fun k_ => some k_ ≠ ((.slice Ao17 t309.length co17) : Value).ownBlock) (.slice Ao13 t302.length co13) t302) ∧ Aside0 (Kd.R (Kd.int .i64) 3 wc w.heap.size (fun k_ => some k_ ≠ ((.slice Ao13 t302.length co13) : Value).ownBlock) (.slice Ao17 t309.length co17) t309) ∧ Aside0 (wc.heap[gb308]? = some (.cells #[(.slice Ao13 t302.length co13), .int .i64 t305] 25 (0, 0))) ∧ Aside0 (wc.heap[gb315]? = some (.cells #[(.slice Ao17 t309.length co17), .int .i64 t312] 25 (0, 0))) ∧ Aside0 (Below w.heap.size w wc))
        case first =>
          have H := HC10.out
          clear HC10
          by_cases c20 : t307 = 0
          · rw [if_pos c20] at H
            have c20b0 : (t307 == 0) = true := beq_iff_eq.mpr c20
            have c20b1 : (t307 != 0) = false := bne_eq_false_iff_eq.mpr c20
            clear c20
            (first | rw [c20b0] | (simp only [i64_w, i32_w]; rw [c20b0]) | skip)
            by_cases c21 : t314 = 0
            · rw [if_pos c21] at H
              have c21b0 : (t314 == 0) = true := beq_iff_eq.mpr c21
              have c21b1 : (t314 != 0) = false := bne_eq_false_iff_eq.mpr c21
              clear c21
              by_cases c22 : t305 > 0
              · rw [if_pos c22] at H
                have c22b0 : decide (0 < t305) = true := decide_eq_true c22
                clear c22
                have H' := Aside0.mk H
                clear H
                have hnb23 := NB308_315.out
                have hnc23 := NB315_308.out
                have hcz24_0 : w16.cell? ⟨gb308, 0, none⟩ = some (.slice Ao13 t302.length co13) := (blk_cell BK308.out 0).trans rfl
                have hcz24_1 : w16.cell? ⟨gb308, 1, none⟩ = some (.int .i64 t305) := (blk_cell BK308.out 1).trans rfl
                have hfz24_0 := blk_frozen BK308.out 0
                have hfz24_1 := blk_frozen BK308.out 1
                go_wp2
                go_meet
                case rel => exact ⟨_, (true), (by first | rfl | (simp; done) | (simp [*]; done)), H', ⟨by have := HJ2.out; first | omega | exact Nat.le_refl _⟩, ⟨by (with_reducible repeat (first | apply Kd.R_alloc | apply Kd.R_drewN | apply Kd.R_drew)); exact Kd.R_mono (Kd.R_far (p := ⟨gb315, 1, none⟩) (Kd.R_far (p := ⟨gb315, 0, none⟩) (Kd.R_types HO304.out BK315.out (by decide)) (fun _ hk => hk.2) (.slice Ao17 t309.length co17)) (fun _ hk => hk.2) (.int .i64 t312)) (fun _ hk => hk.1.2)⟩, ⟨by (with_reducible repeat (first | apply Kd.R_alloc | apply Kd.R_drewN | apply Kd.R_drew)); exact Kd.R_mono (Kd.R_far (p := ⟨gb315, 1, none⟩) (Kd.R_far (p := ⟨gb315, 0, none⟩) (Kd.R_types HO311.out BK315.out (by decide)) (fun _ hk => hk.2) (.slice Ao17 t309.length co17)) (fun _ hk => hk.2) (.int .i64 t312)) (fun _ hk => hk.1.2)⟩, ⟨by (with_reducible repeat (first | refine blk_drewN ?_ _ | refine blk_drew ?_ | refine blk_alloc ?_ _)); refine blk_far ?_ NB308_315.out _; (with_reducible repeat (first | refine blk_drewN ?_ _ | refine blk_drew ?_ | refine blk_alloc ?_ _)); refine blk_far ?_ NB308_315.out _; (with_reducible repeat (first | refine blk_drewN ?_ _ | refine blk_drew ?_ | refine blk_alloc ?_ _)); exact BK308.out⟩, ⟨by (with_reducible repeat (first | refine blk_drewN ?_ _ | refine blk_drew ?_ | refine blk_alloc ?_ _)); refine blk_put (cs := #[.slice Ao17 t309.length co17, .int .i64 0]) ?_ 1 _ rfl; (with_reducible repeat (first | refine blk_drewN ?_ _ | refine blk_drew ?_ | refine blk_alloc ?_ _)); refine blk_put (cs := #[.slice none 0 0, .int .i64 0]) ?_ 0 _ rfl; (with_reducible repeat (first | refine blk_drewN ?_ _ | refine blk_drew ?_ | refine blk_alloc ?_ _)); exact BK315.out⟩, ⟨by repeat (first | (with_reducible first | exact HB.out | apply below_alloc | apply pw_below_drewN | apply below_drew1 | refine below_set ?_ GE308.out | refine below_set ?_ GE315.out) | exact HB.out)⟩⟩
              · rw [if_neg c22] at H
                have c22b0 : decide (0 < t305) = false := decide_eq_false c22
                clear c22
                have H' := Aside0.mk H
                clear H
                have hnb25 := NB308_315.out
                have hnc25 := NB315_308.out
                have hcz26_0 : w16.cell? ⟨gb308, 0, none⟩ = some (.slice Ao13 t302.length co13) := (blk_cell BK308.out 0).trans rfl
                have hcz26_1 : w16.cell? ⟨gb308, 1, none⟩ = some (.int .i64 t305) := (blk_cell BK308.out 1).trans rfl
                have hfz26_0 := blk_frozen BK308.out 0
                have hfz26_1 := blk_frozen BK308.out 1
                have hcz27_0 : w16.cell? ⟨gb315, 0, none⟩ = some (.slice none 0 0) := (blk_cell BK315.out 0).trans rfl
                have hcz27_1 : w16.cell? ⟨gb315, 1, none⟩ = some (.int .i64 0) := (blk_cell BK315.out 1).trans rfl
                have hfz27_0 := blk_frozen BK315.out 0
                have hfz27_1 := blk_frozen BK315.out 1
                go_wp2
                go_meet
                case rel => exact ⟨_, (decide (t312 > 0)), (by first | rfl | (simp; done) | (simp [*]; done)), H', ⟨by have := HJ2.out; first | omega | exact Nat.le_refl _⟩, ⟨by (with_reducible repeat (first | apply Kd.R_alloc | apply Kd.R_drewN | apply Kd.R_drew)); exact Kd.R_mono (Kd.R_far (p := ⟨gb315, 1, none⟩) (Kd.R_far (p := ⟨gb315, 0, none⟩) (Kd.R_types HO304.out BK315.out (by decide)) (fun _ hk => hk.2) (.slice Ao17 t309.length co17)) (fun _ hk => hk.2) (.int .i64 t312)) (fun _ hk => hk.1.2)⟩, ⟨by (with_reducible repeat (first | apply Kd.R_alloc | apply Kd.R_drewN | apply Kd.R_drew)); exact Kd.R_mono (Kd.R_far (p := ⟨gb315, 1, none⟩) (Kd.R_far (p := ⟨gb315, 0, none⟩) (Kd.R_types HO311.out BK315.out (by decide)) (fun _ hk => hk.2) (.slice Ao17 t309.length co17)) (fun _ hk => hk.2) (.int .i64 t312)) (fun _ hk => hk.1.2)⟩, ⟨by (with_reducible repeat (first | refine blk_drewN ?_ _ | refine blk_drew ?_ | refine blk_alloc ?_ _)); refine blk_far ?_ NB308_315.out _; (with_reducible repeat (first | refine blk_drewN ?_ _ | refine blk_drew ?_ | refine blk_alloc ?_ _)); refine blk_far ?_ NB308_315.out _; (with_reducible repeat (first | refine blk_drewN ?_ _ | refine blk_drew ?_ | refine blk_alloc ?_ _)); exact BK308.out⟩, ⟨by (with_reducible repeat (first | refine blk_drewN ?_ _ | refine blk_drew ?_ | refine blk_alloc ?_ _)); refine blk_put (cs := #[.slice Ao17 t309.length co17, .int .i64 0]) ?_ 1 _ rfl; (with_reducible repeat (first | refine blk_drewN ?_ _ | refine blk_drew ?_ | refine blk_alloc ?_ _)); refine blk_put (cs := #[.slice none 0 0, .int .i64 0]) ?_ 0 _ rfl; (with_reducible repeat (first | refine blk_drewN ?_ _ | refine blk_drew ?_ | refine blk_alloc ?_ _)); exact BK315.out⟩, ⟨by repeat (first | (with_reducible first | exact HB.out | apply below_alloc | apply pw_below_drewN | apply below_drew1 | refine below_set ?_ GE308.out | refine below_set ?_ GE315.out) | exact HB.out)⟩⟩
            · rw [if_neg c21] at H
              have c21b0 : (t314 == 0) = false := beq_eq_false_iff_ne.mpr c21
              have c21b1 : (t314 != 0) = true := bne_iff_ne.mpr c21
              have H' := Aside0.mk H
              clear H
              go_wp2
              go_meet
              case rel => exact ⟨_, (true), (by first | rfl | (simp; done) | (simp [*]; done)), H', ⟨by have := HJ2.out; first | omega | exact Nat.le_refl _⟩, ⟨by (with_reducible repeat (first | apply Kd.R_alloc | apply Kd.R_drewN | apply Kd.R_drew)); exact Kd.R_mono (Kd.R_far (p := ⟨gb315, 1, none⟩) (Kd.R_far (p := ⟨gb315, 0, none⟩) (Kd.R_types HO304.out BK315.out (by decide)) (fun _ hk => hk.2) (.slice Ao17 t309.length co17)) (fun _ hk => hk.2) (.int .i64 t312)) (fun _ hk => hk.1.2)⟩, ⟨by (with_reducible repeat (first | apply Kd.R_alloc | apply Kd.R_drewN | apply Kd.R_drew)); exact Kd.R_mono (Kd.R_far (p := ⟨gb315, 1, none⟩) (Kd.R_far (p := ⟨gb315, 0, none⟩) (Kd.R_types HO311.out BK315.out (by decide)) (fun _ hk => hk.2) (.slice Ao17 t309.length co17)) (fun _ hk => hk.2) (.int .i64 t312)) (fun _ hk => hk.1.2)⟩, ⟨by (with_reducible repeat (first | refine blk_drewN ?_ _ | refine blk_drew ?_ | refine blk_alloc ?_ _)); refine blk_far ?_ NB308_315.out _; (with_reducible repeat (first | refine blk_drewN ?_ _ | refine blk_drew ?_ | refine blk_alloc ?_ _)); refine blk_far ?_ NB308_315.out _; (with_reducible repeat (first | refine blk_drewN ?_ _ | refine blk_drew ?_ | refine blk_alloc ?_ _)); exact BK308.out⟩, ⟨by (with_reducible repeat (first | refine blk_drewN ?_ _ | refine blk_drew ?_ | refine blk_alloc ?_ _)); refine blk_put (cs := #[.slice Ao17 t309.length co17, .int .i64 0]) ?_ 1 _ rfl; (with_reducible repeat (first | refine blk_drewN ?_ _ | refine blk_drew ?_ | refine blk_alloc ?_ _)); refine blk_put (cs := #[.slice none 0 0, .int .i64 0]) ?_ 0 _ rfl; (with_reducible repeat (first | refine blk_drewN ?_ _ | refine blk_drew ?_ | refine blk_alloc ?_ _)); exact BK315.out⟩, ⟨by repeat (first | (with_reducible first | exact HB.out | apply below_alloc | apply pw_below_drewN | apply below_drew1 | refine below_set ?_ GE308.out | refine below_set ?_ GE315.out) | exact HB.out)⟩⟩
          · rw [if_neg c20] at H
            have c20b0 : (t307 == 0) = false := beq_eq_false_iff_ne.mpr c20
            have c20b1 : (t307 != 0) = true := bne_iff_ne.mpr c20
            (first | rw [c20b0] | (simp only [i64_w, i32_w]; rw [c20b0]) | skip)
            have H' := Aside0.mk H
            clear H
            go_wp2
            go_meet
            case rel => exact ⟨_, (true), (by first | rfl | (simp; done) | (simp [*]; done)), H', ⟨by have := HJ2.out; first | omega | exact Nat.le_refl _⟩, ⟨by (with_reducible repeat (first | apply Kd.R_alloc | apply Kd.R_drewN | apply Kd.R_drew)); exact Kd.R_mono (Kd.R_far (p := ⟨gb315, 1, none⟩) (Kd.R_far (p := ⟨gb315, 0, none⟩) (Kd.R_types HO304.out BK315.out (by decide)) (fun _ hk => hk.2) (.slice Ao17 t309.length co17)) (fun _ hk => hk.2) (.int .i64 t312)) (fun _ hk => hk.1.2)⟩, ⟨by (with_reducible repeat (first | apply Kd.R_alloc | apply Kd.R_drewN | apply Kd.R_drew)); exact Kd.R_mono (Kd.R_far (p := ⟨gb315, 1, none⟩) (Kd.R_far (p := ⟨gb315, 0, none⟩) (Kd.R_types HO311.out BK315.out (by decide)) (fun _ hk => hk.2) (.slice Ao17 t309.length co17)) (fun _ hk => hk.2) (.int .i64 t312)) (fun _ hk => hk.1.2)⟩, ⟨by (with_reducible repeat (first | refine blk_drewN ?_ _ | refine blk_drew ?_ | refine blk_alloc ?_ _)); refine blk_far ?_ NB308_315.out _; (with_reducible repeat (first | refine blk_drewN ?_ _ | refine blk_drew ?_ | refine blk_alloc ?_ _)); refine blk_far ?_ NB308_315.out _; (with_reducible repeat (first | refine blk_drewN ?_ _ | refine blk_drew ?_ | refine blk_alloc ?_ _)); exact BK308.out⟩, ⟨by (with_reducible repeat (first | refine blk_drewN ?_ _ | refine blk_drew ?_ | refine blk_alloc ?_ _)); refine blk_put (cs := #[.slice Ao17 t309.length co17, .int .i64 0]) ?_ 1 _ rfl; (with_reducible repeat (first | refine blk_drewN ?_ _ | refine blk_drew ?_ | refine blk_alloc ?_ _)); refine blk_put (cs := #[.slice none 0 0, .int .i64 0]) ?_ 0 _ rfl; (with_reducible repeat (first | refine blk_drewN ?_ _ | refine blk_drew ?_ | refine blk_alloc ?_ _)); exact BK315.out⟩, ⟨by repeat (first | (with_reducible first | exact HB.out | apply below_alloc | apply pw_below_drewN | apply below_drew1 | refine below_set ?_ GE308.out | refine below_set ?_ GE315.out) | exact HB.out)⟩⟩
        case rest =>
          clear HC10
          try clear c1
          try clear c2
          try clear p2
          try clear c4
          try clear c4b0
          try clear c4b1
          try clear c5
          try clear c6
          try clear c10
          try clear c11
          try clear c18
          try clear c20
          try clear c20b0
          try clear c20b1
          try clear c21
          try clear c21b0
          try clear c21b1
          try clear c22
          try clear c22b0
          try clear c23
          try clear c25
          try clear hcz14_0
          try clear hcz14_1
          try clear hcz19_0
          try clear hcz19_1
          try clear hcz24_0
          try clear hcz24_1
          try clear hcz26_0
          try clear hcz26_1
          try clear hcz27_0
          try clear hcz27_1
          try clear hfz14_0
          try clear hfz14_1
          try clear hfz19_0
          try clear hfz19_1
          try clear hfz24_0
          try clear hfz24_1
          try clear hfz26_0
          try clear hfz26_1
          try clear hfz27_0
          try clear hfz27_1
          try clear p2
          obtain ⟨kq, x54_9, rfl, HA, HJ9, HO_309000, HO_316000, BK308, BK315, HB⟩ := hcut
          cases kq with
          | zero => exact absurd HA.out (by simp [gangerlaw06_IndexesJoins.j1])
          | succ kj9 =>
            have H := HA.out
            clear HA
            simp only [gangerlaw06_IndexesJoins.j1] at H
            by_cases c28 : x54_9 = true
            · subst c28
              have H1 : ((gangerlaw06_known.f kj9).bind fun t316 => (some t316)) = some r := by rw [if_pos rfl] at H; exact H
              clear H
              have H := H1
              clear H1
              replace H := Option.bind_eq_some_iff.mp H
              obtain ⟨t316, A290, H⟩ := H
              replace H : (some t316) = some r := H
              have A29 := Aside0.mk A290
              clear A290
              obtain rfl := Option.some.inj H
              go_wp2_with (first | ((with_reducible refine gate_callee (f := 10) rfl ?_); refine goesL_ (some 55) rfl rfl Tryd.func10 (by kernel_rfl) rfl #[] rfl (by (try simp only [List.map_toArray, List.map_cons, List.map_nil]); first | done | rfl | (simp only [List.length_drop, List.length_take]; rfl)) ?_; (with_reducible refine (gangerlaw06_known.calls kj9  t316 _ ?side1 A29.out).mono ?_); (case side1 => exact Glob.below HG.out (by repeat (first | (with_reducible first | exact HB.out | apply below_alloc | apply pw_below_drewN | apply below_drew1 | refine below_set ?_ GE308.out | refine below_set ?_ GE315.out) | exact HB.out))); rintro e w30 ⟨rfl, hb⟩; refine ⟨_, rfl, ?_⟩; have n0_ := Aside0.mk (Kd.R_below (by (with_reducible repeat (first | apply Kd.R_alloc | apply Kd.R_drewN | apply Kd.R_drew)); exact HO_309000.out) hb); have n1_ := Aside0.mk (Kd.R_below (by (with_reducible repeat (first | apply Kd.R_alloc | apply Kd.R_drewN | apply Kd.R_drew)); exact HO_316000.out) hb); have n2_ := Aside0.mk (blk_below (g := gb308) (o := .cells #[.slice Ao13 t302.length co13, .int .i64 t305] 25 (0, 0)) (by (with_reducible repeat (first | refine blk_drewN ?_ _ | refine blk_drew ?_ | refine blk_alloc ?_ _)); exact BK308.out) hb); have n3_ := Aside0.mk (blk_below (g := gb315) (o := .cells #[.slice Ao17 t309.length co17, .int .i64 t312] 25 (0, 0)) (by (with_reducible repeat (first | refine blk_drewN ?_ _ | refine blk_drew ?_ | refine blk_alloc ?_ _)); exact BK315.out) hb); have n4_ := Aside0.mk (below_step (by repeat (first | (with_reducible first | exact HB.out | apply below_alloc | apply pw_below_drewN | apply below_drew1 | refine below_set ?_ GE308.out | refine below_set ?_ GE315.out) | exact HB.out)) hb); clear HO_309000; clear HO_316000; clear BK308; clear BK315; clear HB; have HO_309000 := n0_; have HO_316000 := n1_; have BK308 := n2_; have BK315 := n3_; have HB := n4_; clear n0_ n1_ n2_ n3_ n4_; (try clear hb); (try clear hb2); (try clear hk); (try clear hi)))
              go_ret
              exact ⟨by first | rfl | (simp [errW_none, errW_some] <;> rfl) | (simp [*, errW_none, errW_some] <;> rfl), by repeat (first | (with_reducible first | exact HB.out | apply below_alloc | apply pw_below_drewN | apply below_drew1 | refine below_set ?_ GE308.out | refine below_set ?_ GE315.out) | exact HB.out)⟩
            · replace c28 := Bool.eq_false_iff.mpr c28
              subst c28
              have H1 : (if a0.size + 1 ≤ 9223372036854775807 then (if (a0 ++ (⟨#[44]⟩ : ByteArray)).size + a1.size ≤ 9223372036854775807 then ((indexes_Parse.f ((a0 ++ (⟨#[44]⟩ : ByteArray)) ++ a1)).bind fun bt317 => (if a1.size + 1 ≤ 9223372036854775807 then (if (a1 ++ (⟨#[44]⟩ : ByteArray)).size + a0.size ≤ 9223372036854775807 then ((indexes_Parse.f ((a1 ++ (⟨#[44]⟩ : ByteArray)) ++ a0)).bind fun bt324 => (if bt317.2.2.2 = 0 then (if bt324.2.2.2 = 0 then ((gangerref06_Same.f kj9 bt317.1 bt317.2.1 bt324.1 bt324.2.1).bind fun t331 => (gangerlaw06_IndexesJoins.j2 kj9 (!t331) t302 t305 t309 t312 bt317.1 bt317.2.1)) else (gangerlaw06_IndexesJoins.j2 kj9 true t302 t305 t309 t312 bt317.1 bt317.2.1)) else (gangerlaw06_IndexesJoins.j2 kj9 true t302 t305 t309 t312 bt317.1 bt317.2.1))) else (none)) else (none))) else (none)) else (none)) = some r := by rw [if_neg (show ¬ (false = true) by decide)] at H; exact H
              clear H
              have H := H1
              clear H1
              by_cases c31 : a0.size + 1 ≤ 9223372036854775807
              · rw [if_pos c31] at H
                have c31b0 := eq_true c31
                have c31b1 : decide (a0.size + 1 ≤ 9223372036854775807) = true := decide_eq_true c31
                try have c31b2 : (9223372036854775807 < a0.size + 1) = False := eq_false (Nat.not_lt.2 c31)
                try (have c31b3 := c31b2; simp only [ByteArray.size_append, size_lit1] at c31b3)
                by_cases c32 : (a0 ++ (⟨#[44]⟩ : ByteArray)).size + a1.size ≤ 9223372036854775807
                · rw [if_pos c32] at H
                  have c32b0 := eq_true c32
                  have c32b1 : decide ((a0 ++ (⟨#[44]⟩ : ByteArray)).size + a1.size ≤ 9223372036854775807) = true := decide_eq_true c32
                  try have c32b2 : (9223372036854775807 < (a0 ++ (⟨#[44]⟩ : ByteArray)).size + a1.size) = False := eq_false (Nat.not_lt.2 c32)
                  try (have c32b3 := c32b2; simp only [ByteArray.size_append, size_lit1] at c32b3)
                  replace H := Option.bind_eq_some_iff.mp H
                  obtain ⟨⟨t317, t320, t321, t322⟩, A330, H⟩ := H
                  replace H : (if a1.size + 1 ≤ 9223372036854775807 then (if (a1 ++ (⟨#[44]⟩ : ByteArray)).size + a0.size ≤ 9223372036854775807 then ((indexes_Parse.f ((a1 ++ (⟨#[44]⟩ : ByteArray)) ++ a0)).bind fun bt324 => (if t322 = 0 then (if bt324.2.2.2 = 0 then ((gangerref06_Same.f kj9 t317 t320 bt324.1 bt324.2.1).bind fun t331 => (gangerlaw06_IndexesJoins.j2 kj9 (!t331) t302 t305 t309 t312 t317 t320)) else (gangerlaw06_IndexesJoins.j2 kj9 true t302 t305 t309 t312 t317 t320)) else (gangerlaw06_IndexesJoins.j2 kj9 true t302 t305 t309 t312 t317 t320))) else (none)) else (none)) = some r := H
                  have A33 := Aside0.mk A330
                  clear A330
                  by_cases c34 : a1.size + 1 ≤ 9223372036854775807
                  · rw [if_pos c34] at H
                    have c34b0 := eq_true c34
                    have c34b1 : decide (a1.size + 1 ≤ 9223372036854775807) = true := decide_eq_true c34
                    try have c34b2 : (9223372036854775807 < a1.size + 1) = False := eq_false (Nat.not_lt.2 c34)
                    try (have c34b3 := c34b2; simp only [ByteArray.size_append, size_lit1] at c34b3)
                    by_cases c35 : (a1 ++ (⟨#[44]⟩ : ByteArray)).size + a0.size ≤ 9223372036854775807
                    · rw [if_pos c35] at H
                      have c35b0 := eq_true c35
                      have c35b1 : decide ((a1 ++ (⟨#[44]⟩ : ByteArray)).size + a0.size ≤ 9223372036854775807) = true := decide_eq_true c35
                      try have c35b2 : (9223372036854775807 < (a1 ++ (⟨#[44]⟩ : ByteArray)).size + a0.size) = False := eq_false (Nat.not_lt.2 c35)
                      try (have c35b3 := c35b2; simp only [ByteArray.size_append, size_lit1] at c35b3)
                      replace H := Option.bind_eq_some_iff.mp H
                      obtain ⟨⟨t324, t327, t328, t329⟩, A360, H⟩ := H
                      replace H : (if t322 = 0 then (if t329 = 0 then ((gangerref06_Same.f kj9 t317 t320 t324 t327).bind fun t331 => (gangerlaw06_IndexesJoins.j2 kj9 (!t331) t302 t305 t309 t312 t317 t320)) else (gangerlaw06_IndexesJoins.j2 kj9 true t302 t305 t309 t312 t317 t320)) else (gangerlaw06_IndexesJoins.j2 kj9 true t302 t305 t309 t312 t317 t320)) = some r := H
                      have A36 := Aside0.mk A360
                      clear A360
                      have HC37 := Aside0.mk H
                      clear H
                      go_upto_region 9 with (first | ((with_reducible refine gate_callee (f := 11) rfl ?_); refine goesL_ (some 61) rfl rfl Tryd.func11 (by kernel_rfl) rfl #[.string ((a0 ++ (⟨#[44]⟩ : ByteArray)) ++ a1)] rfl (by (try simp only [List.map_toArray, List.map_cons, List.map_nil]); first | done | rfl | (simp only [List.length_drop, List.length_take]; rfl)) ?_; (with_reducible refine (indexes_Parse.calls ((a0 ++ (⟨#[44]⟩ : ByteArray)) ++ a1) t317 t320 t321 t322 _ A33.out).mono ?_); rintro e w38 ⟨v318, rfl, ho0, hb⟩; refine ⟨_, rfl, ?_⟩; have n0_ := Aside0.mk (Kd.R_elder' (by (with_reducible repeat (first | apply Kd.R_alloc | apply Kd.R_drewN | apply Kd.R_drew)); exact HO_309000.out) (Kd.R_base ho0) hb); have n1_ := Aside0.mk (Kd.R_elder' (by (with_reducible repeat (first | apply Kd.R_alloc | apply Kd.R_drewN | apply Kd.R_drew)); exact HO_316000.out) (Kd.R_base ho0) hb); have n2_ := Aside0.mk (Kd.R_lower (Kd.R_new' (Kd.R_new' ho0 (Kd.R_lt (by (with_reducible repeat (first | apply Kd.R_alloc | apply Kd.R_drewN | apply Kd.R_drew)); exact HO_309000.out))) (Kd.R_lt (by (with_reducible repeat (first | apply Kd.R_alloc | apply Kd.R_drewN | apply Kd.R_drew)); exact HO_316000.out))) (below_size (by repeat (first | (with_reducible first | exact HB.out | apply below_alloc | apply pw_below_drewN | apply below_drew1 | refine below_set ?_ GE308.out | refine below_set ?_ GE315.out) | exact HB.out)))); have n3_ := Aside0.mk (blk_below (g := gb308) (o := .cells #[.slice Ao13 t302.length co13, .int .i64 t305] 25 (0, 0)) (by (with_reducible repeat (first | refine blk_drewN ?_ _ | refine blk_drew ?_ | refine blk_alloc ?_ _)); exact BK308.out) hb); have n4_ := Aside0.mk (blk_below (g := gb315) (o := .cells #[.slice Ao17 t309.length co17, .int .i64 t312] 25 (0, 0)) (by (with_reducible repeat (first | refine blk_drewN ?_ _ | refine blk_drew ?_ | refine blk_alloc ?_ _)); exact BK315.out) hb); have n5_ := Aside0.mk (below_step (by repeat (first | (with_reducible first | exact HB.out | apply below_alloc | apply pw_below_drewN | apply below_drew1 | refine below_set ?_ GE308.out | refine below_set ?_ GE315.out) | exact HB.out)) hb); clear HO_309000; clear HO_316000; clear BK308; clear BK315; clear HB; have HO_309000 := n0_; have HO_316000 := n1_; have HO319 := n2_; have BK308 := n3_; have BK315 := n4_; have HB := n5_; clear n0_ n1_ n2_ n3_ n4_ n5_; (try clear hb); (try clear hb2); (try clear hk); (try clear hi); (try clear ho0)) | ((with_reducible refine gate_dst (N := 11) rfl ?_); (try (refine gate_guard (by rfl) ?_; dsimp only)); refine box_event ?hg (N := 11) ?hd (cs := #[.slice none 0 0, .int .i64 0]) (t := 25) ?hr ?_; (case hd => rfl); (case hg => rfl); (case hr => first | (go_simp; done) | (go_simp; rfl)); intro gb323 hg w39 hbox hb; have n0_ := Aside0.mk (Kd.R_below (by (with_reducible repeat (first | apply Kd.R_alloc | apply Kd.R_drewN | apply Kd.R_drew)); exact HO_309000.out) hb); have n1_ := Aside0.mk (Kd.R_below (by (with_reducible repeat (first | apply Kd.R_alloc | apply Kd.R_drewN | apply Kd.R_drew)); exact HO_316000.out) hb); have n2_ := Aside0.mk (Kd.R_below (by (with_reducible repeat (first | apply Kd.R_alloc | apply Kd.R_drewN | apply Kd.R_drew)); exact HO319.out) hb); have n3_ := Aside0.mk (blk_below (g := gb308) (o := .cells #[.slice Ao13 t302.length co13, .int .i64 t305] 25 (0, 0)) (by (with_reducible repeat (first | refine blk_drewN ?_ _ | refine blk_drew ?_ | refine blk_alloc ?_ _)); exact BK308.out) hb); have n4_ := Aside0.mk (blk_below (g := gb315) (o := .cells #[.slice Ao17 t309.length co17, .int .i64 t312] 25 (0, 0)) (by (with_reducible repeat (first | refine blk_drewN ?_ _ | refine blk_drew ?_ | refine blk_alloc ?_ _)); exact BK315.out) hb); have n5_ := Aside0.mk (below_step (by repeat (first | (with_reducible first | exact HB.out | apply below_alloc | apply pw_below_drewN | apply below_drew1 | refine below_set ?_ GE308.out | refine below_set ?_ GE315.out) | exact HB.out)) hb); have n6_ := Aside0.mk (hbox); have n7_ := Aside0.mk ((by rw [hg]; exact (below_size (by repeat (first | (with_reducible first | exact HB.out | apply below_alloc | apply pw_below_drewN | apply below_drew1 | refine below_set ?_ GE308.out | refine below_set ?_ GE315.out) | exact HB.out))) : w.heap.size ≤ gb323)); have n8_ := Aside0.mk ((by rw [hg]; exact (below_size (by repeat (first | (with_reducible first | exact HB.out | apply below_alloc | apply pw_below_drewN | apply below_drew1 | refine below_set ?_ GE308.out | refine below_set ?_ GE315.out) | exact HB.out))) : w.heap.size ≤ gb323)); have n9_ := Aside0.mk ((by rw [hg]; exact Nat.ne_of_lt (blk_lt (g := gb308) (o := .cells #[.slice Ao13 t302.length co13, .int .i64 t305] 25 (0, 0)) (by (with_reducible repeat (first | refine blk_drewN ?_ _ | refine blk_drew ?_ | refine blk_alloc ?_ _)); exact BK308.out)) : gb308 ≠ gb323)); have n10_ := Aside0.mk ((by rw [hg]; exact Nat.ne_of_gt (blk_lt (g := gb308) (o := .cells #[.slice Ao13 t302.length co13, .int .i64 t305] 25 (0, 0)) (by (with_reducible repeat (first | refine blk_drewN ?_ _ | refine blk_drew ?_ | refine blk_alloc ?_ _)); exact BK308.out)) : gb323 ≠ gb308)); have n11_ := Aside0.mk ((by rw [hg]; exact Nat.ne_of_lt (blk_lt (g := gb315) (o := .cells #[.slice Ao17 t309.length co17, .int .i64 t312] 25 (0, 0)) (by (with_reducible repeat (first | refine blk_drewN ?_ _ | refine blk_drew ?_ | refine blk_alloc ?_ _)); exact BK315.out)) : gb315 ≠ gb323)); have n12_ := Aside0.mk ((by rw [hg]; exact Nat.ne_of_gt (blk_lt (g := gb315) (o := .cells #[.slice Ao17 t309.length co17, .int .i64 t312] 25 (0, 0)) (by (with_reducible repeat (first | refine blk_drewN ?_ _ | refine blk_drew ?_ | refine blk_alloc ?_ _)); exact BK315.out)) : gb323 ≠ gb315)); clear HO_309000; clear HO_316000; clear HO319; clear BK308; clear BK315; clear HB; have HO_309000 := n0_; have HO_316000 := n1_; have HO319 := n2_; have BK308 := n3_; have BK315 := n4_; have HB := n5_; have BK323 := n6_; have GW323 := n7_; have GE323 := n8_; have NB308_323 := n9_; have NB323_308 := n10_; have NB315_323 := n11_; have NB323_315 := n12_; clear n0_ n1_ n2_ n3_ n4_ n5_ n6_ n7_ n8_ n9_ n10_ n11_ n12_; clear hb hbox hg; obtain ⟨Ao40, co40, eo40⟩ := Kd.R_slice HO319.out; subst eo40; have hnb41 := NB323_308.out; have hnc41 := NB308_323.out; have hnb42 := NB323_315.out; have hnc42 := NB315_323.out; have hcz43_0 : w39.cell? ⟨gb323, 0, none⟩ = some (.slice none 0 0) := (blk_cell BK323.out 0).trans rfl; have hcz43_1 : w39.cell? ⟨gb323, 1, none⟩ = some (.int .i64 0) := (blk_cell BK323.out 1).trans rfl; have hfz43_0 := blk_frozen BK323.out 0; have hfz43_1 := blk_frozen BK323.out 1) | ((with_reducible refine gate_callee (f := 11) rfl ?_); refine goesL_ (some 70) rfl rfl Tryd.func11 (by kernel_rfl) rfl #[.string ((a1 ++ (⟨#[44]⟩ : ByteArray)) ++ a0)] rfl (by (try simp only [List.map_toArray, List.map_cons, List.map_nil]); first | done | rfl | (simp only [List.length_drop, List.length_take]; rfl)) ?_; (with_reducible refine (indexes_Parse.calls ((a1 ++ (⟨#[44]⟩ : ByteArray)) ++ a0) t324 t327 t328 t329 _ A36.out).mono ?_); rintro e w44 ⟨v325, rfl, ho0, hb⟩; refine ⟨_, rfl, ?_⟩; have n0_ := Aside0.mk (Kd.R_elder' (by (with_reducible repeat (first | apply Kd.R_alloc | apply Kd.R_drewN | apply Kd.R_drew)); exact (Kd.R_mono (Kd.R_far (p := ⟨gb323, 1, none⟩) (Kd.R_far (p := ⟨gb323, 0, none⟩) (Kd.R_types HO_309000.out BK323.out (by decide)) (fun _ hk => hk.2) (.slice Ao40 t317.length co40)) (fun _ hk => hk.2) (.int .i64 t320)) (fun _ h_ => h_.1))) (Kd.R_base ho0) hb); have n1_ := Aside0.mk (Kd.R_elder' (by (with_reducible repeat (first | apply Kd.R_alloc | apply Kd.R_drewN | apply Kd.R_drew)); exact (Kd.R_mono (Kd.R_far (p := ⟨gb323, 1, none⟩) (Kd.R_far (p := ⟨gb323, 0, none⟩) (Kd.R_types HO_316000.out BK323.out (by decide)) (fun _ hk => hk.2) (.slice Ao40 t317.length co40)) (fun _ hk => hk.2) (.int .i64 t320)) (fun _ h_ => h_.1))) (Kd.R_base ho0) hb); have n2_ := Aside0.mk (Kd.R_elder' (by (with_reducible repeat (first | apply Kd.R_alloc | apply Kd.R_drewN | apply Kd.R_drew)); exact (Kd.R_mono (Kd.R_far (p := ⟨gb323, 1, none⟩) (Kd.R_far (p := ⟨gb323, 0, none⟩) (Kd.R_types HO319.out BK323.out (by decide)) (fun _ hk => hk.2) (.slice Ao40 t317.length co40)) (fun _ hk => hk.2) (.int .i64 t320)) (fun _ h_ => h_.1))) (Kd.R_base ho0) hb); have n3_ := Aside0.mk (Kd.R_lower (Kd.R_new' (Kd.R_new' (Kd.R_new' ho0 (Kd.R_lt (by (with_reducible repeat (first | apply Kd.R_alloc | apply Kd.R_drewN | apply Kd.R_drew)); exact (Kd.R_mono (Kd.R_far (p := ⟨gb323, 1, none⟩) (Kd.R_far (p := ⟨gb323, 0, none⟩) (Kd.R_types HO_309000.out BK323.out (by decide)) (fun _ hk => hk.2) (.slice Ao40 t317.length co40)) (fun _ hk => hk.2) (.int .i64 t320)) (fun _ h_ => h_.1))))) (Kd.R_lt (by (with_reducible repeat (first | apply Kd.R_alloc | apply Kd.R_drewN | apply Kd.R_drew)); exact (Kd.R_mono (Kd.R_far (p := ⟨gb323, 1, none⟩) (Kd.R_far (p := ⟨gb323, 0, none⟩) (Kd.R_types HO_316000.out BK323.out (by decide)) (fun _ hk => hk.2) (.slice Ao40 t317.length co40)) (fun _ hk => hk.2) (.int .i64 t320)) (fun _ h_ => h_.1))))) (Kd.R_lt (by (with_reducible repeat (first | apply Kd.R_alloc | apply Kd.R_drewN | apply Kd.R_drew)); exact (Kd.R_mono (Kd.R_far (p := ⟨gb323, 1, none⟩) (Kd.R_far (p := ⟨gb323, 0, none⟩) (Kd.R_types HO319.out BK323.out (by decide)) (fun _ hk => hk.2) (.slice Ao40 t317.length co40)) (fun _ hk => hk.2) (.int .i64 t320)) (fun _ h_ => h_.1))))) (below_size (by repeat (first | (with_reducible first | exact HB.out | apply below_alloc | apply pw_below_drewN | apply below_drew1 | refine below_set ?_ GE308.out | refine below_set ?_ GE315.out | refine below_set ?_ GE323.out) | exact HB.out)))); have n4_ := Aside0.mk (blk_below (g := gb308) (o := .cells #[.slice Ao13 t302.length co13, .int .i64 t305] 25 (0, 0)) (by (with_reducible repeat (first | refine blk_drewN ?_ _ | refine blk_drew ?_ | refine blk_alloc ?_ _)); refine blk_far ?_ NB308_323.out _; (with_reducible repeat (first | refine blk_drewN ?_ _ | refine blk_drew ?_ | refine blk_alloc ?_ _)); refine blk_far ?_ NB308_323.out _; (with_reducible repeat (first | refine blk_drewN ?_ _ | refine blk_drew ?_ | refine blk_alloc ?_ _)); exact BK308.out) hb); have n5_ := Aside0.mk (blk_below (g := gb315) (o := .cells #[.slice Ao17 t309.length co17, .int .i64 t312] 25 (0, 0)) (by (with_reducible repeat (first | refine blk_drewN ?_ _ | refine blk_drew ?_ | refine blk_alloc ?_ _)); refine blk_far ?_ NB315_323.out _; (with_reducible repeat (first | refine blk_drewN ?_ _ | refine blk_drew ?_ | refine blk_alloc ?_ _)); refine blk_far ?_ NB315_323.out _; (with_reducible repeat (first | refine blk_drewN ?_ _ | refine blk_drew ?_ | refine blk_alloc ?_ _)); exact BK315.out) hb); have n6_ := Aside0.mk (blk_below (g := gb323) (o := .cells #[.slice Ao40 t317.length co40, .int .i64 t320] 25 (0, 0)) (by (with_reducible repeat (first | refine blk_drewN ?_ _ | refine blk_drew ?_ | refine blk_alloc ?_ _)); refine blk_put (cs := #[.slice Ao40 t317.length co40, .int .i64 0]) ?_ 1 _ rfl; (with_reducible repeat (first | refine blk_drewN ?_ _ | refine blk_drew ?_ | refine blk_alloc ?_ _)); refine blk_put (cs := #[.slice none 0 0, .int .i64 0]) ?_ 0 _ rfl; (with_reducible repeat (first | refine blk_drewN ?_ _ | refine blk_drew ?_ | refine blk_alloc ?_ _)); exact BK323.out) hb); have n7_ := Aside0.mk (below_step (by repeat (first | (with_reducible first | exact HB.out | apply below_alloc | apply pw_below_drewN | apply below_drew1 | refine below_set ?_ GE308.out | refine below_set ?_ GE315.out | refine below_set ?_ GE323.out) | exact HB.out)) hb); clear HO_309000; clear HO_316000; clear HO319; clear BK308; clear BK315; clear BK323; clear HB; have HO_309000 := n0_; have HO_316000 := n1_; have HO319 := n2_; have HO326 := n3_; have BK308 := n4_; have BK315 := n5_; have BK323 := n6_; have HB := n7_; clear n0_ n1_ n2_ n3_ n4_ n5_ n6_ n7_; (try clear hb); (try clear hb2); (try clear hk); (try clear hi); (try clear ho0)) | ((with_reducible refine gate_dst (N := 14) rfl ?_); (try (refine gate_guard (by rfl) ?_; dsimp only)); refine box_event ?hg (N := 14) ?hd (cs := #[.slice none 0 0, .int .i64 0]) (t := 25) ?hr ?_; (case hd => rfl); (case hg => rfl); (case hr => first | (go_simp; done) | (go_simp; rfl)); intro gb330 hg w45 hbox hb; have n0_ := Aside0.mk (Kd.R_below (by (with_reducible repeat (first | apply Kd.R_alloc | apply Kd.R_drewN | apply Kd.R_drew)); exact HO_309000.out) hb); have n1_ := Aside0.mk (Kd.R_below (by (with_reducible repeat (first | apply Kd.R_alloc | apply Kd.R_drewN | apply Kd.R_drew)); exact HO_316000.out) hb); have n2_ := Aside0.mk (Kd.R_below (by (with_reducible repeat (first | apply Kd.R_alloc | apply Kd.R_drewN | apply Kd.R_drew)); exact HO319.out) hb); have n3_ := Aside0.mk (Kd.R_below (by (with_reducible repeat (first | apply Kd.R_alloc | apply Kd.R_drewN | apply Kd.R_drew)); exact HO326.out) hb); have n4_ := Aside0.mk (blk_below (g := gb308) (o := .cells #[.slice Ao13 t302.length co13, .int .i64 t305] 25 (0, 0)) (by (with_reducible repeat (first | refine blk_drewN ?_ _ | refine blk_drew ?_ | refine blk_alloc ?_ _)); exact BK308.out) hb); have n5_ := Aside0.mk (blk_below (g := gb315) (o := .cells #[.slice Ao17 t309.length co17, .int .i64 t312] 25 (0, 0)) (by (with_reducible repeat (first | refine blk_drewN ?_ _ | refine blk_drew ?_ | refine blk_alloc ?_ _)); exact BK315.out) hb); have n6_ := Aside0.mk (blk_below (g := gb323) (o := .cells #[.slice Ao40 t317.length co40, .int .i64 t320] 25 (0, 0)) (by (with_reducible repeat (first | refine blk_drewN ?_ _ | refine blk_drew ?_ | refine blk_alloc ?_ _)); exact BK323.out) hb); have n7_ := Aside0.mk (below_step (by repeat (first | (with_reducible first | exact HB.out | apply below_alloc | apply pw_below_drewN | apply below_drew1 | refine below_set ?_ GE308.out | refine below_set ?_ GE315.out | refine below_set ?_ GE323.out) | exact HB.out)) hb); have n8_ := Aside0.mk (hbox); have n9_ := Aside0.mk ((by rw [hg]; exact (below_size (by repeat (first | (with_reducible first | exact HB.out | apply below_alloc | apply pw_below_drewN | apply below_drew1 | refine below_set ?_ GE308.out | refine below_set ?_ GE315.out | refine below_set ?_ GE323.out) | exact HB.out))) : w.heap.size ≤ gb330)); have n10_ := Aside0.mk ((by rw [hg]; exact (below_size (by repeat (first | (with_reducible first | exact HB.out | apply below_alloc | apply pw_below_drewN | apply below_drew1 | refine below_set ?_ GE308.out | refine below_set ?_ GE315.out | refine below_set ?_ GE323.out) | exact HB.out))) : w.heap.size ≤ gb330)); have n11_ := Aside0.mk ((by rw [hg]; exact Nat.ne_of_lt (blk_lt (g := gb308) (o := .cells #[.slice Ao13 t302.length co13, .int .i64 t305] 25 (0, 0)) (by (with_reducible repeat (first | refine blk_drewN ?_ _ | refine blk_drew ?_ | refine blk_alloc ?_ _)); exact BK308.out)) : gb308 ≠ gb330)); have n12_ := Aside0.mk ((by rw [hg]; exact Nat.ne_of_gt (blk_lt (g := gb308) (o := .cells #[.slice Ao13 t302.length co13, .int .i64 t305] 25 (0, 0)) (by (with_reducible repeat (first | refine blk_drewN ?_ _ | refine blk_drew ?_ | refine blk_alloc ?_ _)); exact BK308.out)) : gb330 ≠ gb308)); have n13_ := Aside0.mk ((by rw [hg]; exact Nat.ne_of_lt (blk_lt (g := gb315) (o := .cells #[.slice Ao17 t309.length co17, .int .i64 t312] 25 (0, 0)) (by (with_reducible repeat (first | refine blk_drewN ?_ _ | refine blk_drew ?_ | refine blk_alloc ?_ _)); exact BK315.out)) : gb315 ≠ gb330)); have n14_ := Aside0.mk ((by rw [hg]; exact Nat.ne_of_gt (blk_lt (g := gb315) (o := .cells #[.slice Ao17 t309.length co17, .int .i64 t312] 25 (0, 0)) (by (with_reducible repeat (first | refine blk_drewN ?_ _ | refine blk_drew ?_ | refine blk_alloc ?_ _)); exact BK315.out)) : gb330 ≠ gb315)); have n15_ := Aside0.mk ((by rw [hg]; exact Nat.ne_of_lt (blk_lt (g := gb323) (o := .cells #[.slice Ao40 t317.length co40, .int .i64 t320] 25 (0, 0)) (by (with_reducible repeat (first | refine blk_drewN ?_ _ | refine blk_drew ?_ | refine blk_alloc ?_ _)); exact BK323.out)) : gb323 ≠ gb330)); have n16_ := Aside0.mk ((by rw [hg]; exact Nat.ne_of_gt (blk_lt (g := gb323) (o := .cells #[.slice Ao40 t317.length co40, .int .i64 t320] 25 (0, 0)) (by (with_reducible repeat (first | refine blk_drewN ?_ _ | refine blk_drew ?_ | refine blk_alloc ?_ _)); exact BK323.out)) : gb330 ≠ gb323)); clear HO_309000; clear HO_316000; clear HO319; clear HO326; clear BK308; clear BK315; clear BK323; clear HB; have HO_309000 := n0_; have HO_316000 := n1_; have HO319 := n2_; have HO326 := n3_; have BK308 := n4_; have BK315 := n5_; have BK323 := n6_; have HB := n7_; have BK330 := n8_; have GW330 := n9_; have GE330 := n10_; have NB308_330 := n11_; have NB330_308 := n12_; have NB315_330 := n13_; have NB330_315 := n14_; have NB323_330 := n15_; have NB330_323 := n16_; clear n0_ n1_ n2_ n3_ n4_ n5_ n6_ n7_ n8_ n9_ n10_ n11_ n12_ n13_ n14_ n15_ n16_; clear hb hbox hg; obtain ⟨Ao46, co46, eo46⟩ := Kd.R_slice HO326.out; subst eo46; have hnb47 := NB330_308.out; have hnc47 := NB308_330.out; have hnb48 := NB330_315.out; have hnc48 := NB315_330.out; have hnb49 := NB330_323.out; have hnc49 := NB323_330.out; have hcz50_0 : w45.cell? ⟨gb330, 0, none⟩ = some (.slice none 0 0) := (blk_cell BK330.out 0).trans rfl; have hcz50_1 : w45.cell? ⟨gb330, 1, none⟩ = some (.int .i64 0) := (blk_cell BK330.out 1).trans rfl; have hfz50_0 := blk_frozen BK330.out 0; have hfz50_1 := blk_frozen BK330.out 1))
                      (try simp only [Act.put, List.setIfInBounds_toArray, List.set_cons_zero, List.set_cons_succ])
                      go_cut [85] (fun v85 wc => ∃ (kq : Nat) (x85_36 : Bool), v85 = .bool x85_36 ∧ Aside0 (gangerlaw06_IndexesJoins.j2 kq x85_36 t302 t305 t309 t312 t317 t320 = some r) ∧ Aside0 (kq ≤ kj9) ∧ Aside0 (Kd.R (Kd.int .i64) 3 wc w.heap.size (fun k_ => some k_ ≠ ((.slice Ao17 t309.length co17) : Value).ownBlock ∧ some k_ ≠ ((.slice Ao40 t317.length co40) : Value).ownBlock ∧ some k_ ≠ ((.slice Ao46 t324.length co46) : Value).ownBlock) (.slice Ao13 t302.length co13) t302) ∧ Aside0 (Kd.R (Kd.int .i64) 3 wc w.heap.size (fun k_ => some k_ ≠ ((.slice Ao13 t302.length co13) : Value).ownBlock ∧ some k_ ≠ ((.slice Ao40 t317.length co40) : Value).ownBlock ∧ some k_ ≠ ((.slice Ao46 t324.length co46) : Value).ownBlock) (.slice Ao17 t309.length co17) t309) ∧ Aside0 (Kd.R (Kd.int .i64) 3 wc w.heap.size (fun k_ => some k_ ≠ ((.slice Ao13 t302.length co13) : Value).ownBlock ∧ some k_ ≠ ((.slice Ao17 t309.length co17) : Value).ownBlock ∧ some k_ ≠ ((.slice Ao46 t324.length co46) : Value).ownBlock) (.slice Ao40 t317.length co40) t317) ∧ Aside0 (Kd.R (Kd.int .i64) 3 wc w.heap.size (fun k_ => some k_ ≠ ((.slice Ao13 t302.length co13) : Value).ownBlock ∧ some k_ ≠ ((.slice Ao17 t309.length co17) : Value).ownBlock ∧ some k_ ≠ ((.slice Ao40 t317.length co40) : Value).ownBlock) (.slice Ao46 t324.length co46) t324) ∧ Aside0 (wc.heap[gb308]? = some (.cells #[(.slice Ao13 t302.length co13), .int .i64 t305] 25 (0, 0))) ∧ Aside0 (wc.heap[gb315]? = some (.cells #[(.slice Ao17 t309.length co17), .int .i64 t312] 25 (0, 0))) ∧ Aside0 (wc.heap[gb323]? = some (.cells #[(.slice Ao40 t317.length co40), .int .i64 t320] 25 (0, 0))) ∧ Aside0 (wc.heap[gb330]? = some (.cells #[(.slice Ao46 t324.length co46), .int .i64 t327] 25 (0, 0))) ∧ Aside0 (Below w.heap.size w wc))
                      case first =>
                        have H := HC37.out
                        clear HC37
                        by_cases c51 : t322 = 0
                        · rw [if_pos c51] at H
                          have c51b0 : (t322 == 0) = true := beq_iff_eq.mpr c51
                          have c51b1 : (t322 != 0) = false := bne_eq_false_iff_eq.mpr c51
                          clear c51
                          (first | rw [c51b0] | (simp only [i64_w, i32_w]; rw [c51b0]) | skip)
                          by_cases c52 : t329 = 0
                          · rw [if_pos c52] at H
                            have c52b0 : (t329 == 0) = true := beq_iff_eq.mpr c52
                            have c52b1 : (t329 != 0) = false := bne_eq_false_iff_eq.mpr c52
                            clear c52
                            replace H := Option.bind_eq_some_iff.mp H
                            obtain ⟨t331, A530, H⟩ := H
                            replace H : (gangerlaw06_IndexesJoins.j2 kj9 (!t331) t302 t305 t309 t312 t317 t320) = some r := H
                            have A53 := Aside0.mk A530
                            clear A530
                            have H' := Aside0.mk H
                            clear H
                            have hnb54 := NB323_308.out
                            have hnc54 := NB308_323.out
                            have hnb55 := NB323_315.out
                            have hnc55 := NB315_323.out
                            have hnb56 := NB323_330.out
                            have hnc56 := NB330_323.out
                            have hcz57_0 : w45.cell? ⟨gb323, 0, none⟩ = some (.slice Ao40 t317.length co40) := (blk_cell BK323.out 0).trans rfl
                            have hcz57_1 : w45.cell? ⟨gb323, 1, none⟩ = some (.int .i64 t320) := (blk_cell BK323.out 1).trans rfl
                            have hfz57_0 := blk_frozen BK323.out 0
                            have hfz57_1 := blk_frozen BK323.out 1
                            have hnb58 := NB330_308.out
                            have hnc58 := NB308_330.out
                            have hnb59 := NB330_315.out
                            have hnc59 := NB315_330.out
                            have hcz60_0 : w45.cell? ⟨gb330, 0, none⟩ = some (.slice none 0 0) := (blk_cell BK330.out 0).trans rfl
                            have hcz60_1 : w45.cell? ⟨gb330, 1, none⟩ = some (.int .i64 0) := (blk_cell BK330.out 1).trans rfl
                            have hfz60_0 := blk_frozen BK330.out 0
                            have hfz60_1 := blk_frozen BK330.out 1
                            go_wp2_with (first | (go_at_call 13; (with_reducible refine (gangerref06_Same.calls kj9 _ _ t317 t320 _ _ t324 t327 t331 _ ?side1 ?side2 ?side3 ?side4 A53.out).mono ?_); (case side1 => refine (Kd.R_reads' (e := 3) (base := w.heap.size) (ok := fun k_ => (((True ∧ some k_ ≠ (.slice Ao13 t302.length co13 : Value).ownBlock) ∧ some k_ ≠ (.slice Ao17 t309.length co17 : Value).ownBlock) ∧ some k_ ≠ (.slice Ao46 t324.length co46 : Value).ownBlock)) (n := t317.length) (c := co40) ?_).2.2; exact (by (with_reducible repeat (first | apply Kd.R_alloc | apply Kd.R_drewN | apply Kd.R_drew)); exact (Kd.R_mono (Kd.R_far (p := ⟨gb330, 1, none⟩) (Kd.R_far (p := ⟨gb330, 0, none⟩) (Kd.R_types HO319.out BK330.out (by decide)) (fun _ hk => hk.2) (.slice Ao46 t324.length co46)) (fun _ hk => hk.2) (.int .i64 t327)) (fun _ h_ => h_.1)))); (case side2 => exact (Kd.R_reads' HO319.out).2.1); (case side3 => refine (Kd.R_reads' (e := 3) (base := w.heap.size) (ok := fun k_ => (((True ∧ some k_ ≠ (.slice Ao13 t302.length co13 : Value).ownBlock) ∧ some k_ ≠ (.slice Ao17 t309.length co17 : Value).ownBlock) ∧ some k_ ≠ (.slice Ao40 t317.length co40 : Value).ownBlock)) (n := t324.length) (c := co46) ?_).2.2; exact (by (with_reducible repeat (first | apply Kd.R_alloc | apply Kd.R_drewN | apply Kd.R_drew)); exact (Kd.R_mono (Kd.R_far (p := ⟨gb330, 1, none⟩) (Kd.R_far (p := ⟨gb330, 0, none⟩) (Kd.R_types HO326.out BK330.out (by decide)) (fun _ hk => hk.2) (.slice Ao46 t324.length co46)) (fun _ hk => hk.2) (.int .i64 t327)) (fun _ h_ => h_.1)))); (case side4 => exact (Kd.R_reads' HO326.out).2.1); rintro e w61 ⟨rfl, hb⟩; have n0_ := Aside0.mk (Kd.R_below (by (with_reducible repeat (first | apply Kd.R_alloc | apply Kd.R_drewN | apply Kd.R_drew)); exact (Kd.R_mono (Kd.R_far (p := ⟨gb330, 1, none⟩) (Kd.R_far (p := ⟨gb330, 0, none⟩) (Kd.R_types HO_309000.out BK330.out (by decide)) (fun _ hk => hk.2) (.slice Ao46 t324.length co46)) (fun _ hk => hk.2) (.int .i64 t327)) (fun _ h_ => h_.1))) hb); have n1_ := Aside0.mk (Kd.R_below (by (with_reducible repeat (first | apply Kd.R_alloc | apply Kd.R_drewN | apply Kd.R_drew)); exact (Kd.R_mono (Kd.R_far (p := ⟨gb330, 1, none⟩) (Kd.R_far (p := ⟨gb330, 0, none⟩) (Kd.R_types HO_316000.out BK330.out (by decide)) (fun _ hk => hk.2) (.slice Ao46 t324.length co46)) (fun _ hk => hk.2) (.int .i64 t327)) (fun _ h_ => h_.1))) hb); have n2_ := Aside0.mk (Kd.R_below (by (with_reducible repeat (first | apply Kd.R_alloc | apply Kd.R_drewN | apply Kd.R_drew)); exact (Kd.R_mono (Kd.R_far (p := ⟨gb330, 1, none⟩) (Kd.R_far (p := ⟨gb330, 0, none⟩) (Kd.R_types HO319.out BK330.out (by decide)) (fun _ hk => hk.2) (.slice Ao46 t324.length co46)) (fun _ hk => hk.2) (.int .i64 t327)) (fun _ h_ => h_.1))) hb); have n3_ := Aside0.mk (Kd.R_below (by (with_reducible repeat (first | apply Kd.R_alloc | apply Kd.R_drewN | apply Kd.R_drew)); exact (Kd.R_mono (Kd.R_far (p := ⟨gb330, 1, none⟩) (Kd.R_far (p := ⟨gb330, 0, none⟩) (Kd.R_types HO326.out BK330.out (by decide)) (fun _ hk => hk.2) (.slice Ao46 t324.length co46)) (fun _ hk => hk.2) (.int .i64 t327)) (fun _ h_ => h_.1))) hb); have n4_ := Aside0.mk (blk_below (g := gb308) (o := .cells #[.slice Ao13 t302.length co13, .int .i64 t305] 25 (0, 0)) (by (with_reducible repeat (first | refine blk_drewN ?_ _ | refine blk_drew ?_ | refine blk_alloc ?_ _)); refine blk_far ?_ NB308_330.out _; (with_reducible repeat (first | refine blk_drewN ?_ _ | refine blk_drew ?_ | refine blk_alloc ?_ _)); refine blk_far ?_ NB308_330.out _; (with_reducible repeat (first | refine blk_drewN ?_ _ | refine blk_drew ?_ | refine blk_alloc ?_ _)); exact BK308.out) hb); have n5_ := Aside0.mk (blk_below (g := gb315) (o := .cells #[.slice Ao17 t309.length co17, .int .i64 t312] 25 (0, 0)) (by (with_reducible repeat (first | refine blk_drewN ?_ _ | refine blk_drew ?_ | refine blk_alloc ?_ _)); refine blk_far ?_ NB315_330.out _; (with_reducible repeat (first | refine blk_drewN ?_ _ | refine blk_drew ?_ | refine blk_alloc ?_ _)); refine blk_far ?_ NB315_330.out _; (with_reducible repeat (first | refine blk_drewN ?_ _ | refine blk_drew ?_ | refine blk_alloc ?_ _)); exact BK315.out) hb); have n6_ := Aside0.mk (blk_below (g := gb323) (o := .cells #[.slice Ao40 t317.length co40, .int .i64 t320] 25 (0, 0)) (by (with_reducible repeat (first | refine blk_drewN ?_ _ | refine blk_drew ?_ | refine blk_alloc ?_ _)); refine blk_far ?_ NB323_330.out _; (with_reducible repeat (first | refine blk_drewN ?_ _ | refine blk_drew ?_ | refine blk_alloc ?_ _)); refine blk_far ?_ NB323_330.out _; (with_reducible repeat (first | refine blk_drewN ?_ _ | refine blk_drew ?_ | refine blk_alloc ?_ _)); exact BK323.out) hb); have n7_ := Aside0.mk (blk_below (g := gb330) (o := .cells #[.slice Ao46 t324.length co46, .int .i64 t327] 25 (0, 0)) (by (with_reducible repeat (first | refine blk_drewN ?_ _ | refine blk_drew ?_ | refine blk_alloc ?_ _)); refine blk_put (cs := #[.slice Ao46 t324.length co46, .int .i64 0]) ?_ 1 _ rfl; (with_reducible repeat (first | refine blk_drewN ?_ _ | refine blk_drew ?_ | refine blk_alloc ?_ _)); refine blk_put (cs := #[.slice none 0 0, .int .i64 0]) ?_ 0 _ rfl; (with_reducible repeat (first | refine blk_drewN ?_ _ | refine blk_drew ?_ | refine blk_alloc ?_ _)); exact BK330.out) hb); have n8_ := Aside0.mk (below_step (by repeat (first | (with_reducible first | exact HB.out | apply below_alloc | apply pw_below_drewN | apply below_drew1 | refine below_set ?_ GE308.out | refine below_set ?_ GE315.out | refine below_set ?_ GE323.out | refine below_set ?_ GE330.out) | exact HB.out)) hb); clear HO_309000; clear HO_316000; clear HO319; clear HO326; clear BK308; clear BK315; clear BK323; clear BK330; clear HB; have HO_309000 := n0_; have HO_316000 := n1_; have HO319 := n2_; have HO326 := n3_; have BK308 := n4_; have BK315 := n5_; have BK323 := n6_; have BK330 := n7_; have HB := n8_; clear n0_ n1_ n2_ n3_ n4_ n5_ n6_ n7_ n8_; (try clear hb); (try clear hb2); (try clear hk); (try clear hi)))
                            go_meet
                            case rel => exact ⟨_, (!t331), (by first | rfl | (simp; done) | (simp [*]; done)), H', ⟨by have := HJ2.out; have := HJ9.out; first | omega | exact Nat.le_refl _⟩, ⟨by (with_reducible repeat (first | apply Kd.R_alloc | apply Kd.R_drewN | apply Kd.R_drew)); exact Kd.R_mono HO_309000.out (fun _ hk => ⟨hk.1.1, ⟨hk.1.2, hk.2⟩⟩)⟩, ⟨by (with_reducible repeat (first | apply Kd.R_alloc | apply Kd.R_drewN | apply Kd.R_drew)); exact Kd.R_mono HO_316000.out (fun _ hk => ⟨hk.1.1, ⟨hk.1.2, hk.2⟩⟩)⟩, ⟨by (with_reducible repeat (first | apply Kd.R_alloc | apply Kd.R_drewN | apply Kd.R_drew)); exact Kd.R_mono HO319.out (fun _ hk => ⟨hk.1.1.2, ⟨hk.1.2, hk.2⟩⟩)⟩, ⟨by (with_reducible repeat (first | apply Kd.R_alloc | apply Kd.R_drewN | apply Kd.R_drew)); exact Kd.R_mono HO326.out (fun _ hk => ⟨hk.1.1.2, ⟨hk.1.2, hk.2⟩⟩)⟩, ⟨by (with_reducible repeat (first | refine blk_drewN ?_ _ | refine blk_drew ?_ | refine blk_alloc ?_ _)); exact BK308.out⟩, ⟨by (with_reducible repeat (first | refine blk_drewN ?_ _ | refine blk_drew ?_ | refine blk_alloc ?_ _)); exact BK315.out⟩, ⟨by (with_reducible repeat (first | refine blk_drewN ?_ _ | refine blk_drew ?_ | refine blk_alloc ?_ _)); exact BK323.out⟩, ⟨by (with_reducible repeat (first | refine blk_drewN ?_ _ | refine blk_drew ?_ | refine blk_alloc ?_ _)); exact BK330.out⟩, ⟨by repeat (first | (with_reducible first | exact HB.out | apply below_alloc | apply pw_below_drewN | apply below_drew1 | refine below_set ?_ GE308.out | refine below_set ?_ GE315.out | refine below_set ?_ GE323.out | refine below_set ?_ GE330.out) | exact HB.out)⟩⟩
                          · rw [if_neg c52] at H
                            have c52b0 : (t329 == 0) = false := beq_eq_false_iff_ne.mpr c52
                            have c52b1 : (t329 != 0) = true := bne_iff_ne.mpr c52
                            have H' := Aside0.mk H
                            clear H
                            go_wp2
                            go_meet
                            case rel => exact ⟨_, (true), (by first | rfl | (simp; done) | (simp [*]; done)), H', ⟨by have := HJ2.out; have := HJ9.out; first | omega | exact Nat.le_refl _⟩, ⟨by (with_reducible repeat (first | apply Kd.R_alloc | apply Kd.R_drewN | apply Kd.R_drew)); exact Kd.R_mono (Kd.R_far (p := ⟨gb330, 1, none⟩) (Kd.R_far (p := ⟨gb330, 0, none⟩) (Kd.R_types HO_309000.out BK330.out (by decide)) (fun _ hk => hk.2) (.slice Ao46 t324.length co46)) (fun _ hk => hk.2) (.int .i64 t327)) (fun _ hk => ⟨hk.1.1.1, ⟨hk.1.1.2, hk.1.2⟩⟩)⟩, ⟨by (with_reducible repeat (first | apply Kd.R_alloc | apply Kd.R_drewN | apply Kd.R_drew)); exact Kd.R_mono (Kd.R_far (p := ⟨gb330, 1, none⟩) (Kd.R_far (p := ⟨gb330, 0, none⟩) (Kd.R_types HO_316000.out BK330.out (by decide)) (fun _ hk => hk.2) (.slice Ao46 t324.length co46)) (fun _ hk => hk.2) (.int .i64 t327)) (fun _ hk => ⟨hk.1.1.1, ⟨hk.1.1.2, hk.1.2⟩⟩)⟩, ⟨by (with_reducible repeat (first | apply Kd.R_alloc | apply Kd.R_drewN | apply Kd.R_drew)); exact Kd.R_mono (Kd.R_far (p := ⟨gb330, 1, none⟩) (Kd.R_far (p := ⟨gb330, 0, none⟩) (Kd.R_types HO319.out BK330.out (by decide)) (fun _ hk => hk.2) (.slice Ao46 t324.length co46)) (fun _ hk => hk.2) (.int .i64 t327)) (fun _ hk => ⟨hk.1.1.1.2, ⟨hk.1.1.2, hk.1.2⟩⟩)⟩, ⟨by (with_reducible repeat (first | apply Kd.R_alloc | apply Kd.R_drewN | apply Kd.R_drew)); exact Kd.R_mono (Kd.R_far (p := ⟨gb330, 1, none⟩) (Kd.R_far (p := ⟨gb330, 0, none⟩) (Kd.R_types HO326.out BK330.out (by decide)) (fun _ hk => hk.2) (.slice Ao46 t324.length co46)) (fun _ hk => hk.2) (.int .i64 t327)) (fun _ hk => ⟨hk.1.1.1.2, ⟨hk.1.1.2, hk.1.2⟩⟩)⟩, ⟨by (with_reducible repeat (first | refine blk_drewN ?_ _ | refine blk_drew ?_ | refine blk_alloc ?_ _)); refine blk_far ?_ NB308_330.out _; (with_reducible repeat (first | refine blk_drewN ?_ _ | refine blk_drew ?_ | refine blk_alloc ?_ _)); refine blk_far ?_ NB308_330.out _; (with_reducible repeat (first | refine blk_drewN ?_ _ | refine blk_drew ?_ | refine blk_alloc ?_ _)); exact BK308.out⟩, ⟨by (with_reducible repeat (first | refine blk_drewN ?_ _ | refine blk_drew ?_ | refine blk_alloc ?_ _)); refine blk_far ?_ NB315_330.out _; (with_reducible repeat (first | refine blk_drewN ?_ _ | refine blk_drew ?_ | refine blk_alloc ?_ _)); refine blk_far ?_ NB315_330.out _; (with_reducible repeat (first | refine blk_drewN ?_ _ | refine blk_drew ?_ | refine blk_alloc ?_ _)); exact BK315.out⟩, ⟨by (with_reducible repeat (first | refine blk_drewN ?_ _ | refine blk_drew ?_ | refine blk_alloc ?_ _)); refine blk_far ?_ NB323_330.out _; (with_reducible repeat (first | refine blk_drewN ?_ _ | refine blk_drew ?_ | refine blk_alloc ?_ _)); refine blk_far ?_ NB323_330.out _; (with_reducible repeat (first | refine blk_drewN ?_ _ | refine blk_drew ?_ | refine blk_alloc ?_ _)); exact BK323.out⟩, ⟨by (with_reducible repeat (first | refine blk_drewN ?_ _ | refine blk_drew ?_ | refine blk_alloc ?_ _)); refine blk_put (cs := #[.slice Ao46 t324.length co46, .int .i64 0]) ?_ 1 _ rfl; (with_reducible repeat (first | refine blk_drewN ?_ _ | refine blk_drew ?_ | refine blk_alloc ?_ _)); refine blk_put (cs := #[.slice none 0 0, .int .i64 0]) ?_ 0 _ rfl; (with_reducible repeat (first | refine blk_drewN ?_ _ | refine blk_drew ?_ | refine blk_alloc ?_ _)); exact BK330.out⟩, ⟨by repeat (first | (with_reducible first | exact HB.out | apply below_alloc | apply pw_below_drewN | apply below_drew1 | refine below_set ?_ GE308.out | refine below_set ?_ GE315.out | refine below_set ?_ GE323.out | refine below_set ?_ GE330.out) | exact HB.out)⟩⟩
                        · rw [if_neg c51] at H
                          have c51b0 : (t322 == 0) = false := beq_eq_false_iff_ne.mpr c51
                          have c51b1 : (t322 != 0) = true := bne_iff_ne.mpr c51
                          (first | rw [c51b0] | (simp only [i64_w, i32_w]; rw [c51b0]) | skip)
                          have H' := Aside0.mk H
                          clear H
                          go_wp2
                          go_meet
                          case rel => exact ⟨_, (true), (by first | rfl | (simp; done) | (simp [*]; done)), H', ⟨by have := HJ2.out; have := HJ9.out; first | omega | exact Nat.le_refl _⟩, ⟨by (with_reducible repeat (first | apply Kd.R_alloc | apply Kd.R_drewN | apply Kd.R_drew)); exact Kd.R_mono (Kd.R_far (p := ⟨gb330, 1, none⟩) (Kd.R_far (p := ⟨gb330, 0, none⟩) (Kd.R_types HO_309000.out BK330.out (by decide)) (fun _ hk => hk.2) (.slice Ao46 t324.length co46)) (fun _ hk => hk.2) (.int .i64 t327)) (fun _ hk => ⟨hk.1.1.1, ⟨hk.1.1.2, hk.1.2⟩⟩)⟩, ⟨by (with_reducible repeat (first | apply Kd.R_alloc | apply Kd.R_drewN | apply Kd.R_drew)); exact Kd.R_mono (Kd.R_far (p := ⟨gb330, 1, none⟩) (Kd.R_far (p := ⟨gb330, 0, none⟩) (Kd.R_types HO_316000.out BK330.out (by decide)) (fun _ hk => hk.2) (.slice Ao46 t324.length co46)) (fun _ hk => hk.2) (.int .i64 t327)) (fun _ hk => ⟨hk.1.1.1, ⟨hk.1.1.2, hk.1.2⟩⟩)⟩, ⟨by (with_reducible repeat (first | apply Kd.R_alloc | apply Kd.R_drewN | apply Kd.R_drew)); exact Kd.R_mono (Kd.R_far (p := ⟨gb330, 1, none⟩) (Kd.R_far (p := ⟨gb330, 0, none⟩) (Kd.R_types HO319.out BK330.out (by decide)) (fun _ hk => hk.2) (.slice Ao46 t324.length co46)) (fun _ hk => hk.2) (.int .i64 t327)) (fun _ hk => ⟨hk.1.1.1.2, ⟨hk.1.1.2, hk.1.2⟩⟩)⟩, ⟨by (with_reducible repeat (first | apply Kd.R_alloc | apply Kd.R_drewN | apply Kd.R_drew)); exact Kd.R_mono (Kd.R_far (p := ⟨gb330, 1, none⟩) (Kd.R_far (p := ⟨gb330, 0, none⟩) (Kd.R_types HO326.out BK330.out (by decide)) (fun _ hk => hk.2) (.slice Ao46 t324.length co46)) (fun _ hk => hk.2) (.int .i64 t327)) (fun _ hk => ⟨hk.1.1.1.2, ⟨hk.1.1.2, hk.1.2⟩⟩)⟩, ⟨by (with_reducible repeat (first | refine blk_drewN ?_ _ | refine blk_drew ?_ | refine blk_alloc ?_ _)); refine blk_far ?_ NB308_330.out _; (with_reducible repeat (first | refine blk_drewN ?_ _ | refine blk_drew ?_ | refine blk_alloc ?_ _)); refine blk_far ?_ NB308_330.out _; (with_reducible repeat (first | refine blk_drewN ?_ _ | refine blk_drew ?_ | refine blk_alloc ?_ _)); exact BK308.out⟩, ⟨by (with_reducible repeat (first | refine blk_drewN ?_ _ | refine blk_drew ?_ | refine blk_alloc ?_ _)); refine blk_far ?_ NB315_330.out _; (with_reducible repeat (first | refine blk_drewN ?_ _ | refine blk_drew ?_ | refine blk_alloc ?_ _)); refine blk_far ?_ NB315_330.out _; (with_reducible repeat (first | refine blk_drewN ?_ _ | refine blk_drew ?_ | refine blk_alloc ?_ _)); exact BK315.out⟩, ⟨by (with_reducible repeat (first | refine blk_drewN ?_ _ | refine blk_drew ?_ | refine blk_alloc ?_ _)); refine blk_far ?_ NB323_330.out _; (with_reducible repeat (first | refine blk_drewN ?_ _ | refine blk_drew ?_ | refine blk_alloc ?_ _)); refine blk_far ?_ NB323_330.out _; (with_reducible repeat (first | refine blk_drewN ?_ _ | refine blk_drew ?_ | refine blk_alloc ?_ _)); exact BK323.out⟩, ⟨by (with_reducible repeat (first | refine blk_drewN ?_ _ | refine blk_drew ?_ | refine blk_alloc ?_ _)); refine blk_put (cs := #[.slice Ao46 t324.length co46, .int .i64 0]) ?_ 1 _ rfl; (with_reducible repeat (first | refine blk_drewN ?_ _ | refine blk_drew ?_ | refine blk_alloc ?_ _)); refine blk_put (cs := #[.slice none 0 0, .int .i64 0]) ?_ 0 _ rfl; (with_reducible repeat (first | refine blk_drewN ?_ _ | refine blk_drew ?_ | refine blk_alloc ?_ _)); exact BK330.out⟩, ⟨by repeat (first | (with_reducible first | exact HB.out | apply below_alloc | apply pw_below_drewN | apply below_drew1 | refine below_set ?_ GE308.out | refine below_set ?_ GE315.out | refine below_set ?_ GE323.out | refine below_set ?_ GE330.out) | exact HB.out)⟩⟩
                      case rest =>
                        clear HC37
                        try clear c1
                        try clear c2
                        try clear p2
                        try clear c3
                        try clear c4
                        try clear c4b0
                        try clear c4b1
                        try clear c5
                        try clear c6
                        try clear c10
                        try clear c11
                        try clear c18
                        try clear c20
                        try clear c20b0
                        try clear c20b1
                        try clear c21
                        try clear c21b0
                        try clear c21b1
                        try clear c22
                        try clear c22b0
                        try clear c23
                        try clear c25
                        try clear c28
                        try clear c31
                        try clear c31b0
                        try clear c31b1
                        try clear c31b2
                        try clear c32
                        try clear c32b0
                        try clear c32b1
                        try clear c32b2
                        try clear c34
                        try clear c34b0
                        try clear c34b1
                        try clear c34b2
                        try clear c35
                        try clear c35b0
                        try clear c35b1
                        try clear c35b2
                        try clear c41
                        try clear c42
                        try clear c47
                        try clear c48
                        try clear c49
                        try clear c51
                        try clear c51b0
                        try clear c51b1
                        try clear c52
                        try clear c52b0
                        try clear c52b1
                        try clear c54
                        try clear c55
                        try clear c56
                        try clear c58
                        try clear c59
                        try clear hcz14_0
                        try clear hcz14_1
                        try clear hcz19_0
                        try clear hcz19_1
                        try clear hcz24_0
                        try clear hcz24_1
                        try clear hcz26_0
                        try clear hcz26_1
                        try clear hcz27_0
                        try clear hcz27_1
                        try clear hcz43_0
                        try clear hcz43_1
                        try clear hcz50_0
                        try clear hcz50_1
                        try clear hcz57_0
                        try clear hcz57_1
                        try clear hcz60_0
                        try clear hcz60_1
                        try clear hfz14_0
                        try clear hfz14_1
                        try clear hfz19_0
                        try clear hfz19_1
                        try clear hfz24_0
                        try clear hfz24_1
                        try clear hfz26_0
                        try clear hfz26_1
                        try clear hfz27_0
                        try clear hfz27_1
                        try clear hfz43_0
                        try clear hfz43_1
                        try clear hfz50_0
                        try clear hfz50_1
                        try clear hfz57_0
                        try clear hfz57_1
                        try clear hfz60_0
                        try clear hfz60_1
                        try clear p2
                        obtain ⟨kq, x85_36, rfl, HA, HJ36, HO_309000, HO_316000, HO_324000, HO_331000, BK308, BK315, BK323, BK330, HB⟩ := hcut
                        cases kq with
                        | zero => exact absurd HA.out (by simp [gangerlaw06_IndexesJoins.j2])
                        | succ kj36 =>
                          have H := HA.out
                          clear HA
                          simp only [gangerlaw06_IndexesJoins.j2] at H
                          by_cases c62 : x85_36 = true
                          · subst c62
                            have H1 : (none) = some r := by rw [if_pos rfl] at H; exact H
                            clear H
                            have H := H1
                            clear H1
                            exact absurd H (by simp)
                          · replace c62 := Bool.eq_false_iff.mpr c62
                            subst c62
                            have H1 : (gangerlaw06_IndexesJoins.l0 kj36 0 t302 t305 t309 t312 t317 t320) = some r := by rw [if_neg (show ¬ (false = true) by decide)] at H; exact H
                            clear H
                            have H := H1
                            clear H1
                            have H' := Aside0.mk H
                            clear H
                            go_wp2
                            go_loopg [17] kj36 (fun kq v17 w' => ∃ (x17_4 : Int), v17 = .int .i64 x17_4 ∧ Aside0 (gangerlaw06_IndexesJoins.l0 kq x17_4 t302 t305 t309 t312 t317 t320 = some r) ∧ Aside0 (kq ≤ kj36) ∧ Aside0 (Kd.R (Kd.int .i64) 3 w' w.heap.size (fun k_ => some k_ ≠ ((.slice Ao17 t309.length co17) : Value).ownBlock ∧ some k_ ≠ ((.slice Ao40 t317.length co40) : Value).ownBlock ∧ some k_ ≠ ((.slice Ao46 t324.length co46) : Value).ownBlock) (.slice Ao13 t302.length co13) t302) ∧ Aside0 (Kd.R (Kd.int .i64) 3 w' w.heap.size (fun k_ => some k_ ≠ ((.slice Ao13 t302.length co13) : Value).ownBlock ∧ some k_ ≠ ((.slice Ao40 t317.length co40) : Value).ownBlock ∧ some k_ ≠ ((.slice Ao46 t324.length co46) : Value).ownBlock) (.slice Ao17 t309.length co17) t309) ∧ Aside0 (Kd.R (Kd.int .i64) 3 w' w.heap.size (fun k_ => some k_ ≠ ((.slice Ao13 t302.length co13) : Value).ownBlock ∧ some k_ ≠ ((.slice Ao17 t309.length co17) : Value).ownBlock ∧ some k_ ≠ ((.slice Ao46 t324.length co46) : Value).ownBlock) (.slice Ao40 t317.length co40) t317) ∧ Aside0 (Kd.R (Kd.int .i64) 3 w' w.heap.size (fun k_ => some k_ ≠ ((.slice Ao13 t302.length co13) : Value).ownBlock ∧ some k_ ≠ ((.slice Ao17 t309.length co17) : Value).ownBlock ∧ some k_ ≠ ((.slice Ao40 t317.length co40) : Value).ownBlock) (.slice Ao46 t324.length co46) t324) ∧ Aside0 (w'.heap[gb308]? = some (.cells #[(.slice Ao13 t302.length co13), .int .i64 t305] 25 (0, 0))) ∧ Aside0 (w'.heap[gb315]? = some (.cells #[(.slice Ao17 t309.length co17), .int .i64 t312] 25 (0, 0))) ∧ Aside0 (w'.heap[gb323]? = some (.cells #[(.slice Ao40 t317.length co40), .int .i64 t320] 25 (0, 0))) ∧ Aside0 (w'.heap[gb330]? = some (.cells #[(.slice Ao46 t324.length co46), .int .i64 t327] 25 (0, 0))) ∧ Aside0 (Below w.heap.size w w'))
                            case atStart => exact ⟨(0), (by first | rfl | (simp; done) | (simp [*]; done)), H', ⟨Nat.le_refl _⟩, ⟨by (with_reducible repeat (first | apply Kd.R_alloc | apply Kd.R_drewN | apply Kd.R_drew)); exact HO_309000.out⟩, ⟨by (with_reducible repeat (first | apply Kd.R_alloc | apply Kd.R_drewN | apply Kd.R_drew)); exact HO_316000.out⟩, ⟨by (with_reducible repeat (first | apply Kd.R_alloc | apply Kd.R_drewN | apply Kd.R_drew)); exact HO_324000.out⟩, ⟨by (with_reducible repeat (first | apply Kd.R_alloc | apply Kd.R_drewN | apply Kd.R_drew)); exact HO_331000.out⟩, ⟨by (with_reducible repeat (first | refine blk_drewN ?_ _ | refine blk_drew ?_ | refine blk_alloc ?_ _)); exact BK308.out⟩, ⟨by (with_reducible repeat (first | refine blk_drewN ?_ _ | refine blk_drew ?_ | refine blk_alloc ?_ _)); exact BK315.out⟩, ⟨by (with_reducible repeat (first | refine blk_drewN ?_ _ | refine blk_drew ?_ | refine blk_alloc ?_ _)); exact BK323.out⟩, ⟨by (with_reducible repeat (first | refine blk_drewN ?_ _ | refine blk_drew ?_ | refine blk_alloc ?_ _)); exact BK330.out⟩, ⟨by repeat (first | (with_reducible first | exact HB.out | apply below_alloc | apply pw_below_drewN | apply below_drew1 | refine below_set ?_ GE308.out | refine below_set ?_ GE315.out | refine below_set ?_ GE323.out | refine below_set ?_ GE330.out) | exact HB.out)⟩⟩
                            case round =>
                              clear H'
                              try clear c1
                              try clear c2
                              try clear p2
                              try clear c3
                              try clear c4
                              try clear c4b0
                              try clear c4b1
                              try clear c5
                              try clear c6
                              try clear c10
                              try clear c11
                              try clear c18
                              try clear c20
                              try clear c20b0
                              try clear c20b1
                              try clear c21
                              try clear c21b0
                              try clear c21b1
                              try clear c22
                              try clear c22b0
                              try clear c23
                              try clear c25
                              try clear c28
                              try clear c31
                              try clear c31b0
                              try clear c31b1
                              try clear c31b2
                              try clear c32
                              try clear c32b0
                              try clear c32b1
                              try clear c32b2
                              try clear c34
                              try clear c34b0
                              try clear c34b1
                              try clear c34b2
                              try clear c35
                              try clear c35b0
                              try clear c35b1
                              try clear c35b2
                              try clear c41
                              try clear c42
                              try clear c47
                              try clear c48
                              try clear c49
                              try clear c51
                              try clear c51b0
                              try clear c51b1
                              try clear c52
                              try clear c52b0
                              try clear c52b1
                              try clear c54
                              try clear c55
                              try clear c56
                              try clear c58
                              try clear c59
                              try clear c62
                              try clear hcz14_0
                              try clear hcz14_1
                              try clear hcz19_0
                              try clear hcz19_1
                              try clear hcz24_0
                              try clear hcz24_1
                              try clear hcz26_0
                              try clear hcz26_1
                              try clear hcz27_0
                              try clear hcz27_1
                              try clear hcz43_0
                              try clear hcz43_1
                              try clear hcz50_0
                              try clear hcz50_1
                              try clear hcz57_0
                              try clear hcz57_1
                              try clear hcz60_0
                              try clear hcz60_1
                              try clear hfz14_0
                              try clear hfz14_1
                              try clear hfz19_0
                              try clear hfz19_1
                              try clear hfz24_0
                              try clear hfz24_1
                              try clear hfz26_0
                              try clear hfz26_1
                              try clear hfz27_0
                              try clear hfz27_1
                              try clear hfz43_0
                              try clear hfz43_1
                              try clear hfz50_0
                              try clear hfz50_1
                              try clear hfz57_0
                              try clear hfz57_1
                              try clear hfz60_0
                              try clear hfz60_1
                              try clear p2
                              obtain ⟨x17_4, rfl, HA, HK4, HO_309000, HO_316000, HO_324000, HO_331000, BK308, BK315, BK323, BK330, HB⟩ := hrel
                              cases gk with
                              | zero => exact absurd HA.out (by simp [gangerlaw06_IndexesJoins.l0])
                              | succ k4 =>
                                have H := HA.out
                                clear HA
                                simp only [gangerlaw06_IndexesJoins.l0] at H
                                by_cases c63 : x17_4 ≤ 1000
                                · rw [if_pos c63] at H
                                  have c63b0 : decide (x17_4 ≤ 1000) = true := decide_eq_true c63
                                  clear c63
                                  replace H := Option.bind_eq_some_iff.mp H
                                  obtain ⟨t333, A640, H⟩ := H
                                  replace H : ((gangerlaw06_has.f k4 t302 t305 x17_4).bind fun t334 => (if t334 = true then (if (t333 != true) = true then (none) else (gangerlaw06_IndexesJoins.l0 k4 (wrap64 (x17_4 + 1)) t302 t305 t309 t312 t317 t320)) else ((gangerlaw06_has.f k4 t309 t312 x17_4).bind fun t335 => (if (t333 != t335) = true then (none) else (gangerlaw06_IndexesJoins.l0 k4 (wrap64 (x17_4 + 1)) t302 t305 t309 t312 t317 t320))))) = some r := H
                                  have A64 := Aside0.mk A640
                                  clear A640
                                  replace H := Option.bind_eq_some_iff.mp H
                                  obtain ⟨t334, A650, H⟩ := H
                                  replace H : (if t334 = true then (if (t333 != true) = true then (none) else (gangerlaw06_IndexesJoins.l0 k4 (wrap64 (x17_4 + 1)) t302 t305 t309 t312 t317 t320)) else ((gangerlaw06_has.f k4 t309 t312 x17_4).bind fun t335 => (if (t333 != t335) = true then (none) else (gangerlaw06_IndexesJoins.l0 k4 (wrap64 (x17_4 + 1)) t302 t305 t309 t312 t317 t320)))) = some r := H
                                  have A65 := Aside0.mk A650
                                  clear A650
                                  by_cases c66 : t334 = true
                                  · subst c66
                                    have H1 : (if (t333 != true) = true then (none) else (gangerlaw06_IndexesJoins.l0 k4 (wrap64 (x17_4 + 1)) t302 t305 t309 t312 t317 t320)) = some r := by rw [if_pos rfl] at H; exact H
                                    clear H
                                    have H := H1
                                    clear H1
                                    by_cases c67 : (t333 != true) = true
                                    · rw [if_pos c67] at H
                                      exact absurd H (by simp)
                                    · rw [if_neg c67] at H
                                      have c67b0 : (t333 != true) = false := by simpa using c67
                                      (try (have c67b1 : decide (t333 = true) = true := by simpa using c67))
                                      (try (have c67b2 : (t333 == true) = true := by simpa using c67))
                                      clear c67
                                      have H' := Aside0.mk H
                                      clear H
                                      try go_wp2
                                      have n0_ := Aside0.mk (Kd.R_drew HO_309000.out)
                                      have n1_ := Aside0.mk (Kd.R_drew HO_316000.out)
                                      have n2_ := Aside0.mk (Kd.R_drew HO_324000.out)
                                      have n3_ := Aside0.mk (Kd.R_drew HO_331000.out)
                                      have n4_ := Aside0.mk (blk_drew BK308.out)
                                      have n5_ := Aside0.mk (blk_drew BK315.out)
                                      have n6_ := Aside0.mk (blk_drew BK323.out)
                                      have n7_ := Aside0.mk (blk_drew BK330.out)
                                      have n8_ := Aside0.mk (below_drew1 HB.out)
                                      clear HO_309000
                                      clear HO_316000
                                      clear HO_324000
                                      clear HO_331000
                                      clear BK308
                                      clear BK315
                                      clear BK323
                                      clear BK330
                                      clear HB
                                      have HO_309000 := n0_
                                      have HO_316000 := n1_
                                      have HO_324000 := n2_
                                      have HO_331000 := n3_
                                      have BK308 := n4_
                                      have BK315 := n5_
                                      have BK323 := n6_
                                      have BK330 := n7_
                                      have HB := n8_
                                      clear n0_ n1_ n2_ n3_ n4_ n5_ n6_ n7_ n8_
                                      refine start_ (n := 12) (S := fun w' => w'.cell? ⟨gb323, 0, none⟩ = some (.slice Ao40 t317.length co40) ∧ w'.cell? ⟨gb323, 1, none⟩ = some (.int .i64 t320) ∧ w'.cell? ⟨gb308, 0, none⟩ = some (.slice Ao13 t302.length co13) ∧ w'.cell? ⟨gb308, 1, none⟩ = some (.int .i64 t305)) (ds := []) #[false, false, false, false, false, false, false, false, false, false, false, false] (by kernel_rfl) rfl rfl ⟨(blk_cell BK323.out 0).trans rfl, (blk_cell BK323.out 1).trans rfl, (blk_cell BK308.out 0).trans rfl, (blk_cell BK308.out 1).trans rfl⟩ (fun hHeld => ?_); refine with_tabW gangerlaw06_IndexesJoins.tab14 gangerlaw06_IndexesJoins.bits14 (fun HT_ HW_ => ?_)
                                      generalize wr.drew = w68 at HO_309000 HO_316000 HO_324000 HO_331000 BK308 BK315 BK323 BK330 HB hHeld ⊢
                                      refine pure_ (i := 1) (N := some 91) (v := ?_) (a' := ?_) #[false, true, false, false, false, false, false, false, false, false, false, false] rfl rfl (any_of HT_.out (by kernel_rfl)) (fun _ _ _ h => h) (Or.inl ⟨by rfl, ?_⟩) ?_ ?_
                                      rotate_left
                                      · intro w'
                                        go_simp
                                        with_reducible rfl
                                      rotate_left
                                      · simp only [Act.put, List.setIfInBounds_toArray, List.set_cons_zero, List.set_cons_succ, i64_w, i32_w]
                                        rfl
                                      refine pure_ (i := 4) (N := some 94) (v := ?_) (a' := ?_) #[false, true, false, false, true, false, false, false, false, false, false, false] rfl rfl (any_of HT_.out (by kernel_rfl)) (fun _ _ _ h => h) (Or.inl ⟨by rfl, ?_⟩) ?_ ?_
                                      rotate_left
                                      · intro w'
                                        go_simp
                                        with_reducible rfl
                                      rotate_left
                                      · simp only [Act.put, List.setIfInBounds_toArray, List.set_cons_zero, List.set_cons_succ, i64_w, i32_w]
                                        rfl
                                      refine take_ (i := 0) (N := some 90) (v := ?_) (a' := ?_) #[true, true, false, false, true, false, false, false, false, false, false, false] rfl rfl (take_ofW HT_.out HW_.out (by kernel_rfl)) (fun _ _ _ h => h) (Or.inl ⟨by rfl, ?_⟩) hHeld ?_ ?_
                                      rotate_left
                                      · rintro w' ⟨s0, s1, s2, s3⟩
                                        go_simp
                                        with_reducible rfl
                                      rotate_left
                                      · simp only [Act.put, List.setIfInBounds_toArray, List.set_cons_zero, List.set_cons_succ, i64_w, i32_w]
                                        rfl
                                      refine take_ (i := 3) (N := some 93) (v := ?_) (a' := ?_) #[true, true, false, true, true, false, false, false, false, false, false, false] rfl rfl (take_ofW HT_.out HW_.out (by kernel_rfl)) (fun _ _ _ h => h) (Or.inl ⟨by rfl, ?_⟩) hHeld ?_ ?_
                                      rotate_left
                                      · rintro w' ⟨s0, s1, s2, s3⟩
                                        go_simp
                                        with_reducible rfl
                                      rotate_left
                                      · simp only [Act.put, List.setIfInBounds_toArray, List.set_cons_zero, List.set_cons_succ, i64_w, i32_w]
                                        rfl
                                      refine one_ (i := 2) (N := some 92) #[true, true, true, true, true, false, false, false, false, false, false, false] rfl rfl (one_of HT_.out (by kernel_rfl)) (by decide) (fun K hK => ?_)
                                      refine goes_ Tryd.func18 (by kernel_rfl) rfl #[.agg #[.slice Ao40 t317.length co40, .int .i64 t320], .int .i64 x17_4] (by rfl) rfl rfl (by (try simp only [List.map_toArray, List.map_cons, List.map_nil]); first | done | rfl | (simp only [List.length_drop, List.length_take]; rfl)) ?_
                                      with_reducible refine (gangerlaw06_has.calls k4 _ _ t317 t320 x17_4 t333 _ ?side1 ?side2 A64.out).mono ?_
                                      (case side1 => repeat (first | exact (Kd.R_reads' HO_324000.out).2.2 | (with_reducible refine Kd.C_alloc ?_ _) | (with_reducible refine Kd.C_drewN ?_ _) | (with_reducible refine Kd.C_drew ?_)))
                                      (case side2 => exact (Kd.R_reads' HO_324000.out).2.1)
                                      rintro e w69 ⟨rfl, hb⟩
                                      refine ⟨_, rfl, ?_⟩
                                      have n0_ := Aside0.mk (Kd.R_below (by (with_reducible repeat (first | apply Kd.R_alloc | apply Kd.R_drewN | apply Kd.R_drew)); exact HO_309000.out) hb)
                                      have n1_ := Aside0.mk (Kd.R_below (by (with_reducible repeat (first | apply Kd.R_alloc | apply Kd.R_drewN | apply Kd.R_drew)); exact HO_316000.out) hb)
                                      have n2_ := Aside0.mk (Kd.R_below (by (with_reducible repeat (first | apply Kd.R_alloc | apply Kd.R_drewN | apply Kd.R_drew)); exact HO_324000.out) hb)
                                      have n3_ := Aside0.mk (Kd.R_below (by (with_reducible repeat (first | apply Kd.R_alloc | apply Kd.R_drewN | apply Kd.R_drew)); exact HO_331000.out) hb)
                                      have n4_ := Aside0.mk (blk_below (g := gb308) (o := .cells #[.slice Ao13 t302.length co13, .int .i64 t305] 25 (0, 0)) (by (with_reducible repeat (first | refine blk_drewN ?_ _ | refine blk_drew ?_ | refine blk_alloc ?_ _)); exact BK308.out) hb)
                                      have n5_ := Aside0.mk (blk_below (g := gb315) (o := .cells #[.slice Ao17 t309.length co17, .int .i64 t312] 25 (0, 0)) (by (with_reducible repeat (first | refine blk_drewN ?_ _ | refine blk_drew ?_ | refine blk_alloc ?_ _)); exact BK315.out) hb)
                                      have n6_ := Aside0.mk (blk_below (g := gb323) (o := .cells #[.slice Ao40 t317.length co40, .int .i64 t320] 25 (0, 0)) (by (with_reducible repeat (first | refine blk_drewN ?_ _ | refine blk_drew ?_ | refine blk_alloc ?_ _)); exact BK323.out) hb)
                                      have n7_ := Aside0.mk (blk_below (g := gb330) (o := .cells #[.slice Ao46 t324.length co46, .int .i64 t327] 25 (0, 0)) (by (with_reducible repeat (first | refine blk_drewN ?_ _ | refine blk_drew ?_ | refine blk_alloc ?_ _)); exact BK330.out) hb)
                                      have n8_ := Aside0.mk (below_step (by repeat (first | (with_reducible first | exact HB.out | apply below_alloc | apply pw_below_drewN | apply below_drew1 | refine below_set ?_ GE308.out | refine below_set ?_ GE315.out | refine below_set ?_ GE323.out | refine below_set ?_ GE330.out) | exact HB.out)) hb)
                                      clear HO_309000
                                      clear HO_316000
                                      clear HO_324000
                                      clear HO_331000
                                      clear BK308
                                      clear BK315
                                      clear BK323
                                      clear BK330
                                      clear HB
                                      have HO_309000 := n0_
                                      have HO_316000 := n1_
                                      have HO_324000 := n2_
                                      have HO_331000 := n3_
                                      have BK308 := n4_
                                      have BK315 := n5_
                                      have BK323 := n6_
                                      have BK330 := n7_
                                      have HB := n8_
                                      clear n0_ n1_ n2_ n3_ n4_ n5_ n6_ n7_ n8_
                                      (try clear hb)
                                      (try clear hb2)
                                      (try clear hk)
                                      (try clear hi)
                                      refine hK.out _ _ ⟨(blk_cell BK323.out 0).trans rfl, (blk_cell BK323.out 1).trans rfl, (blk_cell BK308.out 0).trans rfl, (blk_cell BK308.out 1).trans rfl⟩ (fun hHeld => ?_)
                                      clear hK K
                                      refine norm_ (a' := ?_) ?_ ?_
                                      rotate_left
                                      · show Act.put _ (some 92) _ = _
                                        simp only [Act.put, List.setIfInBounds_toArray, List.set_cons_zero, List.set_cons_succ, i64_w, i32_w]
                                        rfl
                                      refine one_ (i := 5) (N := some 95) #[true, true, true, true, true, true, false, false, false, false, false, false] rfl rfl (one_of HT_.out (by kernel_rfl)) (by decide) (fun K hK => ?_)
                                      refine goes_ Tryd.func18 (by kernel_rfl) rfl #[.agg #[.slice Ao13 t302.length co13, .int .i64 t305], .int .i64 x17_4] (by rfl) rfl rfl (by (try simp only [List.map_toArray, List.map_cons, List.map_nil]); first | done | rfl | (simp only [List.length_drop, List.length_take]; rfl)) ?_
                                      with_reducible refine (gangerlaw06_has.calls k4 _ _ t302 t305 x17_4 true _ ?side1 ?side2 A65.out).mono ?_
                                      (case side1 => repeat (first | exact (Kd.R_reads' HO_309000.out).2.2 | (with_reducible refine Kd.C_alloc ?_ _) | (with_reducible refine Kd.C_drewN ?_ _) | (with_reducible refine Kd.C_drew ?_)))
                                      (case side2 => exact (Kd.R_reads' HO_309000.out).2.1)
                                      rintro e w70 ⟨rfl, hb⟩
                                      refine ⟨_, rfl, ?_⟩
                                      have n0_ := Aside0.mk (Kd.R_below (by (with_reducible repeat (first | apply Kd.R_alloc | apply Kd.R_drewN | apply Kd.R_drew)); exact HO_309000.out) hb)
                                      have n1_ := Aside0.mk (Kd.R_below (by (with_reducible repeat (first | apply Kd.R_alloc | apply Kd.R_drewN | apply Kd.R_drew)); exact HO_316000.out) hb)
                                      have n2_ := Aside0.mk (Kd.R_below (by (with_reducible repeat (first | apply Kd.R_alloc | apply Kd.R_drewN | apply Kd.R_drew)); exact HO_324000.out) hb)
                                      have n3_ := Aside0.mk (Kd.R_below (by (with_reducible repeat (first | apply Kd.R_alloc | apply Kd.R_drewN | apply Kd.R_drew)); exact HO_331000.out) hb)
                                      have n4_ := Aside0.mk (blk_below (g := gb308) (o := .cells #[.slice Ao13 t302.length co13, .int .i64 t305] 25 (0, 0)) (by (with_reducible repeat (first | refine blk_drewN ?_ _ | refine blk_drew ?_ | refine blk_alloc ?_ _)); exact BK308.out) hb)
                                      have n5_ := Aside0.mk (blk_below (g := gb315) (o := .cells #[.slice Ao17 t309.length co17, .int .i64 t312] 25 (0, 0)) (by (with_reducible repeat (first | refine blk_drewN ?_ _ | refine blk_drew ?_ | refine blk_alloc ?_ _)); exact BK315.out) hb)
                                      have n6_ := Aside0.mk (blk_below (g := gb323) (o := .cells #[.slice Ao40 t317.length co40, .int .i64 t320] 25 (0, 0)) (by (with_reducible repeat (first | refine blk_drewN ?_ _ | refine blk_drew ?_ | refine blk_alloc ?_ _)); exact BK323.out) hb)
                                      have n7_ := Aside0.mk (blk_below (g := gb330) (o := .cells #[.slice Ao46 t324.length co46, .int .i64 t327] 25 (0, 0)) (by (with_reducible repeat (first | refine blk_drewN ?_ _ | refine blk_drew ?_ | refine blk_alloc ?_ _)); exact BK330.out) hb)
                                      have n8_ := Aside0.mk (below_step (by repeat (first | (with_reducible first | exact HB.out | apply below_alloc | apply pw_below_drewN | apply below_drew1 | refine below_set ?_ GE308.out | refine below_set ?_ GE315.out | refine below_set ?_ GE323.out | refine below_set ?_ GE330.out) | exact HB.out)) hb)
                                      clear HO_309000
                                      clear HO_316000
                                      clear HO_324000
                                      clear HO_331000
                                      clear BK308
                                      clear BK315
                                      clear BK323
                                      clear BK330
                                      clear HB
                                      have HO_309000 := n0_
                                      have HO_316000 := n1_
                                      have HO_324000 := n2_
                                      have HO_331000 := n3_
                                      have BK308 := n4_
                                      have BK315 := n5_
                                      have BK323 := n6_
                                      have BK330 := n7_
                                      have HB := n8_
                                      clear n0_ n1_ n2_ n3_ n4_ n5_ n6_ n7_ n8_
                                      (try clear hb)
                                      (try clear hb2)
                                      (try clear hk)
                                      (try clear hi)
                                      refine hK.out _ _ ⟨(blk_cell BK323.out 0).trans rfl, (blk_cell BK323.out 1).trans rfl, (blk_cell BK308.out 0).trans rfl, (blk_cell BK308.out 1).trans rfl⟩ (fun hHeld => ?_)
                                      clear hK K
                                      refine norm_ (a' := ?_) ?_ ?_
                                      rotate_left
                                      · show Act.put _ (some 95) _ = _
                                        simp only [Act.put, List.setIfInBounds_toArray, List.set_cons_zero, List.set_cons_succ, i64_w, i32_w]
                                        rfl
                                      refine pure_ (i := 6) (N := some 96) (v := ?_) (a' := ?_) #[true, true, true, true, true, true, true, false, false, false, false, false] rfl rfl (any_of HT_.out (by kernel_rfl)) (fun _ _ _ h => h) (Or.inl ⟨by rfl, ?_⟩) ?_ ?_
                                      rotate_left
                                      · intro w'
                                        go_simp
                                        with_reducible rfl
                                      rotate_left
                                      · simp only [Act.put, List.setIfInBounds_toArray, List.set_cons_zero, List.set_cons_succ, i64_w, i32_w]
                                        rfl
                                      refine pure_ (i := 7) (N := some 97) (v := undef) (a' := ?_) #[true, true, true, true, true, true, true, true, false, false, false, false] rfl rfl (any_of HT_.out (by kernel_rfl)) (fun _ _ _ h => h) (Or.inr ⟨by rfl, rfl⟩) ?_ ?_
                                      rotate_left
                                      · simp only [Act.put, List.setIfInBounds_toArray, List.set_cons_zero, List.set_cons_succ, i64_w, i32_w]
                                        rfl
                                      refine pure_ (i := 8) (N := some 98) (v := undef) (a' := ?_) #[true, true, true, true, true, true, true, true, true, false, false, false] rfl rfl (any_of HT_.out (by kernel_rfl)) (fun _ _ _ h => h) (Or.inr ⟨by rfl, rfl⟩) ?_ ?_
                                      rotate_left
                                      · simp only [Act.put, List.setIfInBounds_toArray, List.set_cons_zero, List.set_cons_succ, i64_w, i32_w]
                                        rfl
                                      refine pure_ (i := 9) (N := some 99) (v := undef) (a' := ?_) #[true, true, true, true, true, true, true, true, true, true, false, false] rfl rfl (any_of HT_.out (by kernel_rfl)) (fun _ _ _ h => h) (Or.inr ⟨by rfl, rfl⟩) ?_ ?_
                                      rotate_left
                                      · simp only [Act.put, List.setIfInBounds_toArray, List.set_cons_zero, List.set_cons_succ, i64_w, i32_w]
                                        rfl
                                      refine pure_ (i := 10) (N := some 100) (v := ?_) (a' := ?_) #[true, true, true, true, true, true, true, true, true, true, true, false] rfl rfl (any_of HT_.out (by kernel_rfl)) (fun _ _ _ h => h) (Or.inl ⟨by rfl, ?_⟩) ?_ ?_
                                      rotate_left
                                      · intro w'
                                        go_simp
                                        with_reducible rfl
                                      rotate_left
                                      · simp only [Act.put, List.setIfInBounds_toArray, List.set_cons_zero, List.set_cons_succ, i64_w, i32_w]
                                        rfl
                                      refine pure_ (i := 11) (N := some 101) (v := ?_) (a' := ?_) #[true, true, true, true, true, true, true, true, true, true, true, true] rfl rfl (any_of HT_.out (by kernel_rfl)) (fun _ _ _ h => h) (Or.inl ⟨by rfl, ?_⟩) ?_ ?_
                                      rotate_left
                                      · intro w'
                                        go_simp
                                        with_reducible rfl
                                      rotate_left
                                      · simp only [Act.put, List.setIfInBounds_toArray, List.set_cons_zero, List.set_cons_succ, i64_w, i32_w]
                                        rfl
                                      refine done_ (done_of HT_.out (by kernel_rfl)) ?_
                                      try go_wp2
                                      go_roundg k4
                                      case measure => have := HJ2.out; have := HJ9.out; have := HJ36.out; have := HK4.out; omega
                                      case rel => exact ⟨(wrap64 (x17_4 + 1)), (by first | rfl | (simp; done) | (simp [*]; done)), H', ⟨by have := HJ2.out; have := HJ9.out; have := HJ36.out; have := HK4.out; omega⟩, ⟨by (with_reducible repeat (first | apply Kd.R_alloc | apply Kd.R_drewN | apply Kd.R_drew)); exact HO_309000.out⟩, ⟨by (with_reducible repeat (first | apply Kd.R_alloc | apply Kd.R_drewN | apply Kd.R_drew)); exact HO_316000.out⟩, ⟨by (with_reducible repeat (first | apply Kd.R_alloc | apply Kd.R_drewN | apply Kd.R_drew)); exact HO_324000.out⟩, ⟨by (with_reducible repeat (first | apply Kd.R_alloc | apply Kd.R_drewN | apply Kd.R_drew)); exact HO_331000.out⟩, ⟨by (with_reducible repeat (first | refine blk_drewN ?_ _ | refine blk_drew ?_ | refine blk_alloc ?_ _)); exact BK308.out⟩, ⟨by (with_reducible repeat (first | refine blk_drewN ?_ _ | refine blk_drew ?_ | refine blk_alloc ?_ _)); exact BK315.out⟩, ⟨by (with_reducible repeat (first | refine blk_drewN ?_ _ | refine blk_drew ?_ | refine blk_alloc ?_ _)); exact BK323.out⟩, ⟨by (with_reducible repeat (first | refine blk_drewN ?_ _ | refine blk_drew ?_ | refine blk_alloc ?_ _)); exact BK330.out⟩, ⟨by repeat (first | (with_reducible first | exact HB.out | apply below_alloc | apply pw_below_drewN | apply below_drew1 | refine below_set ?_ GE308.out | refine below_set ?_ GE315.out | refine below_set ?_ GE323.out | refine below_set ?_ GE330.out) | exact HB.out)⟩⟩
                                  · replace c66 := Bool.eq_false_iff.mpr c66
                                    subst c66
                                    have H1 : ((gangerlaw06_has.f k4 t309 t312 x17_4).bind fun t335 => (if (t333 != t335) = true then (none) else (gangerlaw06_IndexesJoins.l0 k4 (wrap64 (x17_4 + 1)) t302 t305 t309 t312 t317 t320))) = some r := by rw [if_neg (show ¬ (false = true) by decide)] at H; exact H
                                    clear H
                                    have H := H1
                                    clear H1
                                    replace H := Option.bind_eq_some_iff.mp H
                                    obtain ⟨t335, A710, H⟩ := H
                                    replace H : (if (t333 != t335) = true then (none) else (gangerlaw06_IndexesJoins.l0 k4 (wrap64 (x17_4 + 1)) t302 t305 t309 t312 t317 t320)) = some r := H
                                    have A71 := Aside0.mk A710
                                    clear A710
                                    by_cases c72 : (t333 != t335) = true
                                    · rw [if_pos c72] at H
                                      exact absurd H (by simp)
                                    · rw [if_neg c72] at H
                                      have c72b0 : (t333 != t335) = false := by simpa using c72
                                      (try (have c72b1 : decide (t333 = t335) = true := by simpa using c72))
                                      (try (have c72b2 : (t333 == t335) = true := by simpa using c72))
                                      clear c72
                                      have H' := Aside0.mk H
                                      clear H
                                      try go_wp2
                                      have n0_ := Aside0.mk (Kd.R_drew HO_309000.out)
                                      have n1_ := Aside0.mk (Kd.R_drew HO_316000.out)
                                      have n2_ := Aside0.mk (Kd.R_drew HO_324000.out)
                                      have n3_ := Aside0.mk (Kd.R_drew HO_331000.out)
                                      have n4_ := Aside0.mk (blk_drew BK308.out)
                                      have n5_ := Aside0.mk (blk_drew BK315.out)
                                      have n6_ := Aside0.mk (blk_drew BK323.out)
                                      have n7_ := Aside0.mk (blk_drew BK330.out)
                                      have n8_ := Aside0.mk (below_drew1 HB.out)
                                      clear HO_309000
                                      clear HO_316000
                                      clear HO_324000
                                      clear HO_331000
                                      clear BK308
                                      clear BK315
                                      clear BK323
                                      clear BK330
                                      clear HB
                                      have HO_309000 := n0_
                                      have HO_316000 := n1_
                                      have HO_324000 := n2_
                                      have HO_331000 := n3_
                                      have BK308 := n4_
                                      have BK315 := n5_
                                      have BK323 := n6_
                                      have BK330 := n7_
                                      have HB := n8_
                                      clear n0_ n1_ n2_ n3_ n4_ n5_ n6_ n7_ n8_
                                      refine start_ (n := 12) (S := fun w' => w'.cell? ⟨gb323, 0, none⟩ = some (.slice Ao40 t317.length co40) ∧ w'.cell? ⟨gb323, 1, none⟩ = some (.int .i64 t320) ∧ w'.cell? ⟨gb308, 0, none⟩ = some (.slice Ao13 t302.length co13) ∧ w'.cell? ⟨gb308, 1, none⟩ = some (.int .i64 t305) ∧ w'.cell? ⟨gb315, 0, none⟩ = some (.slice Ao17 t309.length co17) ∧ w'.cell? ⟨gb315, 1, none⟩ = some (.int .i64 t312)) (ds := []) #[false, false, false, false, false, false, false, false, false, false, false, false] (by kernel_rfl) rfl rfl ⟨(blk_cell BK323.out 0).trans rfl, (blk_cell BK323.out 1).trans rfl, (blk_cell BK308.out 0).trans rfl, (blk_cell BK308.out 1).trans rfl, (blk_cell BK315.out 0).trans rfl, (blk_cell BK315.out 1).trans rfl⟩ (fun hHeld => ?_); refine with_tabW gangerlaw06_IndexesJoins.tab14 gangerlaw06_IndexesJoins.bits14 (fun HT_ HW_ => ?_)
                                      generalize wr.drew = w73 at HO_309000 HO_316000 HO_324000 HO_331000 BK308 BK315 BK323 BK330 HB hHeld ⊢
                                      refine pure_ (i := 1) (N := some 91) (v := ?_) (a' := ?_) #[false, true, false, false, false, false, false, false, false, false, false, false] rfl rfl (any_of HT_.out (by kernel_rfl)) (fun _ _ _ h => h) (Or.inl ⟨by rfl, ?_⟩) ?_ ?_
                                      rotate_left
                                      · intro w'
                                        go_simp
                                        with_reducible rfl
                                      rotate_left
                                      · simp only [Act.put, List.setIfInBounds_toArray, List.set_cons_zero, List.set_cons_succ, i64_w, i32_w]
                                        rfl
                                      refine pure_ (i := 4) (N := some 94) (v := ?_) (a' := ?_) #[false, true, false, false, true, false, false, false, false, false, false, false] rfl rfl (any_of HT_.out (by kernel_rfl)) (fun _ _ _ h => h) (Or.inl ⟨by rfl, ?_⟩) ?_ ?_
                                      rotate_left
                                      · intro w'
                                        go_simp
                                        with_reducible rfl
                                      rotate_left
                                      · simp only [Act.put, List.setIfInBounds_toArray, List.set_cons_zero, List.set_cons_succ, i64_w, i32_w]
                                        rfl
                                      refine take_ (i := 0) (N := some 90) (v := ?_) (a' := ?_) #[true, true, false, false, true, false, false, false, false, false, false, false] rfl rfl (take_ofW HT_.out HW_.out (by kernel_rfl)) (fun _ _ _ h => h) (Or.inl ⟨by rfl, ?_⟩) hHeld ?_ ?_
                                      rotate_left
                                      · rintro w' ⟨s0, s1, s2, s3, s4, s5⟩
                                        go_simp
                                        with_reducible rfl
                                      rotate_left
                                      · simp only [Act.put, List.setIfInBounds_toArray, List.set_cons_zero, List.set_cons_succ, i64_w, i32_w]
                                        rfl
                                      refine take_ (i := 3) (N := some 93) (v := ?_) (a' := ?_) #[true, true, false, true, true, false, false, false, false, false, false, false] rfl rfl (take_ofW HT_.out HW_.out (by kernel_rfl)) (fun _ _ _ h => h) (Or.inl ⟨by rfl, ?_⟩) hHeld ?_ ?_
                                      rotate_left
                                      · rintro w' ⟨s0, s1, s2, s3, s4, s5⟩
                                        go_simp
                                        with_reducible rfl
                                      rotate_left
                                      · simp only [Act.put, List.setIfInBounds_toArray, List.set_cons_zero, List.set_cons_succ, i64_w, i32_w]
                                        rfl
                                      refine one_ (i := 2) (N := some 92) #[true, true, true, true, true, false, false, false, false, false, false, false] rfl rfl (one_of HT_.out (by kernel_rfl)) (by decide) (fun K hK => ?_)
                                      refine goes_ Tryd.func18 (by kernel_rfl) rfl #[.agg #[.slice Ao40 t317.length co40, .int .i64 t320], .int .i64 x17_4] (by rfl) rfl rfl (by (try simp only [List.map_toArray, List.map_cons, List.map_nil]); first | done | rfl | (simp only [List.length_drop, List.length_take]; rfl)) ?_
                                      with_reducible refine (gangerlaw06_has.calls k4 _ _ t317 t320 x17_4 t333 _ ?side1 ?side2 A64.out).mono ?_
                                      (case side1 => repeat (first | exact (Kd.R_reads' HO_324000.out).2.2 | (with_reducible refine Kd.C_alloc ?_ _) | (with_reducible refine Kd.C_drewN ?_ _) | (with_reducible refine Kd.C_drew ?_)))
                                      (case side2 => exact (Kd.R_reads' HO_324000.out).2.1)
                                      rintro e w74 ⟨rfl, hb⟩
                                      refine ⟨_, rfl, ?_⟩
                                      have n0_ := Aside0.mk (Kd.R_below (by (with_reducible repeat (first | apply Kd.R_alloc | apply Kd.R_drewN | apply Kd.R_drew)); exact HO_309000.out) hb)
                                      have n1_ := Aside0.mk (Kd.R_below (by (with_reducible repeat (first | apply Kd.R_alloc | apply Kd.R_drewN | apply Kd.R_drew)); exact HO_316000.out) hb)
                                      have n2_ := Aside0.mk (Kd.R_below (by (with_reducible repeat (first | apply Kd.R_alloc | apply Kd.R_drewN | apply Kd.R_drew)); exact HO_324000.out) hb)
                                      have n3_ := Aside0.mk (Kd.R_below (by (with_reducible repeat (first | apply Kd.R_alloc | apply Kd.R_drewN | apply Kd.R_drew)); exact HO_331000.out) hb)
                                      have n4_ := Aside0.mk (blk_below (g := gb308) (o := .cells #[.slice Ao13 t302.length co13, .int .i64 t305] 25 (0, 0)) (by (with_reducible repeat (first | refine blk_drewN ?_ _ | refine blk_drew ?_ | refine blk_alloc ?_ _)); exact BK308.out) hb)
                                      have n5_ := Aside0.mk (blk_below (g := gb315) (o := .cells #[.slice Ao17 t309.length co17, .int .i64 t312] 25 (0, 0)) (by (with_reducible repeat (first | refine blk_drewN ?_ _ | refine blk_drew ?_ | refine blk_alloc ?_ _)); exact BK315.out) hb)
                                      have n6_ := Aside0.mk (blk_below (g := gb323) (o := .cells #[.slice Ao40 t317.length co40, .int .i64 t320] 25 (0, 0)) (by (with_reducible repeat (first | refine blk_drewN ?_ _ | refine blk_drew ?_ | refine blk_alloc ?_ _)); exact BK323.out) hb)
                                      have n7_ := Aside0.mk (blk_below (g := gb330) (o := .cells #[.slice Ao46 t324.length co46, .int .i64 t327] 25 (0, 0)) (by (with_reducible repeat (first | refine blk_drewN ?_ _ | refine blk_drew ?_ | refine blk_alloc ?_ _)); exact BK330.out) hb)
                                      have n8_ := Aside0.mk (below_step (by repeat (first | (with_reducible first | exact HB.out | apply below_alloc | apply pw_below_drewN | apply below_drew1 | refine below_set ?_ GE308.out | refine below_set ?_ GE315.out | refine below_set ?_ GE323.out | refine below_set ?_ GE330.out) | exact HB.out)) hb)
                                      clear HO_309000
                                      clear HO_316000
                                      clear HO_324000
                                      clear HO_331000
                                      clear BK308
                                      clear BK315
                                      clear BK323
                                      clear BK330
                                      clear HB
                                      have HO_309000 := n0_
                                      have HO_316000 := n1_
                                      have HO_324000 := n2_
                                      have HO_331000 := n3_
                                      have BK308 := n4_
                                      have BK315 := n5_
                                      have BK323 := n6_
                                      have BK330 := n7_
                                      have HB := n8_
                                      clear n0_ n1_ n2_ n3_ n4_ n5_ n6_ n7_ n8_
                                      (try clear hb)
                                      (try clear hb2)
                                      (try clear hk)
                                      (try clear hi)
                                      refine hK.out _ _ ⟨(blk_cell BK323.out 0).trans rfl, (blk_cell BK323.out 1).trans rfl, (blk_cell BK308.out 0).trans rfl, (blk_cell BK308.out 1).trans rfl, (blk_cell BK315.out 0).trans rfl, (blk_cell BK315.out 1).trans rfl⟩ (fun hHeld => ?_)
                                      clear hK K
                                      refine norm_ (a' := ?_) ?_ ?_
                                      rotate_left
                                      · show Act.put _ (some 92) _ = _
                                        simp only [Act.put, List.setIfInBounds_toArray, List.set_cons_zero, List.set_cons_succ, i64_w, i32_w]
                                        rfl
                                      refine one_ (i := 5) (N := some 95) #[true, true, true, true, true, true, false, false, false, false, false, false] rfl rfl (one_of HT_.out (by kernel_rfl)) (by decide) (fun K hK => ?_)
                                      refine goes_ Tryd.func18 (by kernel_rfl) rfl #[.agg #[.slice Ao13 t302.length co13, .int .i64 t305], .int .i64 x17_4] (by rfl) rfl rfl (by (try simp only [List.map_toArray, List.map_cons, List.map_nil]); first | done | rfl | (simp only [List.length_drop, List.length_take]; rfl)) ?_
                                      with_reducible refine (gangerlaw06_has.calls k4 _ _ t302 t305 x17_4 false _ ?side1 ?side2 A65.out).mono ?_
                                      (case side1 => repeat (first | exact (Kd.R_reads' HO_309000.out).2.2 | (with_reducible refine Kd.C_alloc ?_ _) | (with_reducible refine Kd.C_drewN ?_ _) | (with_reducible refine Kd.C_drew ?_)))
                                      (case side2 => exact (Kd.R_reads' HO_309000.out).2.1)
                                      rintro e w75 ⟨rfl, hb⟩
                                      refine ⟨_, rfl, ?_⟩
                                      have n0_ := Aside0.mk (Kd.R_below (by (with_reducible repeat (first | apply Kd.R_alloc | apply Kd.R_drewN | apply Kd.R_drew)); exact HO_309000.out) hb)
                                      have n1_ := Aside0.mk (Kd.R_below (by (with_reducible repeat (first | apply Kd.R_alloc | apply Kd.R_drewN | apply Kd.R_drew)); exact HO_316000.out) hb)
                                      have n2_ := Aside0.mk (Kd.R_below (by (with_reducible repeat (first | apply Kd.R_alloc | apply Kd.R_drewN | apply Kd.R_drew)); exact HO_324000.out) hb)
                                      have n3_ := Aside0.mk (Kd.R_below (by (with_reducible repeat (first | apply Kd.R_alloc | apply Kd.R_drewN | apply Kd.R_drew)); exact HO_331000.out) hb)
                                      have n4_ := Aside0.mk (blk_below (g := gb308) (o := .cells #[.slice Ao13 t302.length co13, .int .i64 t305] 25 (0, 0)) (by (with_reducible repeat (first | refine blk_drewN ?_ _ | refine blk_drew ?_ | refine blk_alloc ?_ _)); exact BK308.out) hb)
                                      have n5_ := Aside0.mk (blk_below (g := gb315) (o := .cells #[.slice Ao17 t309.length co17, .int .i64 t312] 25 (0, 0)) (by (with_reducible repeat (first | refine blk_drewN ?_ _ | refine blk_drew ?_ | refine blk_alloc ?_ _)); exact BK315.out) hb)
                                      have n6_ := Aside0.mk (blk_below (g := gb323) (o := .cells #[.slice Ao40 t317.length co40, .int .i64 t320] 25 (0, 0)) (by (with_reducible repeat (first | refine blk_drewN ?_ _ | refine blk_drew ?_ | refine blk_alloc ?_ _)); exact BK323.out) hb)
                                      have n7_ := Aside0.mk (blk_below (g := gb330) (o := .cells #[.slice Ao46 t324.length co46, .int .i64 t327] 25 (0, 0)) (by (with_reducible repeat (first | refine blk_drewN ?_ _ | refine blk_drew ?_ | refine blk_alloc ?_ _)); exact BK330.out) hb)
                                      have n8_ := Aside0.mk (below_step (by repeat (first | (with_reducible first | exact HB.out | apply below_alloc | apply pw_below_drewN | apply below_drew1 | refine below_set ?_ GE308.out | refine below_set ?_ GE315.out | refine below_set ?_ GE323.out | refine below_set ?_ GE330.out) | exact HB.out)) hb)
                                      clear HO_309000
                                      clear HO_316000
                                      clear HO_324000
                                      clear HO_331000
                                      clear BK308
                                      clear BK315
                                      clear BK323
                                      clear BK330
                                      clear HB
                                      have HO_309000 := n0_
                                      have HO_316000 := n1_
                                      have HO_324000 := n2_
                                      have HO_331000 := n3_
                                      have BK308 := n4_
                                      have BK315 := n5_
                                      have BK323 := n6_
                                      have BK330 := n7_
                                      have HB := n8_
                                      clear n0_ n1_ n2_ n3_ n4_ n5_ n6_ n7_ n8_
                                      (try clear hb)
                                      (try clear hb2)
                                      (try clear hk)
                                      (try clear hi)
                                      refine hK.out _ _ ⟨(blk_cell BK323.out 0).trans rfl, (blk_cell BK323.out 1).trans rfl, (blk_cell BK308.out 0).trans rfl, (blk_cell BK308.out 1).trans rfl, (blk_cell BK315.out 0).trans rfl, (blk_cell BK315.out 1).trans rfl⟩ (fun hHeld => ?_)
                                      clear hK K
                                      refine norm_ (a' := ?_) ?_ ?_
                                      rotate_left
                                      · show Act.put _ (some 95) _ = _
                                        simp only [Act.put, List.setIfInBounds_toArray, List.set_cons_zero, List.set_cons_succ, i64_w, i32_w]
                                        rfl
                                      refine pure_ (i := 6) (N := some 96) (v := ?_) (a' := ?_) #[true, true, true, true, true, true, true, false, false, false, false, false] rfl rfl (any_of HT_.out (by kernel_rfl)) (fun _ _ _ h => h) (Or.inl ⟨by rfl, ?_⟩) ?_ ?_
                                      rotate_left
                                      · intro w'
                                        go_simp
                                        with_reducible rfl
                                      rotate_left
                                      · simp only [Act.put, List.setIfInBounds_toArray, List.set_cons_zero, List.set_cons_succ, i64_w, i32_w]
                                        rfl
                                      refine pure_ (i := 8) (N := some 98) (v := ?_) (a' := ?_) #[true, true, true, true, true, true, true, false, true, false, false, false] rfl rfl (any_of HT_.out (by kernel_rfl)) (fun _ _ _ h => h) (Or.inl ⟨by rfl, ?_⟩) ?_ ?_
                                      rotate_left
                                      · intro w'
                                        go_simp
                                        with_reducible rfl
                                      rotate_left
                                      · simp only [Act.put, List.setIfInBounds_toArray, List.set_cons_zero, List.set_cons_succ, i64_w, i32_w]
                                        rfl
                                      refine take_ (i := 7) (N := some 97) (v := ?_) (a' := ?_) #[true, true, true, true, true, true, true, true, true, false, false, false] rfl rfl (take_ofW HT_.out HW_.out (by kernel_rfl)) (fun _ _ _ h => h) (Or.inl ⟨by rfl, ?_⟩) hHeld ?_ ?_
                                      rotate_left
                                      · rintro w' ⟨s0, s1, s2, s3, s4, s5⟩
                                        go_simp
                                        with_reducible rfl
                                      rotate_left
                                      · simp only [Act.put, List.setIfInBounds_toArray, List.set_cons_zero, List.set_cons_succ, i64_w, i32_w]
                                        rfl
                                      refine one_ (i := 9) (N := some 99) #[true, true, true, true, true, true, true, true, true, true, false, false] rfl rfl (one_of HT_.out (by kernel_rfl)) (by decide) (fun K hK => ?_)
                                      refine goes_ Tryd.func18 (by kernel_rfl) rfl #[.agg #[.slice Ao17 t309.length co17, .int .i64 t312], .int .i64 x17_4] (by rfl) rfl rfl (by (try simp only [List.map_toArray, List.map_cons, List.map_nil]); first | done | rfl | (simp only [List.length_drop, List.length_take]; rfl)) ?_
                                      with_reducible refine (gangerlaw06_has.calls k4 _ _ t309 t312 x17_4 t335 _ ?side1 ?side2 A71.out).mono ?_
                                      (case side1 => repeat (first | exact (Kd.R_reads' HO_316000.out).2.2 | (with_reducible refine Kd.C_alloc ?_ _) | (with_reducible refine Kd.C_drewN ?_ _) | (with_reducible refine Kd.C_drew ?_)))
                                      (case side2 => exact (Kd.R_reads' HO_316000.out).2.1)
                                      rintro e w76 ⟨rfl, hb⟩
                                      refine ⟨_, rfl, ?_⟩
                                      have n0_ := Aside0.mk (Kd.R_below (by (with_reducible repeat (first | apply Kd.R_alloc | apply Kd.R_drewN | apply Kd.R_drew)); exact HO_309000.out) hb)
                                      have n1_ := Aside0.mk (Kd.R_below (by (with_reducible repeat (first | apply Kd.R_alloc | apply Kd.R_drewN | apply Kd.R_drew)); exact HO_316000.out) hb)
                                      have n2_ := Aside0.mk (Kd.R_below (by (with_reducible repeat (first | apply Kd.R_alloc | apply Kd.R_drewN | apply Kd.R_drew)); exact HO_324000.out) hb)
                                      have n3_ := Aside0.mk (Kd.R_below (by (with_reducible repeat (first | apply Kd.R_alloc | apply Kd.R_drewN | apply Kd.R_drew)); exact HO_331000.out) hb)
                                      have n4_ := Aside0.mk (blk_below (g := gb308) (o := .cells #[.slice Ao13 t302.length co13, .int .i64 t305] 25 (0, 0)) (by (with_reducible repeat (first | refine blk_drewN ?_ _ | refine blk_drew ?_ | refine blk_alloc ?_ _)); exact BK308.out) hb)
                                      have n5_ := Aside0.mk (blk_below (g := gb315) (o := .cells #[.slice Ao17 t309.length co17, .int .i64 t312] 25 (0, 0)) (by (with_reducible repeat (first | refine blk_drewN ?_ _ | refine blk_drew ?_ | refine blk_alloc ?_ _)); exact BK315.out) hb)
                                      have n6_ := Aside0.mk (blk_below (g := gb323) (o := .cells #[.slice Ao40 t317.length co40, .int .i64 t320] 25 (0, 0)) (by (with_reducible repeat (first | refine blk_drewN ?_ _ | refine blk_drew ?_ | refine blk_alloc ?_ _)); exact BK323.out) hb)
                                      have n7_ := Aside0.mk (blk_below (g := gb330) (o := .cells #[.slice Ao46 t324.length co46, .int .i64 t327] 25 (0, 0)) (by (with_reducible repeat (first | refine blk_drewN ?_ _ | refine blk_drew ?_ | refine blk_alloc ?_ _)); exact BK330.out) hb)
                                      have n8_ := Aside0.mk (below_step (by repeat (first | (with_reducible first | exact HB.out | apply below_alloc | apply pw_below_drewN | apply below_drew1 | refine below_set ?_ GE308.out | refine below_set ?_ GE315.out | refine below_set ?_ GE323.out | refine below_set ?_ GE330.out) | exact HB.out)) hb)
                                      clear HO_309000
                                      clear HO_316000
                                      clear HO_324000
                                      clear HO_331000
                                      clear BK308
                                      clear BK315
                                      clear BK323
                                      clear BK330
                                      clear HB
                                      have HO_309000 := n0_
                                      have HO_316000 := n1_
                                      have HO_324000 := n2_
                                      have HO_331000 := n3_
                                      have BK308 := n4_
                                      have BK315 := n5_
                                      have BK323 := n6_
                                      have BK330 := n7_
                                      have HB := n8_
                                      clear n0_ n1_ n2_ n3_ n4_ n5_ n6_ n7_ n8_
                                      (try clear hb)
                                      (try clear hb2)
                                      (try clear hk)
                                      (try clear hi)
                                      refine hK.out _ _ ⟨(blk_cell BK323.out 0).trans rfl, (blk_cell BK323.out 1).trans rfl, (blk_cell BK308.out 0).trans rfl, (blk_cell BK308.out 1).trans rfl, (blk_cell BK315.out 0).trans rfl, (blk_cell BK315.out 1).trans rfl⟩ (fun hHeld => ?_)
                                      clear hK K
                                      refine norm_ (a' := ?_) ?_ ?_
                                      rotate_left
                                      · show Act.put _ (some 99) _ = _
                                        simp only [Act.put, List.setIfInBounds_toArray, List.set_cons_zero, List.set_cons_succ, i64_w, i32_w]
                                        rfl
                                      refine pure_ (i := 10) (N := some 100) (v := ?_) (a' := ?_) #[true, true, true, true, true, true, true, true, true, true, true, false] rfl rfl (any_of HT_.out (by kernel_rfl)) (fun _ _ _ h => h) (Or.inl ⟨by rfl, ?_⟩) ?_ ?_
                                      rotate_left
                                      · intro w'
                                        go_simp
                                        with_reducible rfl
                                      rotate_left
                                      · simp only [Act.put, List.setIfInBounds_toArray, List.set_cons_zero, List.set_cons_succ, i64_w, i32_w]
                                        rfl
                                      refine pure_ (i := 11) (N := some 101) (v := ?_) (a' := ?_) #[true, true, true, true, true, true, true, true, true, true, true, true] rfl rfl (any_of HT_.out (by kernel_rfl)) (fun _ _ _ h => h) (Or.inl ⟨by rfl, ?_⟩) ?_ ?_
                                      rotate_left
                                      · intro w'
                                        go_simp
                                        with_reducible rfl
                                      rotate_left
                                      · simp only [Act.put, List.setIfInBounds_toArray, List.set_cons_zero, List.set_cons_succ, i64_w, i32_w]
                                        rfl
                                      refine done_ (done_of HT_.out (by kernel_rfl)) ?_
                                      try go_wp2
                                      go_roundg k4
                                      case measure => have := HJ2.out; have := HJ9.out; have := HJ36.out; have := HK4.out; omega
                                      case rel => exact ⟨(wrap64 (x17_4 + 1)), (by first | rfl | (simp; done) | (simp [*]; done)), H', ⟨by have := HJ2.out; have := HJ9.out; have := HJ36.out; have := HK4.out; omega⟩, ⟨by (with_reducible repeat (first | apply Kd.R_alloc | apply Kd.R_drewN | apply Kd.R_drew)); exact HO_309000.out⟩, ⟨by (with_reducible repeat (first | apply Kd.R_alloc | apply Kd.R_drewN | apply Kd.R_drew)); exact HO_316000.out⟩, ⟨by (with_reducible repeat (first | apply Kd.R_alloc | apply Kd.R_drewN | apply Kd.R_drew)); exact HO_324000.out⟩, ⟨by (with_reducible repeat (first | apply Kd.R_alloc | apply Kd.R_drewN | apply Kd.R_drew)); exact HO_331000.out⟩, ⟨by (with_reducible repeat (first | refine blk_drewN ?_ _ | refine blk_drew ?_ | refine blk_alloc ?_ _)); exact BK308.out⟩, ⟨by (with_reducible repeat (first | refine blk_drewN ?_ _ | refine blk_drew ?_ | refine blk_alloc ?_ _)); exact BK315.out⟩, ⟨by (with_reducible repeat (first | refine blk_drewN ?_ _ | refine blk_drew ?_ | refine blk_alloc ?_ _)); exact BK323.out⟩, ⟨by (with_reducible repeat (first | refine blk_drewN ?_ _ | refine blk_drew ?_ | refine blk_alloc ?_ _)); exact BK330.out⟩, ⟨by repeat (first | (with_reducible first | exact HB.out | apply below_alloc | apply pw_below_drewN | apply below_drew1 | refine below_set ?_ GE308.out | refine below_set ?_ GE315.out | refine below_set ?_ GE323.out | refine below_set ?_ GE330.out) | exact HB.out)⟩⟩
                                · rw [if_neg c63] at H
                                  have c63b0 : decide (x17_4 ≤ 1000) = false := decide_eq_false c63
                                  clear c63
                                  replace H := Option.bind_eq_some_iff.mp H
                                  obtain ⟨t332, A770, H⟩ := H
                                  replace H : (some t332) = some r := H
                                  have A77 := Aside0.mk A770
                                  clear A770
                                  obtain rfl := Option.some.inj H
                                  go_wp2_with (first | ((with_reducible refine gate_callee (f := 10) rfl ?_); refine goesL_ (some 102) rfl rfl Tryd.func10 (by kernel_rfl) rfl #[] rfl (by (try simp only [List.map_toArray, List.map_cons, List.map_nil]); first | done | rfl | (simp only [List.length_drop, List.length_take]; rfl)) ?_; (with_reducible refine (gangerlaw06_known.calls k4  t332 _ ?side1 A77.out).mono ?_); (case side1 => exact Glob.below HG.out (by repeat (first | (with_reducible first | exact HB.out | apply below_alloc | apply pw_below_drewN | apply below_drew1 | refine below_set ?_ GE308.out | refine below_set ?_ GE315.out | refine below_set ?_ GE323.out | refine below_set ?_ GE330.out) | exact HB.out))); rintro e w78 ⟨rfl, hb⟩; refine ⟨_, rfl, ?_⟩; have n0_ := Aside0.mk (Kd.R_below (by (with_reducible repeat (first | apply Kd.R_alloc | apply Kd.R_drewN | apply Kd.R_drew)); exact HO_309000.out) hb); have n1_ := Aside0.mk (Kd.R_below (by (with_reducible repeat (first | apply Kd.R_alloc | apply Kd.R_drewN | apply Kd.R_drew)); exact HO_316000.out) hb); have n2_ := Aside0.mk (Kd.R_below (by (with_reducible repeat (first | apply Kd.R_alloc | apply Kd.R_drewN | apply Kd.R_drew)); exact HO_324000.out) hb); have n3_ := Aside0.mk (Kd.R_below (by (with_reducible repeat (first | apply Kd.R_alloc | apply Kd.R_drewN | apply Kd.R_drew)); exact HO_331000.out) hb); have n4_ := Aside0.mk (blk_below (g := gb308) (o := .cells #[.slice Ao13 t302.length co13, .int .i64 t305] 25 (0, 0)) (by (with_reducible repeat (first | refine blk_drewN ?_ _ | refine blk_drew ?_ | refine blk_alloc ?_ _)); exact BK308.out) hb); have n5_ := Aside0.mk (blk_below (g := gb315) (o := .cells #[.slice Ao17 t309.length co17, .int .i64 t312] 25 (0, 0)) (by (with_reducible repeat (first | refine blk_drewN ?_ _ | refine blk_drew ?_ | refine blk_alloc ?_ _)); exact BK315.out) hb); have n6_ := Aside0.mk (blk_below (g := gb323) (o := .cells #[.slice Ao40 t317.length co40, .int .i64 t320] 25 (0, 0)) (by (with_reducible repeat (first | refine blk_drewN ?_ _ | refine blk_drew ?_ | refine blk_alloc ?_ _)); exact BK323.out) hb); have n7_ := Aside0.mk (blk_below (g := gb330) (o := .cells #[.slice Ao46 t324.length co46, .int .i64 t327] 25 (0, 0)) (by (with_reducible repeat (first | refine blk_drewN ?_ _ | refine blk_drew ?_ | refine blk_alloc ?_ _)); exact BK330.out) hb); have n8_ := Aside0.mk (below_step (by repeat (first | (with_reducible first | exact HB.out | apply below_alloc | apply pw_below_drewN | apply below_drew1 | refine below_set ?_ GE308.out | refine below_set ?_ GE315.out | refine below_set ?_ GE323.out | refine below_set ?_ GE330.out) | exact HB.out)) hb); clear HO_309000; clear HO_316000; clear HO_324000; clear HO_331000; clear BK308; clear BK315; clear BK323; clear BK330; clear HB; have HO_309000 := n0_; have HO_316000 := n1_; have HO_324000 := n2_; have HO_331000 := n3_; have BK308 := n4_; have BK315 := n5_; have BK323 := n6_; have BK330 := n7_; have HB := n8_; clear n0_ n1_ n2_ n3_ n4_ n5_ n6_ n7_ n8_; (try clear hb); (try clear hb2); (try clear hk); (try clear hi)))
                                  go_ret
                                  exact ⟨by first | rfl | (simp [errW_none, errW_some] <;> rfl) | (simp [*, errW_none, errW_some] <;> rfl), by repeat (first | (with_reducible first | exact HB.out | apply below_alloc | apply pw_below_drewN | apply below_drew1 | refine below_set ?_ GE308.out | refine below_set ?_ GE315.out | refine below_set ?_ GE323.out | refine below_set ?_ GE330.out) | exact HB.out)⟩
                    · rw [if_neg c35] at H
                      exact absurd H (by simp)
                  · rw [if_neg c34] at H
                    exact absurd H (by simp)
                · rw [if_neg c32] at H
                  exact absurd H (by simp)
              · rw [if_neg c31] at H
                exact absurd H (by simp)

/-- THE ONE PURE STATEMENT of gangerlaw06_IndexesJoins: yours. -/
def gangerlaw06_IndexesJoins.Pure : Prop := ∀ (a0 : ByteArray) (a1 : ByteArray), a0.size ≤ 140737488351232 → a1.size ≤ 140737488351232 → ∃ k, gangerlaw06_IndexesJoins.f k a0 a1 = some true
theorem gangerlaw06_IndexesJoins.walk (P : gangerlaw06_IndexesJoins.Pure) (a0 : ByteArray) (a1 : ByteArray) (w : World) (hG : Glob w) (w0 : a0.size ≤ 140737488351232) (w1 : a1.size ≤ 140737488351232) :
    Calls Tryd.prog 6 #[.string a0, .string a1] w fun e w' => e = .returned (.bool true) ∧ Below w.heap.size w w' := by
  obtain ⟨k, h⟩ := P a0 a1 w0 w1
  refine (gangerlaw06_IndexesJoins.calls k a0 a1 true w hG h).mono ?_
  rintro e w' ⟨rfl, hd⟩
  exact ⟨rfl, hd⟩

end Go.Proofs.YtpkococfmohmiaaDoor.P
