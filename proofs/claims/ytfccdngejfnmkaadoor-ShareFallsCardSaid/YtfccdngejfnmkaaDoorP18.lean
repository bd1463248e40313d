/- The machine's side of the laws of this seat: each function's plain form and its contract, written by a program of this session out of Lean's print of the loaded functions; no condition beyond what each statement says. -/
import Derived.Test.YtfccdngejfnmkaaDoorP0
import Derived.Test.YtfccdngejfnmkaaDoorP1
import Derived.Test.YtfccdngejfnmkaaDoorP4
import Derived.Test.YtfccdngejfnmkaaDoorP6
import Derived.Test.YtfccdngejfnmkaaDoorP7
namespace Go.Proofs.YtfccdngejfnmkaaDoor.P
open Go.RowKit Go.Proofs.YtfccdngejfnmkaaDoorW.PrintWords Go.Proofs.YtfccdngejfnmkaaDoorW.PrintLast Go.Proofs.YtfccdngejfnmkaaDoorW.PrintMore
attribute [local go_sem] max2_int min2_int max_two min_two max_three min_three max_four min_four   -- for this text's walks alone
set_option linter.unusedVariables false
set_option linter.unusedSimpArgs false

attribute [local go_sem] isSome_setCell
/-! ### gangerlaw11_ShareFalls: function 7 -/
mutual
def gangerlaw11_ShareFalls.j0 : Nat → List (S37) → List Int → Int → Int → List Int → List Int → List Int → Bool → Option (Bool)
  | 0, _, _, _, _, _, _, _, _ => none
  | k + 1, x0, x1, x2, x3, x9, x11, x13, x72 => if x72 = true then (none) else (gangerlaw11_ShareFalls.l0 k x0 x1 x2 x3 x9 x11 x13 0)
def gangerlaw11_ShareFalls.l0 : Nat → List (S37) → List Int → Int → Int → List Int → List Int → List Int → Int → Option (Bool)
  | 0, _, _, _, _, _, _, _, _ => none
  | k + 1, x0, x1, x2, x3, x9, x11, x13, x15 => if x15 < (x0.length : Int) then (if 0 ≤ x15 then (if x15 < (x9.length : Int) then (if (rd x9 x15) < 0 then (none) else (if (rd x9 x15) > 65536 then (none) else (if x15 < (x13.length : Int) then (if (rd x13 x15) = 0 then (if x15 < (x11.length : Int) then (if (rd x11 x15) > 0 then (if (rd x9 x15) = 65536 then (gangerlaw11_ShareFalls.l0 k x0 x1 x2 x3 x9 x11 x13 (wrap64 (x15 + 1))) else (none)) else (gangerlaw11_ShareFalls.l0 k x0 x1 x2 x3 x9 x11 x13 (wrap64 (x15 + 1)))) else (none)) else (gangerlaw11_ShareFalls.l0 k x0 x1 x2 x3 x9 x11 x13 (wrap64 (x15 + 1)))) else (none)))) else (none)) else (none)) else (if (IntKind.u64.wrap ((x0.length : Int))) = 0 then (none) else (if 0 < (x13.length : Int) then (if (rd x13 0) > 1000000000000 then ((gangerlaw11_known.f k).bind fun t543 => (some t543)) else ((gangerlaw11_copied.f x1).bind fun t544 => (if 0 ≤ (wrap64 (Int.tmod (IntKind.u64.wrap (x2)) (IntKind.u64.wrap ((x0.length : Int))))) then (if (wrap64 (Int.tmod (IntKind.u64.wrap (x2)) (IntKind.u64.wrap ((x0.length : Int))))) < (t544.length : Int) then ((share_Factors.f k x0 (t544.set ((wrap64 (Int.tmod (IntKind.u64.wrap (x2)) (IntKind.u64.wrap ((x0.length : Int))))) : Int).toNat (wrap64 ((rd t544 (wrap64 (Int.tmod (IntKind.u64.wrap (x2)) (IntKind.u64.wrap ((x0.length : Int)))))) + (wrap64 (x3)))))).bind fun bt549 => (if bt549.2 = 0 then (if (bt549.1.length : Int) = (x0.length : Int) then (if (wrap64 (Int.tmod (IntKind.u64.wrap (x2)) (IntKind.u64.wrap ((x0.length : Int))))) < (bt549.1.length : Int) then (if (wrap64 (Int.tmod (IntKind.u64.wrap (x2)) (IntKind.u64.wrap ((x0.length : Int))))) < (x9.length : Int) then (if (rd bt549.1 (wrap64 (Int.tmod (IntKind.u64.wrap (x2)) (IntKind.u64.wrap ((x0.length : Int)))))) ≤ (rd x9 (wrap64 (Int.tmod (IntKind.u64.wrap (x2)) (IntKind.u64.wrap ((x0.length : Int)))))) then ((gangerlaw11_known.f k).bind fun t555 => (some t555)) else (none)) else (none)) else (none)) else (none)) else (none))) else (none)) else (none)))) else (none)))
end
def gangerlaw11_ShareFalls.f (k : Nat) (l0 : List (S37)) (l1 : List Int) (a2 : Int) (a3 : Int) : Option (Bool) := (gangerlaw11_many.f k l0 l1).bind fun t522 => (if t522 = true then ((gangerlaw11_known.f k).bind fun t523 => (some t523)) else ((share_Factors.f k l0 l1).bind fun bt524 => (if bt524.2 = 0 then ((share_Norms.f k l0).bind fun bt529 => ((share_Sums.f k l0 l1).bind fun bt533 => (if (l0.length : Int) = 0 then (gangerlaw11_ShareFalls.j0 k l0 l1 a2 a3 bt524.1 bt529.1 bt533.1 true) else (if (bt524.1.length : Int) = (l0.length : Int) then (if (bt529.1.length : Int) = (l0.length : Int) then (gangerlaw11_ShareFalls.j0 k l0 l1 a2 a3 bt524.1 bt529.1 bt533.1 ((bt533.1.length : Int) != (l0.length : Int))) else (gangerlaw11_ShareFalls.j0 k l0 l1 a2 a3 bt524.1 bt529.1 bt533.1 true)) else (gangerlaw11_ShareFalls.j0 k l0 l1 a2 a3 bt524.1 bt529.1 bt533.1 true))))) else (if (bt524.1.length : Int) = 0 then ((gangerlaw11_known.f k).bind fun t528 => (some t528)) else (none)))))
theorem gangerlaw11_ShareFalls.mono_l : ∀ k, (∀ y0 y1 y2 y3 y4 y5 y6 y7, LeO (gangerlaw11_ShareFalls.j0 k y0 y1 y2 y3 y4 y5 y6 y7) (gangerlaw11_ShareFalls.j0 (k + 1) y0 y1 y2 y3 y4 y5 y6 y7)) ∧ (∀ y0 y1 y2 y3 y4 y5 y6 y7, LeO (gangerlaw11_ShareFalls.l0 k y0 y1 y2 y3 y4 y5 y6 y7) (gangerlaw11_ShareFalls.l0 (k + 1) y0 y1 y2 y3 y4 y5 y6 y7))
  | 0 => ⟨fun _ _ _ _ _ _ _ _ r h => by simp [gangerlaw11_ShareFalls.j0] at h, fun _ _ _ _ _ _ _ _ r h => by simp [gangerlaw11_ShareFalls.l0] at h⟩
  | k + 1 => by
    obtain ⟨ih0, ih1⟩ := gangerlaw11_ShareFalls.mono_l k
    refine ⟨?_, ?_⟩
    · intro y0 y1 y2 y3 y4 y5 y6 y7
      unfold gangerlaw11_ShareFalls.j0
      repeat' first
      | (with_reducible exact ih0 _ _ _ _ _ _ _ _)
      | (with_reducible exact ih1 _ _ _ _ _ _ _ _)
      | (with_reducible exact gangerlaw11_known.mono _)
      | (with_reducible exact gangerlaw11_many.mono _ _ _)
      | (with_reducible exact share_Factors.mono _ _ _)
      | (with_reducible exact share_Norms.mono _ _)
      | (with_reducible exact share_Sums.mono _ _ _)
      | (with_reducible exact LeO.refl _)
      | (with_reducible exact LeO.none _)
      | (with_reducible refine LeO.ite ?_ ?_)
      | (with_reducible refine LeO.bind ?_ (fun _ => ?_))
      | exact ih0 _ _ _ _ _ _ _ _
      | exact ih1 _ _ _ _ _ _ _ _
      | exact gangerlaw11_known.mono _
      | exact gangerlaw11_many.mono _ _ _
      | exact share_Factors.mono _ _ _
      | exact share_Norms.mono _ _
      | exact share_Sums.mono _ _ _
      | exact LeO.none _
      | refine LeO.ite ?_ ?_
      | refine LeO.bind ?_ (fun _ => ?_)
    · intro y0 y1 y2 y3 y4 y5 y6 y7
      unfold gangerlaw11_ShareFalls.l0
      repeat' first
      | (with_reducible exact ih0 _ _ _ _ _ _ _ _)
      | (with_reducible exact ih1 _ _ _ _ _ _ _ _)
      | (with_reducible exact gangerlaw11_known.mono _)
      | (with_reducible exact gangerlaw11_many.mono _ _ _)
      | (with_reducible exact share_Factors.mono _ _ _)
      | (with_reducible exact share_Norms.mono _ _)
      | (with_reducible exact share_Sums.mono _ _ _)
      | (with_reducible exact LeO.refl _)
      | (with_reducible exact LeO.none _)
      | (with_reducible refine LeO.ite ?_ ?_)
      | (with_reducible refine LeO.bind ?_ (fun _ => ?_))
      | exact ih0 _ _ _ _ _ _ _ _
      | exact ih1 _ _ _ _ _ _ _ _
      | exact gangerlaw11_known.mono _
      | exact gangerlaw11_many.mono _ _ _
      | exact share_Factors.mono _ _ _
      | exact share_Norms.mono _ _
      | exact share_Sums.mono _ _ _
      | exact LeO.none _
      | refine LeO.ite ?_ ?_
      | refine LeO.bind ?_ (fun _ => ?_)
theorem gangerlaw11_ShareFalls.mono : ∀ a0 a1 a2 a3 k, LeO (gangerlaw11_ShareFalls.f k a0 a1 a2 a3) (gangerlaw11_ShareFalls.f (k + 1) a0 a1 a2 a3) := by
  intro a0 a1 a2 a3 k
  obtain ⟨ih0, ih1⟩ := gangerlaw11_ShareFalls.mono_l k
  unfold gangerlaw11_ShareFalls.f
  repeat' first
      | (with_reducible exact ih0 _ _ _ _ _ _ _ _)
      | (with_reducible exact ih1 _ _ _ _ _ _ _ _)
      | (with_reducible exact gangerlaw11_known.mono _)
      | (with_reducible exact gangerlaw11_many.mono _ _ _)
      | (with_reducible exact share_Factors.mono _ _ _)
      | (with_reducible exact share_Norms.mono _ _)
      | (with_reducible exact share_Sums.mono _ _ _)
      | (with_reducible exact LeO.refl _)
      | (with_reducible exact LeO.none _)
      | (with_reducible refine LeO.ite ?_ ?_)
      | (with_reducible refine LeO.bind ?_ (fun _ => ?_))
      | exact ih0 _ _ _ _ _ _ _ _
      | exact ih1 _ _ _ _ _ _ _ _
      | exact gangerlaw11_known.mono _
      | exact gangerlaw11_many.mono _ _ _
      | exact share_Factors.mono _ _ _
      | exact share_Norms.mono _ _
      | exact share_Sums.mono _ _ _
      | exact LeO.none _
      | refine LeO.ite ?_ ?_
      | refine LeO.bind ?_ (fun _ => ?_)
def gangerlaw11_ShareFalls.T21 : Bool × List (List Nat × List Nat) := (true, [([], []), ([0], [0]), ([1], [1]), ([2], [2]), ([3, 2], [2, 3]), ([2], [2]), ([5, 2], [2, 5]), ([4, 6, 2], [2, 4, 6]), ([2, 7], [2, 7]), ([8, 2], [8]), ([9], [9]), ([9], [9]), ([10, 11, 9], [9, 10, 11]), ([12, 9], [9, 12]), ([9], [9]), ([9], [9]), ([14, 15, 9], [9, 14, 15]), ([16, 9], [9, 16]), ([13, 17, 9], [9, 13, 17]), ([9, 18], [9, 18]), ([19, 9], [19]), ([20, 20], [20]), ([20, 21], [20, 21]), ([22, 21, 0, 1, 2, 3, 4, 5, 6, 7, 8, 9, 10, 11, 12, 13, 14, 15, 16, 17, 18, 19, 20, 21, 22], [22])])
def gangerlaw11_ShareFalls.B21 : List Nat := [0, 1, 3, 7, 15, 7, 39, 127, 255, 511, 1023, 1023, 4095, 8191, 1023, 1023, 50175, 115711, 262143, 524287, 1048575, 2097151, 4194303, 8388607]
theorem gangerlaw11_ShareFalls.tab21 : rtab .any (opsOf Tryd.f7 21) = gangerlaw11_ShareFalls.T21 := by kernel_rfl
theorem gangerlaw11_ShareFalls.bits21 : waitsOk gangerlaw11_ShareFalls.T21.2 gangerlaw11_ShareFalls.B21 = true := by kernel_rfl
set_option maxHeartbeats 8000000 in
set_option maxRecDepth 100000 in
theorem gangerlaw11_ShareFalls.calls (k : Nat) (A0 : Option Addr) (c0 : Nat) (l0 : List (S37)) (A1 : Option Addr) (c1 : Nat) (l1 : List Int) (a2 : Int) (a3 : Int) (r : Bool) (w : World) (hG : Glob w) (hr0 : Kd.C k37 w A0 l0.length l0) (hc0 : l0.length ≤ c0) (hr1 : Kd.C (Kd.int .i64) w A1 l1.length l1) (hc1 : l1.length ≤ c1) (h : gangerlaw11_ShareFalls.f k l0 l1 a2 a3 = some r) :
    Calls Tryd.prog 7 #[.slice A0 l0.length c0, .slice A1 l1.length c1, .int .i64 a2, .int .u16 a3] w fun e w' => e = .returned (.bool r) ∧ Below w.heap.size w w' := by
  have HG := Aside0.mk hG
  clear hG
  have HR0 := Aside0.mk hr0
  have HC0 := Aside0.mk hc0
  clear hr0 hc0
  have HR1 := Aside0.mk hr1
  have HC1 := Aside0.mk hc1
  clear hr1 hc1
  have HB := Aside0.mk (Below.refl w.heap.size w)
  have H : ((gangerlaw11_many.f k l0 l1).bind fun t522 => (if t522 = true then ((gangerlaw11_known.f k).bind fun t523 => (some t523)) else ((share_Factors.f k l0 l1).bind fun bt524 => (if bt524.2 = 0 then ((share_Norms.f k l0).bind fun bt529 => ((share_Sums.f k l0 l1).bind fun bt533 => (if (l0.length : Int) = 0 then (gangerlaw11_ShareFalls.j0 k l0 l1 a2 a3 bt524.1 bt529.1 bt533.1 true) else (if (bt524.1.length : Int) = (l0.length : Int) then (if (bt529.1.length : Int) = (l0.length : Int) then (gangerlaw11_ShareFalls.j0 k l0 l1 a2 a3 bt524.1 bt529.1 bt533.1 ((bt533.1.length : Int) != (l0.length : Int))) else (gangerlaw11_ShareFalls.j0 k l0 l1 a2 a3 bt524.1 bt529.1 bt533.1 true)) else (gangerlaw11_ShareFalls.j0 k l0 l1 a2 a3 bt524.1 bt529.1 bt533.1 true))))) else (if (bt524.1.length : Int) = 0 then ((gangerlaw11_known.f k).bind fun t528 => (some t528)) else (none)))))) = some r := h
  clear h
  replace H := Option.bind_eq_some_iff.mp H
  obtain ⟨t522, A50, H⟩ := H
  replace H : (if t522 = true then ((gangerlaw11_known.f k).bind fun t523 => (some t523)) else ((share_Factors.f k l0 l1).bind fun bt524 => (if bt524.2 = 0 then ((share_Norms.f k l0).bind fun bt529 => ((share_Sums.f k l0 l1).bind fun bt533 => (if (l0.length : Int) = 0 then (gangerlaw11_ShareFalls.j0 k l0 l1 a2 a3 bt524.1 bt529.1 bt533.1 true) else (if (bt524.1.length : Int) = (l0.length : Int) then (if (bt529.1.length : Int) = (l0.length : Int) then (gangerlaw11_ShareFalls.j0 k l0 l1 a2 a3 bt524.1 bt529.1 bt533.1 ((bt533.1.length : Int) != (l0.length : Int))) else (gangerlaw11_ShareFalls.j0 k l0 l1 a2 a3 bt524.1 bt529.1 bt533.1 true)) else (gangerlaw11_ShareFalls.j0 k l0 l1 a2 a3 bt524.1 bt529.1 bt533.1 true))))) else (if (bt524.1.length : Int) = 0 then ((gangerlaw11_known.f k).bind fun t528 => (some t528)) else (none))))) = some r := H
  have A5 := Aside0.mk A50
  clear A50
  by_cases c6 : t522 = true
  · subst c6
    have H1 : ((gangerlaw11_known.f k).bind fun t523 => (some t523)) = some r := by rw [if_pos rfl] at H; exact H
    clear H
    have H := H1
    clear H1
    replace H := Option.bind_eq_some_iff.mp H
    obtain ⟨t523, A70, H⟩ := H
    replace H : (some t523) = some r := H
    have A7 := Aside0.mk A70
    clear A70
    obtain rfl := Option.some.inj H
    go_enter Tryd.func7, Tryd.ntmps7
    go_wp2_with (first | ((with_reducible refine gate_callee (f := 10) rfl ?_); refine goesL_ (some 22) rfl rfl Tryd.func10 (by kernel_rfl) rfl #[.slice A0 l0.length c0, .slice A1 l1.length c1] rfl (by (try simp only [List.map_toArray, List.map_cons, List.map_nil]); first | done | rfl | (simp only [List.length_drop, List.length_take]; rfl)) ?_; (with_reducible refine (gangerlaw11_many.calls k _ _ l0 _ _ l1 true _ ?side1 ?side2 ?side3 ?side4 A5.out).mono ?_); (case side1 => repeat (first | exact HR0.out | (with_reducible refine Kd.C_alloc ?_ _) | (with_reducible refine Kd.C_drewN ?_ _) | (with_reducible refine Kd.C_drew ?_))); (case side2 => exact HC0.out); (case side3 => repeat (first | exact HR1.out | (with_reducible refine Kd.C_alloc ?_ _) | (with_reducible refine Kd.C_drewN ?_ _) | (with_reducible refine Kd.C_drew ?_))); (case side4 => exact HC1.out); rintro e w' ⟨rfl, ⟨nd, rfl⟩⟩; refine ⟨_, rfl, ?_⟩) | ((with_reducible refine gate_callee (f := 11) rfl ?_); refine goesL_ (some 23) rfl rfl Tryd.func11 (by kernel_rfl) rfl #[] rfl (by (try simp only [List.map_toArray, List.map_cons, List.map_nil]); first | done | rfl | (simp only [List.length_drop, List.length_take]; rfl)) ?_; (with_reducible refine (gangerlaw11_known.calls k  t523 _ ?side1 A7.out).mono ?_); (case side1 => exact Glob.below HG.out (by repeat (first | (with_reducible first | exact HB.out | apply below_alloc | apply pw_below_drewN | apply below_drew1) | exact HB.out))); rintro e w8 ⟨rfl, hb⟩; refine ⟨_, rfl, ?_⟩; have n0_ := Aside0.mk (below_step (by repeat (first | (with_reducible first | exact HB.out | apply below_alloc | apply pw_below_drewN | apply below_drew1) | exact HB.out)) hb); clear HB; have HB := n0_; clear n0_; (try clear hb); (try clear hb2); (try clear hk); (try clear hi)))
    go_ret
    exact ⟨by first | rfl | (simp [errW_none, errW_some] <;> rfl) | (simp [*, errW_none, errW_some] <;> rfl), by repeat (first | (with_reducible first | exact HB.out | apply below_alloc | apply pw_below_drewN | apply below_drew1) | exact HB.out)⟩
  · replace c6 := Bool.eq_false_iff.mpr c6
    subst c6
    have H1 : ((share_Factors.f k l0 l1).bind fun bt524 => (if bt524.2 = 0 then ((share_Norms.f k l0).bind fun bt529 => ((share_Sums.f k l0 l1).bind fun bt533 => (if (l0.length : Int) = 0 then (gangerlaw11_ShareFalls.j0 k l0 l1 a2 a3 bt524.1 bt529.1 bt533.1 true) else (if (bt524.1.length : Int) = (l0.length : Int) then (if (bt529.1.length : Int) = (l0.length : Int) then (gangerlaw11_ShareFalls.j0 k l0 l1 a2 a3 bt524.1 bt529.1 bt533.1 ((bt533.1.length : Int) != (l0.length : Int))) else (gangerlaw11_ShareFalls.j0 k l0 l1 a2 a3 bt524.1 bt529.1 bt533.1 true)) else (gangerlaw11_ShareFalls.j0 k l0 l1 a2 a3 bt524.1 bt529.1 bt533.1 true))))) else (if (bt524.1.length : Int) = 0 then ((gangerlaw11_known.f k).bind fun t528 => (some t528)) else (none)))) = some r := by rw [if_neg (show ¬ (false = true) by decide)] at H; exact H
    clear H
    have H := H1
    clear H1
    replace H := Option.bind_eq_some_iff.mp H
    obtain ⟨⟨t524, t525⟩, A90, H⟩ := H
    replace H : (if t525 = 0 then ((share_Norms.f k l0).bind fun bt529 => ((share_Sums.f k l0 l1).bind fun bt533 => (if (l0.length : Int) = 0 then (gangerlaw11_ShareFalls.j0 k l0 l1 a2 a3 t524 bt529.1 bt533.1 true) else (if (t524.length : Int) = (l0.length : Int) then (if (bt529.1.length : Int) = (l0.length : Int) then (gangerlaw11_ShareFalls.j0 k l0 l1 a2 a3 t524 bt529.1 bt533.1 ((bt533.1.length : Int) != (l0.length : Int))) else (gangerlaw11_ShareFalls.j0 k l0 l1 a2 a3 t524 bt529.1 bt533.1 true)) else (gangerlaw11_ShareFalls.j0 k l0 l1 a2 a3 t524 bt529.1 bt533.1 true))))) else (if (t524.length : Int) = 0 then ((gangerlaw11_known.f k).bind fun t528 => (some t528)) else (none))) = some r := H
    have A9 := Aside0.mk A90
    clear A90
    by_cases c10 : t525 = 0
    · rw [if_pos c10] at H
      have c10b0 : (t525 == 0) = true := beq_iff_eq.mpr c10
      have c10b1 : (t525 != 0) = false := bne_eq_false_iff_eq.mpr c10
      clear c10
      replace H := Option.bind_eq_some_iff.mp H
      obtain ⟨⟨t529, t530⟩, A110, H⟩ := H
      replace H : ((share_Sums.f k l0 l1).bind fun bt533 => (if (l0.length : Int) = 0 then (gangerlaw11_ShareFalls.j0 k l0 l1 a2 a3 t524 t529 bt533.1 true) else (if (t524.length : Int) = (l0.length : Int) then (if (t529.length : Int) = (l0.length : Int) then (gangerlaw11_ShareFalls.j0 k l0 l1 a2 a3 t524 t529 bt533.1 ((bt533.1.length : Int) != (l0.length : Int))) else (gangerlaw11_ShareFalls.j0 k l0 l1 a2 a3 t524 t529 bt533.1 true)) else (gangerlaw11_ShareFalls.j0 k l0 l1 a2 a3 t524 t529 bt533.1 true)))) = some r := H
      have A11 := Aside0.mk A110
      clear A110
      replace H := Option.bind_eq_some_iff.mp H
      obtain ⟨⟨t533, t534⟩, A120, H⟩ := H
      replace H : (if (l0.length : Int) = 0 then (gangerlaw11_ShareFalls.j0 k l0 l1 a2 a3 t524 t529 t533 true) else (if (t524.length : Int) = (l0.length : Int) then (if (t529.length : Int) = (l0.length : Int) then (gangerlaw11_ShareFalls.j0 k l0 l1 a2 a3 t524 t529 t533 ((t533.length : Int) != (l0.length : Int))) else (gangerlaw11_ShareFalls.j0 k l0 l1 a2 a3 t524 t529 t533 true)) else (gangerlaw11_ShareFalls.j0 k l0 l1 a2 a3 t524 t529 t533 true))) = some r := H
      have A12 := Aside0.mk A120
      clear A120
      have HC13 := Aside0.mk H
      clear H
      go_enter Tryd.func7, Tryd.ntmps7
      go_upto_region 8 with (first | ((with_reducible refine gate_callee (f := 10) rfl ?_); refine goesL_ (some 22) rfl rfl Tryd.func10 (by kernel_rfl) rfl #[.slice A0 l0.length c0, .slice A1 l1.length c1] rfl (by (try simp only [List.map_toArray, List.map_cons, List.map_nil]); first | done | rfl | (simp only [List.length_drop, List.length_take]; rfl)) ?_; (with_reducible refine (gangerlaw11_many.calls k _ _ l0 _ _ l1 false _ ?side1 ?side2 ?side3 ?side4 A5.out).mono ?_); (case side1 => repeat (first | exact HR0.out | (with_reducible refine Kd.C_alloc ?_ _) | (with_reducible refine Kd.C_drewN ?_ _) | (with_reducible refine Kd.C_drew ?_))); (case side2 => exact HC0.out); (case side3 => repeat (first | exact HR1.out | (with_reducible refine Kd.C_alloc ?_ _) | (with_reducible refine Kd.C_drewN ?_ _) | (with_reducible refine Kd.C_drew ?_))); (case side4 => exact HC1.out); rintro e w' ⟨rfl, ⟨nd, rfl⟩⟩; refine ⟨_, rfl, ?_⟩) | ((with_reducible refine gate_callee (f := 20) rfl ?_); refine goesL_ (some 27) rfl rfl Tryd.func20 (by kernel_rfl) rfl #[.slice A0 l0.length c0, .slice A1 l1.length c1] rfl (by (try simp only [List.map_toArray, List.map_cons, List.map_nil]); first | done | rfl | (simp only [List.length_drop, List.length_take]; rfl)) ?_; (with_reducible refine (share_Factors.calls k _ _ l0 _ _ l1 t524 t525 _ ?side1 ?side2 ?side3 ?side4 ?side5 A9.out).mono ?_); (case side1 => exact Glob.below HG.out (by repeat (first | (with_reducible first | exact HB.out | apply below_alloc | apply pw_below_drewN | apply below_drew1) | exact HB.out))); (case side2 => repeat (first | exact HR0.out | (with_reducible refine Kd.C_alloc ?_ _) | (with_reducible refine Kd.C_drewN ?_ _) | (with_reducible refine Kd.C_drew ?_))); (case side3 => exact HC0.out); (case side4 => repeat (first | exact HR1.out | (with_reducible refine Kd.C_alloc ?_ _) | (with_reducible refine Kd.C_drewN ?_ _) | (with_reducible refine Kd.C_drew ?_))); (case side5 => exact HC1.out); rintro e w14 ⟨v526, rfl, ho0, hb⟩; refine ⟨_, rfl, ?_⟩; have n0_ := Aside0.mk (Kd.R_lower ho0 (below_size (by repeat (first | (with_reducible first | exact HB.out | apply below_alloc | apply pw_below_drewN | apply below_drew1) | exact HB.out)))); have n1_ := Aside0.mk (below_step (by repeat (first | (with_reducible first | exact HB.out | apply below_alloc | apply pw_below_drewN | apply below_drew1) | exact HB.out)) hb); clear HB; have HO527 := n0_; have HB := n1_; clear n0_ n1_; (try clear hb); (try clear hb2); (try clear hk); (try clear hi); (try clear ho0)) | ((with_reducible refine gate_callee (f := 16) rfl ?_); refine goesL_ (some 40) rfl rfl Tryd.func16 (by kernel_rfl) rfl #[.slice A0 l0.length c0] rfl (by (try simp only [List.map_toArray, List.map_cons, List.map_nil]); first | done | rfl | (simp only [List.length_drop, List.length_take]; rfl)) ?_; (with_reducible refine (share_Norms.calls k _ _ l0 t529 t530 _ ?side1 ?side2 ?side3 A11.out).mono ?_); (case side1 => exact Glob.below HG.out (by repeat (first | (with_reducible first | exact HB.out | apply below_alloc | apply pw_below_drewN | apply below_drew1) | exact HB.out))); (case side2 => repeat (first | exact (Kd.C_below HR0.out HB.out) | (with_reducible refine Kd.C_alloc ?_ _) | (with_reducible refine Kd.C_drewN ?_ _) | (with_reducible refine Kd.C_drew ?_))); (case side3 => exact HC0.out); rintro e w15 ⟨v531, rfl, ho0, hb⟩; refine ⟨_, rfl, ?_⟩; have n0_ := Aside0.mk (Kd.R_elder' (by (with_reducible repeat (first | apply Kd.R_alloc | apply Kd.R_drewN | apply Kd.R_drew)); exact HO527.out) (Kd.R_base ho0) hb); have n1_ := Aside0.mk (Kd.R_lower (Kd.R_new' ho0 (Kd.R_lt (by (with_reducible repeat (first | apply Kd.R_alloc | apply Kd.R_drewN | apply Kd.R_drew)); exact HO527.out))) (below_size (by repeat (first | (with_reducible first | exact HB.out | apply below_alloc | apply pw_below_drewN | apply below_drew1) | exact HB.out)))); have n2_ := Aside0.mk (below_step (by repeat (first | (with_reducible first | exact HB.out | apply below_alloc | apply pw_below_drewN | apply below_drew1) | exact HB.out)) hb); clear HO527; clear HB; have HO527 := n0_; have HO532 := n1_; have HB := n2_; clear n0_ n1_ n2_; (try clear hb); (try clear hb2); (try clear hk); (try clear hi); (try clear ho0)) | ((with_reducible refine gate_callee (f := 13) rfl ?_); refine goesL_ (some 46) rfl rfl Tryd.func13 (by kernel_rfl) rfl #[.slice A0 l0.length c0, .slice A1 l1.length c1] rfl (by (try simp only [List.map_toArray, List.map_cons, List.map_nil]); first | done | rfl | (simp only [List.length_drop, List.length_take]; rfl)) ?_; (with_reducible refine (share_Sums.calls k _ _ l0 _ _ l1 t533 t534 _ ?side1 ?side2 ?side3 ?side4 ?side5 A12.out).mono ?_); (case side1 => exact Glob.below HG.out (by repeat (first | (with_reducible first | exact HB.out | apply below_alloc | apply pw_below_drewN | apply below_drew1) | exact HB.out))); (case side2 => repeat (first | exact (Kd.C_below HR0.out HB.out) | (with_reducible refine Kd.C_alloc ?_ _) | (with_reducible refine Kd.C_drewN ?_ _) | (with_reducible refine Kd.C_drew ?_))); (case side3 => exact HC0.out); (case side4 => repeat (first | exact (Kd.C_below HR1.out HB.out) | (with_reducible refine Kd.C_alloc ?_ _) | (with_reducible refine Kd.C_drewN ?_ _) | (with_reducible refine Kd.C_drew ?_))); (case side5 => exact HC1.out); rintro e w16 ⟨v535, rfl, ho0, hb⟩; refine ⟨_, rfl, ?_⟩; have n0_ := Aside0.mk (Kd.R_elder' (by (with_reducible repeat (first | apply Kd.R_alloc | apply Kd.R_drewN | apply Kd.R_drew)); exact HO527.out) (Kd.R_base ho0) hb); have n1_ := Aside0.mk (Kd.R_elder' (by (with_reducible repeat (first | apply Kd.R_alloc | apply Kd.R_drewN | apply Kd.R_drew)); exact HO532.out) (Kd.R_base ho0) hb); have n2_ := Aside0.mk (Kd.R_lower (Kd.R_new' (Kd.R_new' ho0 (Kd.R_lt (by (with_reducible repeat (first | apply Kd.R_alloc | apply Kd.R_drewN | apply Kd.R_drew)); exact HO527.out))) (Kd.R_lt (by (with_reducible repeat (first | apply Kd.R_alloc | apply Kd.R_drewN | apply Kd.R_drew)); exact HO532.out))) (below_size (by repeat (first | (with_reducible first | exact HB.out | apply below_alloc | apply pw_below_drewN | apply below_drew1) | exact HB.out)))); have n3_ := Aside0.mk (below_step (by repeat (first | (with_reducible first | exact HB.out | apply below_alloc | apply pw_below_drewN | apply below_drew1) | exact HB.out)) hb); clear HO527; clear HO532; clear HB; have HO527 := n0_; have HO532 := n1_; have HO536 := n2_; have HB := n3_; clear n0_ n1_ n2_ n3_; (try clear hb); (try clear hb2); (try clear hk); (try clear hi); (try clear ho0)))
      (try simp only [Act.put, List.setIfInBounds_toArray, List.set_cons_zero, List.set_cons_succ])
      go_cut [72] (fun v72 wc => ∃ (kq : Nat) (x72_12 : Bool), v72 = .bool x72_12 ∧ Aside0 (gangerlaw11_ShareFalls.j0 kq l0 l1 a2 a3 t524 t529 t533 x72_12 = some r) ∧ Aside0 (kq ≤ k) ∧ Aside0 (Kd.R (Kd.int .i64) 3 wc w.heap.size (fun k_ => some k_ ≠ (v531 : Value).ownBlock ∧ some k_ ≠ (v535 : Value).ownBlock) v526 t524) ∧ Aside0 (Kd.R (Kd.int .i64) 3 wc w.heap.size (fun k_ => some k_ ≠ (v526 : Value).ownBlock ∧ some k_ ≠ (v535 : Value).ownBlock) v531 t529) ∧ Aside0 (Kd.R (Kd.int .i64) 3 wc w.heap.size (fun k_ => some k_ ≠ (v526 : Value).ownBlock ∧ some k_ ≠ (v531 : Value).ownBlock) v535 t533) ∧ Aside0 (Below w.heap.size w wc))
      case first =>
        have H := HC13.out
        clear HC13
        by_cases c17 : (l0.length : Int) = 0
        · rw [if_pos c17] at H
          have c17b0 : ((l0.length : Int) == 0) = true := beq_iff_eq.mpr c17
          have c17b1 : ((l0.length : Int) != 0) = false := bne_eq_false_iff_eq.mpr c17
          clear c17
          (first | rw [c17b0] | (simp only [i64_w, i32_w]; rw [c17b0]) | skip)
          have H' := Aside0.mk H
          clear H
          go_wp2
          go_meet
          case rel => exact ⟨_, (true), (by first | rfl | (simp; done) | (simp [*]; done)), H', ⟨by first | omega | exact Nat.le_refl _⟩, ⟨by (with_reducible repeat (first | apply Kd.R_alloc | apply Kd.R_drewN | apply Kd.R_drew)); exact Kd.R_mono HO527.out (fun _ hk => ⟨hk.1.2, hk.2⟩)⟩, ⟨by (with_reducible repeat (first | apply Kd.R_alloc | apply Kd.R_drewN | apply Kd.R_drew)); exact Kd.R_mono HO532.out (fun _ hk => ⟨hk.1.2, hk.2⟩)⟩, ⟨by (with_reducible repeat (first | apply Kd.R_alloc | apply Kd.R_drewN | apply Kd.R_drew)); exact Kd.R_mono HO536.out (fun _ hk => ⟨hk.1.2, hk.2⟩)⟩, ⟨by repeat (first | (with_reducible first | exact HB.out | apply below_alloc | apply pw_below_drewN | apply below_drew1) | exact HB.out)⟩⟩
        · rw [if_neg c17] at H
          have c17b0 : ((l0.length : Int) == 0) = false := beq_eq_false_iff_ne.mpr c17
          have c17b1 : ((l0.length : Int) != 0) = true := bne_iff_ne.mpr c17
          have c17b2 : ¬ (l0 = []) := fun h_ => c17 (by rw [h_]; rfl)
          (first | rw [c17b0] | (simp only [i64_w, i32_w]; rw [c17b0]) | skip)
          by_cases c18 : (t524.length : Int) = (l0.length : Int)
          · rw [if_pos c18] at H
            have c18b0 : ((t524.length : Int) == (l0.length : Int)) = true := beq_iff_eq.mpr c18
            have c18b1 : ((t524.length : Int) != (l0.length : Int)) = false := bne_eq_false_iff_eq.mpr c18
            have c18b2 : (t524.length == l0.length) = true := by first | simpa using c18 | (simp at c18 ⊢; omega)
            clear c18
            by_cases c19 : (t529.length : Int) = (l0.length : Int)
            · rw [if_pos c19] at H
              have c19b0 : ((t529.length : Int) == (l0.length : Int)) = true := beq_iff_eq.mpr c19
              have c19b1 : ((t529.length : Int) != (l0.length : Int)) = false := bne_eq_false_iff_eq.mpr c19
              have c19b2 : (t529.length == l0.length) = true := by first | simpa using c19 | (simp at c19 ⊢; omega)
              clear c19
              have H' := Aside0.mk H
              clear H
              obtain ⟨Ao20, co20, eo20⟩ := Kd.R_slice HO527.out
              subst eo20
              obtain ⟨Ao21, co21, eo21⟩ := Kd.R_slice HO532.out
              subst eo21
              obtain ⟨Ao22, co22, eo22⟩ := Kd.R_slice HO536.out
              subst eo22
              go_wp2
              go_meet
              case rel => exact ⟨_, (((t533.length : Int) != (l0.length : Int))), (by first | rfl | (simp; done) | (simp [*]; done)), H', ⟨by first | omega | exact Nat.le_refl _⟩, ⟨by (with_reducible repeat (first | apply Kd.R_alloc | apply Kd.R_drewN | apply Kd.R_drew)); exact Kd.R_mono HO527.out (fun _ hk => ⟨hk.1.2, hk.2⟩)⟩, ⟨by (with_reducible repeat (first | apply Kd.R_alloc | apply Kd.R_drewN | apply Kd.R_drew)); exact Kd.R_mono HO532.out (fun _ hk => ⟨hk.1.2, hk.2⟩)⟩, ⟨by (with_reducible repeat (first | apply Kd.R_alloc | apply Kd.R_drewN | apply Kd.R_drew)); exact Kd.R_mono HO536.out (fun _ hk => ⟨hk.1.2, hk.2⟩)⟩, ⟨by repeat (first | (with_reducible first | exact HB.out | apply below_alloc | apply pw_below_drewN | apply below_drew1) | exact HB.out)⟩⟩
            · rw [if_neg c19] at H
              have c19b0 : ((t529.length : Int) == (l0.length : Int)) = false := beq_eq_false_iff_ne.mpr c19
              have c19b1 : ((t529.length : Int) != (l0.length : Int)) = true := bne_iff_ne.mpr c19
              have c19b2 : (t529.length == l0.length) = false := by first | simpa using c19 | (simp at c19 ⊢; omega)
              have H' := Aside0.mk H
              clear H
              obtain ⟨Ao23, co23, eo23⟩ := Kd.R_slice HO527.out
              subst eo23
              obtain ⟨Ao24, co24, eo24⟩ := Kd.R_slice HO532.out
              subst eo24
              go_wp2
              go_meet
              case rel => exact ⟨_, (true), (by first | rfl | (simp; done) | (simp [*]; done)), H', ⟨by first | omega | exact Nat.le_refl _⟩, ⟨by (with_reducible repeat (first | apply Kd.R_alloc | apply Kd.R_drewN | apply Kd.R_drew)); exact Kd.R_mono HO527.out (fun _ hk => ⟨hk.1.2, hk.2⟩)⟩, ⟨by (with_reducible repeat (first | apply Kd.R_alloc | apply Kd.R_drewN | apply Kd.R_drew)); exact Kd.R_mono HO532.out (fun _ hk => ⟨hk.1.2, hk.2⟩)⟩, ⟨by (with_reducible repeat (first | apply Kd.R_alloc | apply Kd.R_drewN | apply Kd.R_drew)); exact Kd.R_mono HO536.out (fun _ hk => ⟨hk.1.2, hk.2⟩)⟩, ⟨by repeat (first | (with_reducible first | exact HB.out | apply below_alloc | apply pw_below_drewN | apply below_drew1) | exact HB.out)⟩⟩
          · rw [if_neg c18] at H
            have c18b0 : ((t524.length : Int) == (l0.length : Int)) = false := beq_eq_false_iff_ne.mpr c18
            have c18b1 : ((t524.length : Int) != (l0.length : Int)) = true := bne_iff_ne.mpr c18
            have c18b2 : (t524.length == l0.length) = false := by first | simpa using c18 | (simp at c18 ⊢; omega)
            have H' := Aside0.mk H
            clear H
            obtain ⟨Ao25, co25, eo25⟩ := Kd.R_slice HO527.out
            subst eo25
            go_wp2
            go_meet
            case rel => exact ⟨_, (true), (by first | rfl | (simp; done) | (simp [*]; done)), H', ⟨by first | omega | exact Nat.le_refl _⟩, ⟨by (with_reducible repeat (first | apply Kd.R_alloc | apply Kd.R_drewN | apply Kd.R_drew)); exact Kd.R_mono HO527.out (fun _ hk => ⟨hk.1.2, hk.2⟩)⟩, ⟨by (with_reducible repeat (first | apply Kd.R_alloc | apply Kd.R_drewN | apply Kd.R_drew)); exact Kd.R_mono HO532.out (fun _ hk => ⟨hk.1.2, hk.2⟩)⟩, ⟨by (with_reducible repeat (first | apply Kd.R_alloc | apply Kd.R_drewN | apply Kd.R_drew)); exact Kd.R_mono HO536.out (fun _ hk => ⟨hk.1.2, hk.2⟩)⟩, ⟨by repeat (first | (with_reducible first | exact HB.out | apply below_alloc | apply pw_below_drewN | apply below_drew1) | exact HB.out)⟩⟩
      case rest =>
        clear HC13
        try clear c1
        try clear c2
        try clear p2
        try clear c6
        try clear c7
        try clear c10
        try clear c10b0
        try clear c10b1
        try clear c11
        try clear c13
        try clear c16
        try clear c17
        try clear c17b0
        try clear c17b1
        try clear c17b2
        try clear c18
        try clear c18b0
        try clear c18b1
        try clear c18b2
        try clear c19
        try clear c19b0
        try clear c19b1
        try clear c19b2
        try clear c20
        obtain ⟨kq, x72_12, rfl, HA, HJ12, HO_9, HO_11, HO_13, HB⟩ := hcut
        cases kq with
        | zero => exact absurd HA.out (by simp [gangerlaw11_ShareFalls.j0])
        | succ kj12 =>
          have H := HA.out
          clear HA
          simp only [gangerlaw11_ShareFalls.j0] at H
          by_cases c26 : x72_12 = true
          · subst c26
            have H1 : (none) = some r := by rw [if_pos rfl] at H; exact H
            clear H
            have H := H1
            clear H1
            exact absurd H (by simp)
          · replace c26 := Bool.eq_false_iff.mpr c26
            subst c26
            have H1 : (gangerlaw11_ShareFalls.l0 kj12 l0 l1 a2 a3 t524 t529 t533 0) = some r := by rw [if_neg (show ¬ (false = true) by decide)] at H; exact H
            clear H
            have H := H1
            clear H1
            have H' := Aside0.mk H
            clear H
            go_wp2
            go_loopg [15] kj12 (fun kq v15 w' => ∃ (x15_2 : Int), v15 = .int .i64 x15_2 ∧ Aside0 (gangerlaw11_ShareFalls.l0 kq l0 l1 a2 a3 t524 t529 t533 x15_2 = some r) ∧ Aside0 (kq ≤ kj12) ∧ Aside0 (Kd.R (Kd.int .i64) 3 w' w.heap.size (fun k_ => some k_ ≠ (v531 : Value).ownBlock ∧ some k_ ≠ (v535 : Value).ownBlock) v526 t524) ∧ Aside0 (Kd.R (Kd.int .i64) 3 w' w.heap.size (fun k_ => some k_ ≠ (v526 : Value).ownBlock ∧ some k_ ≠ (v535 : Value).ownBlock) v531 t529) ∧ Aside0 (Kd.R (Kd.int .i64) 3 w' w.heap.size (fun k_ => some k_ ≠ (v526 : Value).ownBlock ∧ some k_ ≠ (v531 : Value).ownBlock) v535 t533) ∧ Aside0 (Below w.heap.size w w'))
            case atStart => exact ⟨(0), (by first | rfl | (simp; done) | (simp [*]; done)), H', ⟨Nat.le_refl _⟩, ⟨by (with_reducible repeat (first | apply Kd.R_alloc | apply Kd.R_drewN | apply Kd.R_drew)); exact HO_9.out⟩, ⟨by (with_reducible repeat (first | apply Kd.R_alloc | apply Kd.R_drewN | apply Kd.R_drew)); exact HO_11.out⟩, ⟨by (with_reducible repeat (first | apply Kd.R_alloc | apply Kd.R_drewN | apply Kd.R_drew)); exact HO_13.out⟩, ⟨by repeat (first | (with_reducible first | exact HB.out | apply below_alloc | apply pw_below_drewN | apply below_drew1) | exact HB.out)⟩⟩
            case round =>
              clear H'
              try clear c1
              try clear c2
              try clear p2
              try clear c6
              try clear c7
              try clear c10
              try clear c10b0
              try clear c10b1
              try clear c11
              try clear c13
              try clear c16
              try clear c17
              try clear c17b0
              try clear c17b1
              try clear c17b2
              try clear c18
              try clear c18b0
              try clear c18b1
              try clear c18b2
              try clear c19
              try clear c19b0
              try clear c19b1
              try clear c19b2
              try clear c20
              try clear c26
              try clear p2
              obtain ⟨x15_2, rfl, HA, HK2, HO_9, HO_11, HO_13, HB⟩ := hrel
              cases gk with
              | zero => exact absurd HA.out (by simp [gangerlaw11_ShareFalls.l0])
              | succ k2 =>
                have H := HA.out
                clear HA
                simp only [gangerlaw11_ShareFalls.l0] at H
                by_cases c27 : x15_2 < (l0.length : Int)
                · rw [if_pos c27] at H
                  have c27b0 : decide (x15_2 < (l0.length : Int)) = true := decide_eq_true c27
                  clear c27
                  by_cases c28 : 0 ≤ x15_2
                  · rw [if_pos c28] at H
                    have c28b0 : decide (0 ≤ x15_2) = true := decide_eq_true c28
                    clear c28
                    by_cases c29 : x15_2 < (t524.length : Int)
                    · rw [if_pos c29] at H
                      have c29b0 : decide (x15_2 < (t524.length : Int)) = true := decide_eq_true c29
                      clear c29
                      by_cases c30 : (rd t524 x15_2) < 0
                      · rw [if_pos c30] at H
                        exact absurd H (by simp)
                      · rw [if_neg c30] at H
                        have c30b0 : decide ((rd t524 x15_2) < 0) = false := decide_eq_false c30
                        clear c30
                        by_cases c31 : (rd t524 x15_2) > 65536
                        · rw [if_pos c31] at H
                          exact absurd H (by simp)
                        · rw [if_neg c31] at H
                          have c31b0 : decide (65536 < (rd t524 x15_2)) = false := decide_eq_false c31
                          clear c31
                          by_cases c32 : x15_2 < (t533.length : Int)
                          · rw [if_pos c32] at H
                            have c32b0 : decide (x15_2 < (t533.length : Int)) = true := decide_eq_true c32
                            clear c32
                            by_cases c33 : (rd t533 x15_2) = 0
                            · rw [if_pos c33] at H
                              have c33b0 : ((rd t533 x15_2) == 0) = true := beq_iff_eq.mpr c33
                              have c33b1 : ((rd t533 x15_2) != 0) = false := bne_eq_false_iff_eq.mpr c33
                              clear c33
                              by_cases c34 : x15_2 < (t529.length : Int)
                              · rw [if_pos c34] at H
                                have c34b0 : decide (x15_2 < (t529.length : Int)) = true := decide_eq_true c34
                                clear c34
                                by_cases c35 : (rd t529 x15_2) > 0
                                · rw [if_pos c35] at H
                                  have c35b0 : decide (0 < (rd t529 x15_2)) = true := decide_eq_true c35
                                  clear c35
                                  by_cases c36 : (rd t524 x15_2) = 65536
                                  · rw [if_pos c36] at H
                                    have c36b0 : ((rd t524 x15_2) == 65536) = true := beq_iff_eq.mpr c36
                                    have c36b1 : ((rd t524 x15_2) != 65536) = false := bne_eq_false_iff_eq.mpr c36
                                    clear c36
                                    have H' := Aside0.mk H
                                    clear H
                                    obtain ⟨Ao37, co37, eo37⟩ := Kd.R_slice HO_9.out
                                    subst eo37
                                    have p537 : 0 ≤ (x15_2 : Int) := of_decide_eq_true (by first | (with_reducible assumption) | assumption)
                                    have q537 : x15_2 < (t524.length : Int) := of_decide_eq_true (by first | (with_reducible assumption) | assumption)
                                    obtain ⟨ad537, e537, hx537_0⟩ := Kd.at_int (Kd.R_reads' HO_9.out).2.2 x15_2 p537 q537
                                    cases e537
                                    replace p537 := eq_true p537
                                    replace q537 := eq_true q537
                                    have p538 : 0 ≤ (x15_2 : Int) := of_decide_eq_true (by first | (with_reducible assumption) | assumption)
                                    have q538 : x15_2 < (t524.length : Int) := of_decide_eq_true (by first | (with_reducible assumption) | assumption)
                                    obtain ⟨ad538, e538, hx538_0⟩ := Kd.at_int (Kd.R_reads' HO_9.out).2.2 x15_2 p538 q538
                                    obtain rfl : ad537 = ad538 := (by injection e538)
                                    replace p538 := eq_true p538
                                    replace q538 := eq_true q538
                                    obtain ⟨Ao38, co38, eo38⟩ := Kd.R_slice HO_13.out
                                    subst eo38
                                    have p539 : 0 ≤ (x15_2 : Int) := of_decide_eq_true (by first | (with_reducible assumption) | assumption)
                                    have q539 : x15_2 < (t533.length : Int) := of_decide_eq_true (by first | (with_reducible assumption) | assumption)
                                    obtain ⟨ad539, e539, hx539_0⟩ := Kd.at_int (Kd.R_reads' HO_13.out).2.2 x15_2 p539 q539
                                    cases e539
                                    replace p539 := eq_true p539
                                    replace q539 := eq_true q539
                                    obtain ⟨Ao39, co39, eo39⟩ := Kd.R_slice HO_11.out
                                    subst eo39
                                    have p540 : 0 ≤ (x15_2 : Int) := of_decide_eq_true (by first | (with_reducible assumption) | assumption)
                                    have q540 : x15_2 < (t529.length : Int) := of_decide_eq_true (by first | (with_reducible assumption) | assumption)
                                    obtain ⟨ad540, e540, hx540_0⟩ := Kd.at_int (Kd.R_reads' HO_11.out).2.2 x15_2 p540 q540
                                    cases e540
                                    replace p540 := eq_true p540
                                    replace q540 := eq_true q540
                                    have p541 : 0 ≤ (x15_2 : Int) := of_decide_eq_true (by first | (with_reducible assumption) | assumption)
                                    have q541 : x15_2 < (t524.length : Int) := of_decide_eq_true (by first | (with_reducible assumption) | assumption)
                                    obtain ⟨ad541, e541, hx541_0⟩ := Kd.at_int (Kd.R_reads' HO_9.out).2.2 x15_2 p541 q541
                                    obtain rfl : ad537 = ad541 := (by injection e541)
                                    replace p541 := eq_true p541
                                    replace q541 := eq_true q541
                                    go_wp2
                                    go_roundg k2
                                    case measure => have := HJ12.out; have := HK2.out; omega
                                    case rel => exact ⟨(wrap64 (x15_2 + 1)), (by first | rfl | (simp; done) | (simp [*]; done)), H', ⟨by have := HJ12.out; have := HK2.out; omega⟩, ⟨by (with_reducible repeat (first | apply Kd.R_alloc | apply Kd.R_drewN | apply Kd.R_drew)); exact HO_9.out⟩, ⟨by (with_reducible repeat (first | apply Kd.R_alloc | apply Kd.R_drewN | apply Kd.R_drew)); exact HO_11.out⟩, ⟨by (with_reducible repeat (first | apply Kd.R_alloc | apply Kd.R_drewN | apply Kd.R_drew)); exact HO_13.out⟩, ⟨by repeat (first | (with_reducible first | exact HB.out | apply below_alloc | apply pw_below_drewN | apply below_drew1) | exact HB.out)⟩⟩
                                  · rw [if_neg c36] at H
                                    exact absurd H (by simp)
                                · rw [if_neg c35] at H
                                  have c35b0 : decide (0 < (rd t529 x15_2)) = false := decide_eq_false c35
                                  clear c35
                                  have H' := Aside0.mk H
                                  clear H
                                  obtain ⟨Ao40, co40, eo40⟩ := Kd.R_slice HO_9.out
                                  subst eo40
                                  have p537 : 0 ≤ (x15_2 : Int) := of_decide_eq_true (by first | (with_reducible assumption) | assumption)
                                  have q537 : x15_2 < (t524.length : Int) := of_decide_eq_true (by first | (with_reducible assumption) | assumption)
                                  obtain ⟨ad537, e537, hx537_0⟩ := Kd.at_int (Kd.R_reads' HO_9.out).2.2 x15_2 p537 q537
                                  cases e537
                                  replace p537 := eq_true p537
                                  replace q537 := eq_true q537
                                  have p538 : 0 ≤ (x15_2 : Int) := of_decide_eq_true (by first | (with_reducible assumption) | assumption)
                                  have q538 : x15_2 < (t524.length : Int) := of_decide_eq_true (by first | (with_reducible assumption) | assumption)
                                  obtain ⟨ad538, e538, hx538_0⟩ := Kd.at_int (Kd.R_reads' HO_9.out).2.2 x15_2 p538 q538
                                  obtain rfl : ad537 = ad538 := (by injection e538)
                                  replace p538 := eq_true p538
                                  replace q538 := eq_true q538
                                  obtain ⟨Ao41, co41, eo41⟩ := Kd.R_slice HO_13.out
                                  subst eo41
                                  have p539 : 0 ≤ (x15_2 : Int) := of_decide_eq_true (by first | (with_reducible assumption) | assumption)
                                  have q539 : x15_2 < (t533.length : Int) := of_decide_eq_true (by first | (with_reducible assumption) | assumption)
                                  obtain ⟨ad539, e539, hx539_0⟩ := Kd.at_int (Kd.R_reads' HO_13.out).2.2 x15_2 p539 q539
                                  cases e539
                                  replace p539 := eq_true p539
                                  replace q539 := eq_true q539
                                  obtain ⟨Ao42, co42, eo42⟩ := Kd.R_slice HO_11.out
                                  subst eo42
                                  have p540 : 0 ≤ (x15_2 : Int) := of_decide_eq_true (by first | (with_reducible assumption) | assumption)
                                  have q540 : x15_2 < (t529.length : Int) := of_decide_eq_true (by first | (with_reducible assumption) | assumption)
                                  obtain ⟨ad540, e540, hx540_0⟩ := Kd.at_int (Kd.R_reads' HO_11.out).2.2 x15_2 p540 q540
                                  cases e540
                                  replace p540 := eq_true p540
                                  replace q540 := eq_true q540
                                  go_wp2
                                  go_roundg k2
                                  case measure => have := HJ12.out; have := HK2.out; omega
                                  case rel => exact ⟨(wrap64 (x15_2 + 1)), (by first | rfl | (simp; done) | (simp [*]; done)), H', ⟨by have := HJ12.out; have := HK2.out; omega⟩, ⟨by (with_reducible repeat (first | apply Kd.R_alloc | apply Kd.R_drewN | apply Kd.R_drew)); exact HO_9.out⟩, ⟨by (with_reducible repeat (first | apply Kd.R_alloc | apply Kd.R_drewN | apply Kd.R_drew)); exact HO_11.out⟩, ⟨by (with_reducible repeat (first | apply Kd.R_alloc | apply Kd.R_drewN | apply Kd.R_drew)); exact HO_13.out⟩, ⟨by repeat (first | (with_reducible first | exact HB.out | apply below_alloc | apply pw_below_drewN | apply below_drew1) | exact HB.out)⟩⟩
                              · rw [if_neg c34] at H
                                exact absurd H (by simp)
                            · rw [if_neg c33] at H
                              have c33b0 : ((rd t533 x15_2) == 0) = false := beq_eq_false_iff_ne.mpr c33
                              have c33b1 : ((rd t533 x15_2) != 0) = true := bne_iff_ne.mpr c33
                              have H' := Aside0.mk H
                              clear H
                              obtain ⟨Ao43, co43, eo43⟩ := Kd.R_slice HO_9.out
                              subst eo43
                              have p537 : 0 ≤ (x15_2 : Int) := of_decide_eq_true (by first | (with_reducible assumption) | assumption)
                              have q537 : x15_2 < (t524.length : Int) := of_decide_eq_true (by first | (with_reducible assumption) | assumption)
                              obtain ⟨ad537, e537, hx537_0⟩ := Kd.at_int (Kd.R_reads' HO_9.out).2.2 x15_2 p537 q537
                              cases e537
                              replace p537 := eq_true p537
                              replace q537 := eq_true q537
                              have p538 : 0 ≤ (x15_2 : Int) := of_decide_eq_true (by first | (with_reducible assumption) | assumption)
                              have q538 : x15_2 < (t524.length : Int) := of_decide_eq_true (by first | (with_reducible assumption) | assumption)
                              obtain ⟨ad538, e538, hx538_0⟩ := Kd.at_int (Kd.R_reads' HO_9.out).2.2 x15_2 p538 q538
                              obtain rfl : ad537 = ad538 := (by injection e538)
                              replace p538 := eq_true p538
                              replace q538 := eq_true q538
                              obtain ⟨Ao44, co44, eo44⟩ := Kd.R_slice HO_13.out
                              subst eo44
                              have p539 : 0 ≤ (x15_2 : Int) := of_decide_eq_true (by first | (with_reducible assumption) | assumption)
                              have q539 : x15_2 < (t533.length : Int) := of_decide_eq_true (by first | (with_reducible assumption) | assumption)
                              obtain ⟨ad539, e539, hx539_0⟩ := Kd.at_int (Kd.R_reads' HO_13.out).2.2 x15_2 p539 q539
                              cases e539
                              replace p539 := eq_true p539
                              replace q539 := eq_true q539
                              go_wp2
                              go_roundg k2
                              case measure => have := HJ12.out; have := HK2.out; omega
                              case rel => exact ⟨(wrap64 (x15_2 + 1)), (by first | rfl | (simp; done) | (simp [*]; done)), H', ⟨by have := HJ12.out; have := HK2.out; omega⟩, ⟨by (with_reducible repeat (first | apply Kd.R_alloc | apply Kd.R_drewN | apply Kd.R_drew)); exact HO_9.out⟩, ⟨by (with_reducible repeat (first | apply Kd.R_alloc | apply Kd.R_drewN | apply Kd.R_drew)); exact HO_11.out⟩, ⟨by (with_reducible repeat (first | apply Kd.R_alloc | apply Kd.R_drewN | apply Kd.R_drew)); exact HO_13.out⟩, ⟨by repeat (first | (with_reducible first | exact HB.out | apply below_alloc | apply pw_below_drewN | apply below_drew1) | exact HB.out)⟩⟩
                          · rw [if_neg c32] at H
                            exact absurd H (by simp)
                    · rw [if_neg c29] at H
                      exact absurd H (by simp)
                  · rw [if_neg c28] at H
                    exact absurd H (by simp)
                · rw [if_neg c27] at H
                  have c27b0 : decide (x15_2 < (l0.length : Int)) = false := decide_eq_false c27
                  clear c27
                  by_cases c45 : (IntKind.u64.wrap ((l0.length : Int))) = 0
                  · rw [if_pos c45] at H
                    exact absurd H (by simp)
                  · rw [if_neg c45] at H
                    have c45b0 : ((IntKind.u64.wrap ((l0.length : Int))) == 0) = false := beq_eq_false_iff_ne.mpr c45
                    have c45b1 : ((IntKind.u64.wrap ((l0.length : Int))) != 0) = true := bne_iff_ne.mpr c45
                    by_cases c46 : 0 < (t533.length : Int)
                    · rw [if_pos c46] at H
                      have c46b0 : decide (0 < (t533.length : Int)) = true := decide_eq_true c46
                      have c46b1 : decide (0 < t533.length) = true := decide_eq_true (by omega)
                      clear c46
                      by_cases c47 : (rd t533 0) > 1000000000000
                      · rw [if_pos c47] at H
                        have c47b0 : decide (1000000000000 < (rd t533 0)) = true := decide_eq_true c47
                        clear c47
                        replace H := Option.bind_eq_some_iff.mp H
                        obtain ⟨t543, A480, H⟩ := H
                        replace H : (some t543) = some r := H
                        have A48 := Aside0.mk A480
                        clear A480
                        obtain rfl := Option.some.inj H
                        obtain ⟨Ao49, co49, eo49⟩ := Kd.R_slice HO_13.out
                        subst eo49
                        have p542 : 0 ≤ (0 : Int) := (by omega)
                        have q542 : 0 < (t533.length : Int) := of_decide_eq_true (by first | (with_reducible assumption) | assumption)
                        obtain ⟨ad542, e542, hx542_0⟩ := Kd.at_int (Kd.R_reads' HO_13.out).2.2 0 p542 q542
                        cases e542
                        have qi542 : (0 < t533.length) = True := eq_true (by omega)
                        (try rw [show ((0 : Int)).toNat = 0 from rfl] at hx542_0)
                        (try rw [Addr.add_zero'] at hx542_0)
                        replace p542 := eq_true p542
                        replace q542 := eq_true q542
                        go_wp2_with (first | ((with_reducible refine gate_callee (f := 11) rfl ?_); refine goesL_ (some 123) rfl rfl Tryd.func11 (by kernel_rfl) rfl #[] rfl (by (try simp only [List.map_toArray, List.map_cons, List.map_nil]); first | done | rfl | (simp only [List.length_drop, List.length_take]; rfl)) ?_; (with_reducible refine (gangerlaw11_known.calls k2  t543 _ ?side1 A48.out).mono ?_); (case side1 => exact Glob.below HG.out (by repeat (first | (with_reducible first | exact HB.out | apply below_alloc | apply pw_below_drewN | apply below_drew1) | exact HB.out))); rintro e w50 ⟨rfl, hb⟩; refine ⟨_, rfl, ?_⟩; have n0_ := Aside0.mk (Kd.R_below (by (with_reducible repeat (first | apply Kd.R_alloc | apply Kd.R_drewN | apply Kd.R_drew)); exact HO_9.out) hb); have n1_ := Aside0.mk (Kd.R_below (by (with_reducible repeat (first | apply Kd.R_alloc | apply Kd.R_drewN | apply Kd.R_drew)); exact HO_11.out) hb); have n2_ := Aside0.mk (Kd.R_below (by (with_reducible repeat (first | apply Kd.R_alloc | apply Kd.R_drewN | apply Kd.R_drew)); exact HO_13.out) hb); have n3_ := Aside0.mk (below_step (by repeat (first | (with_reducible first | exact HB.out | apply below_alloc | apply pw_below_drewN | apply below_drew1) | exact HB.out)) hb); clear HO_9; clear HO_11; clear HO_13; clear HB; have HO_9 := n0_; have HO_11 := n1_; have HO_13 := n2_; have HB := n3_; clear n0_ n1_ n2_ n3_; (try clear hb); (try clear hb2); (try clear hk); (try clear hi)))
                        go_ret
                        exact ⟨by first | rfl | (simp [errW_none, errW_some] <;> rfl) | (simp [*, errW_none, errW_some] <;> rfl), by repeat (first | (with_reducible first | exact HB.out | apply below_alloc | apply pw_below_drewN | apply below_drew1) | exact HB.out)⟩
                      · rw [if_neg c47] at H
                        have c47b0 : decide (1000000000000 < (rd t533 0)) = false := decide_eq_false c47
                        clear c47
                        replace H := Option.bind_eq_some_iff.mp H
                        obtain ⟨t544, A510, H⟩ := H
                        replace H : (if 0 ≤ (wrap64 (Int.tmod (IntKind.u64.wrap (a2)) (IntKind.u64.wrap ((l0.length : Int))))) then (if (wrap64 (Int.tmod (IntKind.u64.wrap (a2)) (IntKind.u64.wrap ((l0.length : Int))))) < (t544.length : Int) then ((share_Factors.f k2 l0 (t544.set ((wrap64 (Int.tmod (IntKind.u64.wrap (a2)) (IntKind.u64.wrap ((l0.length : Int))))) : Int).toNat (wrap64 ((rd t544 (wrap64 (Int.tmod (IntKind.u64.wrap (a2)) (IntKind.u64.wrap ((l0.length : Int)))))) + (wrap64 (a3)))))).bind fun bt549 => (if bt549.2 = 0 then (if (bt549.1.length : Int) = (l0.length : Int) then (if (wrap64 (Int.tmod (IntKind.u64.wrap (a2)) (IntKind.u64.wrap ((l0.length : Int))))) < (bt549.1.length : Int) then (if (wrap64 (Int.tmod (IntKind.u64.wrap (a2)) (IntKind.u64.wrap ((l0.length : Int))))) < (t524.length : Int) then (if (rd bt549.1 (wrap64 (Int.tmod (IntKind.u64.wrap (a2)) (IntKind.u64.wrap ((l0.length : Int)))))) ≤ (rd t524 (wrap64 (Int.tmod (IntKind.u64.wrap (a2)) (IntKind.u64.wrap ((l0.length : Int)))))) then ((gangerlaw11_known.f k2).bind fun t555 => (some t555)) else (none)) else (none)) else (none)) else (none)) else (none))) else (none)) else (none)) = some r := H
                        have A51 := Aside0.mk A510
                        clear A510
                        obtain ⟨ji52, hji52⟩ : ∃ j_ : Int, (wrap64 (Int.tmod (IntKind.u64.wrap (a2)) (IntKind.u64.wrap ((l0.length : Int))))) = j_ := ⟨_, rfl⟩
                        replace H : (if 0 ≤ (ji52) then (if (ji52) < (t544.length : Int) then ((share_Factors.f k2 l0 (t544.set ((ji52) : Int).toNat (wrap64 ((rd t544 (ji52)) + (wrap64 (a3)))))).bind fun bt549 => (if bt549.2 = 0 then (if (bt549.1.length : Int) = (l0.length : Int) then (if (ji52) < (bt549.1.length : Int) then (if (ji52) < (t524.length : Int) then (if (rd bt549.1 (ji52)) ≤ (rd t524 (ji52)) then ((gangerlaw11_known.f k2).bind fun t555 => (some t555)) else (none)) else (none)) else (none)) else (none)) else (none))) else (none)) else (none)) = some r := by first | (rw [hji52] at H; exact H) | (simp only [hji52] at H ⊢; exact H)
                        (try rw [hji52] at A51)
                        have hji52w : (IntKind.i64.wrap (Int.tmod (IntKind.u64.wrap (a2)) (IntKind.u64.wrap ((l0.length : Int))))) = ji52 := (i64_w _).trans hji52
                        by_cases c53 : 0 ≤ (ji52)
                        · rw [if_pos c53] at H
                          have c53b0 : decide (0 ≤ (ji52)) = true := decide_eq_true c53
                          clear c53
                          by_cases c54 : (ji52) < (t544.length : Int)
                          · rw [if_pos c54] at H
                            have c54b0 : decide ((ji52) < (t544.length : Int)) = true := decide_eq_true c54
                            clear c54
                            obtain ⟨y548, hy548⟩ : ∃ y_ : List Int, y_ = (t544.set ((ji52) : Int).toNat (wrap64 ((rd t544 (ji52)) + (wrap64 (a3))))) := ⟨_, rfl⟩
                            replace H : ((share_Factors.f k2 l0 y548).bind fun bt549 => (if bt549.2 = 0 then (if (bt549.1.length : Int) = (l0.length : Int) then (if (ji52) < (bt549.1.length : Int) then (if (ji52) < (t524.length : Int) then (if (rd bt549.1 (ji52)) ≤ (rd t524 (ji52)) then ((gangerlaw11_known.f k2).bind fun t555 => (some t555)) else (none)) else (none)) else (none)) else (none)) else (none))) = some r := by first | (rw [hy548]; with_reducible exact H) | (have H2_ := (Option.bind_some _ _).symm.trans H; rw [hy548]; with_reducible exact H2_) | (have H2_ := (Option.bind_some _ _).symm.trans H; with_reducible exact H2_) | with_reducible exact H | (rw [hy548]; exact H) | exact H
                            have Ny548 := Aside0.mk hy548
                            clear hy548
                            replace H := Option.bind_eq_some_iff.mp H
                            obtain ⟨⟨t549, t550⟩, A560, H⟩ := H
                            replace H : (if t550 = 0 then (if (t549.length : Int) = (l0.length : Int) then (if (ji52) < (t549.length : Int) then (if (ji52) < (t524.length : Int) then (if (rd t549 (ji52)) ≤ (rd t524 (ji52)) then ((gangerlaw11_known.f k2).bind fun t555 => (some t555)) else (none)) else (none)) else (none)) else (none)) else (none)) = some r := H
                            have A56 := Aside0.mk A560
                            clear A560
                            by_cases c57 : t550 = 0
                            · rw [if_pos c57] at H
                              have c57b0 : (t550 == 0) = true := beq_iff_eq.mpr c57
                              have c57b1 : (t550 != 0) = false := bne_eq_false_iff_eq.mpr c57
                              clear c57
                              by_cases c58 : (t549.length : Int) = (l0.length : Int)
                              · rw [if_pos c58] at H
                                have c58b0 : ((t549.length : Int) == (l0.length : Int)) = true := beq_iff_eq.mpr c58
                                have c58b1 : ((t549.length : Int) != (l0.length : Int)) = false := bne_eq_false_iff_eq.mpr c58
                                have c58b2 : (t549.length == l0.length) = true := by first | simpa using c58 | (simp at c58 ⊢; omega)
                                clear c58
                                by_cases c59 : (ji52) < (t549.length : Int)
                                · rw [if_pos c59] at H
                                  have c59b0 : decide ((ji52) < (t549.length : Int)) = true := decide_eq_true c59
                                  clear c59
                                  by_cases c60 : (ji52) < (t524.length : Int)
                                  · rw [if_pos c60] at H
                                    have c60b0 : decide ((ji52) < (t524.length : Int)) = true := decide_eq_true c60
                                    clear c60
                                    by_cases c61 : (rd t549 (ji52)) ≤ (rd t524 (ji52))
                                    · rw [if_pos c61] at H
                                      have c61b0 : decide ((rd t549 (ji52)) ≤ (rd t524 (ji52))) = true := decide_eq_true c61
                                      clear c61
                                      replace H := Option.bind_eq_some_iff.mp H
                                      obtain ⟨t555, A620, H⟩ := H
                                      replace H : (some t555) = some r := H
                                      have A62 := Aside0.mk A620
                                      clear A620
                                      obtain rfl := Option.some.inj H
                                      obtain ⟨Ao63, co63, eo63⟩ := Kd.R_slice HO_13.out
                                      subst eo63
                                      have p542 : 0 ≤ (0 : Int) := (by omega)
                                      have q542 : 0 < (t533.length : Int) := of_decide_eq_true (by first | (with_reducible assumption) | assumption)
                                      obtain ⟨ad542, e542, hx542_0⟩ := Kd.at_int (Kd.R_reads' HO_13.out).2.2 0 p542 q542
                                      cases e542
                                      have qi542 : (0 < t533.length) = True := eq_true (by omega)
                                      (try rw [show ((0 : Int)).toNat = 0 from rfl] at hx542_0)
                                      (try rw [Addr.add_zero'] at hx542_0)
                                      replace p542 := eq_true p542
                                      replace q542 := eq_true q542
                                      try go_wp2_with (first | ((with_reducible refine gate_callee (f := 12) rfl ?_); refine goesL_ (some 125) rfl rfl Tryd.func12 (by kernel_rfl) rfl #[.slice A1 l1.length c1] rfl (by (try simp only [List.map_toArray, List.map_cons, List.map_nil]); first | done | rfl | (simp only [List.length_drop, List.length_take]; rfl)) ?_; (with_reducible refine (gangerlaw11_copied.calls _ _ l1 t544 _ ?side1 ?side2 A51.out).mono ?_); (case side1 => repeat (first | exact (Kd.C_below HR1.out HB.out) | (with_reducible refine Kd.C_alloc ?_ _) | (with_reducible refine Kd.C_drewN ?_ _) | (with_reducible refine Kd.C_drew ?_))); (case side2 => exact HC1.out); rintro e w64 ⟨v545, rfl, ho0, hb⟩; refine ⟨_, rfl, ?_⟩; have n0_ := Aside0.mk (Kd.R_elder' (by (with_reducible repeat (first | apply Kd.R_alloc | apply Kd.R_drewN | apply Kd.R_drew)); exact HO_9.out) (Kd.R_base ho0) hb); have n1_ := Aside0.mk (Kd.R_elder' (by (with_reducible repeat (first | apply Kd.R_alloc | apply Kd.R_drewN | apply Kd.R_drew)); exact HO_11.out) (Kd.R_base ho0) hb); have n2_ := Aside0.mk (Kd.R_elder' (by (with_reducible repeat (first | apply Kd.R_alloc | apply Kd.R_drewN | apply Kd.R_drew)); exact HO_13.out) (Kd.R_base ho0) hb); have n3_ := Aside0.mk (Kd.R_lower (Kd.R_new' (Kd.R_new' (Kd.R_new' ho0 (Kd.R_lt (by (with_reducible repeat (first | apply Kd.R_alloc | apply Kd.R_drewN | apply Kd.R_drew)); exact HO_9.out))) (Kd.R_lt (by (with_reducible repeat (first | apply Kd.R_alloc | apply Kd.R_drewN | apply Kd.R_drew)); exact HO_11.out))) (Kd.R_lt (by (with_reducible repeat (first | apply Kd.R_alloc | apply Kd.R_drewN | apply Kd.R_drew)); exact HO_13.out))) (below_size (by repeat (first | (with_reducible first | exact HB.out | apply below_alloc | apply pw_below_drewN | apply below_drew1) | exact HB.out)))); have n4_ := Aside0.mk (below_step (by repeat (first | (with_reducible first | exact HB.out | apply below_alloc | apply pw_below_drewN | apply below_drew1) | exact HB.out)) hb); clear HO_9; clear HO_11; clear HO_13; clear HB; have HO_9 := n0_; have HO_11 := n1_; have HO_13 := n2_; have HO546 := n3_; have HB := n4_; clear n0_ n1_ n2_ n3_ n4_; (try clear hb); (try clear hb2); (try clear hk); (try clear hi); (try clear ho0); obtain ⟨Ao65, co65, eo65⟩ := Kd.R_slice HO546.out; subst eo65; have p547 : 0 ≤ ((ji52) : Int) := of_decide_eq_true (by first | (with_reducible assumption) | assumption); have q547 : (ji52) < (t544.length : Int) := of_decide_eq_true (by first | (with_reducible assumption) | assumption); obtain ⟨ad547, e547, hx547_0⟩ := Kd.at_int (Kd.R_reads' HO546.out).2.2 (ji52) p547 q547; cases e547; replace p547 := eq_true p547; replace q547 := eq_true q547; have p55 : 0 ≤ ((ji52) : Int) := of_decide_eq_true (by first | (with_reducible assumption) | assumption); have q55 : ((ji52) : Int) < ((t544.length : Int) : Int) := of_decide_eq_true (by first | (with_reducible assumption) | assumption); obtain ⟨go55, co55, eo55, gb55, gl55, cl55, HG55⟩ := Kd.R_form HO546.out (by omega); (first | cases eo55 | (injection eo55 with ea_ en_ ec_; (first | subst ea_ | (injection ea_ with ea_; subst ea_)); subst ec_; clear en_)); have GB55 := Aside0.mk gb55; have GG55 := Aside0.mk HG55; clear gb55 gl55 HG55; (first | simp only [add_plain] at hx547_0 | skip); obtain ⟨hx55_0, hf55_0⟩ := Kd.R_celln 0 HO546.out ((ji52) : Int) p55 q55; replace p55 := eq_true p55; replace q55 := eq_true q55; have n_ := Aside0.mk (Kd.R_mono (ok' := (fun k_ => some k_ ≠ (v526 : Value).ownBlock ∧ some k_ ≠ (v531 : Value).ownBlock ∧ some k_ ≠ (.slice (some ad542) t533.length co63 : Value).ownBlock)) HO546.out (fun k_ hk => ⟨hk.1.1.2, ⟨hk.1.2, hk.2⟩⟩)); clear HO546; have HO546 := n_; clear n_; obtain ⟨hy66_, hz66_⟩ := Kd.R_celln 0 HO546.out ((ji52) : Int) (of_decide_eq_true (by first | (with_reducible assumption) | assumption)) (of_decide_eq_true (by first | (with_reducible assumption) | assumption)); have HP66 := Kd.R_putg HO546.out ((ji52) : Int) (wrap64 ((rd t544 (ji52)) + (wrap64 (a3))))) | ((with_reducible refine gate_store (t := 3) (p := 135) rfl ?_); refine store_event (t := 3) (p := 135) (v := ?vo_w67) (w1 := (w64.setCell ⟨go55, ((ji52) : Int).toNat, none⟩ (.int .i64 (wrap64 ((rd t544 (ji52)) + (wrap64 (a3))))))) ?hg ?ho ?hn ?hr ?_; (case ho => rfl); (case hg => rfl); (case hn => rfl); (case hr => first | (go_simp; done) | (go_simp; rfl)); intro w67 hw; have hg : w64.grownBy w67 (some go55) := (by rw [hw]; exact HP66.2); have hp_ : Kd.R (Kd.int .i64) 3 w67 w.heap.size (fun k_ => some k_ ≠ (v526 : Value).ownBlock ∧ some k_ ≠ (v531 : Value).ownBlock ∧ some k_ ≠ (.slice (some ad542) t533.length co63 : Value).ownBlock) (.slice (some ⟨go55, 0, none⟩) t544.length co65) y548 := (by rw [hw, Ny548.out]; exact HP66.1); clear HP66; have n0_ := Aside0.mk (Kd.R_after (v := (.slice (some ⟨go55, 0, none⟩) t544.length co65)) (v1 := (.slice (some ⟨go55, 0, none⟩) t544.length co65)) (ok := (fun k_ => some k_ ≠ (v531 : Value).ownBlock ∧ some k_ ≠ (.slice (some ad542) t533.length co63 : Value).ownBlock)) (by (with_reducible repeat (first | apply Kd.R_alloc | apply Kd.R_drewN | apply Kd.R_drew)); exact HO_9.out) hg (.inl rfl)); have n1_ := Aside0.mk (Kd.R_after (v := (.slice (some ⟨go55, 0, none⟩) t544.length co65)) (v1 := (.slice (some ⟨go55, 0, none⟩) t544.length co65)) (ok := (fun k_ => some k_ ≠ (v526 : Value).ownBlock ∧ some k_ ≠ (.slice (some ad542) t533.length co63 : Value).ownBlock)) (by (with_reducible repeat (first | apply Kd.R_alloc | apply Kd.R_drewN | apply Kd.R_drew)); exact HO_11.out) hg (.inl rfl)); have n2_ := Aside0.mk (Kd.R_after (v := (.slice (some ⟨go55, 0, none⟩) t544.length co65)) (v1 := (.slice (some ⟨go55, 0, none⟩) t544.length co65)) (ok := (fun k_ => some k_ ≠ (v526 : Value).ownBlock ∧ some k_ ≠ (v531 : Value).ownBlock)) (by (with_reducible repeat (first | apply Kd.R_alloc | apply Kd.R_drewN | apply Kd.R_drew)); exact HO_13.out) hg (.inl rfl)); have n3_ := Aside0.mk (hp_); have n4_ := Aside0.mk ((by rw [hw]; exact below_set (HB.out) GB55.out : Below w.heap.size w w67)); clear HO_9; clear HO_11; clear HO_13; clear HO546; clear HB; have HO_9 := n0_; have HO_11 := n1_; have HO_13 := n2_; have HO546 := n3_; have HB := n4_; clear n0_ n1_ n2_ n3_ n4_; clear hg hw hp_) | ((with_reducible refine gate_callee (f := 20) rfl ?_); refine goesL_ (some 139) rfl rfl Tryd.func20 (by kernel_rfl) rfl #[.slice A0 l0.length c0, .slice (some ⟨go55, 0, none⟩) y548.length co65] rfl (by (try simp only [List.map_toArray, List.map_cons, List.map_nil]); first | done | (rw [show y548.length = t544.length from (Kd.R_reads' HO546.out).1.symm] <;> rfl) | rfl | (simp only [List.length_drop, List.length_take]; rfl)) ?_; (with_reducible refine (share_Factors.calls k2 _ _ l0 _ _ y548 t549 t550 _ ?side1 ?side2 ?side3 ?side4 ?side5 A56.out).mono ?_); (case side1 => exact Glob.below HG.out (by repeat (first | (with_reducible first | exact HB.out | apply below_alloc | apply pw_below_drewN | apply below_drew1) | exact HB.out))); (case side2 => repeat (first | exact (Kd.C_below HR0.out HB.out) | (with_reducible refine Kd.C_alloc ?_ _) | (with_reducible refine Kd.C_drewN ?_ _) | (with_reducible refine Kd.C_drew ?_))); (case side3 => exact HC0.out); (case side4 => repeat (first | exact (Kd.R_reads' HO546.out).2.2 | (with_reducible refine Kd.C_alloc ?_ _) | (with_reducible refine Kd.C_drewN ?_ _) | (with_reducible refine Kd.C_drew ?_))); (case side5 => rw [show y548.length = t544.length from (Kd.R_reads' HO546.out).1.symm]; exact (Kd.R_reads' HO546.out).2.1); rintro e w68 ⟨v551, rfl, ho0, hb⟩; refine ⟨_, rfl, ?_⟩; have n0_ := Aside0.mk (Kd.R_elder' (by (with_reducible repeat (first | apply Kd.R_alloc | apply Kd.R_drewN | apply Kd.R_drew)); exact HO_9.out) (Kd.R_base ho0) hb); have n1_ := Aside0.mk (Kd.R_elder' (by (with_reducible repeat (first | apply Kd.R_alloc | apply Kd.R_drewN | apply Kd.R_drew)); exact HO_11.out) (Kd.R_base ho0) hb); have n2_ := Aside0.mk (Kd.R_elder' (by (with_reducible repeat (first | apply Kd.R_alloc | apply Kd.R_drewN | apply Kd.R_drew)); exact HO_13.out) (Kd.R_base ho0) hb); have n3_ := Aside0.mk (Kd.R_elder' (by (with_reducible repeat (first | apply Kd.R_alloc | apply Kd.R_drewN | apply Kd.R_drew)); exact HO546.out) (Kd.R_base ho0) hb); have n4_ := Aside0.mk (Kd.R_lower (Kd.R_new' (Kd.R_new' (Kd.R_new' (Kd.R_new' ho0 (Kd.R_lt (by (with_reducible repeat (first | apply Kd.R_alloc | apply Kd.R_drewN | apply Kd.R_drew)); exact HO_9.out))) (Kd.R_lt (by (with_reducible repeat (first | apply Kd.R_alloc | apply Kd.R_drewN | apply Kd.R_drew)); exact HO_11.out))) (Kd.R_lt (by (with_reducible repeat (first | apply Kd.R_alloc | apply Kd.R_drewN | apply Kd.R_drew)); exact HO_13.out))) (Kd.R_lt (by (with_reducible repeat (first | apply Kd.R_alloc | apply Kd.R_drewN | apply Kd.R_drew)); exact HO546.out))) (below_size (by repeat (first | (with_reducible first | exact HB.out | apply below_alloc | apply pw_below_drewN | apply below_drew1) | exact HB.out)))); have n5_ := Aside0.mk (below_step (by repeat (first | (with_reducible first | exact HB.out | apply below_alloc | apply pw_below_drewN | apply below_drew1) | exact HB.out)) hb); clear HO_9; clear HO_11; clear HO_13; clear HO546; clear HB; have HO_9 := n0_; have HO_11 := n1_; have HO_13 := n2_; have HO546 := n3_; have HO552 := n4_; have HB := n5_; clear n0_ n1_ n2_ n3_ n4_ n5_; (try clear hb); (try clear hb2); (try clear hk); (try clear hi); (try clear ho0)))
                                      have n0_ := Aside0.mk (Kd.R_drew HO_9.out)
                                      have n1_ := Aside0.mk (Kd.R_drew HO_11.out)
                                      have n2_ := Aside0.mk (Kd.R_drew HO_13.out)
                                      have n3_ := Aside0.mk (Kd.R_drew HO546.out)
                                      have n4_ := Aside0.mk (Kd.R_drew HO552.out)
                                      have n5_ := Aside0.mk (below_drew1 HB.out)
                                      clear HO_9
                                      clear HO_11
                                      clear HO_13
                                      clear HO546
                                      clear HO552
                                      clear HB
                                      have HO_9 := n0_
                                      have HO_11 := n1_
                                      have HO_13 := n2_
                                      have HO546 := n3_
                                      have HO552 := n4_
                                      have HB := n5_
                                      clear n0_ n1_ n2_ n3_ n4_ n5_
                                      obtain ⟨Ao70, co70, eo70⟩ := Kd.R_slice HO552.out
                                      (first | subst eo70 | (injection eo70 with f1_ f2_ f3_; have f4_ := f1_.symm; have f5_ := f3_.symm; clear f1_ f2_ f3_; subst f4_; subst f5_))
                                      have p553 : 0 ≤ ((ji52) : Int) := of_decide_eq_true (by first | (with_reducible assumption) | assumption)
                                      have q553 : (ji52) < (t549.length : Int) := of_decide_eq_true (by first | (with_reducible assumption) | assumption)
                                      obtain ⟨ad553, e553, hx553_0⟩ := Kd.at_int (Kd.R_reads' HO552.out).2.2 (ji52) p553 q553
                                      cases e553
                                      replace p553 := eq_true p553
                                      replace q553 := eq_true q553
                                      obtain ⟨Ao71, co71, eo71⟩ := Kd.R_slice HO_9.out
                                      (first | subst eo71 | (injection eo71 with f1_ f2_ f3_; have f4_ := f1_.symm; have f5_ := f3_.symm; clear f1_ f2_ f3_; subst f4_; subst f5_))
                                      have p554 : 0 ≤ ((ji52) : Int) := of_decide_eq_true (by first | (with_reducible assumption) | assumption)
                                      have q554 : (ji52) < (t524.length : Int) := of_decide_eq_true (by first | (with_reducible assumption) | assumption)
                                      obtain ⟨ad554, e554, hx554_0⟩ := Kd.at_int (Kd.R_reads' HO_9.out).2.2 (ji52) p554 q554
                                      cases e554
                                      replace p554 := eq_true p554
                                      replace q554 := eq_true q554
                                      refine start_ (n := 24) (S := fun w' => w'.cell? (ad553.add ((ji52)).toNat) = some (.int .i64 (rd t549 (ji52))) ∧ w'.cell? (ad554.add ((ji52)).toNat) = some (.int .i64 (rd t524 (ji52)))) (ds := []) #[false, false, false, false, false, false, false, false, false, false, false, false, false, false, false, false, false, false, false, false, false, false, false, false] (by kernel_rfl) rfl rfl ⟨hx553_0, hx554_0⟩ (fun hHeld => ?_); refine with_tabW gangerlaw11_ShareFalls.tab21 gangerlaw11_ShareFalls.bits21 (fun HT_ HW_ => ?_)
                                      generalize w68.drew = w69 at HO_9 HO_11 HO_13 HO546 HO552 HB hx553_0 hx554_0 hHeld ⊢
                                      refine pure_ (i := 0) (N := some 142) (v := ?_) (a' := ?_) #[true, false, false, false, false, false, false, false, false, false, false, false, false, false, false, false, false, false, false, false, false, false, false, false] rfl rfl (any_of HT_.out (by kernel_rfl)) (fun _ _ _ h => h) (Or.inl ⟨by rfl, ?_⟩) ?_ ?_
                                      rotate_left
                                      · intro w'
                                        go_simp
                                        with_reducible rfl
                                      rotate_left
                                      · simp only [Act.put, List.setIfInBounds_toArray, List.set_cons_zero, List.set_cons_succ, i64_w, i32_w]
                                        rfl
                                      refine pure_ (i := 1) (N := some 143) (v := ?_) (a' := ?_) #[true, true, false, false, false, false, false, false, false, false, false, false, false, false, false, false, false, false, false, false, false, false, false, false] rfl rfl (any_of HT_.out (by kernel_rfl)) (fun _ _ _ h => h) (Or.inl ⟨by rfl, ?_⟩) ?_ ?_
                                      rotate_left
                                      · intro w'
                                        go_simp
                                        with_reducible rfl
                                      rotate_left
                                      · simp only [Act.put, List.setIfInBounds_toArray, List.set_cons_zero, List.set_cons_succ, i64_w, i32_w]
                                        rfl
                                      refine pure_ (i := 2) (N := some 144) (v := ?_) (a' := ?_) #[true, true, true, false, false, false, false, false, false, false, false, false, false, false, false, false, false, false, false, false, false, false, false, false] rfl rfl (any_of HT_.out (by kernel_rfl)) (fun _ _ _ h => h) (Or.inl ⟨by rfl, ?_⟩) ?_ ?_
                                      rotate_left
                                      · intro w'
                                        go_simp
                                        with_reducible rfl
                                      rotate_left
                                      · simp only [Act.put, List.setIfInBounds_toArray, List.set_cons_zero, List.set_cons_succ, i64_w, i32_w]
                                        rfl
                                      refine pure_ (i := 3) (N := some 145) (v := ?_) (a' := ?_) #[true, true, true, true, false, false, false, false, false, false, false, false, false, false, false, false, false, false, false, false, false, false, false, false] rfl rfl (any_of HT_.out (by kernel_rfl)) (fun _ _ _ h => h) (Or.inl ⟨by rfl, ?_⟩) ?_ ?_
                                      rotate_left
                                      · intro w'
                                        go_simp
                                        with_reducible rfl
                                      rotate_left
                                      · simp only [Act.put, List.setIfInBounds_toArray, List.set_cons_zero, List.set_cons_succ, i64_w, i32_w]
                                        rfl
                                      refine pure_ (i := 4) (N := some 146) (v := ?_) (a' := ?_) #[true, true, true, true, true, false, false, false, false, false, false, false, false, false, false, false, false, false, false, false, false, false, false, false] rfl rfl (any_of HT_.out (by kernel_rfl)) (fun _ _ _ h => h) (Or.inl ⟨by rfl, ?_⟩) ?_ ?_
                                      rotate_left
                                      · intro w'
                                        go_simp
                                        with_reducible rfl
                                      rotate_left
                                      · simp only [Act.put, List.setIfInBounds_toArray, List.set_cons_zero, List.set_cons_succ, i64_w, i32_w]
                                        rfl
                                      refine pure_ (i := 5) (N := some 147) (v := ?_) (a' := ?_) #[true, true, true, true, true, true, false, false, false, false, false, false, false, false, false, false, false, false, false, false, false, false, false, false] rfl rfl (any_of HT_.out (by kernel_rfl)) (fun _ _ _ h => h) (Or.inl ⟨by rfl, ?_⟩) ?_ ?_
                                      rotate_left
                                      · intro w'
                                        go_simp
                                        with_reducible rfl
                                      rotate_left
                                      · simp only [Act.put, List.setIfInBounds_toArray, List.set_cons_zero, List.set_cons_succ, i64_w, i32_w]
                                        rfl
                                      refine pure_ (i := 6) (N := some 148) (v := ?_) (a' := ?_) #[true, true, true, true, true, true, true, false, false, false, false, false, false, false, false, false, false, false, false, false, false, false, false, false] rfl rfl (any_of HT_.out (by kernel_rfl)) (fun _ _ _ h => h) (Or.inl ⟨by rfl, ?_⟩) ?_ ?_
                                      rotate_left
                                      · intro w'
                                        go_simp
                                        with_reducible rfl
                                      rotate_left
                                      · simp only [Act.put, List.setIfInBounds_toArray, List.set_cons_zero, List.set_cons_succ, i64_w, i32_w]
                                        rfl
                                      refine pure_ (i := 7) (N := some 149) (v := ?_) (a' := ?_) #[true, true, true, true, true, true, true, true, false, false, false, false, false, false, false, false, false, false, false, false, false, false, false, false] rfl rfl (any_of HT_.out (by kernel_rfl)) (fun _ _ _ h => h) (Or.inl ⟨by rfl, ?_⟩) ?_ ?_
                                      rotate_left
                                      · intro w'
                                        go_simp
                                        with_reducible rfl
                                      rotate_left
                                      · simp only [Act.put, List.setIfInBounds_toArray, List.set_cons_zero, List.set_cons_succ, i64_w, i32_w]
                                        rfl
                                      refine pure_ (i := 8) (N := some 150) (v := ?_) (a' := ?_) #[true, true, true, true, true, true, true, true, true, false, false, false, false, false, false, false, false, false, false, false, false, false, false, false] rfl rfl (any_of HT_.out (by kernel_rfl)) (fun _ _ _ h => h) (Or.inl ⟨by rfl, ?_⟩) ?_ ?_
                                      rotate_left
                                      · intro w'
                                        go_simp
                                        with_reducible rfl
                                      rotate_left
                                      · simp only [Act.put, List.setIfInBounds_toArray, List.set_cons_zero, List.set_cons_succ, i64_w, i32_w]
                                        rfl
                                      refine pure_ (i := 9) (N := some 151) (v := ?_) (a' := ?_) #[true, true, true, true, true, true, true, true, true, true, false, false, false, false, false, false, false, false, false, false, false, false, false, false] rfl rfl (any_of HT_.out (by kernel_rfl)) (fun _ _ _ h => h) (Or.inl ⟨by rfl, ?_⟩) ?_ ?_
                                      rotate_left
                                      · intro w'
                                        go_simp
                                        with_reducible rfl
                                      rotate_left
                                      · simp only [Act.put, List.setIfInBounds_toArray, List.set_cons_zero, List.set_cons_succ, i64_w, i32_w]
                                        rfl
                                      refine pure_ (i := 10) (N := some 152) (v := ?_) (a' := ?_) #[true, true, true, true, true, true, true, true, true, true, true, false, false, false, false, false, false, false, false, false, false, false, false, false] rfl rfl (any_of HT_.out (by kernel_rfl)) (fun _ _ _ h => h) (Or.inl ⟨by rfl, ?_⟩) ?_ ?_
                                      rotate_left
                                      · intro w'
                                        go_simp
                                        with_reducible rfl
                                      rotate_left
                                      · simp only [Act.put, List.setIfInBounds_toArray, List.set_cons_zero, List.set_cons_succ, i64_w, i32_w]
                                        rfl
                                      refine pure_ (i := 11) (N := some 153) (v := ?_) (a' := ?_) #[true, true, true, true, true, true, true, true, true, true, true, true, false, false, false, false, false, false, false, false, false, false, false, false] rfl rfl (any_of HT_.out (by kernel_rfl)) (fun _ _ _ h => h) (Or.inl ⟨by rfl, ?_⟩) ?_ ?_
                                      rotate_left
                                      · intro w'
                                        go_simp
                                        with_reducible rfl
                                      rotate_left
                                      · simp only [Act.put, List.setIfInBounds_toArray, List.set_cons_zero, List.set_cons_succ, i64_w, i32_w]
                                        rfl
                                      refine pure_ (i := 12) (N := some 154) (v := ?_) (a' := ?_) #[true, true, true, true, true, true, true, true, true, true, true, true, true, false, false, false, false, false, false, false, false, false, false, false] rfl rfl (any_of HT_.out (by kernel_rfl)) (fun _ _ _ h => h) (Or.inl ⟨by rfl, ?_⟩) ?_ ?_
                                      rotate_left
                                      · intro w'
                                        go_simp
                                        with_reducible rfl
                                      rotate_left
                                      · simp only [Act.put, List.setIfInBounds_toArray, List.set_cons_zero, List.set_cons_succ, i64_w, i32_w]
                                        rfl
                                      refine pure_ (i := 14) (N := some 156) (v := ?_) (a' := ?_) #[true, true, true, true, true, true, true, true, true, true, true, true, true, false, true, false, false, false, false, false, false, false, false, false] rfl rfl (any_of HT_.out (by kernel_rfl)) (fun _ _ _ h => h) (Or.inl ⟨by rfl, ?_⟩) ?_ ?_
                                      rotate_left
                                      · intro w'
                                        go_simp
                                        with_reducible rfl
                                      rotate_left
                                      · simp only [Act.put, List.setIfInBounds_toArray, List.set_cons_zero, List.set_cons_succ, i64_w, i32_w]
                                        rfl
                                      refine pure_ (i := 15) (N := some 157) (v := ?_) (a' := ?_) #[true, true, true, true, true, true, true, true, true, true, true, true, true, false, true, true, false, false, false, false, false, false, false, false] rfl rfl (any_of HT_.out (by kernel_rfl)) (fun _ _ _ h => h) (Or.inl ⟨by rfl, ?_⟩) ?_ ?_
                                      rotate_left
                                      · intro w'
                                        go_simp
                                        with_reducible rfl
                                      rotate_left
                                      · simp only [Act.put, List.setIfInBounds_toArray, List.set_cons_zero, List.set_cons_succ, i64_w, i32_w]
                                        rfl
                                      refine pure_ (i := 16) (N := some 158) (v := ?_) (a' := ?_) #[true, true, true, true, true, true, true, true, true, true, true, true, true, false, true, true, true, false, false, false, false, false, false, false] rfl rfl (any_of HT_.out (by kernel_rfl)) (fun _ _ _ h => h) (Or.inl ⟨by rfl, ?_⟩) ?_ ?_
                                      rotate_left
                                      · intro w'
                                        go_simp
                                        with_reducible rfl
                                      rotate_left
                                      · simp only [Act.put, List.setIfInBounds_toArray, List.set_cons_zero, List.set_cons_succ, i64_w, i32_w]
                                        rfl
                                      refine take_ (i := 13) (N := some 155) (v := ?_) (a' := ?_) #[true, true, true, true, true, true, true, true, true, true, true, true, true, true, true, true, true, false, false, false, false, false, false, false] rfl rfl (take_ofW HT_.out HW_.out (by kernel_rfl)) (fun _ _ _ h => h) (Or.inl ⟨by rfl, ?_⟩) hHeld ?_ ?_
                                      rotate_left
                                      · rintro w' ⟨s0, s1⟩
                                        go_simp
                                        with_reducible rfl
                                      rotate_left
                                      · simp only [Act.put, List.setIfInBounds_toArray, List.set_cons_zero, List.set_cons_succ, i64_w, i32_w]
                                        rfl
                                      refine take_ (i := 17) (N := some 159) (v := ?_) (a' := ?_) #[true, true, true, true, true, true, true, true, true, true, true, true, true, true, true, true, true, true, false, false, false, false, false, false] rfl rfl (take_ofW HT_.out HW_.out (by kernel_rfl)) (fun _ _ _ h => h) (Or.inl ⟨by rfl, ?_⟩) hHeld ?_ ?_
                                      rotate_left
                                      · rintro w' ⟨s0, s1⟩
                                        go_simp
                                        with_reducible rfl
                                      rotate_left
                                      · simp only [Act.put, List.setIfInBounds_toArray, List.set_cons_zero, List.set_cons_succ, i64_w, i32_w]
                                        rfl
                                      refine pure_ (i := 18) (N := some 160) (v := ?_) (a' := ?_) #[true, true, true, true, true, true, true, true, true, true, true, true, true, true, true, true, true, true, true, false, false, false, false, false] rfl rfl (any_of HT_.out (by kernel_rfl)) (fun _ _ _ h => h) (Or.inl ⟨by rfl, ?_⟩) ?_ ?_
                                      rotate_left
                                      · intro w'
                                        go_simp
                                        with_reducible rfl
                                      rotate_left
                                      · simp only [Act.put, List.setIfInBounds_toArray, List.set_cons_zero, List.set_cons_succ, i64_w, i32_w]
                                        rfl
                                      refine pure_ (i := 19) (N := some 161) (v := ?_) (a' := ?_) #[true, true, true, true, true, true, true, true, true, true, true, true, true, true, true, true, true, true, true, true, false, false, false, false] rfl rfl (any_of HT_.out (by kernel_rfl)) (fun _ _ _ h => h) (Or.inl ⟨by rfl, ?_⟩) ?_ ?_
                                      rotate_left
                                      · intro w'
                                        go_simp
                                        with_reducible rfl
                                      rotate_left
                                      · simp only [Act.put, List.setIfInBounds_toArray, List.set_cons_zero, List.set_cons_succ, i64_w, i32_w]
                                        rfl
                                      refine pure_ (i := 20) (N := some 162) (v := ?_) (a' := ?_) #[true, true, true, true, true, true, true, true, true, true, true, true, true, true, true, true, true, true, true, true, true, false, false, false] rfl rfl (any_of HT_.out (by kernel_rfl)) (fun _ _ _ h => h) (Or.inl ⟨by rfl, ?_⟩) ?_ ?_
                                      rotate_left
                                      · intro w'
                                        go_simp
                                        with_reducible rfl
                                      rotate_left
                                      · simp only [Act.put, List.setIfInBounds_toArray, List.set_cons_zero, List.set_cons_succ, i64_w, i32_w]
                                        rfl
                                      refine one_ (i := 21) (N := some 163) #[true, true, true, true, true, true, true, true, true, true, true, true, true, true, true, true, true, true, true, true, true, true, false, false] rfl rfl (one_of HT_.out (by kernel_rfl)) (by decide) (fun K hK => ?_)
                                      refine goes_ Tryd.func11 (by kernel_rfl) rfl #[] (by rfl) rfl rfl (by (try simp only [List.map_toArray, List.map_cons, List.map_nil]); first | done | rfl | (simp only [List.length_drop, List.length_take]; rfl)) ?_
                                      with_reducible refine (gangerlaw11_known.calls k2  t555 _ ?side1 A62.out).mono ?_
                                      (case side1 => exact Glob.below HG.out (by repeat (first | (with_reducible first | exact HB.out | apply below_alloc | apply pw_below_drewN | apply below_drew1) | exact HB.out)))
                                      rintro e w72 ⟨rfl, hb⟩
                                      have HS0_ := (hb.cell (World.block_lt_of_cell? _ _ (hHeld.1))).trans (hHeld.1)
                                      have HS1_ := (hb.cell (World.block_lt_of_cell? _ _ (hHeld.2))).trans (hHeld.2)
                                      refine ⟨_, rfl, ?_⟩
                                      have n0_ := Aside0.mk (Kd.R_below (by (with_reducible repeat (first | apply Kd.R_alloc | apply Kd.R_drewN | apply Kd.R_drew)); exact HO_9.out) hb)
                                      have n1_ := Aside0.mk (Kd.R_below (by (with_reducible repeat (first | apply Kd.R_alloc | apply Kd.R_drewN | apply Kd.R_drew)); exact HO_11.out) hb)
                                      have n2_ := Aside0.mk (Kd.R_below (by (with_reducible repeat (first | apply Kd.R_alloc | apply Kd.R_drewN | apply Kd.R_drew)); exact HO_13.out) hb)
                                      have n3_ := Aside0.mk (Kd.R_below (by (with_reducible repeat (first | apply Kd.R_alloc | apply Kd.R_drewN | apply Kd.R_drew)); exact HO546.out) hb)
                                      have n4_ := Aside0.mk (Kd.R_below (by (with_reducible repeat (first | apply Kd.R_alloc | apply Kd.R_drewN | apply Kd.R_drew)); exact HO552.out) hb)
                                      have n5_ := Aside0.mk (below_step (by repeat (first | (with_reducible first | exact HB.out | apply below_alloc | apply pw_below_drewN | apply below_drew1) | exact HB.out)) hb)
                                      clear HO_9
                                      clear HO_11
                                      clear HO_13
                                      clear HO546
                                      clear HO552
                                      clear HB
                                      have HO_9 := n0_
                                      have HO_11 := n1_
                                      have HO_13 := n2_
                                      have HO546 := n3_
                                      have HO552 := n4_
                                      have HB := n5_
                                      clear n0_ n1_ n2_ n3_ n4_ n5_
                                      (try clear hb)
                                      (try clear hb2)
                                      (try clear hk)
                                      (try clear hi)
                                      refine hK.out _ _ ⟨HS0_, HS1_⟩ (fun hHeld => ?_)
                                      clear hK K
                                      refine norm_ (a' := ?_) ?_ ?_
                                      rotate_left
                                      · show Act.put _ (some 163) _ = _
                                        simp only [Act.put, List.setIfInBounds_toArray, List.set_cons_zero, List.set_cons_succ, i64_w, i32_w]
                                        rfl
                                      refine pure_ (i := 22) (N := some 164) (v := ?_) (a' := ?_) #[true, true, true, true, true, true, true, true, true, true, true, true, true, true, true, true, true, true, true, true, true, true, true, false] rfl rfl (any_of HT_.out (by kernel_rfl)) (fun _ _ _ h => h) (Or.inl ⟨by rfl, ?_⟩) ?_ ?_
                                      rotate_left
                                      · intro w'
                                        go_simp
                                        with_reducible rfl
                                      rotate_left
                                      · simp only [Act.put, List.setIfInBounds_toArray, List.set_cons_zero, List.set_cons_succ, i64_w, i32_w]
                                        rfl
                                      refine pure_ (i := 23) (N := some 8) (v := ?_) (a' := ?_) #[true, true, true, true, true, true, true, true, true, true, true, true, true, true, true, true, true, true, true, true, true, true, true, true] rfl rfl (any_of HT_.out (by kernel_rfl)) (fun _ _ _ h => h) (Or.inl ⟨by rfl, ?_⟩) ?_ ?_
                                      rotate_left
                                      · intro w'
                                        go_simp
                                        with_reducible rfl
                                      rotate_left
                                      · simp only [Act.put, List.setIfInBounds_toArray, List.set_cons_zero, List.set_cons_succ, i64_w, i32_w]
                                        rfl
                                      refine done_ (done_of HT_.out (by kernel_rfl)) ?_
                                      try go_wp2
                                      go_ret
                                      exact ⟨by first | rfl | (simp [errW_none, errW_some] <;> rfl) | (simp only [← hji52]; first | rfl | (simp [errW_none, errW_some] <;> rfl)) | (simp [*, errW_none, errW_some] <;> rfl), by repeat (first | (with_reducible first | exact HB.out | apply below_alloc | apply pw_below_drewN | apply below_drew1) | exact HB.out)⟩
                                    · rw [if_neg c61] at H
                                      have c61b0 : decide ((rd t549 (ji52)) ≤ (rd t524 (ji52))) = false := decide_eq_false c61
                                      clear c61
                                      exact absurd H (by simp)
                                  · rw [if_neg c60] at H
                                    exact absurd H (by simp)
                                · rw [if_neg c59] at H
                                  exact absurd H (by simp)
                              · rw [if_neg c58] at H
                                have c58b0 : ((t549.length : Int) == (l0.length : Int)) = false := beq_eq_false_iff_ne.mpr c58
                                have c58b1 : ((t549.length : Int) != (l0.length : Int)) = true := bne_iff_ne.mpr c58
                                have c58b2 : (t549.length == l0.length) = false := by first | simpa using c58 | (simp at c58 ⊢; omega)
                                exact absurd H (by simp)
                            · rw [if_neg c57] at H
                              have c57b0 : (t550 == 0) = false := beq_eq_false_iff_ne.mpr c57
                              have c57b1 : (t550 != 0) = true := bne_iff_ne.mpr c57
                              exact absurd H (by simp)
                          · rw [if_neg c54] at H
                            exact absurd H (by simp)
                        · rw [if_neg c53] at H
                          exact absurd H (by simp)
                    · rw [if_neg c46] at H
                      exact absurd H (by simp)
    · rw [if_neg c10] at H
      have c10b0 : (t525 == 0) = false := beq_eq_false_iff_ne.mpr c10
      have c10b1 : (t525 != 0) = true := bne_iff_ne.mpr c10
      by_cases c73 : (t524.length : Int) = 0
      · rw [if_pos c73] at H
        have c73b0 : ((t524.length : Int) == 0) = true := beq_iff_eq.mpr c73
        have c73b1 : ((t524.length : Int) != 0) = false := bne_eq_false_iff_eq.mpr c73
        clear c73
        replace H := Option.bind_eq_some_iff.mp H
        obtain ⟨t528, A740, H⟩ := H
        replace H : (some t528) = some r := H
        have A74 := Aside0.mk A740
        clear A740
        obtain rfl := Option.some.inj H
        go_enter Tryd.func7, Tryd.ntmps7
        go_wp2_with (first | ((with_reducible refine gate_callee (f := 10) rfl ?_); refine goesL_ (some 22) rfl rfl Tryd.func10 (by kernel_rfl) rfl #[.slice A0 l0.length c0, .slice A1 l1.length c1] rfl (by (try simp only [List.map_toArray, List.map_cons, List.map_nil]); first | done | rfl | (simp only [List.length_drop, List.length_take]; rfl)) ?_; (with_reducible refine (gangerlaw11_many.calls k _ _ l0 _ _ l1 false _ ?side1 ?side2 ?side3 ?side4 A5.out).mono ?_); (case side1 => repeat (first | exact HR0.out | (with_reducible refine Kd.C_alloc ?_ _) | (with_reducible refine Kd.C_drewN ?_ _) | (with_reducible refine Kd.C_drew ?_))); (case side2 => exact HC0.out); (case side3 => repeat (first | exact HR1.out | (with_reducible refine Kd.C_alloc ?_ _) | (with_reducible refine Kd.C_drewN ?_ _) | (with_reducible refine Kd.C_drew ?_))); (case side4 => exact HC1.out); rintro e w' ⟨rfl, ⟨nd, rfl⟩⟩; refine ⟨_, rfl, ?_⟩) | ((with_reducible refine gate_callee (f := 20) rfl ?_); refine goesL_ (some 27) rfl rfl Tryd.func20 (by kernel_rfl) rfl #[.slice A0 l0.length c0, .slice A1 l1.length c1] rfl (by (try simp only [List.map_toArray, List.map_cons, List.map_nil]); first | done | rfl | (simp only [List.length_drop, List.length_take]; rfl)) ?_; (with_reducible refine (share_Factors.calls k _ _ l0 _ _ l1 t524 t525 _ ?side1 ?side2 ?side3 ?side4 ?side5 A9.out).mono ?_); (case side1 => exact Glob.below HG.out (by repeat (first | (with_reducible first | exact HB.out | apply below_alloc | apply pw_below_drewN | apply below_drew1) | exact HB.out))); (case side2 => repeat (first | exact HR0.out | (with_reducible refine Kd.C_alloc ?_ _) | (with_reducible refine Kd.C_drewN ?_ _) | (with_reducible refine Kd.C_drew ?_))); (case side3 => exact HC0.out); (case side4 => repeat (first | exact HR1.out | (with_reducible refine Kd.C_alloc ?_ _) | (with_reducible refine Kd.C_drewN ?_ _) | (with_reducible refine Kd.C_drew ?_))); (case side5 => exact HC1.out); rintro e w75 ⟨v526, rfl, ho0, hb⟩; refine ⟨_, rfl, ?_⟩; have n0_ := Aside0.mk (Kd.R_lower ho0 (below_size (by repeat (first | (with_reducible first | exact HB.out | apply below_alloc | apply pw_below_drewN | apply below_drew1) | exact HB.out)))); have n1_ := Aside0.mk (below_step (by repeat (first | (with_reducible first | exact HB.out | apply below_alloc | apply pw_below_drewN | apply below_drew1) | exact HB.out)) hb); clear HB; have HO527 := n0_; have HB := n1_; clear n0_ n1_; (try clear hb); (try clear hb2); (try clear hk); (try clear hi); (try clear ho0); obtain ⟨Ao76, co76, eo76⟩ := Kd.R_slice HO527.out; subst eo76) | (go_at_call 11; (with_reducible refine (gangerlaw11_known.calls k  t528 _ ?side1 A74.out).mono ?_); (case side1 => exact Glob.below HG.out (by repeat (first | (with_reducible first | exact HB.out | apply below_alloc | apply pw_below_drewN | apply below_drew1) | exact HB.out))); rintro e w77 ⟨rfl, hb⟩; have n0_ := Aside0.mk (Kd.R_below (by (with_reducible repeat (first | apply Kd.R_alloc | apply Kd.R_drewN | apply Kd.R_drew)); exact HO527.out) hb); have n1_ := Aside0.mk (below_step (by repeat (first | (with_reducible first | exact HB.out | apply below_alloc | apply pw_below_drewN | apply below_drew1) | exact HB.out)) hb); clear HO527; clear HB; have HO527 := n0_; have HB := n1_; clear n0_ n1_; (try clear hb); (try clear hb2); (try clear hk); (try clear hi)))
        go_ret
        exact ⟨by first | rfl | (simp [errW_none, errW_some] <;> rfl) | (simp [*, errW_none, errW_some] <;> rfl), by repeat (first | (with_reducible first | exact HB.out | apply below_alloc | apply pw_below_drewN | apply below_drew1) | exact HB.out)⟩
      · rw [if_neg c73] at H
        exact absurd H (by simp)
def gangerlaw11_ShareFalls.Pure : Prop := ∀ (l0 : List (S37)) (l1 : List Int) (a2 : Int) (a3 : Int), (l0.length ≤ maxLen ∧ ∀ x2 ∈ l0, ((x2.f0.size ≤ maxLen) ∧ ((x2.f1.size ≤ maxLen) ∧ ((Lit.int .i64 x2.f2).wf = true)))) → (l1.length ≤ maxLen ∧ ∀ x2 ∈ l1, ((Lit.int .i64 x2).wf = true)) → ((Lit.int .i64 a2).wf = true) → ((Lit.int .u16 a3).wf = true) → ∃ k, gangerlaw11_ShareFalls.f k l0 l1 a2 a3 = some true

end Go.Proofs.YtfccdngejfnmkaaDoor.P
