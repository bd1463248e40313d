/- The machine's side of the laws of this seat: each function's plain form and its contract, written by a program of this session out of Lean's print of the loaded functions; no condition beyond what each statement says. -/
import Derived.Test.YtlcdlfnmofopgaaP0
import Derived.Test.YtlcdlfnmofopgaaP1
import Derived.Test.YtlcdlfnmofopgaaP3
import Derived.Test.YtlcdlfnmofopgaaP5
import Derived.Test.YtlcdlfnmofopgaaP7
import Derived.Test.YtlcdlfnmofopgaaP8
namespace Go.Proofs.Ytlcdlfnmofopgaa.P
open Go.RowKit Go.Proofs.YtlcdlfnmofopgaaW.PrintWords Go.Proofs.YtlcdlfnmofopgaaW.PrintLast Go.Proofs.YtlcdlfnmofopgaaW.PrintMore
attribute [local go_sem] max2_int min2_int max_two min_two max_three min_three max_four min_four   -- for this text's walks alone
set_option linter.unusedVariables false
set_option linter.unusedSimpArgs false

attribute [local go_sem] isSome_setCell
/-! ### gangerlaw01_NumCuts: function 8 -/
def gangerlaw01_NumCuts.f (k : Nat) (a0 : Int) (a1 : Int) (a2 : Int) : Option (Bool) := (num_Cut_int.f k a0 a1 a2).bind fun t274 => ((num_Cut_int32.f k a0 (wrap32 (a1)) (wrap32 (a2))).bind fun t275 => ((num_Cut_int16.f k a0 (IntKind.i16.wrap (a1)) (IntKind.i16.wrap (a2))).bind fun t276 => ((num_Cut_int8.f k a0 (IntKind.i8.wrap (a1)) (IntKind.i8.wrap (a2))).bind fun t277 => ((gangerlaw01_between.f k a0 a1 a2 t274).bind fun t278 => (if t278 = true then ((gangerlaw01_between.f k a0 (wrap64 (wrap32 (a1))) (wrap64 (wrap32 (a2))) (wrap64 (t275))).bind fun t279 => (if t279 = true then ((gangerlaw01_between.f k a0 (wrap64 (IntKind.i16.wrap (a1))) (wrap64 (IntKind.i16.wrap (a2))) (wrap64 (t276))).bind fun t280 => (if t280 = true then ((gangerlaw01_between.f k a0 (wrap64 (IntKind.i8.wrap (a1))) (wrap64 (IntKind.i8.wrap (a2))) (wrap64 (t277))).bind fun t281 => (if t281 = true then ((num_Cut_int.f k t274 a1 a2).bind fun t282 => (if t282 = t274 then ((gangerlaw01_known.f k).bind fun t283 => (some t283)) else (none))) else (none))) else (none))) else (none))) else (none))))))
theorem gangerlaw01_NumCuts.mono : ∀ a0 a1 a2 k, LeO (gangerlaw01_NumCuts.f k a0 a1 a2) (gangerlaw01_NumCuts.f (k + 1) a0 a1 a2) := by
  intro a0 a1 a2 k
  unfold gangerlaw01_NumCuts.f
  repeat' first
      | (with_reducible exact gangerlaw01_between.mono _ _ _ _ _)
      | (with_reducible exact gangerlaw01_known.mono _)
      | (with_reducible exact num_Cut_int.mono _ _ _ _)
      | (with_reducible exact num_Cut_int16.mono _ _ _ _)
      | (with_reducible exact num_Cut_int32.mono _ _ _ _)
      | (with_reducible exact num_Cut_int8.mono _ _ _ _)
      | (with_reducible exact LeO.refl _)
      | (with_reducible exact LeO.none _)
      | (with_reducible refine LeO.ite ?_ ?_)
      | (with_reducible refine LeO.bind ?_ (fun _ => ?_))
      | exact gangerlaw01_between.mono _ _ _ _ _
      | exact gangerlaw01_known.mono _
      | exact num_Cut_int.mono _ _ _ _
      | exact num_Cut_int16.mono _ _ _ _
      | exact num_Cut_int32.mono _ _ _ _
      | exact num_Cut_int8.mono _ _ _ _
      | exact LeO.none _
      | refine LeO.ite ?_ ?_
      | refine LeO.bind ?_ (fun _ => ?_)
set_option maxHeartbeats 8000000 in
set_option maxRecDepth 100000 in
theorem gangerlaw01_NumCuts.calls (k : Nat) (a0 : Int) (a1 : Int) (a2 : Int) (r : Bool) (w : World) (h : gangerlaw01_NumCuts.f k a0 a1 a2 = some r) :
    Calls Try.prog 8 #[.int .i64 a0, .int .i64 a1, .int .i64 a2] w fun e w' => e = .returned (.bool r) ∧ Below w.heap.size w w' := by
  have HB := Aside0.mk (Below.refl w.heap.size w)
  have H : ((num_Cut_int.f k a0 a1 a2).bind fun t274 => ((num_Cut_int32.f k a0 (wrap32 (a1)) (wrap32 (a2))).bind fun t275 => ((num_Cut_int16.f k a0 (IntKind.i16.wrap (a1)) (IntKind.i16.wrap (a2))).bind fun t276 => ((num_Cut_int8.f k a0 (IntKind.i8.wrap (a1)) (IntKind.i8.wrap (a2))).bind fun t277 => ((gangerlaw01_between.f k a0 a1 a2 t274).bind fun t278 => (if t278 = true then ((gangerlaw01_between.f k a0 (wrap64 (wrap32 (a1))) (wrap64 (wrap32 (a2))) (wrap64 (t275))).bind fun t279 => (if t279 = true then ((gangerlaw01_between.f k a0 (wrap64 (IntKind.i16.wrap (a1))) (wrap64 (IntKind.i16.wrap (a2))) (wrap64 (t276))).bind fun t280 => (if t280 = true then ((gangerlaw01_between.f k a0 (wrap64 (IntKind.i8.wrap (a1))) (wrap64 (IntKind.i8.wrap (a2))) (wrap64 (t277))).bind fun t281 => (if t281 = true then ((num_Cut_int.f k t274 a1 a2).bind fun t282 => (if t282 = t274 then ((gangerlaw01_known.f k).bind fun t283 => (some t283)) else (none))) else (none))) else (none))) else (none))) else (none))))))) = some r := h
  clear h
  replace H := Option.bind_eq_some_iff.mp H
  obtain ⟨t274, A40, H⟩ := H
  replace H : ((num_Cut_int32.f k a0 (wrap32 (a1)) (wrap32 (a2))).bind fun t275 => ((num_Cut_int16.f k a0 (IntKind.i16.wrap (a1)) (IntKind.i16.wrap (a2))).bind fun t276 => ((num_Cut_int8.f k a0 (IntKind.i8.wrap (a1)) (IntKind.i8.wrap (a2))).bind fun t277 => ((gangerlaw01_between.f k a0 a1 a2 t274).bind fun t278 => (if t278 = true then ((gangerlaw01_between.f k a0 (wrap64 (wrap32 (a1))) (wrap64 (wrap32 (a2))) (wrap64 (t275))).bind fun t279 => (if t279 = true then ((gangerlaw01_between.f k a0 (wrap64 (IntKind.i16.wrap (a1))) (wrap64 (IntKind.i16.wrap (a2))) (wrap64 (t276))).bind fun t280 => (if t280 = true then ((gangerlaw01_between.f k a0 (wrap64 (IntKind.i8.wrap (a1))) (wrap64 (IntKind.i8.wrap (a2))) (wrap64 (t277))).bind fun t281 => (if t281 = true then ((num_Cut_int.f k t274 a1 a2).bind fun t282 => (if t282 = t274 then ((gangerlaw01_known.f k).bind fun t283 => (some t283)) else (none))) else (none))) else (none))) else (none))) else (none)))))) = some r := H
  have A4 := Aside0.mk A40
  clear A40
  replace H := Option.bind_eq_some_iff.mp H
  obtain ⟨t275, A50, H⟩ := H
  replace H : ((num_Cut_int16.f k a0 (IntKind.i16.wrap (a1)) (IntKind.i16.wrap (a2))).bind fun t276 => ((num_Cut_int8.f k a0 (IntKind.i8.wrap (a1)) (IntKind.i8.wrap (a2))).bind fun t277 => ((gangerlaw01_between.f k a0 a1 a2 t274).bind fun t278 => (if t278 = true then ((gangerlaw01_between.f k a0 (wrap64 (wrap32 (a1))) (wrap64 (wrap32 (a2))) (wrap64 (t275))).bind fun t279 => (if t279 = true then ((gangerlaw01_between.f k a0 (wrap64 (IntKind.i16.wrap (a1))) (wrap64 (IntKind.i16.wrap (a2))) (wrap64 (t276))).bind fun t280 => (if t280 = true then ((gangerlaw01_between.f k a0 (wrap64 (IntKind.i8.wrap (a1))) (wrap64 (IntKind.i8.wrap (a2))) (wrap64 (t277))).bind fun t281 => (if t281 = true then ((num_Cut_int.f k t274 a1 a2).bind fun t282 => (if t282 = t274 then ((gangerlaw01_known.f k).bind fun t283 => (some t283)) else (none))) else (none))) else (none))) else (none))) else (none))))) = some r := H
  have A5 := Aside0.mk A50
  clear A50
  replace H := Option.bind_eq_some_iff.mp H
  obtain ⟨t276, A60, H⟩ := H
  replace H : ((num_Cut_int8.f k a0 (IntKind.i8.wrap (a1)) (IntKind.i8.wrap (a2))).bind fun t277 => ((gangerlaw01_between.f k a0 a1 a2 t274).bind fun t278 => (if t278 = true then ((gangerlaw01_between.f k a0 (wrap64 (wrap32 (a1))) (wrap64 (wrap32 (a2))) (wrap64 (t275))).bind fun t279 => (if t279 = true then ((gangerlaw01_between.f k a0 (wrap64 (IntKind.i16.wrap (a1))) (wrap64 (IntKind.i16.wrap (a2))) (wrap64 (t276))).bind fun t280 => (if t280 = true then ((gangerlaw01_between.f k a0 (wrap64 (IntKind.i8.wrap (a1))) (wrap64 (IntKind.i8.wrap (a2))) (wrap64 (t277))).bind fun t281 => (if t281 = true then ((num_Cut_int.f k t274 a1 a2).bind fun t282 => (if t282 = t274 then ((gangerlaw01_known.f k).bind fun t283 => (some t283)) else (none))) else (none))) else (none))) else (none))) else (none)))) = some r := H
  have A6 := Aside0.mk A60
  clear A60
  replace H := Option.bind_eq_some_iff.mp H
  obtain ⟨t277, A70, H⟩ := H
  replace H : ((gangerlaw01_between.f k a0 a1 a2 t274).bind fun t278 => (if t278 = true then ((gangerlaw01_between.f k a0 (wrap64 (wrap32 (a1))) (wrap64 (wrap32 (a2))) (wrap64 (t275))).bind fun t279 => (if t279 = true then ((gangerlaw01_between.f k a0 (wrap64 (IntKind.i16.wrap (a1))) (wrap64 (IntKind.i16.wrap (a2))) (wrap64 (t276))).bind fun t280 => (if t280 = true then ((gangerlaw01_between.f k a0 (wrap64 (IntKind.i8.wrap (a1))) (wrap64 (IntKind.i8.wrap (a2))) (wrap64 (t277))).bind fun t281 => (if t281 = true then ((num_Cut_int.f k t274 a1 a2).bind fun t282 => (if t282 = t274 then ((gangerlaw01_known.f k).bind fun t283 => (some t283)) else (none))) else (none))) else (none))) else (none))) else (none))) = some r := H
  have A7 := Aside0.mk A70
  clear A70
  replace H := Option.bind_eq_some_iff.mp H
  obtain ⟨t278, A80, H⟩ := H
  replace H : (if t278 = true then ((gangerlaw01_between.f k a0 (wrap64 (wrap32 (a1))) (wrap64 (wrap32 (a2))) (wrap64 (t275))).bind fun t279 => (if t279 = true then ((gangerlaw01_between.f k a0 (wrap64 (IntKind.i16.wrap (a1))) (wrap64 (IntKind.i16.wrap (a2))) (wrap64 (t276))).bind fun t280 => (if t280 = true then ((gangerlaw01_between.f k a0 (wrap64 (IntKind.i8.wrap (a1))) (wrap64 (IntKind.i8.wrap (a2))) (wrap64 (t277))).bind fun t281 => (if t281 = true then ((num_Cut_int.f k t274 a1 a2).bind fun t282 => (if t282 = t274 then ((gangerlaw01_known.f k).bind fun t283 => (some t283)) else (none))) else (none))) else (none))) else (none))) else (none)) = some r := H
  have A8 := Aside0.mk A80
  clear A80
  by_cases c9 : t278 = true
  · subst c9
    have H1 : ((gangerlaw01_between.f k a0 (wrap64 (wrap32 (a1))) (wrap64 (wrap32 (a2))) (wrap64 (t275))).bind fun t279 => (if t279 = true then ((gangerlaw01_between.f k a0 (wrap64 (IntKind.i16.wrap (a1))) (wrap64 (IntKind.i16.wrap (a2))) (wrap64 (t276))).bind fun t280 => (if t280 = true then ((gangerlaw01_between.f k a0 (wrap64 (IntKind.i8.wrap (a1))) (wrap64 (IntKind.i8.wrap (a2))) (wrap64 (t277))).bind fun t281 => (if t281 = true then ((num_Cut_int.f k t274 a1 a2).bind fun t282 => (if t282 = t274 then ((gangerlaw01_known.f k).bind fun t283 => (some t283)) else (none))) else (none))) else (none))) else (none))) = some r := by rw [if_pos rfl] at H; exact H
    clear H
    have H := H1
    clear H1
    replace H := Option.bind_eq_some_iff.mp H
    obtain ⟨t279, A100, H⟩ := H
    replace H : (if t279 = true then ((gangerlaw01_between.f k a0 (wrap64 (IntKind.i16.wrap (a1))) (wrap64 (IntKind.i16.wrap (a2))) (wrap64 (t276))).bind fun t280 => (if t280 = true then ((gangerlaw01_between.f k a0 (wrap64 (IntKind.i8.wrap (a1))) (wrap64 (IntKind.i8.wrap (a2))) (wrap64 (t277))).bind fun t281 => (if t281 = true then ((num_Cut_int.f k t274 a1 a2).bind fun t282 => (if t282 = t274 then ((gangerlaw01_known.f k).bind fun t283 => (some t283)) else (none))) else (none))) else (none))) else (none)) = some r := H
    have A10 := Aside0.mk A100
    clear A100
    by_cases c11 : t279 = true
    · subst c11
      have H1 : ((gangerlaw01_between.f k a0 (wrap64 (IntKind.i16.wrap (a1))) (wrap64 (IntKind.i16.wrap (a2))) (wrap64 (t276))).bind fun t280 => (if t280 = true then ((gangerlaw01_between.f k a0 (wrap64 (IntKind.i8.wrap (a1))) (wrap64 (IntKind.i8.wrap (a2))) (wrap64 (t277))).bind fun t281 => (if t281 = true then ((num_Cut_int.f k t274 a1 a2).bind fun t282 => (if t282 = t274 then ((gangerlaw01_known.f k).bind fun t283 => (some t283)) else (none))) else (none))) else (none))) = some r := by rw [if_pos rfl] at H; exact H
      clear H
      have H := H1
      clear H1
      replace H := Option.bind_eq_some_iff.mp H
      obtain ⟨t280, A120, H⟩ := H
      replace H : (if t280 = true then ((gangerlaw01_between.f k a0 (wrap64 (IntKind.i8.wrap (a1))) (wrap64 (IntKind.i8.wrap (a2))) (wrap64 (t277))).bind fun t281 => (if t281 = true then ((num_Cut_int.f k t274 a1 a2).bind fun t282 => (if t282 = t274 then ((gangerlaw01_known.f k).bind fun t283 => (some t283)) else (none))) else (none))) else (none)) = some r := H
      have A12 := Aside0.mk A120
      clear A120
      by_cases c13 : t280 = true
      · subst c13
        have H1 : ((gangerlaw01_between.f k a0 (wrap64 (IntKind.i8.wrap (a1))) (wrap64 (IntKind.i8.wrap (a2))) (wrap64 (t277))).bind fun t281 => (if t281 = true then ((num_Cut_int.f k t274 a1 a2).bind fun t282 => (if t282 = t274 then ((gangerlaw01_known.f k).bind fun t283 => (some t283)) else (none))) else (none))) = some r := by rw [if_pos rfl] at H; exact H
        clear H
        have H := H1
        clear H1
        replace H := Option.bind_eq_some_iff.mp H
        obtain ⟨t281, A140, H⟩ := H
        replace H : (if t281 = true then ((num_Cut_int.f k t274 a1 a2).bind fun t282 => (if t282 = t274 then ((gangerlaw01_known.f k).bind fun t283 => (some t283)) else (none))) else (none)) = some r := H
        have A14 := Aside0.mk A140
        clear A140
        by_cases c15 : t281 = true
        · subst c15
          have H1 : ((num_Cut_int.f k t274 a1 a2).bind fun t282 => (if t282 = t274 then ((gangerlaw01_known.f k).bind fun t283 => (some t283)) else (none))) = some r := by rw [if_pos rfl] at H; exact H
          clear H
          have H := H1
          clear H1
          replace H := Option.bind_eq_some_iff.mp H
          obtain ⟨t282, A160, H⟩ := H
          replace H : (if t282 = t274 then ((gangerlaw01_known.f k).bind fun t283 => (some t283)) else (none)) = some r := H
          have A16 := Aside0.mk A160
          clear A160
          by_cases c17 : t282 = t274
          · rw [if_pos c17] at H
            have c17b0 : (t282 == t274) = true := beq_iff_eq.mpr c17
            have c17b1 : (t282 != t274) = false := bne_eq_false_iff_eq.mpr c17
            clear c17
            replace H := Option.bind_eq_some_iff.mp H
            obtain ⟨t283, A180, H⟩ := H
            replace H : (some t283) = some r := H
            have A18 := Aside0.mk A180
            clear A180
            obtain rfl := Option.some.inj H
            go_enter Try.func8, Try.ntmps8
            go_wp2_with (first | ((with_reducible refine gate_callee (f := 23) rfl ?_); refine goesL_ (some 14) rfl rfl Try.func23 (by kernel_rfl) rfl #[.int .i64 a0, .int .i64 a1, .int .i64 a2] rfl (by (try simp only [List.map_toArray, List.map_cons, List.map_nil]); first | done | rfl | (simp only [List.length_drop, List.length_take]; rfl)) ?_; (with_reducible refine (num_Cut_int.calls k a0 a1 a2 t274 _ A4.out).mono ?_); rintro e w' ⟨rfl, ⟨nd, rfl⟩⟩; refine ⟨_, rfl, ?_⟩) | ((with_reducible refine gate_callee (f := 24) rfl ?_); refine goesL_ (some 20) rfl rfl Try.func24 (by kernel_rfl) rfl #[.int .i64 a0, .int .i32 (wrap32 (a1)), .int .i32 (wrap32 (a2))] rfl (by (try simp only [List.map_toArray, List.map_cons, List.map_nil]); first | done | rfl | (simp only [List.length_drop, List.length_take]; rfl)) ?_; (with_reducible refine (num_Cut_int32.calls k a0 (wrap32 (a1)) (wrap32 (a2)) t275 _ A5.out).mono ?_); rintro e w' ⟨rfl, ⟨nd, rfl⟩⟩; refine ⟨_, rfl, ?_⟩) | ((with_reducible refine gate_callee (f := 25) rfl ?_); refine goesL_ (some 26) rfl rfl Try.func25 (by kernel_rfl) rfl #[.int .i64 a0, .int .i16 (IntKind.i16.wrap (a1)), .int .i16 (IntKind.i16.wrap (a2))] rfl (by (try simp only [List.map_toArray, List.map_cons, List.map_nil]); first | done | rfl | (simp only [List.length_drop, List.length_take]; rfl)) ?_; (with_reducible refine (num_Cut_int16.calls k a0 (IntKind.i16.wrap (a1)) (IntKind.i16.wrap (a2)) t276 _ A6.out).mono ?_); rintro e w' ⟨rfl, ⟨nd, rfl⟩⟩; refine ⟨_, rfl, ?_⟩) | ((with_reducible refine gate_callee (f := 26) rfl ?_); refine goesL_ (some 32) rfl rfl Try.func26 (by kernel_rfl) rfl #[.int .i64 a0, .int .i8 (IntKind.i8.wrap (a1)), .int .i8 (IntKind.i8.wrap (a2))] rfl (by (try simp only [List.map_toArray, List.map_cons, List.map_nil]); first | done | rfl | (simp only [List.length_drop, List.length_take]; rfl)) ?_; (with_reducible refine (num_Cut_int8.calls k a0 (IntKind.i8.wrap (a1)) (IntKind.i8.wrap (a2)) t277 _ A7.out).mono ?_); rintro e w' ⟨rfl, ⟨nd, rfl⟩⟩; refine ⟨_, rfl, ?_⟩) | ((with_reducible refine gate_callee (f := 27) rfl ?_); refine goesL_ (some 37) rfl rfl Try.func27 (by kernel_rfl) rfl #[.int .i64 a0, .int .i64 a1, .int .i64 a2, .int .i64 t274] rfl (by (try simp only [List.map_toArray, List.map_cons, List.map_nil]); first | done | rfl | (simp only [List.length_drop, List.length_take]; rfl)) ?_; (with_reducible refine (gangerlaw01_between.calls k a0 a1 a2 t274 true _ A8.out).mono ?_); rintro e w' ⟨rfl, ⟨nd, rfl⟩⟩; refine ⟨_, rfl, ?_⟩) | (go_at_call 27; (with_reducible refine (gangerlaw01_between.calls k a0 (wrap64 (wrap32 (a1))) (wrap64 (wrap32 (a2))) (wrap64 (t275)) true _ A10.out).mono ?_); rintro e w' ⟨rfl, ⟨nd, rfl⟩⟩) | (go_at_call 27; (with_reducible refine (gangerlaw01_between.calls k a0 (wrap64 (IntKind.i16.wrap (a1))) (wrap64 (IntKind.i16.wrap (a2))) (wrap64 (t276)) true _ A12.out).mono ?_); rintro e w' ⟨rfl, ⟨nd, rfl⟩⟩) | (go_at_call 27; (with_reducible refine (gangerlaw01_between.calls k a0 (wrap64 (IntKind.i8.wrap (a1))) (wrap64 (IntKind.i8.wrap (a2))) (wrap64 (t277)) true _ A14.out).mono ?_); rintro e w' ⟨rfl, ⟨nd, rfl⟩⟩) | (go_at_call 23; (with_reducible refine (num_Cut_int.calls k t274 a1 a2 t282 _ A16.out).mono ?_); rintro e w' ⟨rfl, ⟨nd, rfl⟩⟩) | (go_at_call 12; (with_reducible refine (gangerlaw01_known.calls k  t283 _ A18.out).mono ?_); rintro e w19 ⟨rfl, hb⟩; have n0_ := Aside0.mk (below_step (by repeat (first | (with_reducible first | exact HB.out | apply below_alloc | apply pw_below_drewN | apply below_drew1) | exact HB.out)) hb); clear HB; have HB := n0_; clear n0_; (try clear hb); (try clear hb2); (try clear hk); (try clear hi)))
            go_ret
            exact ⟨by first | rfl | (simp [errW_none, errW_some] <;> rfl) | (simp [*, errW_none, errW_some] <;> rfl), by repeat (first | (with_reducible first | exact HB.out | apply below_alloc | apply pw_below_drewN | apply below_drew1) | exact HB.out)⟩
          · rw [if_neg c17] at H
            exact absurd H (by simp)
        · replace c15 := Bool.eq_false_iff.mpr c15
          subst c15
          have H1 : (none) = some r := by rw [if_neg (show ¬ (false = true) by decide)] at H; exact H
          clear H
          have H := H1
          clear H1
          exact absurd H (by simp)
      · replace c13 := Bool.eq_false_iff.mpr c13
        subst c13
        have H1 : (none) = some r := by rw [if_neg (show ¬ (false = true) by decide)] at H; exact H
        clear H
        have H := H1
        clear H1
        exact absurd H (by simp)
    · replace c11 := Bool.eq_false_iff.mpr c11
      subst c11
      have H1 : (none) = some r := by rw [if_neg (show ¬ (false = true) by decide)] at H; exact H
      clear H
      have H := H1
      clear H1
      exact absurd H (by simp)
  · replace c9 := Bool.eq_false_iff.mpr c9
    subst c9
    have H1 : (none) = some r := by rw [if_neg (show ¬ (false = true) by decide)] at H; exact H
    clear H
    have H := H1
    clear H1
    exact absurd H (by simp)

/-- THE ONE PURE STATEMENT of gangerlaw01_NumCuts: yours. -/
def gangerlaw01_NumCuts.Pure : Prop := ∀ (a0 : Int) (a1 : Int) (a2 : Int), (Lit.int .i64 a0).wf = true → (Lit.int .i64 a1).wf = true → (Lit.int .i64 a2).wf = true → ∃ k, gangerlaw01_NumCuts.f k a0 a1 a2 = some true
theorem gangerlaw01_NumCuts.walk (P : gangerlaw01_NumCuts.Pure) (a0 : Int) (a1 : Int) (a2 : Int) (w : World) (w0 : (Lit.int .i64 a0).wf = true) (w1 : (Lit.int .i64 a1).wf = true) (w2 : (Lit.int .i64 a2).wf = true) :
    Calls Try.prog 8 #[.int .i64 a0, .int .i64 a1, .int .i64 a2] w fun e w' => e = .returned (.bool true) ∧ Below w.heap.size w w' := by
  obtain ⟨k, h⟩ := P a0 a1 a2 w0 w1 w2
  refine (gangerlaw01_NumCuts.calls k a0 a1 a2 true w h).mono ?_
  rintro e w' ⟨rfl, hd⟩
  exact ⟨rfl, hd⟩

/-! ### num_Sub: function 29 -/
def num_Sub.f (a0 : Int) (a1 : Int) : Option (Int × Int) := if ((decide ((wrap64 (a0 - a1)) < a0)) != (decide (a1 > 0))) = true then (if a1 = 0 then (some (wrap64 (a0 - a1), 0)) else (some (0, 10))) else (some (wrap64 (a0 - a1), 0))
set_option maxHeartbeats 8000000 in
set_option maxRecDepth 100000 in
theorem num_Sub.calls (a0 : Int) (a1 : Int) (r1 : Int) (r2 : Int) (w : World) (h : num_Sub.f a0 a1 = some (r1, r2)) :
    Calls Try.prog 29 #[.int .i64 a0, .int .i64 a1] w fun e w' => e = .returned (.tuple #[.int .i64 r1, .int .i64 r2]) ∧ Drawn0 w w' := by
  have H : (if ((decide ((wrap64 (a0 - a1)) < a0)) != (decide (a1 > 0))) = true then (if a1 = 0 then (some (wrap64 (a0 - a1), 0)) else (some (0, 10))) else (some (wrap64 (a0 - a1), 0))) = some (r1, r2) := h
  clear h
  by_cases c3 : ((decide ((wrap64 (a0 - a1)) < a0)) != (decide (a1 > 0))) = true
  · rw [if_pos c3] at H
    have c3b0 : ((decide ((wrap64 (a0 - a1)) < a0)) != (decide (a1 > 0))) = true := c3
    (try (have c3b1 : decide ((decide ((wrap64 (a0 - a1)) < a0)) = (decide (a1 > 0))) = false := by simpa using c3))
    (try (have c3b2 : ((decide ((wrap64 (a0 - a1)) < a0)) == (decide (a1 > 0))) = false := by simpa using c3))
    (try (have c3b3 : ¬ ((decide ((wrap64 (a0 - a1)) < a0)) = (decide (a1 > 0))) := by simpa using c3))
    clear c3
    by_cases c4 : a1 = 0
    · rw [if_pos c4] at H
      have c4b0 : (a1 == 0) = true := beq_iff_eq.mpr c4
      have c4b1 : (a1 != 0) = false := bne_eq_false_iff_eq.mpr c4
      clear c4
      simp only [Option.some.injEq, Prod.mk.injEq] at H
      obtain ⟨rfl, rfl⟩ := H
      go_enter Try.func29, Try.ntmps29
      go_wp2
      go_ret2
      exact ⟨by first | rfl | (simp; done) | (simp [*]; done), by repeat (first | exact Drawn0.refl _ | apply Drawn0.step)⟩
    · rw [if_neg c4] at H
      have c4b0 : (a1 == 0) = false := beq_eq_false_iff_ne.mpr c4
      have c4b1 : (a1 != 0) = true := bne_iff_ne.mpr c4
      simp only [Option.some.injEq, Prod.mk.injEq] at H
      obtain ⟨rfl, rfl⟩ := H
      go_enter Try.func29, Try.ntmps29
      go_wp2
      go_ret2
      exact ⟨by first | rfl | (simp; done) | (simp [*]; done), by repeat (first | exact Drawn0.refl _ | apply Drawn0.step)⟩
  · rw [if_neg c3] at H
    have c3b0 : ((decide ((wrap64 (a0 - a1)) < a0)) != (decide (a1 > 0))) = false := by simpa using c3
    (try (have c3b1 : decide ((decide ((wrap64 (a0 - a1)) < a0)) = (decide (a1 > 0))) = true := by simpa using c3))
    (try (have c3b2 : ((decide ((wrap64 (a0 - a1)) < a0)) == (decide (a1 > 0))) = true := by simpa using c3))
    clear c3
    simp only [Option.some.injEq, Prod.mk.injEq] at H
    obtain ⟨rfl, rfl⟩ := H
    go_enter Try.func29, Try.ntmps29
    go_wp2
    go_ret2
    exact ⟨by first | rfl | (simp; done) | (simp [*]; done), by repeat (first | exact Drawn0.refl _ | apply Drawn0.step)⟩

/-! ### gangerref01_Add: function 30 -/
def gangerref01_Add.f (k : Nat) (a0 : Int) (a1 : Int) : Option (Int × Int) := (gangerref01_Of.f a0).bind fun bt284 => ((gangerref01_Of.f a1).bind fun bt287 => ((gangerref01_Plus.f bt284.1 bt284.2.1 bt284.2.2 bt287.1 bt287.2.1 bt287.2.2).bind fun bt290 => ((gangerref01_told.f k bt290.1 bt290.2.1 bt290.2.2).bind fun bt293 => (some (bt293.1, bt293.2)))))
theorem gangerref01_Add.mono : ∀ a0 a1 k, LeO (gangerref01_Add.f k a0 a1) (gangerref01_Add.f (k + 1) a0 a1) := by
  intro a0 a1 k
  unfold gangerref01_Add.f
  repeat' first
      | (with_reducible exact gangerref01_told.mono _ _ _ _)
      | (with_reducible exact LeO.refl _)
      | (with_reducible exact LeO.none _)
      | (with_reducible refine LeO.ite ?_ ?_)
      | (with_reducible refine LeO.bind ?_ (fun _ => ?_))
      | exact gangerref01_told.mono _ _ _ _
      | exact LeO.none _
      | refine LeO.ite ?_ ?_
      | refine LeO.bind ?_ (fun _ => ?_)
set_option maxHeartbeats 8000000 in
set_option maxRecDepth 100000 in
theorem gangerref01_Add.calls (k : Nat) (a0 : Int) (a1 : Int) (r1 : Int) (r2 : Int) (w : World) (h : gangerref01_Add.f k a0 a1 = some (r1, r2)) :
    Calls Try.prog 30 #[.int .i64 a0, .int .i64 a1] w fun e w' => e = .returned (.tuple #[.int .i64 r1, .int .i64 r2]) ∧ Below w.heap.size w w' := by
  have HB := Aside0.mk (Below.refl w.heap.size w)
  have H : ((gangerref01_Of.f a0).bind fun bt284 => ((gangerref01_Of.f a1).bind fun bt287 => ((gangerref01_Plus.f bt284.1 bt284.2.1 bt284.2.2 bt287.1 bt287.2.1 bt287.2.2).bind fun bt290 => ((gangerref01_told.f k bt290.1 bt290.2.1 bt290.2.2).bind fun bt293 => (some (bt293.1, bt293.2)))))) = some (r1, r2) := h
  clear h
  replace H := Option.bind_eq_some_iff.mp H
  obtain ⟨⟨t284, t285, t286⟩, A30, H⟩ := H
  replace H : ((gangerref01_Of.f a1).bind fun bt287 => ((gangerref01_Plus.f t284 t285 t286 bt287.1 bt287.2.1 bt287.2.2).bind fun bt290 => ((gangerref01_told.f k bt290.1 bt290.2.1 bt290.2.2).bind fun bt293 => (some (bt293.1, bt293.2))))) = some (r1, r2) := H
  have A3 := Aside0.mk A30
  clear A30
  replace H := Option.bind_eq_some_iff.mp H
  obtain ⟨⟨t287, t288, t289⟩, A40, H⟩ := H
  replace H : ((gangerref01_Plus.f t284 t285 t286 t287 t288 t289).bind fun bt290 => ((gangerref01_told.f k bt290.1 bt290.2.1 bt290.2.2).bind fun bt293 => (some (bt293.1, bt293.2)))) = some (r1, r2) := H
  have A4 := Aside0.mk A40
  clear A40
  replace H := Option.bind_eq_some_iff.mp H
  obtain ⟨⟨t290, t291, t292⟩, A50, H⟩ := H
  replace H : ((gangerref01_told.f k t290 t291 t292).bind fun bt293 => (some (bt293.1, bt293.2))) = some (r1, r2) := H
  have A5 := Aside0.mk A50
  clear A50
  replace H := Option.bind_eq_some_iff.mp H
  obtain ⟨⟨t293, t294⟩, A60, H⟩ := H
  replace H : (some (t293, t294)) = some (r1, r2) := H
  have A6 := Aside0.mk A60
  clear A60
  simp only [Option.some.injEq, Prod.mk.injEq] at H
  obtain ⟨rfl, rfl⟩ := H
  go_enter Try.func30, Try.ntmps30
  go_wp2_with (first | ((with_reducible refine gate_callee (f := 15) rfl ?_); refine goesL_ (some 7) rfl rfl Try.func15 (by kernel_rfl) rfl #[.int .i64 a0] rfl (by (try simp only [List.map_toArray, List.map_cons, List.map_nil]); first | done | rfl | (simp only [List.length_drop, List.length_take]; rfl)) ?_; (with_reducible refine (gangerref01_Of.calls a0 t284 t285 t286 _ A3.out).mono ?_); rintro e w7 ⟨rfl, hb⟩; refine ⟨_, rfl, ?_⟩; have n0_ := Aside0.mk (below_step (by repeat (first | (with_reducible first | exact HB.out | apply below_alloc | apply pw_below_drewN | apply below_drew1) | exact HB.out)) hb); clear HB; have HB := n0_; clear n0_; (try clear hb); (try clear hb2); (try clear hk); (try clear hi)) | ((with_reducible refine gate_callee (f := 15) rfl ?_); refine goesL_ (some 9) rfl rfl Try.func15 (by kernel_rfl) rfl #[.int .i64 a1] rfl (by (try simp only [List.map_toArray, List.map_cons, List.map_nil]); first | done | rfl | (simp only [List.length_drop, List.length_take]; rfl)) ?_; (with_reducible refine (gangerref01_Of.calls a1 t287 t288 t289 _ A4.out).mono ?_); rintro e w8 ⟨rfl, hb⟩; refine ⟨_, rfl, ?_⟩; have n0_ := Aside0.mk (below_step (by repeat (first | (with_reducible first | exact HB.out | apply below_alloc | apply pw_below_drewN | apply below_drew1) | exact HB.out)) hb); clear HB; have HB := n0_; clear n0_; (try clear hb); (try clear hb2); (try clear hk); (try clear hi)) | ((with_reducible refine gate_callee (f := 13) rfl ?_); refine goesL_ (some 10) rfl rfl Try.func13 (by kernel_rfl) rfl #[.agg #[.bool t284, .int .u64 t285, .int .u64 t286], .agg #[.bool t287, .int .u64 t288, .int .u64 t289]] rfl (by (try simp only [List.map_toArray, List.map_cons, List.map_nil]); first | done | rfl | (simp only [List.length_drop, List.length_take]; rfl)) ?_; (with_reducible refine (gangerref01_Plus.calls t284 t285 t286 t287 t288 t289 t290 t291 t292 _ A5.out).mono ?_); rintro e w9 ⟨rfl, hb⟩; refine ⟨_, rfl, ?_⟩; have n0_ := Aside0.mk (below_step (by repeat (first | (with_reducible first | exact HB.out | apply below_alloc | apply pw_below_drewN | apply below_drew1) | exact HB.out)) hb); clear HB; have HB := n0_; clear n0_; (try clear hb); (try clear hb2); (try clear hk); (try clear hi)) | ((with_reducible refine gate_callee (f := 41) rfl ?_); refine goesL_ (some 11) rfl rfl Try.func41 (by kernel_rfl) rfl #[.agg #[.bool t290, .int .u64 t291, .int .u64 t292]] rfl (by (try simp only [List.map_toArray, List.map_cons, List.map_nil]); first | done | rfl | (simp only [List.length_drop, List.length_take]; rfl)) ?_; (with_reducible refine (gangerref01_told.calls k t290 t291 t292 t293 t294 _ A6.out).mono ?_); rintro e w10 ⟨rfl, hb⟩; refine ⟨_, rfl, ?_⟩; have n0_ := Aside0.mk (below_step (by repeat (first | (with_reducible first | exact HB.out | apply below_alloc | apply pw_below_drewN | apply below_drew1) | exact HB.out)) hb); clear HB; have HB := n0_; clear n0_; (try clear hb); (try clear hb2); (try clear hk); (try clear hi)))
  go_ret2
  exact ⟨by first | rfl | (simp [errW_none, errW_some] <;> rfl) | (simp [*, errW_none, errW_some] <;> rfl), by repeat (first | (with_reducible first | exact HB.out | apply below_alloc | apply pw_below_drewN | apply below_drew1) | exact HB.out)⟩

/-! ### gangerref01_Sub: function 31 -/
def gangerref01_Sub.f (k : Nat) (a0 : Int) (a1 : Int) : Option (Int × Int) := (gangerref01_Of.f a1).bind fun bt295 => ((gangerref01_Of.f a0).bind fun bt299 => ((gangerref01_Plus.f bt299.1 bt299.2.1 bt299.2.2 (!bt295.1) bt295.2.1 bt295.2.2).bind fun bt302 => ((gangerref01_told.f k bt302.1 bt302.2.1 bt302.2.2).bind fun bt305 => (some (bt305.1, bt305.2)))))
theorem gangerref01_Sub.mono : ∀ a0 a1 k, LeO (gangerref01_Sub.f k a0 a1) (gangerref01_Sub.f (k + 1) a0 a1) := by
  intro a0 a1 k
  unfold gangerref01_Sub.f
  repeat' first
      | (with_reducible exact gangerref01_told.mono _ _ _ _)
      | (with_reducible exact LeO.refl _)
      | (with_reducible exact LeO.none _)
      | (with_reducible refine LeO.ite ?_ ?_)
      | (with_reducible refine LeO.bind ?_ (fun _ => ?_))
      | exact gangerref01_told.mono _ _ _ _
      | exact LeO.none _
      | refine LeO.ite ?_ ?_
      | refine LeO.bind ?_ (fun _ => ?_)
def gangerref01_Sub.T3 : Bool × List (List Nat × List Nat) := (true, [([], []), ([0], [0]), ([], []), ([1, 2, 1], [1, 2]), ([3, 3], [3]), ([4], [4]), ([4], [4]), ([5, 4, 0, 1, 2, 3, 4, 5, 6], [5]), ([6, 7, 0, 1, 2, 3, 4, 5, 6, 7], [6])])
def gangerref01_Sub.B3 : List Nat := [0, 1, 0, 7, 15, 31, 31, 127, 255]
theorem gangerref01_Sub.tab3 : rtab .any (opsOf Try.f31 3) = gangerref01_Sub.T3 := by kernel_rfl
theorem gangerref01_Sub.bits3 : waitsOk gangerref01_Sub.T3.2 gangerref01_Sub.B3 = true := by kernel_rfl
set_option maxHeartbeats 8000000 in
set_option maxRecDepth 100000 in
theorem gangerref01_Sub.calls (k : Nat) (a0 : Int) (a1 : Int) (r1 : Int) (r2 : Int) (w : World) (h : gangerref01_Sub.f k a0 a1 = some (r1, r2)) :
    Calls Try.prog 31 #[.int .i64 a0, .int .i64 a1] w fun e w' => e = .returned (.tuple #[.int .i64 r1, .int .i64 r2]) ∧ Below w.heap.size w w' := by
  have hu28 := Try.underlying28
  have HB := Aside0.mk (Below.refl w.heap.size w)
  have H : ((gangerref01_Of.f a1).bind fun bt295 => ((gangerref01_Of.f a0).bind fun bt299 => ((gangerref01_Plus.f bt299.1 bt299.2.1 bt299.2.2 (!bt295.1) bt295.2.1 bt295.2.2).bind fun bt302 => ((gangerref01_told.f k bt302.1 bt302.2.1 bt302.2.2).bind fun bt305 => (some (bt305.1, bt305.2)))))) = some (r1, r2) := h
  clear h
  replace H := Option.bind_eq_some_iff.mp H
  obtain ⟨⟨t295, t296, t297⟩, A30, H⟩ := H
  replace H : ((gangerref01_Of.f a0).bind fun bt299 => ((gangerref01_Plus.f bt299.1 bt299.2.1 bt299.2.2 (!t295) t296 t297).bind fun bt302 => ((gangerref01_told.f k bt302.1 bt302.2.1 bt302.2.2).bind fun bt305 => (some (bt305.1, bt305.2))))) = some (r1, r2) := H
  have A3 := Aside0.mk A30
  clear A30
  replace H := Option.bind_eq_some_iff.mp H
  obtain ⟨⟨t299, t300, t301⟩, A40, H⟩ := H
  replace H : ((gangerref01_Plus.f t299 t300 t301 (!t295) t296 t297).bind fun bt302 => ((gangerref01_told.f k bt302.1 bt302.2.1 bt302.2.2).bind fun bt305 => (some (bt305.1, bt305.2)))) = some (r1, r2) := H
  have A4 := Aside0.mk A40
  clear A40
  replace H := Option.bind_eq_some_iff.mp H
  obtain ⟨⟨t302, t303, t304⟩, A50, H⟩ := H
  replace H : ((gangerref01_told.f k t302 t303 t304).bind fun bt305 => (some (bt305.1, bt305.2))) = some (r1, r2) := H
  have A5 := Aside0.mk A50
  clear A50
  replace H := Option.bind_eq_some_iff.mp H
  obtain ⟨⟨t305, t306⟩, A60, H⟩ := H
  replace H : (some (t305, t306)) = some (r1, r2) := H
  have A6 := Aside0.mk A60
  clear A60
  simp only [Option.some.injEq, Prod.mk.injEq] at H
  obtain ⟨rfl, rfl⟩ := H
  go_enter Try.func31, Try.ntmps31
  try go_wp2_with (first | ((with_reducible refine gate_callee (f := 15) rfl ?_); refine goesL_ (some 8) rfl rfl Try.func15 (by kernel_rfl) rfl #[.int .i64 a1] rfl (by (try simp only [List.map_toArray, List.map_cons, List.map_nil]); first | done | rfl | (simp only [List.length_drop, List.length_take]; rfl)) ?_; (with_reducible refine (gangerref01_Of.calls a1 t295 t296 t297 _ A3.out).mono ?_); rintro e w7 ⟨rfl, hb⟩; refine ⟨_, rfl, ?_⟩; have n0_ := Aside0.mk (below_step (by repeat (first | (with_reducible first | exact HB.out | apply below_alloc | apply pw_below_drewN | apply below_drew1) | exact HB.out)) hb); clear HB; have HB := n0_; clear n0_; (try clear hb); (try clear hb2); (try clear hk); (try clear hi)) | ((with_reducible refine gate_dst (N := 6) rfl ?_); refine box_event ?hg (N := 6) ?hd (cs := #[.bool false, .int .u64 0, .int .u64 0]) (t := 28) ?hr ?_; (case hd => rfl); (case hg => rfl); (case hr => first | (go_simp; done) | (go_simp; rfl)); intro gb298 hg w8 hbox hb; have n0_ := Aside0.mk (below_step (by repeat (first | (with_reducible first | exact HB.out | apply below_alloc | apply pw_below_drewN | apply below_drew1) | exact HB.out)) hb); have n1_ := Aside0.mk (hbox); have n2_ := Aside0.mk ((by rw [hg]; exact (below_size (by repeat (first | (with_reducible first | exact HB.out | apply below_alloc | apply pw_below_drewN | apply below_drew1) | exact HB.out))) : w.heap.size ≤ gb298)); have n3_ := Aside0.mk ((by rw [hg]; exact (below_size (by repeat (first | (with_reducible first | exact HB.out | apply below_alloc | apply pw_below_drewN | apply below_drew1) | exact HB.out))) : w.heap.size ≤ gb298)); clear HB; have HB := n0_; have BK298 := n1_; have GW298 := n2_; have GE298 := n3_; clear n0_ n1_ n2_ n3_; clear hb hbox hg; have hcz9_0 : w8.cell? ⟨gb298, 0, none⟩ = some (.bool false) := (blk_cell BK298.out 0).trans rfl; have hcz9_1 : w8.cell? ⟨gb298, 1, none⟩ = some (.int .u64 0) := (blk_cell BK298.out 1).trans rfl; have hcz9_2 : w8.cell? ⟨gb298, 2, none⟩ = some (.int .u64 0) := (blk_cell BK298.out 2).trans rfl; have hfz9_0 := blk_frozen BK298.out 0; have hfz9_1 := blk_frozen BK298.out 1; have hfz9_2 := blk_frozen BK298.out 2))
  have n0_ : Aside0 (((((w8.setCell ⟨gb298, 0, none⟩ (.bool t295)).setCell ⟨gb298, 1, none⟩ (.int .u64 t296)).setCell ⟨gb298, 2, none⟩ (.int .u64 t297)).setCell ⟨gb298, 0, none⟩ (.bool (!t295))).heap[gb298]? = some (.cells #[.bool (!t295), .int .u64 t296, .int .u64 t297] 28 (0, 0))) := ⟨by (with_reducible repeat (first | refine blk_drewN ?_ _ | refine blk_drew ?_ | refine blk_alloc ?_ _)); refine blk_put (cs := #[.bool t295, .int .u64 t296, .int .u64 t297]) ?_ 0 _ rfl; (with_reducible repeat (first | refine blk_drewN ?_ _ | refine blk_drew ?_ | refine blk_alloc ?_ _)); refine blk_put (cs := #[.bool t295, .int .u64 t296, .int .u64 0]) ?_ 2 _ rfl; (with_reducible repeat (first | refine blk_drewN ?_ _ | refine blk_drew ?_ | refine blk_alloc ?_ _)); refine blk_put (cs := #[.bool t295, .int .u64 0, .int .u64 0]) ?_ 1 _ rfl; (with_reducible repeat (first | refine blk_drewN ?_ _ | refine blk_drew ?_ | refine blk_alloc ?_ _)); refine blk_put (cs := #[.bool false, .int .u64 0, .int .u64 0]) ?_ 0 _ rfl; (with_reducible repeat (first | refine blk_drewN ?_ _ | refine blk_drew ?_ | refine blk_alloc ?_ _)); exact BK298.out⟩
  have n1_ : Aside0 (Below w.heap.size w ((((w8.setCell ⟨gb298, 0, none⟩ (.bool t295)).setCell ⟨gb298, 1, none⟩ (.int .u64 t296)).setCell ⟨gb298, 2, none⟩ (.int .u64 t297)).setCell ⟨gb298, 0, none⟩ (.bool (!t295)))) := ⟨by repeat (first | (with_reducible first | exact HB.out | apply below_alloc | apply pw_below_drewN | apply below_drew1 | refine below_set ?_ GE298.out) | exact HB.out)⟩
  (try clear BK298)
  (try clear HB)
  generalize ((((w8.setCell ⟨gb298, 0, none⟩ (.bool t295)).setCell ⟨gb298, 1, none⟩ (.int .u64 t296)).setCell ⟨gb298, 2, none⟩ (.int .u64 t297)).setCell ⟨gb298, 0, none⟩ (.bool (!t295))) = w10 at n0_ n1_ ⊢
  have BK298 := n0_
  have HB := n1_
  clear n0_ n1_
  have n0_ := Aside0.mk (blk_drew BK298.out)
  have n1_ := Aside0.mk (below_drew1 HB.out)
  clear BK298
  clear HB
  have BK298 := n0_
  have HB := n1_
  clear n0_ n1_
  refine start_ (n := 9) (S := fun w' => w'.cell? ⟨gb298, 0, none⟩ = some (.bool (!t295)) ∧ w'.cell? ⟨gb298, 1, none⟩ = some (.int .u64 t296) ∧ w'.cell? ⟨gb298, 2, none⟩ = some (.int .u64 t297)) (ds := []) #[false, false, false, false, false, false, false, false, false] (by kernel_rfl) rfl rfl ⟨(blk_cell BK298.out 0).trans rfl, (blk_cell BK298.out 1).trans rfl, (blk_cell BK298.out 2).trans rfl⟩ (fun hHeld => ?_); refine with_tabW gangerref01_Sub.tab3 gangerref01_Sub.bits3 (fun HT_ HW_ => ?_)
  generalize w10.drew = w11 at BK298 HB hHeld ⊢
  refine pure_ (i := 0) (N := some 13) (v := ?_) (a' := ?_) #[true, false, false, false, false, false, false, false, false] rfl rfl (any_of HT_.out (by kernel_rfl)) (fun _ _ _ h => h) (Or.inl ⟨by rfl, ?_⟩) ?_ ?_
  rotate_left
  · intro w'
    go_simp
    with_reducible rfl
  rotate_left
  · simp only [Act.put, List.setIfInBounds_toArray, List.set_cons_zero, List.set_cons_succ, i64_w, i32_w]
    rfl
  refine take_ (i := 2) (N := some 15) (v := ?_) (a' := ?_) #[true, false, true, false, false, false, false, false, false] rfl rfl (take_ofW HT_.out HW_.out (by kernel_rfl)) (fun _ _ _ h => h) (Or.inl ⟨by rfl, ?_⟩) hHeld ?_ ?_
  rotate_left
  · rintro w' ⟨s0, s1, s2⟩
    go_simp
    with_reducible rfl
  rotate_left
  · simp only [Act.put, List.setIfInBounds_toArray, List.set_cons_zero, List.set_cons_succ, i64_w, i32_w]
    rfl
  refine one_ (i := 1) (N := some 14) #[true, true, true, false, false, false, false, false, false] rfl rfl (one_of HT_.out (by kernel_rfl)) (by decide) (fun K hK => ?_)
  refine goes_ Try.func15 (by kernel_rfl) rfl #[.int .i64 a0] (by rfl) rfl rfl (by (try simp only [List.map_toArray, List.map_cons, List.map_nil]); first | done | rfl | (simp only [List.length_drop, List.length_take]; rfl)) ?_
  with_reducible refine (gangerref01_Of.calls a0 t299 t300 t301 _ A4.out).mono ?_
  rintro e w12 ⟨rfl, hb⟩
  refine ⟨_, rfl, ?_⟩
  have n0_ := Aside0.mk (blk_below (g := gb298) (o := .cells #[.bool (!t295), .int .u64 t296, .int .u64 t297] 28 (0, 0)) (by (with_reducible repeat (first | refine blk_drewN ?_ _ | refine blk_drew ?_ | refine blk_alloc ?_ _)); exact BK298.out) hb)
  have n1_ := Aside0.mk (below_step (by repeat (first | (with_reducible first | exact HB.out | apply below_alloc | apply pw_below_drewN | apply below_drew1 | refine below_set ?_ GE298.out) | exact HB.out)) hb)
  clear BK298
  clear HB
  have BK298 := n0_
  have HB := n1_
  clear n0_ n1_
  (try clear hb)
  (try clear hb2)
  (try clear hk)
  (try clear hi)
  refine hK.out _ _ ⟨(blk_cell BK298.out 0).trans rfl, (blk_cell BK298.out 1).trans rfl, (blk_cell BK298.out 2).trans rfl⟩ (fun hHeld => ?_)
  clear hK K
  refine norm_ (a' := ?_) ?_ ?_
  rotate_left
  · show Act.put _ (some 14) _ = _
    simp only [Act.put, List.setIfInBounds_toArray, List.set_cons_zero, List.set_cons_succ, i64_w, i32_w]
    rfl
  refine one_ (i := 3) (N := some 16) #[true, true, true, true, false, false, false, false, false] rfl rfl (one_of HT_.out (by kernel_rfl)) (by decide) (fun K hK => ?_)
  refine goes_ Try.func13 (by kernel_rfl) rfl #[.agg #[.bool t299, .int .u64 t300, .int .u64 t301], .agg #[.bool (!t295), .int .u64 t296, .int .u64 t297]] (by rfl) rfl rfl (by (try simp only [List.map_toArray, List.map_cons, List.map_nil]); first | done | rfl | (simp only [List.length_drop, List.length_take]; rfl)) ?_
  with_reducible refine (gangerref01_Plus.calls t299 t300 t301 (!t295) t296 t297 t302 t303 t304 _ A5.out).mono ?_
  rintro e w13 ⟨rfl, hb⟩
  refine ⟨_, rfl, ?_⟩
  have n0_ := Aside0.mk (blk_below (g := gb298) (o := .cells #[.bool (!t295), .int .u64 t296, .int .u64 t297] 28 (0, 0)) (by (with_reducible repeat (first | refine blk_drewN ?_ _ | refine blk_drew ?_ | refine blk_alloc ?_ _)); exact BK298.out) hb)
  have n1_ := Aside0.mk (below_step (by repeat (first | (with_reducible first | exact HB.out | apply below_alloc | apply pw_below_drewN | apply below_drew1 | refine below_set ?_ GE298.out) | exact HB.out)) hb)
  clear BK298
  clear HB
  have BK298 := n0_
  have HB := n1_
  clear n0_ n1_
  (try clear hb)
  (try clear hb2)
  (try clear hk)
  (try clear hi)
  refine hK.out _ _ ⟨(blk_cell BK298.out 0).trans rfl, (blk_cell BK298.out 1).trans rfl, (blk_cell BK298.out 2).trans rfl⟩ (fun hHeld => ?_)
  clear hK K
  refine norm_ (a' := ?_) ?_ ?_
  rotate_left
  · show Act.put _ (some 16) _ = _
    simp only [Act.put, List.setIfInBounds_toArray, List.set_cons_zero, List.set_cons_succ, i64_w, i32_w]
    rfl
  refine one_ (i := 4) (N := some 17) #[true, true, true, true, true, false, false, false, false] rfl rfl (one_of HT_.out (by kernel_rfl)) (by decide) (fun K hK => ?_)
  refine goes_ Try.func41 (by kernel_rfl) rfl #[.agg #[.bool t302, .int .u64 t303, .int .u64 t304]] (by rfl) rfl rfl (by (try simp only [List.map_toArray, List.map_cons, List.map_nil]); first | done | rfl | (simp only [List.length_drop, List.length_take]; rfl)) ?_
  with_reducible refine (gangerref01_told.calls k t302 t303 t304 t305 t306 _ A6.out).mono ?_
  rintro e w14 ⟨rfl, hb⟩
  refine ⟨_, rfl, ?_⟩
  have n0_ := Aside0.mk (blk_below (g := gb298) (o := .cells #[.bool (!t295), .int .u64 t296, .int .u64 t297] 28 (0, 0)) (by (with_reducible repeat (first | refine blk_drewN ?_ _ | refine blk_drew ?_ | refine blk_alloc ?_ _)); exact BK298.out) hb)
  have n1_ := Aside0.mk (below_step (by repeat (first | (with_reducible first | exact HB.out | apply below_alloc | apply pw_below_drewN | apply below_drew1 | refine below_set ?_ GE298.out) | exact HB.out)) hb)
  clear BK298
  clear HB
  have BK298 := n0_
  have HB := n1_
  clear n0_ n1_
  (try clear hb)
  (try clear hb2)
  (try clear hk)
  (try clear hi)
  refine hK.out _ _ ⟨(blk_cell BK298.out 0).trans rfl, (blk_cell BK298.out 1).trans rfl, (blk_cell BK298.out 2).trans rfl⟩ (fun hHeld => ?_)
  clear hK K
  refine norm_ (a' := ?_) ?_ ?_
  rotate_left
  · show Act.put _ (some 17) _ = _
    simp only [Act.put, List.setIfInBounds_toArray, List.set_cons_zero, List.set_cons_succ, i64_w, i32_w]
    rfl
  refine pure_ (i := 5) (N := some 18) (v := ?_) (a' := ?_) #[true, true, true, true, true, true, false, false, false] rfl rfl (any_of HT_.out (by kernel_rfl)) (fun _ _ _ h => h) (Or.inl ⟨by rfl, ?_⟩) ?_ ?_
  rotate_left
  · intro w'
    go_simp
    with_reducible rfl
  rotate_left
  · simp only [Act.put, List.setIfInBounds_toArray, List.set_cons_zero, List.set_cons_succ, i64_w, i32_w]
    rfl
  refine pure_ (i := 6) (N := some 19) (v := ?_) (a' := ?_) #[true, true, true, true, true, true, true, false, false] rfl rfl (any_of HT_.out (by kernel_rfl)) (fun _ _ _ h => h) (Or.inl ⟨by rfl, ?_⟩) ?_ ?_
  rotate_left
  · intro w'
    go_simp
    with_reducible rfl
  rotate_left
  · simp only [Act.put, List.setIfInBounds_toArray, List.set_cons_zero, List.set_cons_succ, i64_w, i32_w]
    rfl
  refine pure_ (i := 7) (N := some 4) (v := ?_) (a' := ?_) #[true, true, true, true, true, true, true, true, false] rfl rfl (any_of HT_.out (by kernel_rfl)) (fun _ _ _ h => h) (Or.inl ⟨by rfl, ?_⟩) ?_ ?_
  rotate_left
  · intro w'
    go_simp
    with_reducible rfl
  rotate_left
  · simp only [Act.put, List.setIfInBounds_toArray, List.set_cons_zero, List.set_cons_succ, i64_w, i32_w]
    rfl
  refine pure_ (i := 8) (N := some 5) (v := ?_) (a' := ?_) #[true, true, true, true, true, true, true, true, true] rfl rfl (any_of HT_.out (by kernel_rfl)) (fun _ _ _ h => h) (Or.inl ⟨by rfl, ?_⟩) ?_ ?_
  rotate_left
  · intro w'
    go_simp
    with_reducible rfl
  rotate_left
  · simp only [Act.put, List.setIfInBounds_toArray, List.set_cons_zero, List.set_cons_succ, i64_w, i32_w]
    rfl
  refine done_ (done_of HT_.out (by kernel_rfl)) ?_
  try go_wp2
  go_ret2
  exact ⟨by first | rfl | (simp [errW_none, errW_some] <;> rfl) | (simp [*, errW_none, errW_some] <;> rfl), by repeat (first | (with_reducible first | exact HB.out | apply below_alloc | apply pw_below_drewN | apply below_drew1 | refine below_set ?_ GE298.out) | exact HB.out)⟩

/-! ### gangerlaw01_NumAdds: function 9 -/
def gangerlaw01_NumAdds.f (k : Nat) (a0 : Int) (a1 : Int) : Option (Bool) := (num_Add.f a0 a1).bind fun bt307 => ((num_Sub.f a0 a1).bind fun bt309 => ((gangerref01_Add.f k a0 a1).bind fun bt311 => ((gangerref01_Sub.f k a0 a1).bind fun bt313 => (if bt307.1 = bt311.1 then (if bt307.2 = bt311.2 then (if bt309.1 = bt313.1 then (if bt309.2 = bt313.2 then ((gangerlaw01_known.f k).bind fun t315 => (some t315)) else (none)) else (none)) else (none)) else (none)))))
theorem gangerlaw01_NumAdds.mono : ∀ a0 a1 k, LeO (gangerlaw01_NumAdds.f k a0 a1) (gangerlaw01_NumAdds.f (k + 1) a0 a1) := by
  intro a0 a1 k
  unfold gangerlaw01_NumAdds.f
  repeat' first
      | (with_reducible exact gangerlaw01_known.mono _)
      | (with_reducible exact gangerref01_Add.mono _ _ _)
      | (with_reducible exact gangerref01_Sub.mono _ _ _)
      | (with_reducible exact LeO.refl _)
      | (with_reducible exact LeO.none _)
      | (with_reducible refine LeO.ite ?_ ?_)
      | (with_reducible refine LeO.bind ?_ (fun _ => ?_))
      | exact gangerlaw01_known.mono _
      | exact gangerref01_Add.mono _ _ _
      | exact gangerref01_Sub.mono _ _ _
      | exact LeO.none _
      | refine LeO.ite ?_ ?_
      | refine LeO.bind ?_ (fun _ => ?_)
set_option maxHeartbeats 8000000 in
set_option maxRecDepth 100000 in
theorem gangerlaw01_NumAdds.calls (k : Nat) (a0 : Int) (a1 : Int) (r : Bool) (w : World) (h : gangerlaw01_NumAdds.f k a0 a1 = some r) :
    Calls Try.prog 9 #[.int .i64 a0, .int .i64 a1] w fun e w' => e = .returned (.bool r) ∧ Below w.heap.size w w' := by
  have HB := Aside0.mk (Below.refl w.heap.size w)
  have H : ((num_Add.f a0 a1).bind fun bt307 => ((num_Sub.f a0 a1).bind fun bt309 => ((gangerref01_Add.f k a0 a1).bind fun bt311 => ((gangerref01_Sub.f k a0 a1).bind fun bt313 => (if bt307.1 = bt311.1 then (if bt307.2 = bt311.2 then (if bt309.1 = bt313.1 then (if bt309.2 = bt313.2 then ((gangerlaw01_known.f k).bind fun t315 => (some t315)) else (none)) else (none)) else (none)) else (none)))))) = some r := h
  clear h
  replace H := Option.bind_eq_some_iff.mp H
  obtain ⟨⟨t307, t308⟩, A30, H⟩ := H
  replace H : ((num_Sub.f a0 a1).bind fun bt309 => ((gangerref01_Add.f k a0 a1).bind fun bt311 => ((gangerref01_Sub.f k a0 a1).bind fun bt313 => (if t307 = bt311.1 then (if t308 = bt311.2 then (if bt309.1 = bt313.1 then (if bt309.2 = bt313.2 then ((gangerlaw01_known.f k).bind fun t315 => (some t315)) else (none)) else (none)) else (none)) else (none))))) = some r := H
  have A3 := Aside0.mk A30
  clear A30
  replace H := Option.bind_eq_some_iff.mp H
  obtain ⟨⟨t309, t310⟩, A40, H⟩ := H
  replace H : ((gangerref01_Add.f k a0 a1).bind fun bt311 => ((gangerref01_Sub.f k a0 a1).bind fun bt313 => (if t307 = bt311.1 then (if t308 = bt311.2 then (if t309 = bt313.1 then (if t310 = bt313.2 then ((gangerlaw01_known.f k).bind fun t315 => (some t315)) else (none)) else (none)) else (none)) else (none)))) = some r := H
  have A4 := Aside0.mk A40
  clear A40
  replace H := Option.bind_eq_some_iff.mp H
  obtain ⟨⟨t311, t312⟩, A50, H⟩ := H
  replace H : ((gangerref01_Sub.f k a0 a1).bind fun bt313 => (if t307 = t311 then (if t308 = t312 then (if t309 = bt313.1 then (if t310 = bt313.2 then ((gangerlaw01_known.f k).bind fun t315 => (some t315)) else (none)) else (none)) else (none)) else (none))) = some r := H
  have A5 := Aside0.mk A50
  clear A50
  replace H := Option.bind_eq_some_iff.mp H
  obtain ⟨⟨t313, t314⟩, A60, H⟩ := H
  replace H : (if t307 = t311 then (if t308 = t312 then (if t309 = t313 then (if t310 = t314 then ((gangerlaw01_known.f k).bind fun t315 => (some t315)) else (none)) else (none)) else (none)) else (none)) = some r := H
  have A6 := Aside0.mk A60
  clear A60
  by_cases c7 : t307 = t311
  · rw [if_pos c7] at H
    have c7b0 : (t307 == t311) = true := beq_iff_eq.mpr c7
    have c7b1 : (t307 != t311) = false := bne_eq_false_iff_eq.mpr c7
    clear c7
    by_cases c8 : t308 = t312
    · rw [if_pos c8] at H
      have c8b0 : (t308 == t312) = true := beq_iff_eq.mpr c8
      have c8b1 : (t308 != t312) = false := bne_eq_false_iff_eq.mpr c8
      clear c8
      by_cases c9 : t309 = t313
      · rw [if_pos c9] at H
        have c9b0 : (t309 == t313) = true := beq_iff_eq.mpr c9
        have c9b1 : (t309 != t313) = false := bne_eq_false_iff_eq.mpr c9
        clear c9
        by_cases c10 : t310 = t314
        · rw [if_pos c10] at H
          have c10b0 : (t310 == t314) = true := beq_iff_eq.mpr c10
          have c10b1 : (t310 != t314) = false := bne_eq_false_iff_eq.mpr c10
          clear c10
          replace H := Option.bind_eq_some_iff.mp H
          obtain ⟨t315, A110, H⟩ := H
          replace H : (some t315) = some r := H
          have A11 := Aside0.mk A110
          clear A110
          obtain rfl := Option.some.inj H
          go_enter Try.func9, Try.ntmps9
          go_wp2_with (first | ((with_reducible refine gate_callee (f := 28) rfl ?_); refine goesL_ (some 16) rfl rfl Try.func28 (by kernel_rfl) rfl #[.int .i64 a0, .int .i64 a1] rfl (by (try simp only [List.map_toArray, List.map_cons, List.map_nil]); first | done | rfl | (simp only [List.length_drop, List.length_take]; rfl)) ?_; (with_reducible refine (num_Add.calls a0 a1 t307 t308 _ A3.out).mono ?_); rintro e w' ⟨rfl, ⟨nd, rfl⟩⟩; refine ⟨_, rfl, ?_⟩) | ((with_reducible refine gate_callee (f := 29) rfl ?_); refine goesL_ (some 22) rfl rfl Try.func29 (by kernel_rfl) rfl #[.int .i64 a0, .int .i64 a1] rfl (by (try simp only [List.map_toArray, List.map_cons, List.map_nil]); first | done | rfl | (simp only [List.length_drop, List.length_take]; rfl)) ?_; (with_reducible refine (num_Sub.calls a0 a1 t309 t310 _ A4.out).mono ?_); rintro e w' ⟨rfl, ⟨nd, rfl⟩⟩; refine ⟨_, rfl, ?_⟩) | ((with_reducible refine gate_callee (f := 30) rfl ?_); refine goesL_ (some 28) rfl rfl Try.func30 (by kernel_rfl) rfl #[.int .i64 a0, .int .i64 a1] rfl (by (try simp only [List.map_toArray, List.map_cons, List.map_nil]); first | done | rfl | (simp only [List.length_drop, List.length_take]; rfl)) ?_; (with_reducible refine (gangerref01_Add.calls k a0 a1 t311 t312 _ A5.out).mono ?_); rintro e w12 ⟨rfl, hb⟩; refine ⟨_, rfl, ?_⟩; have n0_ := Aside0.mk (below_step (by repeat (first | (with_reducible first | exact HB.out | apply below_alloc | apply pw_below_drewN | apply below_drew1) | exact HB.out)) hb); clear HB; have HB := n0_; clear n0_; (try clear hb); (try clear hb2); (try clear hk); (try clear hi)) | ((with_reducible refine gate_callee (f := 31) rfl ?_); refine goesL_ (some 34) rfl rfl Try.func31 (by kernel_rfl) rfl #[.int .i64 a0, .int .i64 a1] rfl (by (try simp only [List.map_toArray, List.map_cons, List.map_nil]); first | done | rfl | (simp only [List.length_drop, List.length_take]; rfl)) ?_; (with_reducible refine (gangerref01_Sub.calls k a0 a1 t313 t314 _ A6.out).mono ?_); rintro e w13 ⟨rfl, hb⟩; refine ⟨_, rfl, ?_⟩; have n0_ := Aside0.mk (below_step (by repeat (first | (with_reducible first | exact HB.out | apply below_alloc | apply pw_below_drewN | apply below_drew1) | exact HB.out)) hb); clear HB; have HB := n0_; clear n0_; (try clear hb); (try clear hb2); (try clear hk); (try clear hi)) | (go_at_call 12; (with_reducible refine (gangerlaw01_known.calls k  t315 _ A11.out).mono ?_); rintro e w14 ⟨rfl, hb⟩; have n0_ := Aside0.mk (below_step (by repeat (first | (with_reducible first | exact HB.out | apply below_alloc | apply pw_below_drewN | apply below_drew1) | exact HB.out)) hb); clear HB; have HB := n0_; clear n0_; (try clear hb); (try clear hb2); (try clear hk); (try clear hi)))
          go_ret
          exact ⟨by first | rfl | (simp [errW_none, errW_some] <;> rfl) | (simp [*, errW_none, errW_some] <;> rfl), by repeat (first | (with_reducible first | exact HB.out | apply below_alloc | apply pw_below_drewN | apply below_drew1) | exact HB.out)⟩
        · rw [if_neg c10] at H
          exact absurd H (by simp)
      · rw [if_neg c9] at H
        exact absurd H (by simp)
    · rw [if_neg c8] at H
      exact absurd H (by simp)
  · rw [if_neg c7] at H
    exact absurd H (by simp)

/-- THE ONE PURE STATEMENT of gangerlaw01_NumAdds: yours. -/
def gangerlaw01_NumAdds.Pure : Prop := ∀ (a0 : Int) (a1 : Int), (Lit.int .i64 a0).wf = true → (Lit.int .i64 a1).wf = true → ∃ k, gangerlaw01_NumAdds.f k a0 a1 = some true
theorem gangerlaw01_NumAdds.walk (P : gangerlaw01_NumAdds.Pure) (a0 : Int) (a1 : Int) (w : World) (w0 : (Lit.int .i64 a0).wf = true) (w1 : (Lit.int .i64 a1).wf = true) :
    Calls Try.prog 9 #[.int .i64 a0, .int .i64 a1] w fun e w' => e = .returned (.bool true) ∧ Below w.heap.size w w' := by
  obtain ⟨k, h⟩ := P a0 a1 w0 w1
  refine (gangerlaw01_NumAdds.calls k a0 a1 true w h).mono ?_
  rintro e w' ⟨rfl, hd⟩
  exact ⟨rfl, hd⟩

/-! ### num_size: function 43 -/
def num_size.f (a0 : Int) : Option (Int) := if a0 < 0 then (some (IntKind.u64.wrap (-(IntKind.u64.wrap (a0))))) else (some (IntKind.u64.wrap (a0)))
set_option maxHeartbeats 8000000 in
set_option maxRecDepth 100000 in
theorem num_size.calls (a0 : Int) (r : Int) (w : World) (h : num_size.f a0 = some r) :
    Calls Try.prog 43 #[.int .i64 a0] w fun e w' => e = .returned (.int .u64 r) ∧ Drawn0 w w' := by
  have H : (if a0 < 0 then (some (IntKind.u64.wrap (-(IntKind.u64.wrap (a0))))) else (some (IntKind.u64.wrap (a0)))) = some r := h
  clear h
  by_cases c2 : a0 < 0
  · rw [if_pos c2] at H
    have c2b0 : decide (a0 < 0) = true := decide_eq_true c2
    clear c2
    obtain rfl := Option.some.inj H
    go_enter Try.func43, Try.ntmps43
    go_wp2
    go_ret
    exact ⟨by first | rfl | (simp; done) | (simp [*]; done), by repeat (first | exact Drawn0.refl _ | apply Drawn0.step)⟩
  · rw [if_neg c2] at H
    have c2b0 : decide (a0 < 0) = false := decide_eq_false c2
    clear c2
    obtain rfl := Option.some.inj H
    go_enter Try.func43, Try.ntmps43
    go_wp2
    go_ret
    exact ⟨by first | rfl | (simp; done) | (simp [*]; done), by repeat (first | exact Drawn0.refl _ | apply Drawn0.step)⟩

/-! ### num_Mul: function 32 -/
def num_Mul.f (a0 : Int) (a1 : Int) : Option (Int × Int) := (num_size.f a0).bind fun x => (num_size.f a1).bind fun y => (bits_Mul64.f x y).bind fun p => if p.1 > 0 then some (0, 10) else if a0 < 0 then (if a1 < 0 then (if p.2 ≤ 9223372036854775807 then some (wrap64 p.2, 0) else some (0, 10)) else (if p.2 ≤ 9223372036854775808 then some (wrap64 (IntKind.u64.wrap (-p.2)), 0) else some (0, 10))) else (if a1 < 0 then (if p.2 ≤ 9223372036854775808 then some (wrap64 (IntKind.u64.wrap (-p.2)), 0) else some (0, 10)) else (if p.2 ≤ 9223372036854775807 then some (wrap64 p.2, 0) else some (0, 10)))
set_option maxHeartbeats 8000000 in
set_option maxRecDepth 100000 in
theorem num_Mul.calls (a0 : Int) (a1 : Int) (r1 : Int) (r2 : Int) (w : World) (h : num_Mul.f a0 a1 = some (r1, r2)) :
    Calls Try.prog 32 #[.int .i64 a0, .int .i64 a1] w fun e w' => e = .returned (.tuple #[.int .i64 r1, .int .i64 r2]) ∧ Drawn0 w w' := by
  unfold num_Mul.f at h
  replace h := Option.bind_eq_some_iff.mp h
  obtain ⟨x, A30, h⟩ := h
  have A3 := Aside0.mk A30
  clear A30
  replace h := Option.bind_eq_some_iff.mp h
  obtain ⟨y, A40, h⟩ := h
  have A4 := Aside0.mk A40
  clear A40
  replace h := Option.bind_eq_some_iff.mp h
  obtain ⟨⟨p, q⟩, A50, H⟩ := h
  have A5 := Aside0.mk A50
  clear A50
  replace H : (if p > 0 then some (0, 10) else if a0 < 0 then (if a1 < 0 then (if q ≤ 9223372036854775807 then some (wrap64 q, 0) else some (0, 10)) else (if q ≤ 9223372036854775808 then some (wrap64 (IntKind.u64.wrap (-q)), 0) else some (0, 10))) else (if a1 < 0 then (if q ≤ 9223372036854775808 then some (wrap64 (IntKind.u64.wrap (-q)), 0) else some (0, 10)) else (if q ≤ 9223372036854775807 then some (wrap64 q, 0) else some (0, 10)))) = some (r1, r2) := H
  by_cases c1 : p > 0
  · rw [if_pos c1] at H
    have c1f0 : decide (0 < p) = true := decide_eq_true c1
    clear c1
    simp only [Option.some.injEq, Prod.mk.injEq] at H
    obtain ⟨rfl, rfl⟩ := H
    go_enter Try.func32, Try.ntmps32
    go_wp2_with (first | ((with_reducible refine gate_callee (f := 43) rfl ?_); refine goesL_ (some 11) rfl rfl Try.func43 (by kernel_rfl) rfl #[.int .i64 a0] rfl (by (try simp only [List.map_toArray, List.map_cons, List.map_nil]); first | done | rfl) ?_; (with_reducible refine (num_size.calls a0 x _ A3.out).mono ?_); rintro e w' ⟨rfl, ⟨nd, rfl⟩⟩; refine ⟨_, rfl, ?_⟩) | ((with_reducible refine gate_callee (f := 43) rfl ?_); refine goesL_ (some 13) rfl rfl Try.func43 (by kernel_rfl) rfl #[.int .i64 a1] rfl (by (try simp only [List.map_toArray, List.map_cons, List.map_nil]); first | done | rfl) ?_; (with_reducible refine (num_size.calls a1 y _ A4.out).mono ?_); rintro e w' ⟨rfl, ⟨nd, rfl⟩⟩; refine ⟨_, rfl, ?_⟩) | ((with_reducible refine gate_callee (f := 39) rfl ?_); refine goesL_ (some 14) rfl rfl Try.func39 (by kernel_rfl) rfl #[.int .u64 x, .int .u64 y] rfl (by (try simp only [List.map_toArray, List.map_cons, List.map_nil]); first | done | rfl) ?_; (with_reducible refine (bits_Mul64.calls x y p q _ A5.out).mono ?_); rintro e w' ⟨rfl, ⟨nd, rfl⟩⟩; refine ⟨_, rfl, ?_⟩))
    go_ret2
    exact ⟨by first | rfl | (simp; done) | (simp [*]; done), by repeat (first | exact Drawn0.refl _ | apply Drawn0.step)⟩
  · rw [if_neg c1] at H
    have c1g0 : decide (0 < p) = false := decide_eq_false c1
    clear c1
    by_cases c2 : a0 < 0
    · rw [if_pos c2] at H
      have c2f0 : decide (a0 < 0) = true := decide_eq_true c2
      clear c2
      by_cases c3 : a1 < 0
      · rw [if_pos c3] at H
        have c3f0 : decide (a1 < 0) = true := decide_eq_true c3
        clear c3
        by_cases c4 : q ≤ 9223372036854775807
        · rw [if_pos c4] at H
          have c4f0 : decide (q ≤ 9223372036854775807) = true := decide_eq_true c4
          clear c4
          simp only [Option.some.injEq, Prod.mk.injEq] at H
          obtain ⟨rfl, rfl⟩ := H
          go_enter Try.func32, Try.ntmps32
          go_wp2_with (first | ((with_reducible refine gate_callee (f := 43) rfl ?_); refine goesL_ (some 11) rfl rfl Try.func43 (by kernel_rfl) rfl #[.int .i64 a0] rfl (by (try simp only [List.map_toArray, List.map_cons, List.map_nil]); first | done | rfl) ?_; (with_reducible refine (num_size.calls a0 x _ A3.out).mono ?_); rintro e w' ⟨rfl, ⟨nd, rfl⟩⟩; refine ⟨_, rfl, ?_⟩) | ((with_reducible refine gate_callee (f := 43) rfl ?_); refine goesL_ (some 13) rfl rfl Try.func43 (by kernel_rfl) rfl #[.int .i64 a1] rfl (by (try simp only [List.map_toArray, List.map_cons, List.map_nil]); first | done | rfl) ?_; (with_reducible refine (num_size.calls a1 y _ A4.out).mono ?_); rintro e w' ⟨rfl, ⟨nd, rfl⟩⟩; refine ⟨_, rfl, ?_⟩) | ((with_reducible refine gate_callee (f := 39) rfl ?_); refine goesL_ (some 14) rfl rfl Try.func39 (by kernel_rfl) rfl #[.int .u64 x, .int .u64 y] rfl (by (try simp only [List.map_toArray, List.map_cons, List.map_nil]); first | done | rfl) ?_; (with_reducible refine (bits_Mul64.calls x y p q _ A5.out).mono ?_); rintro e w' ⟨rfl, ⟨nd, rfl⟩⟩; refine ⟨_, rfl, ?_⟩))
          go_ret2
          exact ⟨by first | rfl | (simp; done) | (simp [*]; done), by repeat (first | exact Drawn0.refl _ | apply Drawn0.step)⟩
        · rw [if_neg c4] at H
          have c4g0 : decide (q ≤ 9223372036854775807) = false := decide_eq_false c4
          clear c4
          simp only [Option.some.injEq, Prod.mk.injEq] at H
          obtain ⟨rfl, rfl⟩ := H
          go_enter Try.func32, Try.ntmps32
          go_wp2_with (first | ((with_reducible refine gate_callee (f := 43) rfl ?_); refine goesL_ (some 11) rfl rfl Try.func43 (by kernel_rfl) rfl #[.int .i64 a0] rfl (by (try simp only [List.map_toArray, List.map_cons, List.map_nil]); first | done | rfl) ?_; (with_reducible refine (num_size.calls a0 x _ A3.out).mono ?_); rintro e w' ⟨rfl, ⟨nd, rfl⟩⟩; refine ⟨_, rfl, ?_⟩) | ((with_reducible refine gate_callee (f := 43) rfl ?_); refine goesL_ (some 13) rfl rfl Try.func43 (by kernel_rfl) rfl #[.int .i64 a1] rfl (by (try simp only [List.map_toArray, List.map_cons, List.map_nil]); first | done | rfl) ?_; (with_reducible refine (num_size.calls a1 y _ A4.out).mono ?_); rintro e w' ⟨rfl, ⟨nd, rfl⟩⟩; refine ⟨_, rfl, ?_⟩) | ((with_reducible refine gate_callee (f := 39) rfl ?_); refine goesL_ (some 14) rfl rfl Try.func39 (by kernel_rfl) rfl #[.int .u64 x, .int .u64 y] rfl (by (try simp only [List.map_toArray, List.map_cons, List.map_nil]); first | done | rfl) ?_; (with_reducible refine (bits_Mul64.calls x y p q _ A5.out).mono ?_); rintro e w' ⟨rfl, ⟨nd, rfl⟩⟩; refine ⟨_, rfl, ?_⟩))
          go_ret2
          exact ⟨by first | rfl | (simp; done) | (simp [*]; done), by repeat (first | exact Drawn0.refl _ | apply Drawn0.step)⟩
      · rw [if_neg c3] at H
        have c3g0 : decide (a1 < 0) = false := decide_eq_false c3
        clear c3
        by_cases c4 : q ≤ 9223372036854775808
        · rw [if_pos c4] at H
          have c4f0 : decide (q ≤ 9223372036854775808) = true := decide_eq_true c4
          clear c4
          simp only [Option.some.injEq, Prod.mk.injEq] at H
          obtain ⟨rfl, rfl⟩ := H
          go_enter Try.func32, Try.ntmps32
          go_wp2_with (first | ((with_reducible refine gate_callee (f := 43) rfl ?_); refine goesL_ (some 11) rfl rfl Try.func43 (by kernel_rfl) rfl #[.int .i64 a0] rfl (by (try simp only [List.map_toArray, List.map_cons, List.map_nil]); first | done | rfl) ?_; (with_reducible refine (num_size.calls a0 x _ A3.out).mono ?_); rintro e w' ⟨rfl, ⟨nd, rfl⟩⟩; refine ⟨_, rfl, ?_⟩) | ((with_reducible refine gate_callee (f := 43) rfl ?_); refine goesL_ (some 13) rfl rfl Try.func43 (by kernel_rfl) rfl #[.int .i64 a1] rfl (by (try simp only [List.map_toArray, List.map_cons, List.map_nil]); first | done | rfl) ?_; (with_reducible refine (num_size.calls a1 y _ A4.out).mono ?_); rintro e w' ⟨rfl, ⟨nd, rfl⟩⟩; refine ⟨_, rfl, ?_⟩) | ((with_reducible refine gate_callee (f := 39) rfl ?_); refine goesL_ (some 14) rfl rfl Try.func39 (by kernel_rfl) rfl #[.int .u64 x, .int .u64 y] rfl (by (try simp only [List.map_toArray, List.map_cons, List.map_nil]); first | done | rfl) ?_; (with_reducible refine (bits_Mul64.calls x y p q _ A5.out).mono ?_); rintro e w' ⟨rfl, ⟨nd, rfl⟩⟩; refine ⟨_, rfl, ?_⟩))
          go_ret2
          exact ⟨by first | rfl | (simp; done) | (simp [*]; done), by repeat (first | exact Drawn0.refl _ | apply Drawn0.step)⟩
        · rw [if_neg c4] at H
          have c4g0 : decide (q ≤ 9223372036854775808) = false := decide_eq_false c4
          have c4g1 : decide (q ≤ 9223372036854775807) = false := decide_eq_false (by omega)
          clear c4
          simp only [Option.some.injEq, Prod.mk.injEq] at H
          obtain ⟨rfl, rfl⟩ := H
          go_enter Try.func32, Try.ntmps32
          go_wp2_with (first | ((with_reducible refine gate_callee (f := 43) rfl ?_); refine goesL_ (some 11) rfl rfl Try.func43 (by kernel_rfl) rfl #[.int .i64 a0] rfl (by (try simp only [List.map_toArray, List.map_cons, List.map_nil]); first | done | rfl) ?_; (with_reducible refine (num_size.calls a0 x _ A3.out).mono ?_); rintro e w' ⟨rfl, ⟨nd, rfl⟩⟩; refine ⟨_, rfl, ?_⟩) | ((with_reducible refine gate_callee (f := 43) rfl ?_); refine goesL_ (some 13) rfl rfl Try.func43 (by kernel_rfl) rfl #[.int .i64 a1] rfl (by (try simp only [List.map_toArray, List.map_cons, List.map_nil]); first | done | rfl) ?_; (with_reducible refine (num_size.calls a1 y _ A4.out).mono ?_); rintro e w' ⟨rfl, ⟨nd, rfl⟩⟩; refine ⟨_, rfl, ?_⟩) | ((with_reducible refine gate_callee (f := 39) rfl ?_); refine goesL_ (some 14) rfl rfl Try.func39 (by kernel_rfl) rfl #[.int .u64 x, .int .u64 y] rfl (by (try simp only [List.map_toArray, List.map_cons, List.map_nil]); first | done | rfl) ?_; (with_reducible refine (bits_Mul64.calls x y p q _ A5.out).mono ?_); rintro e w' ⟨rfl, ⟨nd, rfl⟩⟩; refine ⟨_, rfl, ?_⟩))
          go_ret2
          exact ⟨by first | rfl | (simp; done) | (simp [*]; done), by repeat (first | exact Drawn0.refl _ | apply Drawn0.step)⟩
    · rw [if_neg c2] at H
      have c2g0 : decide (a0 < 0) = false := decide_eq_false c2
      clear c2
      by_cases c3 : a1 < 0
      · rw [if_pos c3] at H
        have c3f0 : decide (a1 < 0) = true := decide_eq_true c3
        clear c3
        by_cases c4 : q ≤ 9223372036854775808
        · rw [if_pos c4] at H
          have c4f0 : decide (q ≤ 9223372036854775808) = true := decide_eq_true c4
          clear c4
          simp only [Option.some.injEq, Prod.mk.injEq] at H
          obtain ⟨rfl, rfl⟩ := H
          go_enter Try.func32, Try.ntmps32
          go_wp2_with (first | ((with_reducible refine gate_callee (f := 43) rfl ?_); refine goesL_ (some 11) rfl rfl Try.func43 (by kernel_rfl) rfl #[.int .i64 a0] rfl (by (try simp only [List.map_toArray, List.map_cons, List.map_nil]); first | done | rfl) ?_; (with_reducible refine (num_size.calls a0 x _ A3.out).mono ?_); rintro e w' ⟨rfl, ⟨nd, rfl⟩⟩; refine ⟨_, rfl, ?_⟩) | ((with_reducible refine gate_callee (f := 43) rfl ?_); refine goesL_ (some 13) rfl rfl Try.func43 (by kernel_rfl) rfl #[.int .i64 a1] rfl (by (try simp only [List.map_toArray, List.map_cons, List.map_nil]); first | done | rfl) ?_; (with_reducible refine (num_size.calls a1 y _ A4.out).mono ?_); rintro e w' ⟨rfl, ⟨nd, rfl⟩⟩; refine ⟨_, rfl, ?_⟩) | ((with_reducible refine gate_callee (f := 39) rfl ?_); refine goesL_ (some 14) rfl rfl Try.func39 (by kernel_rfl) rfl #[.int .u64 x, .int .u64 y] rfl (by (try simp only [List.map_toArray, List.map_cons, List.map_nil]); first | done | rfl) ?_; (with_reducible refine (bits_Mul64.calls x y p q _ A5.out).mono ?_); rintro e w' ⟨rfl, ⟨nd, rfl⟩⟩; refine ⟨_, rfl, ?_⟩))
          go_ret2
          exact ⟨by first | rfl | (simp; done) | (simp [*]; done), by repeat (first | exact Drawn0.refl _ | apply Drawn0.step)⟩
        · rw [if_neg c4] at H
          have c4g0 : decide (q ≤ 9223372036854775808) = false := decide_eq_false c4
          have c4g1 : decide (q ≤ 9223372036854775807) = false := decide_eq_false (by omega)
          clear c4
          simp only [Option.some.injEq, Prod.mk.injEq] at H
          obtain ⟨rfl, rfl⟩ := H
          go_enter Try.func32, Try.ntmps32
          go_wp2_with (first | ((with_reducible refine gate_callee (f := 43) rfl ?_); refine goesL_ (some 11) rfl rfl Try.func43 (by kernel_rfl) rfl #[.int .i64 a0] rfl (by (try simp only [List.map_toArray, List.map_cons, List.map_nil]); first | done | rfl) ?_; (with_reducible refine (num_size.calls a0 x _ A3.out).mono ?_); rintro e w' ⟨rfl, ⟨nd, rfl⟩⟩; refine ⟨_, rfl, ?_⟩) | ((with_reducible refine gate_callee (f := 43) rfl ?_); refine goesL_ (some 13) rfl rfl Try.func43 (by kernel_rfl) rfl #[.int .i64 a1] rfl (by (try simp only [List.map_toArray, List.map_cons, List.map_nil]); first | done | rfl) ?_; (with_reducible refine (num_size.calls a1 y _ A4.out).mono ?_); rintro e w' ⟨rfl, ⟨nd, rfl⟩⟩; refine ⟨_, rfl, ?_⟩) | ((with_reducible refine gate_callee (f := 39) rfl ?_); refine goesL_ (some 14) rfl rfl Try.func39 (by kernel_rfl) rfl #[.int .u64 x, .int .u64 y] rfl (by (try simp only [List.map_toArray, List.map_cons, List.map_nil]); first | done | rfl) ?_; (with_reducible refine (bits_Mul64.calls x y p q _ A5.out).mono ?_); rintro e w' ⟨rfl, ⟨nd, rfl⟩⟩; refine ⟨_, rfl, ?_⟩))
          go_ret2
          exact ⟨by first | rfl | (simp; done) | (simp [*]; done), by repeat (first | exact Drawn0.refl _ | apply Drawn0.step)⟩
      · rw [if_neg c3] at H
        have c3g0 : decide (a1 < 0) = false := decide_eq_false c3
        clear c3
        by_cases c4 : q ≤ 9223372036854775807
        · rw [if_pos c4] at H
          have c4f0 : decide (q ≤ 9223372036854775807) = true := decide_eq_true c4
          clear c4
          simp only [Option.some.injEq, Prod.mk.injEq] at H
          obtain ⟨rfl, rfl⟩ := H
          go_enter Try.func32, Try.ntmps32
          go_wp2_with (first | ((with_reducible refine gate_callee (f := 43) rfl ?_); refine goesL_ (some 11) rfl rfl Try.func43 (by kernel_rfl) rfl #[.int .i64 a0] rfl (by (try simp only [List.map_toArray, List.map_cons, List.map_nil]); first | done | rfl) ?_; (with_reducible refine (num_size.calls a0 x _ A3.out).mono ?_); rintro e w' ⟨rfl, ⟨nd, rfl⟩⟩; refine ⟨_, rfl, ?_⟩) | ((with_reducible refine gate_callee (f := 43) rfl ?_); refine goesL_ (some 13) rfl rfl Try.func43 (by kernel_rfl) rfl #[.int .i64 a1] rfl (by (try simp only [List.map_toArray, List.map_cons, List.map_nil]); first | done | rfl) ?_; (with_reducible refine (num_size.calls a1 y _ A4.out).mono ?_); rintro e w' ⟨rfl, ⟨nd, rfl⟩⟩; refine ⟨_, rfl, ?_⟩) | ((with_reducible refine gate_callee (f := 39) rfl ?_); refine goesL_ (some 14) rfl rfl Try.func39 (by kernel_rfl) rfl #[.int .u64 x, .int .u64 y] rfl (by (try simp only [List.map_toArray, List.map_cons, List.map_nil]); first | done | rfl) ?_; (with_reducible refine (bits_Mul64.calls x y p q _ A5.out).mono ?_); rintro e w' ⟨rfl, ⟨nd, rfl⟩⟩; refine ⟨_, rfl, ?_⟩))
          go_ret2
          exact ⟨by first | rfl | (simp; done) | (simp [*]; done), by repeat (first | exact Drawn0.refl _ | apply Drawn0.step)⟩
        · rw [if_neg c4] at H
          have c4g0 : decide (q ≤ 9223372036854775807) = false := decide_eq_false c4
          clear c4
          simp only [Option.some.injEq, Prod.mk.injEq] at H
          obtain ⟨rfl, rfl⟩ := H
          go_enter Try.func32, Try.ntmps32
          go_wp2_with (first | ((with_reducible refine gate_callee (f := 43) rfl ?_); refine goesL_ (some 11) rfl rfl Try.func43 (by kernel_rfl) rfl #[.int .i64 a0] rfl (by (try simp only [List.map_toArray, List.map_cons, List.map_nil]); first | done | rfl) ?_; (with_reducible refine (num_size.calls a0 x _ A3.out).mono ?_); rintro e w' ⟨rfl, ⟨nd, rfl⟩⟩; refine ⟨_, rfl, ?_⟩) | ((with_reducible refine gate_callee (f := 43) rfl ?_); refine goesL_ (some 13) rfl rfl Try.func43 (by kernel_rfl) rfl #[.int .i64 a1] rfl (by (try simp only [List.map_toArray, List.map_cons, List.map_nil]); first | done | rfl) ?_; (with_reducible refine (num_size.calls a1 y _ A4.out).mono ?_); rintro e w' ⟨rfl, ⟨nd, rfl⟩⟩; refine ⟨_, rfl, ?_⟩) | ((with_reducible refine gate_callee (f := 39) rfl ?_); refine goesL_ (some 14) rfl rfl Try.func39 (by kernel_rfl) rfl #[.int .u64 x, .int .u64 y] rfl (by (try simp only [List.map_toArray, List.map_cons, List.map_nil]); first | done | rfl) ?_; (with_reducible refine (bits_Mul64.calls x y p q _ A5.out).mono ?_); rintro e w' ⟨rfl, ⟨nd, rfl⟩⟩; refine ⟨_, rfl, ?_⟩))
          go_ret2
          exact ⟨by first | rfl | (simp; done) | (simp [*]; done), by repeat (first | exact Drawn0.refl _ | apply Drawn0.step)⟩

/-! ### gangerref01_Mul: function 33 -/
def gangerref01_Mul.f (k : Nat) (a0 : Int) (a1 : Int) : Option (Int × Int) := (gangerref01_Of.f a0).bind fun bt316 => ((gangerref01_Of.f a1).bind fun bt319 => ((gangerref01_Product.f k bt316.1 bt316.2.1 bt316.2.2 bt319.1 bt319.2.1 bt319.2.2).bind fun bt322 => ((gangerref01_told.f k bt322.1 bt322.2.1 bt322.2.2).bind fun bt325 => (some (bt325.1, bt325.2)))))
theorem gangerref01_Mul.mono : ∀ a0 a1 k, LeO (gangerref01_Mul.f k a0 a1) (gangerref01_Mul.f (k + 1) a0 a1) := by
  intro a0 a1 k
  unfold gangerref01_Mul.f
  repeat' first
      | (with_reducible exact gangerref01_Product.mono _ _ _ _ _ _ _)
      | (with_reducible exact gangerref01_told.mono _ _ _ _)
      | (with_reducible exact LeO.refl _)
      | (with_reducible exact LeO.none _)
      | (with_reducible refine LeO.ite ?_ ?_)
      | (with_reducible refine LeO.bind ?_ (fun _ => ?_))
      | exact gangerref01_Product.mono _ _ _ _ _ _ _
      | exact gangerref01_told.mono _ _ _ _
      | exact LeO.none _
      | refine LeO.ite ?_ ?_
      | refine LeO.bind ?_ (fun _ => ?_)
set_option maxHeartbeats 8000000 in
set_option maxRecDepth 100000 in
theorem gangerref01_Mul.calls (k : Nat) (a0 : Int) (a1 : Int) (r1 : Int) (r2 : Int) (w : World) (h : gangerref01_Mul.f k a0 a1 = some (r1, r2)) :
    Calls Try.prog 33 #[.int .i64 a0, .int .i64 a1] w fun e w' => e = .returned (.tuple #[.int .i64 r1, .int .i64 r2]) ∧ Below w.heap.size w w' := by
  have HB := Aside0.mk (Below.refl w.heap.size w)
  have H : ((gangerref01_Of.f a0).bind fun bt316 => ((gangerref01_Of.f a1).bind fun bt319 => ((gangerref01_Product.f k bt316.1 bt316.2.1 bt316.2.2 bt319.1 bt319.2.1 bt319.2.2).bind fun bt322 => ((gangerref01_told.f k bt322.1 bt322.2.1 bt322.2.2).bind fun bt325 => (some (bt325.1, bt325.2)))))) = some (r1, r2) := h
  clear h
  replace H := Option.bind_eq_some_iff.mp H
  obtain ⟨⟨t316, t317, t318⟩, A30, H⟩ := H
  replace H : ((gangerref01_Of.f a1).bind fun bt319 => ((gangerref01_Product.f k t316 t317 t318 bt319.1 bt319.2.1 bt319.2.2).bind fun bt322 => ((gangerref01_told.f k bt322.1 bt322.2.1 bt322.2.2).bind fun bt325 => (some (bt325.1, bt325.2))))) = some (r1, r2) := H
  have A3 := Aside0.mk A30
  clear A30
  replace H := Option.bind_eq_some_iff.mp H
  obtain ⟨⟨t319, t320, t321⟩, A40, H⟩ := H
  replace H : ((gangerref01_Product.f k t316 t317 t318 t319 t320 t321).bind fun bt322 => ((gangerref01_told.f k bt322.1 bt322.2.1 bt322.2.2).bind fun bt325 => (some (bt325.1, bt325.2)))) = some (r1, r2) := H
  have A4 := Aside0.mk A40
  clear A40
  replace H := Option.bind_eq_some_iff.mp H
  obtain ⟨⟨t322, t323, t324⟩, A50, H⟩ := H
  replace H : ((gangerref01_told.f k t322 t323 t324).bind fun bt325 => (some (bt325.1, bt325.2))) = some (r1, r2) := H
  have A5 := Aside0.mk A50
  clear A50
  replace H := Option.bind_eq_some_iff.mp H
  obtain ⟨⟨t325, t326⟩, A60, H⟩ := H
  replace H : (some (t325, t326)) = some (r1, r2) := H
  have A6 := Aside0.mk A60
  clear A60
  simp only [Option.some.injEq, Prod.mk.injEq] at H
  obtain ⟨rfl, rfl⟩ := H
  go_enter Try.func33, Try.ntmps33
  go_wp2_with (first | ((with_reducible refine gate_callee (f := 15) rfl ?_); refine goesL_ (some 7) rfl rfl Try.func15 (by kernel_rfl) rfl #[.int .i64 a0] rfl (by (try simp only [List.map_toArray, List.map_cons, List.map_nil]); first | done | rfl | (simp only [List.length_drop, List.length_take]; rfl)) ?_; (with_reducible refine (gangerref01_Of.calls a0 t316 t317 t318 _ A3.out).mono ?_); rintro e w7 ⟨rfl, hb⟩; refine ⟨_, rfl, ?_⟩; have n0_ := Aside0.mk (below_step (by repeat (first | (with_reducible first | exact HB.out | apply below_alloc | apply pw_below_drewN | apply below_drew1) | exact HB.out)) hb); clear HB; have HB := n0_; clear n0_; (try clear hb); (try clear hb2); (try clear hk); (try clear hi)) | ((with_reducible refine gate_callee (f := 15) rfl ?_); refine goesL_ (some 9) rfl rfl Try.func15 (by kernel_rfl) rfl #[.int .i64 a1] rfl (by (try simp only [List.map_toArray, List.map_cons, List.map_nil]); first | done | rfl | (simp only [List.length_drop, List.length_take]; rfl)) ?_; (with_reducible refine (gangerref01_Of.calls a1 t319 t320 t321 _ A4.out).mono ?_); rintro e w8 ⟨rfl, hb⟩; refine ⟨_, rfl, ?_⟩; have n0_ := Aside0.mk (below_step (by repeat (first | (with_reducible first | exact HB.out | apply below_alloc | apply pw_below_drewN | apply below_drew1) | exact HB.out)) hb); clear HB; have HB := n0_; clear n0_; (try clear hb); (try clear hb2); (try clear hk); (try clear hi)) | ((with_reducible refine gate_callee (f := 14) rfl ?_); refine goesL_ (some 10) rfl rfl Try.func14 (by kernel_rfl) rfl #[.agg #[.bool t316, .int .u64 t317, .int .u64 t318], .agg #[.bool t319, .int .u64 t320, .int .u64 t321]] rfl (by (try simp only [List.map_toArray, List.map_cons, List.map_nil]); first | done | rfl | (simp only [List.length_drop, List.length_take]; rfl)) ?_; (with_reducible refine (gangerref01_Product.calls k t316 t317 t318 t319 t320 t321 t322 t323 t324 _ A5.out).mono ?_); rintro e w9 ⟨rfl, hb⟩; refine ⟨_, rfl, ?_⟩; have n0_ := Aside0.mk (below_step (by repeat (first | (with_reducible first | exact HB.out | apply below_alloc | apply pw_below_drewN | apply below_drew1) | exact HB.out)) hb); clear HB; have HB := n0_; clear n0_; (try clear hb); (try clear hb2); (try clear hk); (try clear hi)) | ((with_reducible refine gate_callee (f := 41) rfl ?_); refine goesL_ (some 11) rfl rfl Try.func41 (by kernel_rfl) rfl #[.agg #[.bool t322, .int .u64 t323, .int .u64 t324]] rfl (by (try simp only [List.map_toArray, List.map_cons, List.map_nil]); first | done | rfl | (simp only [List.length_drop, List.length_take]; rfl)) ?_; (with_reducible refine (gangerref01_told.calls k t322 t323 t324 t325 t326 _ A6.out).mono ?_); rintro e w10 ⟨rfl, hb⟩; refine ⟨_, rfl, ?_⟩; have n0_ := Aside0.mk (below_step (by repeat (first | (with_reducible first | exact HB.out | apply below_alloc | apply pw_below_drewN | apply below_drew1) | exact HB.out)) hb); clear HB; have HB := n0_; clear n0_; (try clear hb); (try clear hb2); (try clear hk); (try clear hi)))
  go_ret2
  exact ⟨by first | rfl | (simp [errW_none, errW_some] <;> rfl) | (simp [*, errW_none, errW_some] <;> rfl), by repeat (first | (with_reducible first | exact HB.out | apply below_alloc | apply pw_below_drewN | apply below_drew1) | exact HB.out)⟩

/-! ### num_Times: function 34 -/
def num_Times.f (a0 : Int) (a1 : Int) : Option (Int) := (num_Mul.f a0 a1).bind fun bt327 => (if bt327.2 = 0 then (some bt327.1) else (if ((decide (a0 < 0)) == (decide (a1 < 0))) = true then (some 9223372036854775807) else (some (-9223372036854775808))))
set_option maxHeartbeats 8000000 in
set_option maxRecDepth 100000 in
theorem num_Times.calls (a0 : Int) (a1 : Int) (r : Int) (w : World) (h : num_Times.f a0 a1 = some r) :
    Calls Try.prog 34 #[.int .i64 a0, .int .i64 a1] w fun e w' => e = .returned (.int .i64 r) ∧ Drawn0 w w' := by
  have H : ((num_Mul.f a0 a1).bind fun bt327 => (if bt327.2 = 0 then (some bt327.1) else (if ((decide (a0 < 0)) == (decide (a1 < 0))) = true then (some 9223372036854775807) else (some (-9223372036854775808))))) = some r := h
  clear h
  replace H := Option.bind_eq_some_iff.mp H
  obtain ⟨⟨t327, t328⟩, A30, H⟩ := H
  replace H : (if t328 = 0 then (some t327) else (if ((decide (a0 < 0)) == (decide (a1 < 0))) = true then (some 9223372036854775807) else (some (-9223372036854775808)))) = some r := H
  have A3 := Aside0.mk A30
  clear A30
  by_cases c4 : t328 = 0
  · rw [if_pos c4] at H
    have c4b0 : (t328 == 0) = true := beq_iff_eq.mpr c4
    have c4b1 : (t328 != 0) = false := bne_eq_false_iff_eq.mpr c4
    clear c4
    obtain rfl := Option.some.inj H
    go_enter Try.func34, Try.ntmps34
    go_wp2_with (first | ((with_reducible refine gate_callee (f := 32) rfl ?_); refine goesL_ (some 10) rfl rfl Try.func32 (by kernel_rfl) rfl #[.int .i64 a0, .int .i64 a1] rfl (by (try simp only [List.map_toArray, List.map_cons, List.map_nil]); first | done | rfl | (simp only [List.length_drop, List.length_take]; rfl)) ?_; (with_reducible refine (num_Mul.calls a0 a1 t327 t328 _ A3.out).mono ?_); rintro e w' ⟨rfl, ⟨nd, rfl⟩⟩; refine ⟨_, rfl, ?_⟩))
    go_ret
    exact ⟨by first | rfl | (simp; done) | (simp [*]; done), by repeat (first | exact Drawn0.refl _ | apply Drawn0.step)⟩
  · rw [if_neg c4] at H
    have c4b0 : (t328 == 0) = false := beq_eq_false_iff_ne.mpr c4
    have c4b1 : (t328 != 0) = true := bne_iff_ne.mpr c4
    by_cases c5 : ((decide (a0 < 0)) == (decide (a1 < 0))) = true
    · rw [if_pos c5] at H
      have c5b0 : ((decide (a0 < 0)) == (decide (a1 < 0))) = true := c5
      (try (have c5b1 : decide ((decide (a0 < 0)) = (decide (a1 < 0))) = true := by simpa using c5))
      (try (have c5b2 : ((decide (a0 < 0)) == (decide (a1 < 0))) = true := by simpa using c5))
      clear c5
      obtain rfl := Option.some.inj H
      go_enter Try.func34, Try.ntmps34
      go_wp2_with (first | ((with_reducible refine gate_callee (f := 32) rfl ?_); refine goesL_ (some 10) rfl rfl Try.func32 (by kernel_rfl) rfl #[.int .i64 a0, .int .i64 a1] rfl (by (try simp only [List.map_toArray, List.map_cons, List.map_nil]); first | done | rfl | (simp only [List.length_drop, List.length_take]; rfl)) ?_; (with_reducible refine (num_Mul.calls a0 a1 t327 t328 _ A3.out).mono ?_); rintro e w' ⟨rfl, ⟨nd, rfl⟩⟩; refine ⟨_, rfl, ?_⟩))
      go_ret
      exact ⟨by first | rfl | (simp; done) | (simp [*]; done), by repeat (first | exact Drawn0.refl _ | apply Drawn0.step)⟩
    · rw [if_neg c5] at H
      have c5b0 : ((decide (a0 < 0)) == (decide (a1 < 0))) = false := by simpa using c5
      (try (have c5b1 : decide ((decide (a0 < 0)) = (decide (a1 < 0))) = false := by simpa using c5))
      (try (have c5b2 : ((decide (a0 < 0)) == (decide (a1 < 0))) = false := by simpa using c5))
      (try (have c5b3 : ¬ ((decide (a0 < 0)) = (decide (a1 < 0))) := by simpa using c5))
      clear c5
      obtain rfl := Option.some.inj H
      go_enter Try.func34, Try.ntmps34
      go_wp2_with (first | ((with_reducible refine gate_callee (f := 32) rfl ?_); refine goesL_ (some 10) rfl rfl Try.func32 (by kernel_rfl) rfl #[.int .i64 a0, .int .i64 a1] rfl (by (try simp only [List.map_toArray, List.map_cons, List.map_nil]); first | done | rfl | (simp only [List.length_drop, List.length_take]; rfl)) ?_; (with_reducible refine (num_Mul.calls a0 a1 t327 t328 _ A3.out).mono ?_); rintro e w' ⟨rfl, ⟨nd, rfl⟩⟩; refine ⟨_, rfl, ?_⟩))
      go_ret
      exact ⟨by first | rfl | (simp; done) | (simp [*]; done), by repeat (first | exact Drawn0.refl _ | apply Drawn0.step)⟩

/-! ### gangerlaw01_NumMuls: function 10 -/
def gangerlaw01_NumMuls.f (k : Nat) (a0 : Int) (a1 : Int) : Option (Bool) := (num_Mul.f a0 a1).bind fun bt329 => ((gangerref01_Mul.f k a0 a1).bind fun bt331 => (if bt329.1 = bt331.1 then (if bt329.2 = bt331.2 then ((num_Times.f a0 a1).bind fun t333 => ((gangerref01_Of.f a0).bind fun bt334 => ((gangerref01_Of.f a1).bind fun bt337 => ((gangerref01_Product.f k bt334.1 bt334.2.1 bt334.2.2 bt337.1 bt337.2.1 bt337.2.2).bind fun bt340 => ((gangerref01_End.f k bt340.1 bt340.2.1 bt340.2.2).bind fun t343 => (if t333 = t343 then ((gangerlaw01_known.f k).bind fun t344 => (some t344)) else (none))))))) else (none)) else (none)))
theorem gangerlaw01_NumMuls.mono : ∀ a0 a1 k, LeO (gangerlaw01_NumMuls.f k a0 a1) (gangerlaw01_NumMuls.f (k + 1) a0 a1) := by
  intro a0 a1 k
  unfold gangerlaw01_NumMuls.f
  repeat' first
      | (with_reducible exact gangerlaw01_known.mono _)
      | (with_reducible exact gangerref01_End.mono _ _ _ _)
      | (with_reducible exact gangerref01_Mul.mono _ _ _)
      | (with_reducible exact gangerref01_Product.mono _ _ _ _ _ _ _)
      | (with_reducible exact LeO.refl _)
      | (with_reducible exact LeO.none _)
      | (with_reducible refine LeO.ite ?_ ?_)
      | (with_reducible refine LeO.bind ?_ (fun _ => ?_))
      | exact gangerlaw01_known.mono _
      | exact gangerref01_End.mono _ _ _ _
      | exact gangerref01_Mul.mono _ _ _
      | exact gangerref01_Product.mono _ _ _ _ _ _ _
      | exact LeO.none _
      | refine LeO.ite ?_ ?_
      | refine LeO.bind ?_ (fun _ => ?_)
set_option maxHeartbeats 8000000 in
set_option maxRecDepth 100000 in
theorem gangerlaw01_NumMuls.calls (k : Nat) (a0 : Int) (a1 : Int) (r : Bool) (w : World) (h : gangerlaw01_NumMuls.f k a0 a1 = some r) :
    Calls Try.prog 10 #[.int .i64 a0, .int .i64 a1] w fun e w' => e = .returned (.bool r) ∧ Below w.heap.size w w' := by
  have HB := Aside0.mk (Below.refl w.heap.size w)
  have H : ((num_Mul.f a0 a1).bind fun bt329 => ((gangerref01_Mul.f k a0 a1).bind fun bt331 => (if bt329.1 = bt331.1 then (if bt329.2 = bt331.2 then ((num_Times.f a0 a1).bind fun t333 => ((gangerref01_Of.f a0).bind fun bt334 => ((gangerref01_Of.f a1).bind fun bt337 => ((gangerref01_Product.f k bt334.1 bt334.2.1 bt334.2.2 bt337.1 bt337.2.1 bt337.2.2).bind fun bt340 => ((gangerref01_End.f k bt340.1 bt340.2.1 bt340.2.2).bind fun t343 => (if t333 = t343 then ((gangerlaw01_known.f k).bind fun t344 => (some t344)) else (none))))))) else (none)) else (none)))) = some r := h
  clear h
  replace H := Option.bind_eq_some_iff.mp H
  obtain ⟨⟨t329, t330⟩, A30, H⟩ := H
  replace H : ((gangerref01_Mul.f k a0 a1).bind fun bt331 => (if t329 = bt331.1 then (if t330 = bt331.2 then ((num_Times.f a0 a1).bind fun t333 => ((gangerref01_Of.f a0).bind fun bt334 => ((gangerref01_Of.f a1).bind fun bt337 => ((gangerref01_Product.f k bt334.1 bt334.2.1 bt334.2.2 bt337.1 bt337.2.1 bt337.2.2).bind fun bt340 => ((gangerref01_End.f k bt340.1 bt340.2.1 bt340.2.2).bind fun t343 => (if t333 = t343 then ((gangerlaw01_known.f k).bind fun t344 => (some t344)) else (none))))))) else (none)) else (none))) = some r := H
  have A3 := Aside0.mk A30
  clear A30
  replace H := Option.bind_eq_some_iff.mp H
  obtain ⟨⟨t331, t332⟩, A40, H⟩ := H
  replace H : (if t329 = t331 then (if t330 = t332 then ((num_Times.f a0 a1).bind fun t333 => ((gangerref01_Of.f a0).bind fun bt334 => ((gangerref01_Of.f a1).bind fun bt337 => ((gangerref01_Product.f k bt334.1 bt334.2.1 bt334.2.2 bt337.1 bt337.2.1 bt337.2.2).bind fun bt340 => ((gangerref01_End.f k bt340.1 bt340.2.1 bt340.2.2).bind fun t343 => (if t333 = t343 then ((gangerlaw01_known.f k).bind fun t344 => (some t344)) else (none))))))) else (none)) else (none)) = some r := H
  have A4 := Aside0.mk A40
  clear A40
  by_cases c5 : t329 = t331
  · rw [if_pos c5] at H
    have c5b0 : (t329 == t331) = true := beq_iff_eq.mpr c5
    have c5b1 : (t329 != t331) = false := bne_eq_false_iff_eq.mpr c5
    clear c5
    by_cases c6 : t330 = t332
    · rw [if_pos c6] at H
      have c6b0 : (t330 == t332) = true := beq_iff_eq.mpr c6
      have c6b1 : (t330 != t332) = false := bne_eq_false_iff_eq.mpr c6
      clear c6
      replace H := Option.bind_eq_some_iff.mp H
      obtain ⟨t333, A70, H⟩ := H
      replace H : ((gangerref01_Of.f a0).bind fun bt334 => ((gangerref01_Of.f a1).bind fun bt337 => ((gangerref01_Product.f k bt334.1 bt334.2.1 bt334.2.2 bt337.1 bt337.2.1 bt337.2.2).bind fun bt340 => ((gangerref01_End.f k bt340.1 bt340.2.1 bt340.2.2).bind fun t343 => (if t333 = t343 then ((gangerlaw01_known.f k).bind fun t344 => (some t344)) else (none)))))) = some r := H
      have A7 := Aside0.mk A70
      clear A70
      replace H := Option.bind_eq_some_iff.mp H
      obtain ⟨⟨t334, t335, t336⟩, A80, H⟩ := H
      replace H : ((gangerref01_Of.f a1).bind fun bt337 => ((gangerref01_Product.f k t334 t335 t336 bt337.1 bt337.2.1 bt337.2.2).bind fun bt340 => ((gangerref01_End.f k bt340.1 bt340.2.1 bt340.2.2).bind fun t343 => (if t333 = t343 then ((gangerlaw01_known.f k).bind fun t344 => (some t344)) else (none))))) = some r := H
      have A8 := Aside0.mk A80
      clear A80
      replace H := Option.bind_eq_some_iff.mp H
      obtain ⟨⟨t337, t338, t339⟩, A90, H⟩ := H
      replace H : ((gangerref01_Product.f k t334 t335 t336 t337 t338 t339).bind fun bt340 => ((gangerref01_End.f k bt340.1 bt340.2.1 bt340.2.2).bind fun t343 => (if t333 = t343 then ((gangerlaw01_known.f k).bind fun t344 => (some t344)) else (none)))) = some r := H
      have A9 := Aside0.mk A90
      clear A90
      replace H := Option.bind_eq_some_iff.mp H
      obtain ⟨⟨t340, t341, t342⟩, A100, H⟩ := H
      replace H : ((gangerref01_End.f k t340 t341 t342).bind fun t343 => (if t333 = t343 then ((gangerlaw01_known.f k).bind fun t344 => (some t344)) else (none))) = some r := H
      have A10 := Aside0.mk A100
      clear A100
      replace H := Option.bind_eq_some_iff.mp H
      obtain ⟨t343, A110, H⟩ := H
      replace H : (if t333 = t343 then ((gangerlaw01_known.f k).bind fun t344 => (some t344)) else (none)) = some r := H
      have A11 := Aside0.mk A110
      clear A110
      by_cases c12 : t333 = t343
      · rw [if_pos c12] at H
        have c12b0 : (t333 == t343) = true := beq_iff_eq.mpr c12
        have c12b1 : (t333 != t343) = false := bne_eq_false_iff_eq.mpr c12
        clear c12
        replace H := Option.bind_eq_some_iff.mp H
        obtain ⟨t344, A130, H⟩ := H
        replace H : (some t344) = some r := H
        have A13 := Aside0.mk A130
        clear A130
        obtain rfl := Option.some.inj H
        go_enter Try.func10, Try.ntmps10
        go_wp2_with (first | ((with_reducible refine gate_callee (f := 32) rfl ?_); refine goesL_ (some 12) rfl rfl Try.func32 (by kernel_rfl) rfl #[.int .i64 a0, .int .i64 a1] rfl (by (try simp only [List.map_toArray, List.map_cons, List.map_nil]); first | done | rfl | (simp only [List.length_drop, List.length_take]; rfl)) ?_; (with_reducible refine (num_Mul.calls a0 a1 t329 t330 _ A3.out).mono ?_); rintro e w' ⟨rfl, ⟨nd, rfl⟩⟩; refine ⟨_, rfl, ?_⟩) | ((with_reducible refine gate_callee (f := 33) rfl ?_); refine goesL_ (some 18) rfl rfl Try.func33 (by kernel_rfl) rfl #[.int .i64 a0, .int .i64 a1] rfl (by (try simp only [List.map_toArray, List.map_cons, List.map_nil]); first | done | rfl | (simp only [List.length_drop, List.length_take]; rfl)) ?_; (with_reducible refine (gangerref01_Mul.calls k a0 a1 t331 t332 _ A4.out).mono ?_); rintro e w14 ⟨rfl, hb⟩; refine ⟨_, rfl, ?_⟩; have n0_ := Aside0.mk (below_step (by repeat (first | (with_reducible first | exact HB.out | apply below_alloc | apply pw_below_drewN | apply below_drew1) | exact HB.out)) hb); clear HB; have HB := n0_; clear n0_; (try clear hb); (try clear hb2); (try clear hk); (try clear hi)) | (go_at_call 34; (with_reducible refine (num_Times.calls a0 a1 t333 _ A7.out).mono ?_); rintro e w' ⟨rfl, ⟨nd, rfl⟩⟩) | (go_at_call 15; (with_reducible refine (gangerref01_Of.calls a0 t334 t335 t336 _ A8.out).mono ?_); rintro e w15 ⟨rfl, hb⟩; have n0_ := Aside0.mk (below_step (by repeat (first | (with_reducible first | exact HB.out | apply below_alloc | apply pw_below_drewN | apply below_drew1) | exact HB.out)) hb); clear HB; have HB := n0_; clear n0_; (try clear hb); (try clear hb2); (try clear hk); (try clear hi)) | (go_at_call 15; (with_reducible refine (gangerref01_Of.calls a1 t337 t338 t339 _ A9.out).mono ?_); rintro e w16 ⟨rfl, hb⟩; have n0_ := Aside0.mk (below_step (by repeat (first | (with_reducible first | exact HB.out | apply below_alloc | apply pw_below_drewN | apply below_drew1) | exact HB.out)) hb); clear HB; have HB := n0_; clear n0_; (try clear hb); (try clear hb2); (try clear hk); (try clear hi)) | (go_at_call 14; (with_reducible refine (gangerref01_Product.calls k t334 t335 t336 t337 t338 t339 t340 t341 t342 _ A10.out).mono ?_); rintro e w17 ⟨rfl, hb⟩; have n0_ := Aside0.mk (below_step (by repeat (first | (with_reducible first | exact HB.out | apply below_alloc | apply pw_below_drewN | apply below_drew1) | exact HB.out)) hb); clear HB; have HB := n0_; clear n0_; (try clear hb); (try clear hb2); (try clear hk); (try clear hi)) | (go_at_call 17; (with_reducible refine (gangerref01_End.calls k t340 t341 t342 t343 _ A11.out).mono ?_); rintro e w18 ⟨rfl, hb⟩; have n0_ := Aside0.mk (below_step (by repeat (first | (with_reducible first | exact HB.out | apply below_alloc | apply pw_below_drewN | apply below_drew1) | exact HB.out)) hb); clear HB; have HB := n0_; clear n0_; (try clear hb); (try clear hb2); (try clear hk); (try clear hi)) | (go_at_call 12; (with_reducible refine (gangerlaw01_known.calls k  t344 _ A13.out).mono ?_); rintro e w19 ⟨rfl, hb⟩; have n0_ := Aside0.mk (below_step (by repeat (first | (with_reducible first | exact HB.out | apply below_alloc | apply pw_below_drewN | apply below_drew1) | exact HB.out)) hb); clear HB; have HB := n0_; clear n0_; (try clear hb); (try clear hb2); (try clear hk); (try clear hi)))
        go_ret
        exact ⟨by first | rfl | (simp [errW_none, errW_some] <;> rfl) | (simp [*, errW_none, errW_some] <;> rfl), by repeat (first | (with_reducible first | exact HB.out | apply below_alloc | apply pw_below_drewN | apply below_drew1) | exact HB.out)⟩
      · rw [if_neg c12] at H
        exact absurd H (by simp)
    · rw [if_neg c6] at H
      exact absurd H (by simp)
  · rw [if_neg c5] at H
    exact absurd H (by simp)

/-- THE ONE PURE STATEMENT of gangerlaw01_NumMuls: yours. -/
def gangerlaw01_NumMuls.Pure : Prop := ∀ (a0 : Int) (a1 : Int), (Lit.int .i64 a0).wf = true → (Lit.int .i64 a1).wf = true → ∃ k, gangerlaw01_NumMuls.f k a0 a1 = some true
theorem gangerlaw01_NumMuls.walk (P : gangerlaw01_NumMuls.Pure) (a0 : Int) (a1 : Int) (w : World) (w0 : (Lit.int .i64 a0).wf = true) (w1 : (Lit.int .i64 a1).wf = true) :
    Calls Try.prog 10 #[.int .i64 a0, .int .i64 a1] w fun e w' => e = .returned (.bool true) ∧ Below w.heap.size w w' := by
  obtain ⟨k, h⟩ := P a0 a1 w0 w1
  refine (gangerlaw01_NumMuls.calls k a0 a1 true w h).mono ?_
  rintro e w' ⟨rfl, hd⟩
  exact ⟨rfl, hd⟩

end Go.Proofs.Ytlcdlfnmofopgaa.P
