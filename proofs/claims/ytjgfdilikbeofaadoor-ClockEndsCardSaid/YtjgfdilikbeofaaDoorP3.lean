/- The machine's side of the laws of this seat: each function's plain form and its contract, written by a program of this session out of Lean's print of the loaded functions; no condition beyond what each statement says. -/
import Derived.Test.YtjgfdilikbeofaaDoorP0
import Derived.Test.YtjgfdilikbeofaaDoorP2
namespace Go.Proofs.YtjgfdilikbeofaaDoor.P
open Go.RowKit Go.Proofs.YtjgfdilikbeofaaDoorW.PrintWords Go.Proofs.YtjgfdilikbeofaaDoorW.PrintLast Go.Proofs.YtjgfdilikbeofaaDoorW.PrintMore
attribute [local go_sem] max2_int min2_int max_two min_two max_three min_three max_four min_four   -- for this text's walks alone
set_option linter.unusedVariables false
set_option linter.unusedSimpArgs false

attribute [local go_sem] isSome_setCell
-- NOT PRINTED: function 41 (strconv_small)

-- NOT PRINTED: function 48 (strconv_log10Pow2)

/-! ### bits_Len64: function 49 -/
def bits_Len64.f (a0 : Int) : Option (Int) := if 0 ≤ a0 then (if a0 ≤ 18446744073709551615 then some ((Lib.bitLen a0.toNat : Nat) : Int) else none) else none
theorem bits_Len64.calls (a0 : Int) (r : Int) (w : World) (h : bits_Len64.f a0 = some r) :
    Calls Tryd.prog 49 #[.int .u64 a0] w fun e w' => e = .returned (.int .i64 r) ∧ Drawn0 w w' := by
  unfold bits_Len64.f at h
  by_cases h0 : 0 ≤ a0
  · rw [if_pos h0] at h
    by_cases h1 : a0 ≤ 18446744073709551615
    · rw [if_pos h1] at h
      injection h with h
      subst h
      refine (Tryd.bits_Len64 a0 w h0 h1).mono ?_
      rintro e w' ⟨rfl, rfl⟩
      exact ⟨rfl, Drawn0.refl _⟩
    · rw [if_neg h1] at h; cases h
  · rw [if_neg h0] at h; cases h

-- NOT PRINTED: function 50 (strconv_bool2_int)

-- NOT PRINTED: function 42 (strconv_numDigits)

-- NOT PRINTED: function 43 (strconv_formatBase10)

-- NOT PRINTED: function 51 (strconv_isPowerOfTwo)

-- NOT PRINTED: function 53 (bits_TrailingZeros32)

-- NOT PRINTED: function 54 (bits_TrailingZeros64)

-- NOT PRINTED: function 52 (bits_TrailingZeros)

-- NOT PRINTED: function 44 (strconv_formatBits)

-- NOT PRINTED: function 35 (strconv_FormatInt)

-- NOT PRINTED: function 32 (strconv_Itoa_32)

/-! ### strconv_Itoa_25: function 25 -/
def strconv_Itoa_25.f (a0 : Int) : Option (ByteArray) := if -9223372036854775808 ≤ a0 then (if a0 ≤ 9223372036854775807 then some (⟨(Lib.itoa a0).toArray⟩ : ByteArray) else none) else none
theorem strconv_Itoa_25.calls (a0 : Int) (r : ByteArray) (w : World) (hG : Glob w) (h : strconv_Itoa_25.f a0 = some r) :
    Calls Tryd.prog 25 #[.int .i64 a0] w fun e w' => e = .returned (.string r) ∧ Below w.heap.size w w' := by
  unfold strconv_Itoa_25.f at h
  split at h
  · split at h
    · obtain rfl := Option.some.inj h
      refine (Tryd.strconv_Itoa a0 (by assumption) (by assumption) w hG.tab).mono ?_
      rintro e w' ⟨rfl, k, os, rfl⟩
      exact ⟨rfl, Lib.below_grow _ w (Nat.le_refl _) k os⟩
    · cases h
  · cases h

/-! ### clock_two: function 24 -/
def clock_two.f (a0 : Int) : Option (ByteArray) := if a0 < 10 then ((strconv_Itoa_25.f a0).bind fun t150 => (if 1 + t150.size ≤ 9223372036854775807 then (some ((⟨#[48]⟩ : ByteArray) ++ t150)) else (none))) else ((strconv_Itoa_25.f a0).bind fun t151 => (some t151))
set_option maxHeartbeats 8000000 in
set_option maxRecDepth 100000 in
theorem clock_two.calls (a0 : Int) (r : ByteArray) (w : World) (hG : Glob w) (h : clock_two.f a0 = some r) :
    Calls Tryd.prog 24 #[.int .i64 a0] w fun e w' => e = .returned (.string r) ∧ Below w.heap.size w w' := by
  have HG := Aside0.mk hG
  clear hG
  have HB := Aside0.mk (Below.refl w.heap.size w)
  have H : (if a0 < 10 then ((strconv_Itoa_25.f a0).bind fun t150 => (if 1 + t150.size ≤ 9223372036854775807 then (some ((⟨#[48]⟩ : ByteArray) ++ t150)) else (none))) else ((strconv_Itoa_25.f a0).bind fun t151 => (some t151))) = some r := h
  clear h
  by_cases c2 : a0 < 10
  · rw [if_pos c2] at H
    have c2b0 : decide (a0 < 10) = true := decide_eq_true c2
    clear c2
    replace H := Option.bind_eq_some_iff.mp H
    obtain ⟨t150, A30, H⟩ := H
    replace H : (if 1 + t150.size ≤ 9223372036854775807 then (some ((⟨#[48]⟩ : ByteArray) ++ t150)) else (none)) = some r := H
    have A3 := Aside0.mk A30
    clear A30
    by_cases c4 : 1 + t150.size ≤ 9223372036854775807
    · rw [if_pos c4] at H
      have c4b0 := eq_true c4
      have c4b1 : decide (1 + t150.size ≤ 9223372036854775807) = true := decide_eq_true c4
      try have c4b2 : (9223372036854775807 < 1 + t150.size) = False := eq_false (Nat.not_lt.2 c4)
      try (have c4b3 := c4b2; simp only [ByteArray.size_append, size_lit1] at c4b3)
      obtain rfl := Option.some.inj H
      go_enter Tryd.func24, Tryd.ntmps24
      go_wp2_with (first | ((with_reducible refine gate_callee (f := 25) rfl ?_); refine goesL_ (some 6) rfl rfl Tryd.func25 (by kernel_rfl) rfl #[.int .i64 a0] rfl (by (try simp only [List.map_toArray, List.map_cons, List.map_nil]); first | done | rfl | (simp only [List.length_drop, List.length_take]; rfl)) ?_; (with_reducible refine (strconv_Itoa_25.calls a0 t150 _ ?side1 A3.out).mono ?_); (case side1 => exact Glob.below HG.out (by repeat (first | (with_reducible first | exact HB.out | apply below_alloc | apply pw_below_drewN | apply below_drew1) | exact HB.out))); rintro e w5 ⟨rfl, hb⟩; refine ⟨_, rfl, ?_⟩; have n0_ := Aside0.mk (below_step (by repeat (first | (with_reducible first | exact HB.out | apply below_alloc | apply pw_below_drewN | apply below_drew1) | exact HB.out)) hb); clear HB; have HB := n0_; clear n0_; (try clear hb); (try clear hb2); (try clear hk); (try clear hi)))
      go_ret
      exact ⟨by first | rfl | (simp [errW_none, errW_some] <;> rfl) | (simp [*, errW_none, errW_some] <;> rfl), by repeat (first | (with_reducible first | exact HB.out | apply below_alloc | apply pw_below_drewN | apply below_drew1) | exact HB.out)⟩
    · rw [if_neg c4] at H
      exact absurd H (by simp)
  · rw [if_neg c2] at H
    have c2b0 : decide (a0 < 10) = false := decide_eq_false c2
    clear c2
    replace H := Option.bind_eq_some_iff.mp H
    obtain ⟨t151, A60, H⟩ := H
    replace H : (some t151) = some r := H
    have A6 := Aside0.mk A60
    clear A60
    obtain rfl := Option.some.inj H
    go_enter Tryd.func24, Tryd.ntmps24
    go_wp2_with (first | ((with_reducible refine gate_callee (f := 25) rfl ?_); refine goesL_ (some 9) rfl rfl Tryd.func25 (by kernel_rfl) rfl #[.int .i64 a0] rfl (by (try simp only [List.map_toArray, List.map_cons, List.map_nil]); first | done | rfl | (simp only [List.length_drop, List.length_take]; rfl)) ?_; (with_reducible refine (strconv_Itoa_25.calls a0 t151 _ ?side1 A6.out).mono ?_); (case side1 => exact Glob.below HG.out (by repeat (first | (with_reducible first | exact HB.out | apply below_alloc | apply pw_below_drewN | apply below_drew1) | exact HB.out))); rintro e w7 ⟨rfl, hb⟩; refine ⟨_, rfl, ?_⟩; have n0_ := Aside0.mk (below_step (by repeat (first | (with_reducible first | exact HB.out | apply below_alloc | apply pw_below_drewN | apply below_drew1) | exact HB.out)) hb); clear HB; have HB := n0_; clear n0_; (try clear hb); (try clear hb2); (try clear hk); (try clear hi)))
    go_ret
    exact ⟨by first | rfl | (simp [errW_none, errW_some] <;> rfl) | (simp [*, errW_none, errW_some] <;> rfl), by repeat (first | (with_reducible first | exact HB.out | apply below_alloc | apply pw_below_drewN | apply below_drew1) | exact HB.out)⟩

/-! ### clock_Print: function 13 -/
def clock_Print.j0 : Nat → Int → Bool → Option (ByteArray × Int)
  | 0, _, _ => none
  | k + 1, x0, x11 => if x11 = true then (some ((⟨#[]⟩ : ByteArray), 2)) else ((clock_two.f (Int.tmod (wrap64 (Int.tdiv x0 3600)) 24)).bind fun t152 => (if t152.size + 1 ≤ 9223372036854775807 then ((clock_two.f (Int.tmod (wrap64 (Int.tdiv x0 60)) 60)).bind fun t153 => (if (t152 ++ (⟨#[58]⟩ : ByteArray)).size + t153.size ≤ 9223372036854775807 then (if ((t152 ++ (⟨#[58]⟩ : ByteArray)) ++ t153).size + 1 ≤ 9223372036854775807 then ((clock_two.f (Int.tmod x0 60)).bind fun t154 => (if (((t152 ++ (⟨#[58]⟩ : ByteArray)) ++ t153) ++ (⟨#[58]⟩ : ByteArray)).size + t154.size ≤ 9223372036854775807 then (if (wrap64 (Int.tdiv x0 86400)) > 0 then ((strconv_Itoa_25.f (wrap64 (Int.tdiv x0 86400))).bind fun t155 => (if t155.size + 1 ≤ 9223372036854775807 then (if (t155 ++ (⟨#[45]⟩ : ByteArray)).size + ((((t152 ++ (⟨#[58]⟩ : ByteArray)) ++ t153) ++ (⟨#[58]⟩ : ByteArray)) ++ t154).size ≤ 9223372036854775807 then (some ((t155 ++ (⟨#[45]⟩ : ByteArray)) ++ ((((t152 ++ (⟨#[58]⟩ : ByteArray)) ++ t153) ++ (⟨#[58]⟩ : ByteArray)) ++ t154), 0)) else (none)) else (none))) else (some ((((t152 ++ (⟨#[58]⟩ : ByteArray)) ++ t153) ++ (⟨#[58]⟩ : ByteArray)) ++ t154, 0))) else (none))) else (none)) else (none))) else (none)))
def clock_Print.f (k : Nat) (a0 : Int) : Option (ByteArray × Int) := if a0 < 1 then (clock_Print.j0 k a0 true) else (clock_Print.j0 k a0 (decide (a0 > 1073741824)))
theorem clock_Print.mono_l : ∀ k, (∀ y0 y1, LeO (clock_Print.j0 k y0 y1) (clock_Print.j0 (k + 1) y0 y1))
  | 0 => fun _ _ r h => by simp [clock_Print.j0] at h
  | k + 1 => by
    have ih0 := clock_Print.mono_l k
    · intro y0 y1
      unfold clock_Print.j0
      repeat' first
      | (with_reducible exact ih0 _ _)
      | (with_reducible exact LeO.refl _)
      | (with_reducible exact LeO.none _)
      | (with_reducible refine LeO.ite ?_ ?_)
      | (with_reducible refine LeO.bind ?_ (fun _ => ?_))
      | exact ih0 _ _
      | exact LeO.none _
      | refine LeO.ite ?_ ?_
      | refine LeO.bind ?_ (fun _ => ?_)
theorem clock_Print.mono : ∀ a0 k, LeO (clock_Print.f k a0) (clock_Print.f (k + 1) a0) := by
  intro a0 k
  have ih0 := clock_Print.mono_l k
  unfold clock_Print.f
  repeat' first
      | (with_reducible exact ih0 _ _)
      | (with_reducible exact LeO.refl _)
      | (with_reducible exact LeO.none _)
      | (with_reducible refine LeO.ite ?_ ?_)
      | (with_reducible refine LeO.bind ?_ (fun _ => ?_))
      | exact ih0 _ _
      | exact LeO.none _
      | refine LeO.ite ?_ ?_
      | refine LeO.bind ?_ (fun _ => ?_)
set_option maxHeartbeats 8000000 in
set_option maxRecDepth 100000 in
theorem clock_Print.calls (k : Nat) (a0 : Int) (r1 : ByteArray) (r2 : Int) (w : World) (hG : Glob w) (h : clock_Print.f k a0 = some (r1, r2)) :
    Calls Tryd.prog 13 #[.int .i64 a0] w fun e w' => e = .returned (.tuple #[.string r1, .int .i64 r2]) ∧ Below w.heap.size w w' := by
  have HG := Aside0.mk hG
  clear hG
  have HB := Aside0.mk (Below.refl w.heap.size w)
  have H : (if a0 < 1 then (clock_Print.j0 k a0 true) else (clock_Print.j0 k a0 (decide (a0 > 1073741824)))) = some (r1, r2) := h
  clear h
  have HC2 := Aside0.mk H
  clear H
  go_enter Tryd.func13, Tryd.ntmps13
  go_upto_region 1 with (fail)
  go_cut [11] (fun v11 wc => ∃ (kq : Nat) (x11_1 : Bool), v11 = .bool x11_1 ∧ Aside0 (clock_Print.j0 kq a0 x11_1 = some (r1, r2)) ∧ Aside0 (kq ≤ k) ∧ Aside0 (Below w.heap.size w wc))
  case first =>
    have H := HC2.out
    clear HC2
    by_cases c3 : a0 < 1
    · rw [if_pos c3] at H
      have c3b0 : decide (a0 < 1) = true := decide_eq_true c3
      clear c3
      (first | rw [c3b0] | (simp only [i64_w, i32_w]; rw [c3b0]) | skip)
      have H' := Aside0.mk H
      clear H
      go_wp2
      go_meet
      case rel => exact ⟨_, (true), (by first | rfl | (simp; done) | (simp [*]; done)), H', ⟨by first | omega | exact Nat.le_refl _⟩, ⟨by repeat (first | (with_reducible first | exact HB.out | apply below_alloc | apply pw_below_drewN | apply below_drew1) | exact HB.out)⟩⟩
    · rw [if_neg c3] at H
      have c3b0 : decide (a0 < 1) = false := decide_eq_false c3
      clear c3
      (first | rw [c3b0] | (simp only [i64_w, i32_w]; rw [c3b0]) | skip)
      have H' := Aside0.mk H
      clear H
      go_wp2
      go_meet
      case rel => exact ⟨_, (decide (a0 > 1073741824)), (by first | rfl | (simp; done) | (simp [*]; done)), H', ⟨by first | omega | exact Nat.le_refl _⟩, ⟨by repeat (first | (with_reducible first | exact HB.out | apply below_alloc | apply pw_below_drewN | apply below_drew1) | exact HB.out)⟩⟩
  case rest =>
    clear HC2
    try clear c1
    try clear p2
    try clear c3
    try clear c3b0
    obtain ⟨kq, x11_1, rfl, HA, HJ1, HB⟩ := hcut
    cases kq with
    | zero => exact absurd HA.out (by simp [clock_Print.j0])
    | succ kj1 =>
      have H := HA.out
      clear HA
      simp only [clock_Print.j0] at H
      by_cases c4 : x11_1 = true
      · subst c4
        have H1 : (some ((⟨#[]⟩ : ByteArray), 2)) = some (r1, r2) := by rw [if_pos rfl] at H; exact H
        clear H
        have H := H1
        clear H1
        simp only [Option.some.injEq, Prod.mk.injEq] at H
        obtain ⟨rfl, rfl⟩ := H
        go_wp2
        go_ret2
        exact ⟨by first | rfl | (simp [errW_none, errW_some] <;> rfl) | (simp [*, errW_none, errW_some] <;> rfl), by repeat (first | (with_reducible first | exact HB.out | apply below_alloc | apply pw_below_drewN | apply below_drew1) | exact HB.out)⟩
      · replace c4 := Bool.eq_false_iff.mpr c4
        subst c4
        have H1 : ((clock_two.f (Int.tmod (wrap64 (Int.tdiv a0 3600)) 24)).bind fun t152 => (if t152.size + 1 ≤ 9223372036854775807 then ((clock_two.f (Int.tmod (wrap64 (Int.tdiv a0 60)) 60)).bind fun t153 => (if (t152 ++ (⟨#[58]⟩ : ByteArray)).size + t153.size ≤ 9223372036854775807 then (if ((t152 ++ (⟨#[58]⟩ : ByteArray)) ++ t153).size + 1 ≤ 9223372036854775807 then ((clock_two.f (Int.tmod a0 60)).bind fun t154 => (if (((t152 ++ (⟨#[58]⟩ : ByteArray)) ++ t153) ++ (⟨#[58]⟩ : ByteArray)).size + t154.size ≤ 9223372036854775807 then (if (wrap64 (Int.tdiv a0 86400)) > 0 then ((strconv_Itoa_25.f (wrap64 (Int.tdiv a0 86400))).bind fun t155 => (if t155.size + 1 ≤ 9223372036854775807 then (if (t155 ++ (⟨#[45]⟩ : ByteArray)).size + ((((t152 ++ (⟨#[58]⟩ : ByteArray)) ++ t153) ++ (⟨#[58]⟩ : ByteArray)) ++ t154).size ≤ 9223372036854775807 then (some ((t155 ++ (⟨#[45]⟩ : ByteArray)) ++ ((((t152 ++ (⟨#[58]⟩ : ByteArray)) ++ t153) ++ (⟨#[58]⟩ : ByteArray)) ++ t154), 0)) else (none)) else (none))) else (some ((((t152 ++ (⟨#[58]⟩ : ByteArray)) ++ t153) ++ (⟨#[58]⟩ : ByteArray)) ++ t154, 0))) else (none))) else (none)) else (none))) else (none))) = some (r1, r2) := by rw [if_neg (show ¬ (false = true) by decide)] at H; exact H
        clear H
        have H := H1
        clear H1
        replace H := Option.bind_eq_some_iff.mp H
        obtain ⟨t152, A50, H⟩ := H
        replace H : (if t152.size + 1 ≤ 9223372036854775807 then ((clock_two.f (Int.tmod (wrap64 (Int.tdiv a0 60)) 60)).bind fun t153 => (if (t152 ++ (⟨#[58]⟩ : ByteArray)).size + t153.size ≤ 9223372036854775807 then (if ((t152 ++ (⟨#[58]⟩ : ByteArray)) ++ t153).size + 1 ≤ 9223372036854775807 then ((clock_two.f (Int.tmod a0 60)).bind fun t154 => (if (((t152 ++ (⟨#[58]⟩ : ByteArray)) ++ t153) ++ (⟨#[58]⟩ : ByteArray)).size + t154.size ≤ 9223372036854775807 then (if (wrap64 (Int.tdiv a0 86400)) > 0 then ((strconv_Itoa_25.f (wrap64 (Int.tdiv a0 86400))).bind fun t155 => (if t155.size + 1 ≤ 9223372036854775807 then (if (t155 ++ (⟨#[45]⟩ : ByteArray)).size + ((((t152 ++ (⟨#[58]⟩ : ByteArray)) ++ t153) ++ (⟨#[58]⟩ : ByteArray)) ++ t154).size ≤ 9223372036854775807 then (some ((t155 ++ (⟨#[45]⟩ : ByteArray)) ++ ((((t152 ++ (⟨#[58]⟩ : ByteArray)) ++ t153) ++ (⟨#[58]⟩ : ByteArray)) ++ t154), 0)) else (none)) else (none))) else (some ((((t152 ++ (⟨#[58]⟩ : ByteArray)) ++ t153) ++ (⟨#[58]⟩ : ByteArray)) ++ t154, 0))) else (none))) else (none)) else (none))) else (none)) = some (r1, r2) := H
        have A5 := Aside0.mk A50
        clear A50
        by_cases c6 : t152.size + 1 ≤ 9223372036854775807
        · rw [if_pos c6] at H
          have c6b0 := eq_true c6
          have c6b1 : decide (t152.size + 1 ≤ 9223372036854775807) = true := decide_eq_true c6
          try have c6b2 : (9223372036854775807 < t152.size + 1) = False := eq_false (Nat.not_lt.2 c6)
          try (have c6b3 := c6b2; simp only [ByteArray.size_append, size_lit1] at c6b3)
          replace H := Option.bind_eq_some_iff.mp H
          obtain ⟨t153, A70, H⟩ := H
          replace H : (if (t152 ++ (⟨#[58]⟩ : ByteArray)).size + t153.size ≤ 9223372036854775807 then (if ((t152 ++ (⟨#[58]⟩ : ByteArray)) ++ t153).size + 1 ≤ 9223372036854775807 then ((clock_two.f (Int.tmod a0 60)).bind fun t154 => (if (((t152 ++ (⟨#[58]⟩ : ByteArray)) ++ t153) ++ (⟨#[58]⟩ : ByteArray)).size + t154.size ≤ 9223372036854775807 then (if (wrap64 (Int.tdiv a0 86400)) > 0 then ((strconv_Itoa_25.f (wrap64 (Int.tdiv a0 86400))).bind fun t155 => (if t155.size + 1 ≤ 9223372036854775807 then (if (t155 ++ (⟨#[45]⟩ : ByteArray)).size + ((((t152 ++ (⟨#[58]⟩ : ByteArray)) ++ t153) ++ (⟨#[58]⟩ : ByteArray)) ++ t154).size ≤ 9223372036854775807 then (some ((t155 ++ (⟨#[45]⟩ : ByteArray)) ++ ((((t152 ++ (⟨#[58]⟩ : ByteArray)) ++ t153) ++ (⟨#[58]⟩ : ByteArray)) ++ t154), 0)) else (none)) else (none))) else (some ((((t152 ++ (⟨#[58]⟩ : ByteArray)) ++ t153) ++ (⟨#[58]⟩ : ByteArray)) ++ t154, 0))) else (none))) else (none)) else (none)) = some (r1, r2) := H
          have A7 := Aside0.mk A70
          clear A70
          by_cases c8 : (t152 ++ (⟨#[58]⟩ : ByteArray)).size + t153.size ≤ 9223372036854775807
          · rw [if_pos c8] at H
            have c8b0 := eq_true c8
            have c8b1 : decide ((t152 ++ (⟨#[58]⟩ : ByteArray)).size + t153.size ≤ 9223372036854775807) = true := decide_eq_true c8
            try have c8b2 : (9223372036854775807 < (t152 ++ (⟨#[58]⟩ : ByteArray)).size + t153.size) = False := eq_false (Nat.not_lt.2 c8)
            try (have c8b3 := c8b2; simp only [ByteArray.size_append, size_lit1] at c8b3)
            by_cases c9 : ((t152 ++ (⟨#[58]⟩ : ByteArray)) ++ t153).size + 1 ≤ 9223372036854775807
            · rw [if_pos c9] at H
              have c9b0 := eq_true c9
              have c9b1 : decide (((t152 ++ (⟨#[58]⟩ : ByteArray)) ++ t153).size + 1 ≤ 9223372036854775807) = true := decide_eq_true c9
              try have c9b2 : (9223372036854775807 < ((t152 ++ (⟨#[58]⟩ : ByteArray)) ++ t153).size + 1) = False := eq_false (Nat.not_lt.2 c9)
              try (have c9b3 := c9b2; simp only [ByteArray.size_append, size_lit1] at c9b3)
              replace H := Option.bind_eq_some_iff.mp H
              obtain ⟨t154, A100, H⟩ := H
              replace H : (if (((t152 ++ (⟨#[58]⟩ : ByteArray)) ++ t153) ++ (⟨#[58]⟩ : ByteArray)).size + t154.size ≤ 9223372036854775807 then (if (wrap64 (Int.tdiv a0 86400)) > 0 then ((strconv_Itoa_25.f (wrap64 (Int.tdiv a0 86400))).bind fun t155 => (if t155.size + 1 ≤ 9223372036854775807 then (if (t155 ++ (⟨#[45]⟩ : ByteArray)).size + ((((t152 ++ (⟨#[58]⟩ : ByteArray)) ++ t153) ++ (⟨#[58]⟩ : ByteArray)) ++ t154).size ≤ 9223372036854775807 then (some ((t155 ++ (⟨#[45]⟩ : ByteArray)) ++ ((((t152 ++ (⟨#[58]⟩ : ByteArray)) ++ t153) ++ (⟨#[58]⟩ : ByteArray)) ++ t154), 0)) else (none)) else (none))) else (some ((((t152 ++ (⟨#[58]⟩ : ByteArray)) ++ t153) ++ (⟨#[58]⟩ : ByteArray)) ++ t154, 0))) else (none)) = some (r1, r2) := H
              have A10 := Aside0.mk A100
              clear A100
              by_cases c11 : (((t152 ++ (⟨#[58]⟩ : ByteArray)) ++ t153) ++ (⟨#[58]⟩ : ByteArray)).size + t154.size ≤ 9223372036854775807
              · rw [if_pos c11] at H
                have c11b0 := eq_true c11
                have c11b1 : decide ((((t152 ++ (⟨#[58]⟩ : ByteArray)) ++ t153) ++ (⟨#[58]⟩ : ByteArray)).size + t154.size ≤ 9223372036854775807) = true := decide_eq_true c11
                try have c11b2 : (9223372036854775807 < (((t152 ++ (⟨#[58]⟩ : ByteArray)) ++ t153) ++ (⟨#[58]⟩ : ByteArray)).size + t154.size) = False := eq_false (Nat.not_lt.2 c11)
                try (have c11b3 := c11b2; simp only [ByteArray.size_append, size_lit1] at c11b3)
                by_cases c12 : (wrap64 (Int.tdiv a0 86400)) > 0
                · rw [if_pos c12] at H
                  have c12b0 : decide (0 < (wrap64 (Int.tdiv a0 86400))) = true := decide_eq_true c12
                  clear c12
                  replace H := Option.bind_eq_some_iff.mp H
                  obtain ⟨t155, A130, H⟩ := H
                  replace H : (if t155.size + 1 ≤ 9223372036854775807 then (if (t155 ++ (⟨#[45]⟩ : ByteArray)).size + ((((t152 ++ (⟨#[58]⟩ : ByteArray)) ++ t153) ++ (⟨#[58]⟩ : ByteArray)) ++ t154).size ≤ 9223372036854775807 then (some ((t155 ++ (⟨#[45]⟩ : ByteArray)) ++ ((((t152 ++ (⟨#[58]⟩ : ByteArray)) ++ t153) ++ (⟨#[58]⟩ : ByteArray)) ++ t154), 0)) else (none)) else (none)) = some (r1, r2) := H
                  have A13 := Aside0.mk A130
                  clear A130
                  by_cases c14 : t155.size + 1 ≤ 9223372036854775807
                  · rw [if_pos c14] at H
                    have c14b0 := eq_true c14
                    have c14b1 : decide (t155.size + 1 ≤ 9223372036854775807) = true := decide_eq_true c14
                    try have c14b2 : (9223372036854775807 < t155.size + 1) = False := eq_false (Nat.not_lt.2 c14)
                    try (have c14b3 := c14b2; simp only [ByteArray.size_append, size_lit1] at c14b3)
                    by_cases c15 : (t155 ++ (⟨#[45]⟩ : ByteArray)).size + ((((t152 ++ (⟨#[58]⟩ : ByteArray)) ++ t153) ++ (⟨#[58]⟩ : ByteArray)) ++ t154).size ≤ 9223372036854775807
                    · rw [if_pos c15] at H
                      have c15b0 := eq_true c15
                      have c15b1 : decide ((t155 ++ (⟨#[45]⟩ : ByteArray)).size + ((((t152 ++ (⟨#[58]⟩ : ByteArray)) ++ t153) ++ (⟨#[58]⟩ : ByteArray)) ++ t154).size ≤ 9223372036854775807) = true := decide_eq_true c15
                      try have c15b2 : (9223372036854775807 < (t155 ++ (⟨#[45]⟩ : ByteArray)).size + ((((t152 ++ (⟨#[58]⟩ : ByteArray)) ++ t153) ++ (⟨#[58]⟩ : ByteArray)) ++ t154).size) = False := eq_false (Nat.not_lt.2 c15)
                      try (have c15b3 := c15b2; simp only [ByteArray.size_append, size_lit1] at c15b3)
                      simp only [Option.some.injEq, Prod.mk.injEq] at H
                      obtain ⟨rfl, rfl⟩ := H
                      go_wp2_with (first | ((with_reducible refine gate_callee (f := 24) rfl ?_); refine goesL_ (some 15) rfl rfl Tryd.func24 (by kernel_rfl) rfl #[.int .i64 (Int.tmod (wrap64 (Int.tdiv a0 3600)) 24)] rfl (by (try simp only [List.map_toArray, List.map_cons, List.map_nil]); first | done | rfl | (simp only [List.length_drop, List.length_take]; rfl)) ?_; (with_reducible refine (clock_two.calls (Int.tmod (wrap64 (Int.tdiv a0 3600)) 24) t152 _ ?side1 A5.out).mono ?_); (case side1 => exact Glob.below HG.out (by repeat (first | (with_reducible first | exact HB.out | apply below_alloc | apply pw_below_drewN | apply below_drew1) | exact HB.out))); rintro e w16 ⟨rfl, hb⟩; refine ⟨_, rfl, ?_⟩; have n0_ := Aside0.mk (below_step (by repeat (first | (with_reducible first | exact HB.out | apply below_alloc | apply pw_below_drewN | apply below_drew1) | exact HB.out)) hb); clear HB; have HB := n0_; clear n0_; (try clear hb); (try clear hb2); (try clear hk); (try clear hi)) | ((with_reducible refine gate_callee (f := 24) rfl ?_); refine goesL_ (some 20) rfl rfl Tryd.func24 (by kernel_rfl) rfl #[.int .i64 (Int.tmod (wrap64 (Int.tdiv a0 60)) 60)] rfl (by (try simp only [List.map_toArray, List.map_cons, List.map_nil]); first | done | rfl | (simp only [List.length_drop, List.length_take]; rfl)) ?_; (with_reducible refine (clock_two.calls (Int.tmod (wrap64 (Int.tdiv a0 60)) 60) t153 _ ?side1 A7.out).mono ?_); (case side1 => exact Glob.below HG.out (by repeat (first | (with_reducible first | exact HB.out | apply below_alloc | apply pw_below_drewN | apply below_drew1) | exact HB.out))); rintro e w17 ⟨rfl, hb⟩; refine ⟨_, rfl, ?_⟩; have n0_ := Aside0.mk (below_step (by repeat (first | (with_reducible first | exact HB.out | apply below_alloc | apply pw_below_drewN | apply below_drew1) | exact HB.out)) hb); clear HB; have HB := n0_; clear n0_; (try clear hb); (try clear hb2); (try clear hk); (try clear hi)) | ((with_reducible refine gate_callee (f := 24) rfl ?_); refine goesL_ (some 25) rfl rfl Tryd.func24 (by kernel_rfl) rfl #[.int .i64 (Int.tmod a0 60)] rfl (by (try simp only [List.map_toArray, List.map_cons, List.map_nil]); first | done | rfl | (simp only [List.length_drop, List.length_take]; rfl)) ?_; (with_reducible refine (clock_two.calls (Int.tmod a0 60) t154 _ ?side1 A10.out).mono ?_); (case side1 => exact Glob.below HG.out (by repeat (first | (with_reducible first | exact HB.out | apply below_alloc | apply pw_below_drewN | apply below_drew1) | exact HB.out))); rintro e w18 ⟨rfl, hb⟩; refine ⟨_, rfl, ?_⟩; have n0_ := Aside0.mk (below_step (by repeat (first | (with_reducible first | exact HB.out | apply below_alloc | apply pw_below_drewN | apply below_drew1) | exact HB.out)) hb); clear HB; have HB := n0_; clear n0_; (try clear hb); (try clear hb2); (try clear hk); (try clear hi)) | ((with_reducible refine gate_callee (f := 25) rfl ?_); refine goesL_ (some 32) rfl rfl Tryd.func25 (by kernel_rfl) rfl #[.int .i64 (wrap64 (Int.tdiv a0 86400))] rfl (by (try simp only [List.map_toArray, List.map_cons, List.map_nil]); first | done | rfl | (simp only [List.length_drop, List.length_take]; rfl)) ?_; (with_reducible refine (strconv_Itoa_25.calls (wrap64 (Int.tdiv a0 86400)) t155 _ ?side1 A13.out).mono ?_); (case side1 => exact Glob.below HG.out (by repeat (first | (with_reducible first | exact HB.out | apply below_alloc | apply pw_below_drewN | apply below_drew1) | exact HB.out))); rintro e w19 ⟨rfl, hb⟩; refine ⟨_, rfl, ?_⟩; have n0_ := Aside0.mk (below_step (by repeat (first | (with_reducible first | exact HB.out | apply below_alloc | apply pw_below_drewN | apply below_drew1) | exact HB.out)) hb); clear HB; have HB := n0_; clear n0_; (try clear hb); (try clear hb2); (try clear hk); (try clear hi)))
                      go_ret2
                      exact ⟨by first | rfl | (simp [errW_none, errW_some] <;> rfl) | (simp [*, errW_none, errW_some] <;> rfl), by repeat (first | (with_reducible first | exact HB.out | apply below_alloc | apply pw_below_drewN | apply below_drew1) | exact HB.out)⟩
                    · rw [if_neg c15] at H
                      exact absurd H (by simp)
                  · rw [if_neg c14] at H
                    exact absurd H (by simp)
                · rw [if_neg c12] at H
                  have c12b0 : decide (0 < (wrap64 (Int.tdiv a0 86400))) = false := decide_eq_false c12
                  clear c12
                  simp only [Option.some.injEq, Prod.mk.injEq] at H
                  obtain ⟨rfl, rfl⟩ := H
                  go_wp2_with (first | ((with_reducible refine gate_callee (f := 24) rfl ?_); refine goesL_ (some 15) rfl rfl Tryd.func24 (by kernel_rfl) rfl #[.int .i64 (Int.tmod (wrap64 (Int.tdiv a0 3600)) 24)] rfl (by (try simp only [List.map_toArray, List.map_cons, List.map_nil]); first | done | rfl | (simp only [List.length_drop, List.length_take]; rfl)) ?_; (with_reducible refine (clock_two.calls (Int.tmod (wrap64 (Int.tdiv a0 3600)) 24) t152 _ ?side1 A5.out).mono ?_); (case side1 => exact Glob.below HG.out (by repeat (first | (with_reducible first | exact HB.out | apply below_alloc | apply pw_below_drewN | apply below_drew1) | exact HB.out))); rintro e w20 ⟨rfl, hb⟩; refine ⟨_, rfl, ?_⟩; have n0_ := Aside0.mk (below_step (by repeat (first | (with_reducible first | exact HB.out | apply below_alloc | apply pw_below_drewN | apply below_drew1) | exact HB.out)) hb); clear HB; have HB := n0_; clear n0_; (try clear hb); (try clear hb2); (try clear hk); (try clear hi)) | ((with_reducible refine gate_callee (f := 24) rfl ?_); refine goesL_ (some 20) rfl rfl Tryd.func24 (by kernel_rfl) rfl #[.int .i64 (Int.tmod (wrap64 (Int.tdiv a0 60)) 60)] rfl (by (try simp only [List.map_toArray, List.map_cons, List.map_nil]); first | done | rfl | (simp only [List.length_drop, List.length_take]; rfl)) ?_; (with_reducible refine (clock_two.calls (Int.tmod (wrap64 (Int.tdiv a0 60)) 60) t153 _ ?side1 A7.out).mono ?_); (case side1 => exact Glob.below HG.out (by repeat (first | (with_reducible first | exact HB.out | apply below_alloc | apply pw_below_drewN | apply below_drew1) | exact HB.out))); rintro e w21 ⟨rfl, hb⟩; refine ⟨_, rfl, ?_⟩; have n0_ := Aside0.mk (below_step (by repeat (first | (with_reducible first | exact HB.out | apply below_alloc | apply pw_below_drewN | apply below_drew1) | exact HB.out)) hb); clear HB; have HB := n0_; clear n0_; (try clear hb); (try clear hb2); (try clear hk); (try clear hi)) | ((with_reducible refine gate_callee (f := 24) rfl ?_); refine goesL_ (some 25) rfl rfl Tryd.func24 (by kernel_rfl) rfl #[.int .i64 (Int.tmod a0 60)] rfl (by (try simp only [List.map_toArray, List.map_cons, List.map_nil]); first | done | rfl | (simp only [List.length_drop, List.length_take]; rfl)) ?_; (with_reducible refine (clock_two.calls (Int.tmod a0 60) t154 _ ?side1 A10.out).mono ?_); (case side1 => exact Glob.below HG.out (by repeat (first | (with_reducible first | exact HB.out | apply below_alloc | apply pw_below_drewN | apply below_drew1) | exact HB.out))); rintro e w22 ⟨rfl, hb⟩; refine ⟨_, rfl, ?_⟩; have n0_ := Aside0.mk (below_step (by repeat (first | (with_reducible first | exact HB.out | apply below_alloc | apply pw_below_drewN | apply below_drew1) | exact HB.out)) hb); clear HB; have HB := n0_; clear n0_; (try clear hb); (try clear hb2); (try clear hk); (try clear hi)))
                  go_ret2
                  exact ⟨by first | rfl | (simp [errW_none, errW_some] <;> rfl) | (simp [*, errW_none, errW_some] <;> rfl), by repeat (first | (with_reducible first | exact HB.out | apply below_alloc | apply pw_below_drewN | apply below_drew1) | exact HB.out)⟩
              · rw [if_neg c11] at H
                exact absurd H (by simp)
            · rw [if_neg c9] at H
              exact absurd H (by simp)
          · rw [if_neg c8] at H
            exact absurd H (by simp)
        · rw [if_neg c6] at H
          exact absurd H (by simp)

/-! ### clock_Minutes: function 15 -/
def clock_Minutes.f (a0 : Int) : Option (Int) := if a0 < 1 then (some 0) else (some (wrap64 ((wrap64 (Int.tdiv (wrap64 (a0 - 1)) 60)) + 1)))
set_option maxHeartbeats 8000000 in
set_option maxRecDepth 100000 in
theorem clock_Minutes.calls (a0 : Int) (r : Int) (w : World) (h : clock_Minutes.f a0 = some r) :
    Calls Tryd.prog 15 #[.int .i64 a0] w fun e w' => e = .returned (.int .i64 r) ∧ Drawn0 w w' := by
  have H : (if a0 < 1 then (some 0) else (some (wrap64 ((wrap64 (Int.tdiv (wrap64 (a0 - 1)) 60)) + 1)))) = some r := h
  clear h
  by_cases c2 : a0 < 1
  · rw [if_pos c2] at H
    have c2b0 : decide (a0 < 1) = true := decide_eq_true c2
    clear c2
    obtain rfl := Option.some.inj H
    go_enter Tryd.func15, Tryd.ntmps15
    go_wp2
    go_ret
    exact ⟨by first | rfl | (simp; done) | (simp [*]; done), by repeat (first | exact Drawn0.refl _ | apply Drawn0.step)⟩
  · rw [if_neg c2] at H
    have c2b0 : decide (a0 < 1) = false := decide_eq_false c2
    clear c2
    obtain rfl := Option.some.inj H
    go_enter Tryd.func15, Tryd.ntmps15
    go_wp2
    go_ret
    exact ⟨by first | rfl | (simp; done) | (simp [*]; done), by repeat (first | exact Drawn0.refl _ | apply Drawn0.step)⟩

/-! ### gangerlaw07_known: function 10 -/
def gangerlaw07_known.f (k : Nat)  : Option (Bool) := (clock_Parse.f k (⟨#[57, 48]⟩ : ByteArray)).bind fun bt156 => ((clock_Parse.f k (⟨#[49, 45, 50]⟩ : ByteArray)).bind fun bt158 => ((clock_Parse.f k (⟨#[48, 58, 51, 48]⟩ : ByteArray)).bind fun bt160 => ((clock_Parse.f k (⟨#[49, 58, 54, 48]⟩ : ByteArray)).bind fun bt162 => ((clock_Parse.f k (⟨#[49, 58]⟩ : ByteArray)).bind fun bt164 => ((clock_Print.f k 93600).bind fun bt166 => ((clock_Print.f k 5400).bind fun bt168 => (if bt156.1 = 5400 then (if bt156.2 = 0 then (if bt158.1 = 93600 then (if bt160.1 = 30 then (if bt162.2 = 2 then (if bt164.2 = 60 then (if bt166.1.toList = ([49, 45, 48, 50, 58, 48, 48, 58, 48, 48] : List UInt8) then (if bt166.2 = 0 then (if bt168.1.toList = ([48, 49, 58, 51, 48, 58, 48, 48] : List UInt8) then ((clock_Minutes.f 61).bind fun t170 => (some (t170 == 2))) else (none)) else (none)) else (none)) else (none)) else (none)) else (none)) else (none)) else (none)) else (none))))))))
theorem gangerlaw07_known.mono : ∀ k, LeO (gangerlaw07_known.f k ) (gangerlaw07_known.f (k + 1) ) := by
  intro  k
  unfold gangerlaw07_known.f
  repeat' first
      | (with_reducible exact clock_Parse.mono _ _)
      | (with_reducible exact clock_Print.mono _ _)
      | (with_reducible exact LeO.refl _)
      | (with_reducible exact LeO.none _)
      | (with_reducible refine LeO.ite ?_ ?_)
      | (with_reducible refine LeO.bind ?_ (fun _ => ?_))
      | exact clock_Parse.mono _ _
      | exact clock_Print.mono _ _
      | exact LeO.none _
      | refine LeO.ite ?_ ?_
      | refine LeO.bind ?_ (fun _ => ?_)
set_option maxHeartbeats 8000000 in
set_option maxRecDepth 100000 in
theorem gangerlaw07_known.calls (k : Nat)  (r : Bool) (w : World) (hG : Glob w) (h : gangerlaw07_known.f k  = some r) :
    Calls Tryd.prog 10 #[] w fun e w' => e = .returned (.bool r) ∧ Below w.heap.size w w' := by
  have HG := Aside0.mk hG
  clear hG
  have HB := Aside0.mk (Below.refl w.heap.size w)
  have H : ((clock_Parse.f k (⟨#[57, 48]⟩ : ByteArray)).bind fun bt156 => ((clock_Parse.f k (⟨#[49, 45, 50]⟩ : ByteArray)).bind fun bt158 => ((clock_Parse.f k (⟨#[48, 58, 51, 48]⟩ : ByteArray)).bind fun bt160 => ((clock_Parse.f k (⟨#[49, 58, 54, 48]⟩ : ByteArray)).bind fun bt162 => ((clock_Parse.f k (⟨#[49, 58]⟩ : ByteArray)).bind fun bt164 => ((clock_Print.f k 93600).bind fun bt166 => ((clock_Print.f k 5400).bind fun bt168 => (if bt156.1 = 5400 then (if bt156.2 = 0 then (if bt158.1 = 93600 then (if bt160.1 = 30 then (if bt162.2 = 2 then (if bt164.2 = 60 then (if bt166.1.toList = ([49, 45, 48, 50, 58, 48, 48, 58, 48, 48] : List UInt8) then (if bt166.2 = 0 then (if bt168.1.toList = ([48, 49, 58, 51, 48, 58, 48, 48] : List UInt8) then ((clock_Minutes.f 61).bind fun t170 => (some (t170 == 2))) else (none)) else (none)) else (none)) else (none)) else (none)) else (none)) else (none)) else (none)) else (none))))))))) = some r := h
  clear h
  replace H := Option.bind_eq_some_iff.mp H
  obtain ⟨⟨t156, t157⟩, A10, H⟩ := H
  replace H : ((clock_Parse.f k (⟨#[49, 45, 50]⟩ : ByteArray)).bind fun bt158 => ((clock_Parse.f k (⟨#[48, 58, 51, 48]⟩ : ByteArray)).bind fun bt160 => ((clock_Parse.f k (⟨#[49, 58, 54, 48]⟩ : ByteArray)).bind fun bt162 => ((clock_Parse.f k (⟨#[49, 58]⟩ : ByteArray)).bind fun bt164 => ((clock_Print.f k 93600).bind fun bt166 => ((clock_Print.f k 5400).bind fun bt168 => (if t156 = 5400 then (if t157 = 0 then (if bt158.1 = 93600 then (if bt160.1 = 30 then (if bt162.2 = 2 then (if bt164.2 = 60 then (if bt166.1.toList = ([49, 45, 48, 50, 58, 48, 48, 58, 48, 48] : List UInt8) then (if bt166.2 = 0 then (if bt168.1.toList = ([48, 49, 58, 51, 48, 58, 48, 48] : List UInt8) then ((clock_Minutes.f 61).bind fun t170 => (some (t170 == 2))) else (none)) else (none)) else (none)) else (none)) else (none)) else (none)) else (none)) else (none)) else (none)))))))) = some r := H
  have A1 := Aside0.mk A10
  clear A10
  replace H := Option.bind_eq_some_iff.mp H
  obtain ⟨⟨t158, t159⟩, A20, H⟩ := H
  replace H : ((clock_Parse.f k (⟨#[48, 58, 51, 48]⟩ : ByteArray)).bind fun bt160 => ((clock_Parse.f k (⟨#[49, 58, 54, 48]⟩ : ByteArray)).bind fun bt162 => ((clock_Parse.f k (⟨#[49, 58]⟩ : ByteArray)).bind fun bt164 => ((clock_Print.f k 93600).bind fun bt166 => ((clock_Print.f k 5400).bind fun bt168 => (if t156 = 5400 then (if t157 = 0 then (if t158 = 93600 then (if bt160.1 = 30 then (if bt162.2 = 2 then (if bt164.2 = 60 then (if bt166.1.toList = ([49, 45, 48, 50, 58, 48, 48, 58, 48, 48] : List UInt8) then (if bt166.2 = 0 then (if bt168.1.toList = ([48, 49, 58, 51, 48, 58, 48, 48] : List UInt8) then ((clock_Minutes.f 61).bind fun t170 => (some (t170 == 2))) else (none)) else (none)) else (none)) else (none)) else (none)) else (none)) else (none)) else (none)) else (none))))))) = some r := H
  have A2 := Aside0.mk A20
  clear A20
  replace H := Option.bind_eq_some_iff.mp H
  obtain ⟨⟨t160, t161⟩, A30, H⟩ := H
  replace H : ((clock_Parse.f k (⟨#[49, 58, 54, 48]⟩ : ByteArray)).bind fun bt162 => ((clock_Parse.f k (⟨#[49, 58]⟩ : ByteArray)).bind fun bt164 => ((clock_Print.f k 93600).bind fun bt166 => ((clock_Print.f k 5400).bind fun bt168 => (if t156 = 5400 then (if t157 = 0 then (if t158 = 93600 then (if t160 = 30 then (if bt162.2 = 2 then (if bt164.2 = 60 then (if bt166.1.toList = ([49, 45, 48, 50, 58, 48, 48, 58, 48, 48] : List UInt8) then (if bt166.2 = 0 then (if bt168.1.toList = ([48, 49, 58, 51, 48, 58, 48, 48] : List UInt8) then ((clock_Minutes.f 61).bind fun t170 => (some (t170 == 2))) else (none)) else (none)) else (none)) else (none)) else (none)) else (none)) else (none)) else (none)) else (none)))))) = some r := H
  have A3 := Aside0.mk A30
  clear A30
  replace H := Option.bind_eq_some_iff.mp H
  obtain ⟨⟨t162, t163⟩, A40, H⟩ := H
  replace H : ((clock_Parse.f k (⟨#[49, 58]⟩ : ByteArray)).bind fun bt164 => ((clock_Print.f k 93600).bind fun bt166 => ((clock_Print.f k 5400).bind fun bt168 => (if t156 = 5400 then (if t157 = 0 then (if t158 = 93600 then (if t160 = 30 then (if t163 = 2 then (if bt164.2 = 60 then (if bt166.1.toList = ([49, 45, 48, 50, 58, 48, 48, 58, 48, 48] : List UInt8) then (if bt166.2 = 0 then (if bt168.1.toList = ([48, 49, 58, 51, 48, 58, 48, 48] : List UInt8) then ((clock_Minutes.f 61).bind fun t170 => (some (t170 == 2))) else (none)) else (none)) else (none)) else (none)) else (none)) else (none)) else (none)) else (none)) else (none))))) = some r := H
  have A4 := Aside0.mk A40
  clear A40
  replace H := Option.bind_eq_some_iff.mp H
  obtain ⟨⟨t164, t165⟩, A50, H⟩ := H
  replace H : ((clock_Print.f k 93600).bind fun bt166 => ((clock_Print.f k 5400).bind fun bt168 => (if t156 = 5400 then (if t157 = 0 then (if t158 = 93600 then (if t160 = 30 then (if t163 = 2 then (if t165 = 60 then (if bt166.1.toList = ([49, 45, 48, 50, 58, 48, 48, 58, 48, 48] : List UInt8) then (if bt166.2 = 0 then (if bt168.1.toList = ([48, 49, 58, 51, 48, 58, 48, 48] : List UInt8) then ((clock_Minutes.f 61).bind fun t170 => (some (t170 == 2))) else (none)) else (none)) else (none)) else (none)) else (none)) else (none)) else (none)) else (none)) else (none)))) = some r := H
  have A5 := Aside0.mk A50
  clear A50
  replace H := Option.bind_eq_some_iff.mp H
  obtain ⟨⟨t166, t167⟩, A60, H⟩ := H
  replace H : ((clock_Print.f k 5400).bind fun bt168 => (if t156 = 5400 then (if t157 = 0 then (if t158 = 93600 then (if t160 = 30 then (if t163 = 2 then (if t165 = 60 then (if t166.toList = ([49, 45, 48, 50, 58, 48, 48, 58, 48, 48] : List UInt8) then (if t167 = 0 then (if bt168.1.toList = ([48, 49, 58, 51, 48, 58, 48, 48] : List UInt8) then ((clock_Minutes.f 61).bind fun t170 => (some (t170 == 2))) else (none)) else (none)) else (none)) else (none)) else (none)) else (none)) else (none)) else (none)) else (none))) = some r := H
  have A6 := Aside0.mk A60
  clear A60
  replace H := Option.bind_eq_some_iff.mp H
  obtain ⟨⟨t168, t169⟩, A70, H⟩ := H
  replace H : (if t156 = 5400 then (if t157 = 0 then (if t158 = 93600 then (if t160 = 30 then (if t163 = 2 then (if t165 = 60 then (if t166.toList = ([49, 45, 48, 50, 58, 48, 48, 58, 48, 48] : List UInt8) then (if t167 = 0 then (if t168.toList = ([48, 49, 58, 51, 48, 58, 48, 48] : List UInt8) then ((clock_Minutes.f 61).bind fun t170 => (some (t170 == 2))) else (none)) else (none)) else (none)) else (none)) else (none)) else (none)) else (none)) else (none)) else (none)) = some r := H
  have A7 := Aside0.mk A70
  clear A70
  by_cases c8 : t156 = 5400
  · rw [if_pos c8] at H
    have c8b0 : (t156 == 5400) = true := beq_iff_eq.mpr c8
    have c8b1 : (t156 != 5400) = false := bne_eq_false_iff_eq.mpr c8
    clear c8
    by_cases c9 : t157 = 0
    · rw [if_pos c9] at H
      have c9b0 : (t157 == 0) = true := beq_iff_eq.mpr c9
      have c9b1 : (t157 != 0) = false := bne_eq_false_iff_eq.mpr c9
      clear c9
      by_cases c10 : t158 = 93600
      · rw [if_pos c10] at H
        have c10b0 : (t158 == 93600) = true := beq_iff_eq.mpr c10
        have c10b1 : (t158 != 93600) = false := bne_eq_false_iff_eq.mpr c10
        clear c10
        by_cases c11 : t160 = 30
        · rw [if_pos c11] at H
          have c11b0 : (t160 == 30) = true := beq_iff_eq.mpr c11
          have c11b1 : (t160 != 30) = false := bne_eq_false_iff_eq.mpr c11
          clear c11
          by_cases c12 : t163 = 2
          · rw [if_pos c12] at H
            have c12b0 : (t163 == 2) = true := beq_iff_eq.mpr c12
            have c12b1 : (t163 != 2) = false := bne_eq_false_iff_eq.mpr c12
            clear c12
            by_cases c13 : t165 = 60
            · rw [if_pos c13] at H
              have c13b0 : (t165 == 60) = true := beq_iff_eq.mpr c13
              have c13b1 : (t165 != 60) = false := bne_eq_false_iff_eq.mpr c13
              clear c13
              by_cases c14 : t166.toList = ([49, 45, 48, 50, 58, 48, 48, 58, 48, 48] : List UInt8)
              · rw [if_pos c14] at H
                have c14b0 : (t166.toList == ([49, 45, 48, 50, 58, 48, 48, 58, 48, 48] : List UInt8)) = true := beq_iff_eq.mpr c14
                have c14b1 : (t166.toList != ([49, 45, 48, 50, 58, 48, 48, 58, 48, 48] : List UInt8)) = false := bne_eq_false_iff_eq.mpr c14
                clear c14
                by_cases c15 : t167 = 0
                · rw [if_pos c15] at H
                  have c15b0 : (t167 == 0) = true := beq_iff_eq.mpr c15
                  have c15b1 : (t167 != 0) = false := bne_eq_false_iff_eq.mpr c15
                  clear c15
                  by_cases c16 : t168.toList = ([48, 49, 58, 51, 48, 58, 48, 48] : List UInt8)
                  · rw [if_pos c16] at H
                    have c16b0 : (t168.toList == ([48, 49, 58, 51, 48, 58, 48, 48] : List UInt8)) = true := beq_iff_eq.mpr c16
                    have c16b1 : (t168.toList != ([48, 49, 58, 51, 48, 58, 48, 48] : List UInt8)) = false := bne_eq_false_iff_eq.mpr c16
                    clear c16
                    replace H := Option.bind_eq_some_iff.mp H
                    obtain ⟨t170, A170, H⟩ := H
                    replace H : (some (t170 == 2)) = some r := H
                    have A17 := Aside0.mk A170
                    clear A170
                    obtain rfl := Option.some.inj H
                    go_enter Tryd.func10, Tryd.ntmps10
                    go_wp2_with (first | ((with_reducible refine gate_callee (f := 11) rfl ?_); refine goesL_ (some 16) rfl rfl Tryd.func11 (by kernel_rfl) rfl #[.string (⟨#[57, 48]⟩ : ByteArray)] rfl (by (try simp only [List.map_toArray, List.map_cons, List.map_nil]); first | done | rfl | (simp only [List.length_drop, List.length_take]; rfl)) ?_; (with_reducible refine (clock_Parse.calls k (⟨#[57, 48]⟩ : ByteArray) t156 t157 _ ?side1 A1.out).mono ?_); (case side1 => exact Glob.below HG.out (by repeat (first | (with_reducible first | exact HB.out | apply below_alloc | apply pw_below_drewN | apply below_drew1) | exact HB.out))); rintro e w18 ⟨rfl, hb⟩; refine ⟨_, rfl, ?_⟩; have n0_ := Aside0.mk (below_step (by repeat (first | (with_reducible first | exact HB.out | apply below_alloc | apply pw_below_drewN | apply below_drew1) | exact HB.out)) hb); clear HB; have HB := n0_; clear n0_; (try clear hb); (try clear hb2); (try clear hk); (try clear hi)) | ((with_reducible refine gate_callee (f := 11) rfl ?_); refine goesL_ (some 20) rfl rfl Tryd.func11 (by kernel_rfl) rfl #[.string (⟨#[49, 45, 50]⟩ : ByteArray)] rfl (by (try simp only [List.map_toArray, List.map_cons, List.map_nil]); first | done | rfl | (simp only [List.length_drop, List.length_take]; rfl)) ?_; (with_reducible refine (clock_Parse.calls k (⟨#[49, 45, 50]⟩ : ByteArray) t158 t159 _ ?side1 A2.out).mono ?_); (case side1 => exact Glob.below HG.out (by repeat (first | (with_reducible first | exact HB.out | apply below_alloc | apply pw_below_drewN | apply below_drew1) | exact HB.out))); rintro e w19 ⟨rfl, hb⟩; refine ⟨_, rfl, ?_⟩; have n0_ := Aside0.mk (below_step (by repeat (first | (with_reducible first | exact HB.out | apply below_alloc | apply pw_below_drewN | apply below_drew1) | exact HB.out)) hb); clear HB; have HB := n0_; clear n0_; (try clear hb); (try clear hb2); (try clear hk); (try clear hi)) | ((with_reducible refine gate_callee (f := 11) rfl ?_); refine goesL_ (some 24) rfl rfl Tryd.func11 (by kernel_rfl) rfl #[.string (⟨#[48, 58, 51, 48]⟩ : ByteArray)] rfl (by (try simp only [List.map_toArray, List.map_cons, List.map_nil]); first | done | rfl | (simp only [List.length_drop, List.length_take]; rfl)) ?_; (with_reducible refine (clock_Parse.calls k (⟨#[48, 58, 51, 48]⟩ : ByteArray) t160 t161 _ ?side1 A3.out).mono ?_); (case side1 => exact Glob.below HG.out (by repeat (first | (with_reducible first | exact HB.out | apply below_alloc | apply pw_below_drewN | apply below_drew1) | exact HB.out))); rintro e w20 ⟨rfl, hb⟩; refine ⟨_, rfl, ?_⟩; have n0_ := Aside0.mk (below_step (by repeat (first | (with_reducible first | exact HB.out | apply below_alloc | apply pw_below_drewN | apply below_drew1) | exact HB.out)) hb); clear HB; have HB := n0_; clear n0_; (try clear hb); (try clear hb2); (try clear hk); (try clear hi)) | ((with_reducible refine gate_callee (f := 11) rfl ?_); refine goesL_ (some 28) rfl rfl Tryd.func11 (by kernel_rfl) rfl #[.string (⟨#[49, 58, 54, 48]⟩ : ByteArray)] rfl (by (try simp only [List.map_toArray, List.map_cons, List.map_nil]); first | done | rfl | (simp only [List.length_drop, List.length_take]; rfl)) ?_; (with_reducible refine (clock_Parse.calls k (⟨#[49, 58, 54, 48]⟩ : ByteArray) t162 t163 _ ?side1 A4.out).mono ?_); (case side1 => exact Glob.below HG.out (by repeat (first | (with_reducible first | exact HB.out | apply below_alloc | apply pw_below_drewN | apply below_drew1) | exact HB.out))); rintro e w21 ⟨rfl, hb⟩; refine ⟨_, rfl, ?_⟩; have n0_ := Aside0.mk (below_step (by repeat (first | (with_reducible first | exact HB.out | apply below_alloc | apply pw_below_drewN | apply below_drew1) | exact HB.out)) hb); clear HB; have HB := n0_; clear n0_; (try clear hb); (try clear hb2); (try clear hk); (try clear hi)) | ((with_reducible refine gate_callee (f := 11) rfl ?_); refine goesL_ (some 32) rfl rfl Tryd.func11 (by kernel_rfl) rfl #[.string (⟨#[49, 58]⟩ : ByteArray)] rfl (by (try simp only [List.map_toArray, List.map_cons, List.map_nil]); first | done | rfl | (simp only [List.length_drop, List.length_take]; rfl)) ?_; (with_reducible refine (clock_Parse.calls k (⟨#[49, 58]⟩ : ByteArray) t164 t165 _ ?side1 A5.out).mono ?_); (case side1 => exact Glob.below HG.out (by repeat (first | (with_reducible first | exact HB.out | apply below_alloc | apply pw_below_drewN | apply below_drew1) | exact HB.out))); rintro e w22 ⟨rfl, hb⟩; refine ⟨_, rfl, ?_⟩; have n0_ := Aside0.mk (below_step (by repeat (first | (with_reducible first | exact HB.out | apply below_alloc | apply pw_below_drewN | apply below_drew1) | exact HB.out)) hb); clear HB; have HB := n0_; clear n0_; (try clear hb); (try clear hb2); (try clear hk); (try clear hi)) | ((with_reducible refine gate_callee (f := 13) rfl ?_); refine goesL_ (some 36) rfl rfl Tryd.func13 (by kernel_rfl) rfl #[.int .i64 93600] rfl (by (try simp only [List.map_toArray, List.map_cons, List.map_nil]); first | done | rfl | (simp only [List.length_drop, List.length_take]; rfl)) ?_; (with_reducible refine (clock_Print.calls k 93600 t166 t167 _ ?side1 A6.out).mono ?_); (case side1 => exact Glob.below HG.out (by repeat (first | (with_reducible first | exact HB.out | apply below_alloc | apply pw_below_drewN | apply below_drew1) | exact HB.out))); rintro e w23 ⟨rfl, hb⟩; refine ⟨_, rfl, ?_⟩; have n0_ := Aside0.mk (below_step (by repeat (first | (with_reducible first | exact HB.out | apply below_alloc | apply pw_below_drewN | apply below_drew1) | exact HB.out)) hb); clear HB; have HB := n0_; clear n0_; (try clear hb); (try clear hb2); (try clear hk); (try clear hi)) | ((with_reducible refine gate_callee (f := 13) rfl ?_); refine goesL_ (some 40) rfl rfl Tryd.func13 (by kernel_rfl) rfl #[.int .i64 5400] rfl (by (try simp only [List.map_toArray, List.map_cons, List.map_nil]); first | done | rfl | (simp only [List.length_drop, List.length_take]; rfl)) ?_; (with_reducible refine (clock_Print.calls k 5400 t168 t169 _ ?side1 A7.out).mono ?_); (case side1 => exact Glob.below HG.out (by repeat (first | (with_reducible first | exact HB.out | apply below_alloc | apply pw_below_drewN | apply below_drew1) | exact HB.out))); rintro e w24 ⟨rfl, hb⟩; refine ⟨_, rfl, ?_⟩; have n0_ := Aside0.mk (below_step (by repeat (first | (with_reducible first | exact HB.out | apply below_alloc | apply pw_below_drewN | apply below_drew1) | exact HB.out)) hb); clear HB; have HB := n0_; clear n0_; (try clear hb); (try clear hb2); (try clear hk); (try clear hi)) | (go_at_call 15; (with_reducible refine (clock_Minutes.calls 61 t170 _ A17.out).mono ?_); rintro e w' ⟨rfl, ⟨nd, rfl⟩⟩))
                    go_ret
                    exact ⟨by first | rfl | (simp [errW_none, errW_some] <;> rfl) | (simp [*, errW_none, errW_some] <;> rfl), by repeat (first | (with_reducible first | exact HB.out | apply below_alloc | apply pw_below_drewN | apply below_drew1) | exact HB.out)⟩
                  · rw [if_neg c16] at H
                    exact absurd H (by simp)
                · rw [if_neg c15] at H
                  exact absurd H (by simp)
              · rw [if_neg c14] at H
                exact absurd H (by simp)
            · rw [if_neg c13] at H
              exact absurd H (by simp)
          · rw [if_neg c12] at H
            exact absurd H (by simp)
        · rw [if_neg c11] at H
          exact absurd H (by simp)
      · rw [if_neg c10] at H
        exact absurd H (by simp)
    · rw [if_neg c9] at H
      exact absurd H (by simp)
  · rw [if_neg c8] at H
    exact absurd H (by simp)

/-! ### gangerref07_cut: function 22 -/
def gangerref07_cut.l0 : Nat → ByteArray → List ByteArray → ByteArray → Int → Int → Option (List ByteArray × ByteArray)
  | 0, _, _, _, _, _ => none
  | k + 1, x0, x4, x5, x6, x7 => if x7 < (x0.size : Int) then (if 0 ≤ x7 then (if (bt x0 x7) = 45 then (if 0 ≤ x6 then (if x6 ≤ x7 then (if x7 ≤ (x0.size : Int) then (if x4.length < 8796093022208 then (if x7 ≤ (wrap64 (x7 + 1)) then (if (wrap64 (x7 + 1)) ≤ (x0.size : Int) then (if x5.size + (x0.extract (x7 : Int).toNat ((wrap64 (x7 + 1)) : Int).toNat).size ≤ 9223372036854775807 then (gangerref07_cut.l0 k x0 (x4 ++ [x0.extract (x6 : Int).toNat (x7 : Int).toNat]) (x5 ++ (x0.extract (x7 : Int).toNat ((wrap64 (x7 + 1)) : Int).toNat)) (wrap64 (x7 + 1)) (wrap64 (x7 + 1))) else (none)) else (none)) else (none)) else (none)) else (none)) else (none)) else (none)) else (if (bt x0 x7) = 58 then (if 0 ≤ x6 then (if x6 ≤ x7 then (if x7 ≤ (x0.size : Int) then (if x4.length < 8796093022208 then (if x7 ≤ (wrap64 (x7 + 1)) then (if (wrap64 (x7 + 1)) ≤ (x0.size : Int) then (if x5.size + (x0.extract (x7 : Int).toNat ((wrap64 (x7 + 1)) : Int).toNat).size ≤ 9223372036854775807 then (gangerref07_cut.l0 k x0 (x4 ++ [x0.extract (x6 : Int).toNat (x7 : Int).toNat]) (x5 ++ (x0.extract (x7 : Int).toNat ((wrap64 (x7 + 1)) : Int).toNat)) (wrap64 (x7 + 1)) (wrap64 (x7 + 1))) else (none)) else (none)) else (none)) else (none)) else (none)) else (none)) else (none)) else (gangerref07_cut.l0 k x0 x4 x5 x6 (wrap64 (x7 + 1))))) else (none)) else (if 0 ≤ x6 then (if x6 ≤ (x0.size : Int) then (if x4.length < 8796093022208 then (some ((x4 ++ [x0.extract (x6 : Int).toNat x0.size]), x5)) else (none)) else (none)) else (none))
def gangerref07_cut.f (k : Nat) (a0 : ByteArray) : Option (List ByteArray × ByteArray) := gangerref07_cut.l0 k a0 ([] : List ByteArray) (⟨#[]⟩ : ByteArray) 0 0
theorem gangerref07_cut.mono_l : ∀ k, (∀ y0 y1 y2 y3 y4, LeO (gangerref07_cut.l0 k y0 y1 y2 y3 y4) (gangerref07_cut.l0 (k + 1) y0 y1 y2 y3 y4))
  | 0 => fun _ _ _ _ _ r h => by simp [gangerref07_cut.l0] at h
  | k + 1 => by
    have ih0 := gangerref07_cut.mono_l k
    · intro y0 y1 y2 y3 y4
      unfold gangerref07_cut.l0
      repeat' first
      | (with_reducible exact ih0 _ _ _ _ _)
      | (with_reducible exact LeO.refl _)
      | (with_reducible exact LeO.none _)
      | (with_reducible refine LeO.ite ?_ ?_)
      | (with_reducible refine LeO.bind ?_ (fun _ => ?_))
      | exact ih0 _ _ _ _ _
      | exact LeO.none _
      | refine LeO.ite ?_ ?_
      | refine LeO.bind ?_ (fun _ => ?_)
theorem gangerref07_cut.mono : ∀ a0 k, LeO (gangerref07_cut.f k a0) (gangerref07_cut.f (k + 1) a0) := by
  intro a0 k
  have ih0 := gangerref07_cut.mono_l k
  unfold gangerref07_cut.f
  repeat' first
      | (with_reducible exact ih0 _ _ _ _ _)
      | (with_reducible exact LeO.refl _)
      | (with_reducible exact LeO.none _)
      | (with_reducible refine LeO.ite ?_ ?_)
      | (with_reducible refine LeO.bind ?_ (fun _ => ?_))
      | exact ih0 _ _ _ _ _
      | exact LeO.none _
      | refine LeO.ite ?_ ?_
      | refine LeO.bind ?_ (fun _ => ?_)
set_option maxHeartbeats 8000000 in
set_option maxRecDepth 100000 in
theorem gangerref07_cut.calls (k : Nat) (a0 : ByteArray) (r1 : List ByteArray) (r2 : ByteArray) (w : World) (h : gangerref07_cut.f k a0 = some (r1, r2)) :
    Calls Tryd.prog 22 #[.string a0] w fun e w' => ∃ v0_ : Value, e = .returned (.tuple #[v0_, .string r2]) ∧ Kd.R Kd.string 9 w' w.heap.size (fun _ => True) v0_ r1 ∧ Below w.heap.size w w' := by
  have HB := Aside0.mk (Below.refl w.heap.size w)
  have H : (gangerref07_cut.l0 k a0 ([] : List ByteArray) (⟨#[]⟩ : ByteArray) 0 0) = some (r1, r2) := h
  clear h
  have H' := Aside0.mk H
  clear H
  go_enter Tryd.func22, Tryd.ntmps22
  go_wp2
  go_loopg [4, 5, 6, 7] k (fun kq v4 v5 v6 v7 w' => ∃ (x4_1 : List ByteArray) (x5_1 : ByteArray) (x6_1 : Int) (x7_1 : Int), v5 = .string x5_1 ∧ v6 = .int .i64 x6_1 ∧ v7 = .int .i64 x7_1 ∧ Aside0 (gangerref07_cut.l0 kq a0 x4_1 x5_1 x6_1 x7_1 = some (r1, r2)) ∧ Aside0 (kq ≤ k) ∧ Aside0 (Kd.R Kd.string 9 w' w.heap.size (fun _ => True) v4 x4_1) ∧ Aside0 (Below w.heap.size w w'))
  case atStart => exact ⟨(([] : List ByteArray)), ((⟨#[]⟩ : ByteArray)), (0), (0), (by first | rfl | (simp; done) | (simp [*]; done)), (by first | rfl | (simp; done) | (simp [*]; done)), (by first | rfl | (simp; done) | (simp [*]; done)), H', ⟨Nat.le_refl _⟩, ⟨by first | exact Kd.R_nil _ _ _ _ _ | exact Kd.N_nil _ _ _ _ _ | exact Kd.V_nil _ _ _ _ _ | exact Kd.Q_nil _ _ _ _ _ | exact Kd.S_nil _ _ _ _ _⟩, ⟨by repeat (first | (with_reducible first | exact HB.out | apply below_alloc | apply pw_below_drewN | apply below_drew1) | exact HB.out)⟩⟩
  case round =>
    clear H'
    obtain ⟨x4_1, x5_1, x6_1, x7_1, rfl, rfl, rfl, HA, HK1, HO_4, HB⟩ := hrel
    cases gk with
    | zero => exact absurd HA.out (by simp [gangerref07_cut.l0])
    | succ k1 =>
      have H := HA.out
      clear HA
      simp only [gangerref07_cut.l0] at H
      by_cases c2 : x7_1 < (a0.size : Int)
      · rw [if_pos c2] at H
        have c2b0 : decide (x7_1 < (a0.size : Int)) = true := decide_eq_true c2
        clear c2
        by_cases c3 : 0 ≤ x7_1
        · rw [if_pos c3] at H
          have c3b0 : decide (0 ≤ x7_1) = true := decide_eq_true c3
          clear c3
          by_cases c5 : (bt a0 x7_1) = 45
          · rw [if_pos c5] at H
            have c5b0 : ((bt a0 x7_1) == 45) = true := beq_iff_eq.mpr c5
            have c5b1 : ((bt a0 x7_1) != 45) = false := bne_eq_false_iff_eq.mpr c5
            clear c5
            by_cases c6 : 0 ≤ x6_1
            · rw [if_pos c6] at H
              have c6b0 := eq_true c6
              have c6b1 : decide (0 ≤ x6_1) = true := decide_eq_true c6
              clear c6
              by_cases c7 : x6_1 ≤ x7_1
              · rw [if_pos c7] at H
                have c7b0 := eq_true c7
                have c7b1 : decide (x6_1 ≤ x7_1) = true := decide_eq_true c7
                clear c7
                by_cases c8 : x7_1 ≤ (a0.size : Int)
                · rw [if_pos c8] at H
                  have c8b0 := eq_true c8
                  have c8b1 : decide (x7_1 ≤ (a0.size : Int)) = true := decide_eq_true c8
                  clear c8
                  by_cases c9 : x4_1.length < 8796093022208
                  · rw [if_pos c9] at H
                    have LMc9 := Aside0.mk c9
                    clear c9
                    obtain ⟨y171, hy171⟩ : ∃ y_ : List ByteArray, y_ = (x4_1 ++ [a0.extract (x6_1 : Int).toNat (x7_1 : Int).toNat]) := ⟨_, rfl⟩
                    replace H : (if x7_1 ≤ (wrap64 (x7_1 + 1)) then (if (wrap64 (x7_1 + 1)) ≤ (a0.size : Int) then (if x5_1.size + (a0.extract (x7_1 : Int).toNat ((wrap64 (x7_1 + 1)) : Int).toNat).size ≤ 9223372036854775807 then (gangerref07_cut.l0 k1 a0 y171 (x5_1 ++ (a0.extract (x7_1 : Int).toNat ((wrap64 (x7_1 + 1)) : Int).toNat)) (wrap64 (x7_1 + 1)) (wrap64 (x7_1 + 1))) else (none)) else (none)) else (none)) = some (r1, r2) := by first | (rw [hy171]; with_reducible exact H) | (have H2_ := (Option.bind_some _ _).symm.trans H; rw [hy171]; with_reducible exact H2_) | (have H2_ := (Option.bind_some _ _).symm.trans H; with_reducible exact H2_) | with_reducible exact H | (rw [hy171]; exact H) | exact H
                    have Ny171 := Aside0.mk hy171
                    clear hy171
                    have c10b0 := eq_true (of_decide_eq_true (by first | (with_reducible assumption) | assumption) : 0 ≤ x7_1)
                    by_cases c11 : x7_1 ≤ (wrap64 (x7_1 + 1))
                    · rw [if_pos c11] at H
                      have c11b0 := eq_true c11
                      have c11b1 : decide (x7_1 ≤ (wrap64 (x7_1 + 1))) = true := decide_eq_true c11
                      by_cases c12 : (wrap64 (x7_1 + 1)) ≤ (a0.size : Int)
                      · rw [if_pos c12] at H
                        have c12b0 := eq_true c12
                        have c12b1 : decide ((wrap64 (x7_1 + 1)) ≤ (a0.size : Int)) = true := decide_eq_true c12
                        by_cases c13 : x5_1.size + (a0.extract (x7_1 : Int).toNat ((wrap64 (x7_1 + 1)) : Int).toNat).size ≤ 9223372036854775807
                        · rw [if_pos c13] at H
                          have c13b0 := eq_true c13
                          have c13b1 : decide (x5_1.size + (a0.extract (x7_1 : Int).toNat ((wrap64 (x7_1 + 1)) : Int).toNat).size ≤ 9223372036854775807) = true := decide_eq_true c13
                          try have c13b2 : (9223372036854775807 < x5_1.size + (a0.extract (x7_1 : Int).toNat ((wrap64 (x7_1 + 1)) : Int).toNat).size) = False := eq_false (Nat.not_lt.2 c13)
                          try (have c13b3 := c13b2; simp only [ByteArray.size_append, size_lit1] at c13b3)
                          have H' := Aside0.mk H
                          clear H
                          have p4 : 0 ≤ (x7_1 : Int) := of_decide_eq_true (by first | (with_reducible assumption) | assumption)
                          have q4 : x7_1 < (a0.size : Int) := of_decide_eq_true (by first | (with_reducible assumption) | assumption)
                          have hx4 := bt_at a0 x7_1
                          replace p4 := eq_true p4
                          replace q4 := eq_true q4
                          go_wp2_with (first | ((with_reducible refine gate_builtin (b := .append) (xs := #[.tmp 24, .tmp 29]) rfl ?_); at_builtin; refine Kd.R_append Kd.string (w0 := w) w.heap.size rfl (.tmp 24) (.tmp 29) 46 9 (.string ⟨#[]⟩) 16 rfl Tryd.underlying46 info9 rfl (by decide) (by omega) u4 x4_1 (a0.extract (x6_1 : Int).toNat (x7_1 : Int).toNat) [.string (a0.extract (x6_1 : Int).toNat (x7_1 : Int).toNat)] (fun _ => True) (fun _ => False) rfl rfl ?aP (fun _ hk => hk.elim) ?aF ?aO ?aB ?aS ?aL ?_; (case aP => exact rfl); (case aB => exact (by repeat (first | (with_reducible first | exact HB.out | apply below_alloc | apply pw_below_drewN | apply below_drew1) | exact HB.out))); (case aF => exact (fun _ _ => trivial)); (case aO => exact (by (with_reducible repeat (first | apply Kd.R_alloc | apply Kd.R_drewN | apply Kd.R_drew)); exact HO_4.out)); (case aS => exact (below_size (by repeat (first | (with_reducible first | exact HB.out | apply below_alloc | apply pw_below_drewN | apply below_drew1) | exact HB.out)))); (case aL => have := LMc9.out; omega); intro v172 w14 ho hb hg hat; rw [← Ny171.out] at ho; have n0_ := Aside0.mk (hb); have n1_ := Aside0.mk (ho); clear HB; clear HO_4; have HB := n0_; have HO173 := n1_; clear n0_ n1_; clear ho hb hg hat))
                          go_roundg k1
                          case measure => have := HK1.out; omega
                          case rel => exact ⟨(y171), (x5_1 ++ (a0.extract (x7_1 : Int).toNat ((wrap64 (x7_1 + 1)) : Int).toNat)), (wrap64 (x7_1 + 1)), (wrap64 (x7_1 + 1)), (by first | rfl | (simp; done) | (simp [*]; done)), (by first | rfl | (simp; done) | (simp [*]; done)), (by first | rfl | (simp; done) | (simp [*]; done)), H', ⟨by have := HK1.out; omega⟩, ⟨by (with_reducible repeat (first | apply Kd.R_alloc | apply Kd.R_drewN | apply Kd.R_drew)); exact HO173.out⟩, ⟨by repeat (first | (with_reducible first | exact HB.out | apply below_alloc | apply pw_below_drewN | apply below_drew1) | exact HB.out)⟩⟩
                        · rw [if_neg c13] at H
                          exact absurd H (by simp)
                      · rw [if_neg c12] at H
                        exact absurd H (by simp)
                    · rw [if_neg c11] at H
                      exact absurd H (by simp)
                  · rw [if_neg c9] at H
                    exact absurd H (by simp)
                · rw [if_neg c8] at H
                  exact absurd H (by simp)
              · rw [if_neg c7] at H
                exact absurd H (by simp)
            · rw [if_neg c6] at H
              exact absurd H (by simp)
          · rw [if_neg c5] at H
            have c5b0 : ((bt a0 x7_1) == 45) = false := beq_eq_false_iff_ne.mpr c5
            have c5b1 : ((bt a0 x7_1) != 45) = true := bne_iff_ne.mpr c5
            by_cases c16 : (bt a0 x7_1) = 58
            · rw [if_pos c16] at H
              have c16b0 : ((bt a0 x7_1) == 58) = true := beq_iff_eq.mpr c16
              have c16b1 : ((bt a0 x7_1) != 58) = false := bne_eq_false_iff_eq.mpr c16
              clear c16
              by_cases c17 : 0 ≤ x6_1
              · rw [if_pos c17] at H
                have c17b0 := eq_true c17
                have c17b1 : decide (0 ≤ x6_1) = true := decide_eq_true c17
                clear c17
                by_cases c18 : x6_1 ≤ x7_1
                · rw [if_pos c18] at H
                  have c18b0 := eq_true c18
                  have c18b1 : decide (x6_1 ≤ x7_1) = true := decide_eq_true c18
                  clear c18
                  by_cases c19 : x7_1 ≤ (a0.size : Int)
                  · rw [if_pos c19] at H
                    have c19b0 := eq_true c19
                    have c19b1 : decide (x7_1 ≤ (a0.size : Int)) = true := decide_eq_true c19
                    clear c19
                    by_cases c20 : x4_1.length < 8796093022208
                    · rw [if_pos c20] at H
                      have LMc20 := Aside0.mk c20
                      clear c20
                      obtain ⟨y174, hy174⟩ : ∃ y_ : List ByteArray, y_ = (x4_1 ++ [a0.extract (x6_1 : Int).toNat (x7_1 : Int).toNat]) := ⟨_, rfl⟩
                      replace H : (if x7_1 ≤ (wrap64 (x7_1 + 1)) then (if (wrap64 (x7_1 + 1)) ≤ (a0.size : Int) then (if x5_1.size + (a0.extract (x7_1 : Int).toNat ((wrap64 (x7_1 + 1)) : Int).toNat).size ≤ 9223372036854775807 then (gangerref07_cut.l0 k1 a0 y174 (x5_1 ++ (a0.extract (x7_1 : Int).toNat ((wrap64 (x7_1 + 1)) : Int).toNat)) (wrap64 (x7_1 + 1)) (wrap64 (x7_1 + 1))) else (none)) else (none)) else (none)) = some (r1, r2) := by first | (rw [hy174]; with_reducible exact H) | (have H2_ := (Option.bind_some _ _).symm.trans H; rw [hy174]; with_reducible exact H2_) | (have H2_ := (Option.bind_some _ _).symm.trans H; with_reducible exact H2_) | with_reducible exact H | (rw [hy174]; exact H) | exact H
                      have Ny174 := Aside0.mk hy174
                      clear hy174
                      have c21b0 := eq_true (of_decide_eq_true (by first | (with_reducible assumption) | assumption) : 0 ≤ x7_1)
                      by_cases c22 : x7_1 ≤ (wrap64 (x7_1 + 1))
                      · rw [if_pos c22] at H
                        have c22b0 := eq_true c22
                        have c22b1 : decide (x7_1 ≤ (wrap64 (x7_1 + 1))) = true := decide_eq_true c22
                        by_cases c23 : (wrap64 (x7_1 + 1)) ≤ (a0.size : Int)
                        · rw [if_pos c23] at H
                          have c23b0 := eq_true c23
                          have c23b1 : decide ((wrap64 (x7_1 + 1)) ≤ (a0.size : Int)) = true := decide_eq_true c23
                          by_cases c24 : x5_1.size + (a0.extract (x7_1 : Int).toNat ((wrap64 (x7_1 + 1)) : Int).toNat).size ≤ 9223372036854775807
                          · rw [if_pos c24] at H
                            have c24b0 := eq_true c24
                            have c24b1 : decide (x5_1.size + (a0.extract (x7_1 : Int).toNat ((wrap64 (x7_1 + 1)) : Int).toNat).size ≤ 9223372036854775807) = true := decide_eq_true c24
                            try have c24b2 : (9223372036854775807 < x5_1.size + (a0.extract (x7_1 : Int).toNat ((wrap64 (x7_1 + 1)) : Int).toNat).size) = False := eq_false (Nat.not_lt.2 c24)
                            try (have c24b3 := c24b2; simp only [ByteArray.size_append, size_lit1] at c24b3)
                            have H' := Aside0.mk H
                            clear H
                            have p4 : 0 ≤ (x7_1 : Int) := of_decide_eq_true (by first | (with_reducible assumption) | assumption)
                            have q4 : x7_1 < (a0.size : Int) := of_decide_eq_true (by first | (with_reducible assumption) | assumption)
                            have hx4 := bt_at a0 x7_1
                            replace p4 := eq_true p4
                            replace q4 := eq_true q4
                            have p15 : 0 ≤ (x7_1 : Int) := of_decide_eq_true (by first | (with_reducible assumption) | assumption)
                            have q15 : x7_1 < (a0.size : Int) := of_decide_eq_true (by first | (with_reducible assumption) | assumption)
                            have hx15 := bt_at a0 x7_1
                            replace p15 := eq_true p15
                            replace q15 := eq_true q15
                            go_wp2_with (first | ((with_reducible refine gate_builtin (b := .append) (xs := #[.tmp 24, .tmp 29]) rfl ?_); at_builtin; refine Kd.R_append Kd.string (w0 := w) w.heap.size rfl (.tmp 24) (.tmp 29) 46 9 (.string ⟨#[]⟩) 16 rfl Tryd.underlying46 info9 rfl (by decide) (by omega) u4 x4_1 (a0.extract (x6_1 : Int).toNat (x7_1 : Int).toNat) [.string (a0.extract (x6_1 : Int).toNat (x7_1 : Int).toNat)] (fun _ => True) (fun _ => False) rfl rfl ?aP (fun _ hk => hk.elim) ?aF ?aO ?aB ?aS ?aL ?_; (case aP => exact rfl); (case aB => exact (by repeat (first | (with_reducible first | exact HB.out | apply below_alloc | apply pw_below_drewN | apply below_drew1) | exact HB.out))); (case aF => exact (fun _ _ => trivial)); (case aO => exact (by (with_reducible repeat (first | apply Kd.R_alloc | apply Kd.R_drewN | apply Kd.R_drew)); exact HO_4.out)); (case aS => exact (below_size (by repeat (first | (with_reducible first | exact HB.out | apply below_alloc | apply pw_below_drewN | apply below_drew1) | exact HB.out)))); (case aL => have := LMc20.out; omega); intro v175 w25 ho hb hg hat; rw [← Ny174.out] at ho; have n0_ := Aside0.mk (hb); have n1_ := Aside0.mk (ho); clear HB; clear HO_4; have HB := n0_; have HO176 := n1_; clear n0_ n1_; clear ho hb hg hat))
                            go_roundg k1
                            case measure => have := HK1.out; omega
                            case rel => exact ⟨(y174), (x5_1 ++ (a0.extract (x7_1 : Int).toNat ((wrap64 (x7_1 + 1)) : Int).toNat)), (wrap64 (x7_1 + 1)), (wrap64 (x7_1 + 1)), (by first | rfl | (simp; done) | (simp [*]; done)), (by first | rfl | (simp; done) | (simp [*]; done)), (by first | rfl | (simp; done) | (simp [*]; done)), H', ⟨by have := HK1.out; omega⟩, ⟨by (with_reducible repeat (first | apply Kd.R_alloc | apply Kd.R_drewN | apply Kd.R_drew)); exact HO176.out⟩, ⟨by repeat (first | (with_reducible first | exact HB.out | apply below_alloc | apply pw_below_drewN | apply below_drew1) | exact HB.out)⟩⟩
                          · rw [if_neg c24] at H
                            exact absurd H (by simp)
                        · rw [if_neg c23] at H
                          exact absurd H (by simp)
                      · rw [if_neg c22] at H
                        exact absurd H (by simp)
                    · rw [if_neg c20] at H
                      exact absurd H (by simp)
                  · rw [if_neg c19] at H
                    exact absurd H (by simp)
                · rw [if_neg c18] at H
                  exact absurd H (by simp)
              · rw [if_neg c17] at H
                exact absurd H (by simp)
            · rw [if_neg c16] at H
              have c16b0 : ((bt a0 x7_1) == 58) = false := beq_eq_false_iff_ne.mpr c16
              have c16b1 : ((bt a0 x7_1) != 58) = true := bne_iff_ne.mpr c16
              have H' := Aside0.mk H
              clear H
              have p4 : 0 ≤ (x7_1 : Int) := of_decide_eq_true (by first | (with_reducible assumption) | assumption)
              have q4 : x7_1 < (a0.size : Int) := of_decide_eq_true (by first | (with_reducible assumption) | assumption)
              have hx4 := bt_at a0 x7_1
              replace p4 := eq_true p4
              replace q4 := eq_true q4
              have p15 : 0 ≤ (x7_1 : Int) := of_decide_eq_true (by first | (with_reducible assumption) | assumption)
              have q15 : x7_1 < (a0.size : Int) := of_decide_eq_true (by first | (with_reducible assumption) | assumption)
              have hx15 := bt_at a0 x7_1
              replace p15 := eq_true p15
              replace q15 := eq_true q15
              go_wp2
              go_roundg k1
              case measure => have := HK1.out; omega
              case rel => exact ⟨(x4_1), (x5_1), (x6_1), (wrap64 (x7_1 + 1)), (by first | rfl | (simp; done) | (simp [*]; done)), (by first | rfl | (simp; done) | (simp [*]; done)), (by first | rfl | (simp; done) | (simp [*]; done)), H', ⟨by have := HK1.out; omega⟩, ⟨by (with_reducible repeat (first | apply Kd.R_alloc | apply Kd.R_drewN | apply Kd.R_drew)); exact HO_4.out⟩, ⟨by repeat (first | (with_reducible first | exact HB.out | apply below_alloc | apply pw_below_drewN | apply below_drew1) | exact HB.out)⟩⟩
        · rw [if_neg c3] at H
          exact absurd H (by simp)
      · rw [if_neg c2] at H
        have c2b0 : decide (x7_1 < (a0.size : Int)) = false := decide_eq_false c2
        clear c2
        by_cases c26 : 0 ≤ x6_1
        · rw [if_pos c26] at H
          have c26b0 := eq_true c26
          have c26b1 : decide (0 ≤ x6_1) = true := decide_eq_true c26
          clear c26
          by_cases c27 : x6_1 ≤ (a0.size : Int)
          · rw [if_pos c27] at H
            have c27b0 := eq_true c27
            have c27b1 : decide (x6_1 ≤ (a0.size : Int)) = true := decide_eq_true c27
            clear c27
            by_cases c28 : x4_1.length < 8796093022208
            · rw [if_pos c28] at H
              have LMc28 := Aside0.mk c28
              clear c28
              obtain ⟨y177, hy177⟩ : ∃ y_ : List ByteArray, y_ = (x4_1 ++ [a0.extract (x6_1 : Int).toNat a0.size]) := ⟨_, rfl⟩
              replace H : (some (y177, x5_1)) = some (r1, r2) := by first | (rw [hy177]; with_reducible exact H) | (have H2_ := (Option.bind_some _ _).symm.trans H; rw [hy177]; with_reducible exact H2_) | (have H2_ := (Option.bind_some _ _).symm.trans H; with_reducible exact H2_) | with_reducible exact H | (rw [hy177]; exact H) | exact H
              have Ny177 := Aside0.mk hy177
              clear hy177
              simp only [Option.some.injEq, Prod.mk.injEq] at H
              obtain ⟨rfl, rfl⟩ := H
              go_wp2_with (first | ((with_reducible refine gate_builtin (b := .append) (xs := #[.tmp 40, .tmp 44]) rfl ?_); at_builtin; refine Kd.R_append Kd.string (w0 := w) w.heap.size rfl (.tmp 40) (.tmp 44) 46 9 (.string ⟨#[]⟩) 16 rfl Tryd.underlying46 info9 rfl (by decide) (by omega) u4 x4_1 (a0.extract (x6_1 : Int).toNat a0.size) [.string (a0.extract (x6_1 : Int).toNat a0.size)] (fun _ => True) (fun _ => False) rfl rfl ?aP (fun _ hk => hk.elim) ?aF ?aO ?aB ?aS ?aL ?_; (case aP => exact rfl); (case aB => exact (by repeat (first | (with_reducible first | exact HB.out | apply below_alloc | apply pw_below_drewN | apply below_drew1) | exact HB.out))); (case aF => exact (fun _ _ => trivial)); (case aO => exact (by (with_reducible repeat (first | apply Kd.R_alloc | apply Kd.R_drewN | apply Kd.R_drew)); exact HO_4.out)); (case aS => exact (below_size (by repeat (first | (with_reducible first | exact HB.out | apply below_alloc | apply pw_below_drewN | apply below_drew1) | exact HB.out)))); (case aL => have := LMc28.out; omega); intro v178 w29 ho hb hg hat; rw [← Ny177.out] at ho; have n0_ := Aside0.mk (hb); have n1_ := Aside0.mk (ho); clear HB; clear HO_4; have HB := n0_; have HO179 := n1_; clear n0_ n1_; clear ho hb hg hat))
              go_ret2
              exact ⟨_, by first | rfl | (simp [errW_none, errW_some] <;> rfl) | (simp [*, errW_none, errW_some] <;> rfl), by (with_reducible repeat (first | apply Kd.R_alloc | apply Kd.R_drewN | apply Kd.R_drew)); exact HO179.out, by repeat (first | (with_reducible first | exact HB.out | apply below_alloc | apply pw_below_drewN | apply below_drew1) | exact HB.out)⟩
            · rw [if_neg c28] at H
              exact absurd H (by simp)
          · rw [if_neg c27] at H
            exact absurd H (by simp)
        · rw [if_neg c26] at H
          exact absurd H (by simp)

end Go.Proofs.YtjgfdilikbeofaaDoor.P
