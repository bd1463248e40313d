/- The machine's side of the laws of this seat: each function's plain form and its contract, written by a program of this session out of Lean's print of the loaded functions; no condition beyond what each statement says. -/
import Derived.Test.YtpkococfmohmiaaDoorP0
import Derived.Test.YtpkococfmohmiaaDoorP2
import Derived.Test.YtpkococfmohmiaaDoorP3
import Derived.Test.YtpkococfmohmiaaDoorP4
import Derived.Test.YtpkococfmohmiaaDoorP8
namespace Go.Proofs.YtpkococfmohmiaaDoor.P
open Go.RowKit Go.Proofs.YtpkococfmohmiaaDoorW.PrintWords Go.Proofs.YtpkococfmohmiaaDoorW.PrintLast Go.Proofs.YtpkococfmohmiaaDoorW.PrintMore
attribute [local go_sem] max2_int min2_int max_two min_two max_three min_three max_four min_four   -- for this text's walks alone
set_option linter.unusedVariables false
set_option linter.unusedSimpArgs false

attribute [local go_sem] isSome_setCell
/-! ### gangerlaw06_IndexesCounts: function 9 -/
mutual
def gangerlaw06_IndexesCounts.j0 : Nat → Int → Int → Int → Int → Bool → List Int → Int → Option (Bool)
  | 0, _, _, _, _, _, _, _ => none
  | k + 1, x3, x9, x10, x16, x62, x385000, x385001 => if x62 = true then (none) else (if (IntKind.u64.wrap (x16)) = 0 then (none) else (gangerlaw06_IndexesCounts.l0 k x9 x10 x16 (⟨#[]⟩ : ByteArray) (wrap64 (Int.tmod (IntKind.u64.wrap (x3)) (IntKind.u64.wrap (x16)))) 0 x385000 x385001))
def gangerlaw06_IndexesCounts.l0 : Nat → Int → Int → Int → ByteArray → Int → Int → List Int → Int → Option (Bool)
  | 0, _, _, _, _, _, _, _, _ => none
  | k + 1, x9, x10, x16, x17, x18, x19, x385000, x385001 => if x19 < x16 then (if x19 > 0 then (if x17.size + 1 ≤ 9223372036854775807 then (if x16 = 0 then (none) else ((gangerref06_Digits.f k (wrap64 (x9 + (wrap64 (x10 * (Int.tmod (wrap64 (x19 + x18)) x16)))))).bind fun t385 => (if (x17 ++ (⟨#[44]⟩ : ByteArray)).size + t385.size ≤ 9223372036854775807 then (gangerlaw06_IndexesCounts.l0 k x9 x10 x16 ((x17 ++ (⟨#[44]⟩ : ByteArray)) ++ t385) x18 (wrap64 (x19 + 1)) x385000 x385001) else (none)))) else (none)) else (if x16 = 0 then (none) else ((gangerref06_Digits.f k (wrap64 (x9 + (wrap64 (x10 * (Int.tmod (wrap64 (x19 + x18)) x16)))))).bind fun t386 => (if x17.size + t386.size ≤ 9223372036854775807 then (gangerlaw06_IndexesCounts.l0 k x9 x10 x16 (x17 ++ t386) x18 (wrap64 (x19 + 1)) x385000 x385001) else (none))))) else ((indexes_Parse.f x17).bind fun bt387 => (if bt387.2.2.2 = 0 then ((gangerref06_Same.f k x385000 x385001 bt387.1 bt387.2.1).bind fun t394 => (if t394 = true then ((gangerlaw06_known.f k).bind fun t395 => (some t395)) else (none))) else (none)))
end
def gangerlaw06_IndexesCounts.f (k : Nat) (a0 : Int) (a1 : Int) (a2 : Int) (a3 : Int) : Option (Bool) := (gangerref06_Digits.f k (wrap64 (a0))).bind fun t375 => (if t375.size + 1 ≤ 9223372036854775807 then ((gangerref06_Digits.f k (wrap64 ((wrap64 (a0)) + (wrap64 (a1))))).bind fun t376 => (if (t375 ++ (⟨#[45]⟩ : ByteArray)).size + t376.size ≤ 9223372036854775807 then (if ((t375 ++ (⟨#[45]⟩ : ByteArray)) ++ t376).size + 1 ≤ 9223372036854775807 then ((gangerref06_Digits.f k (wrap64 (1 + (wrap64 (Int.tmod a2 9))))).bind fun t377 => (if (((t375 ++ (⟨#[45]⟩ : ByteArray)) ++ t376) ++ (⟨#[58]⟩ : ByteArray)).size + t377.size ≤ 9223372036854775807 then ((indexes_Parse.f ((((t375 ++ (⟨#[45]⟩ : ByteArray)) ++ t376) ++ (⟨#[58]⟩ : ByteArray)) ++ t377)).bind fun bt378 => (if (wrap64 (1 + (wrap64 (Int.tmod a2 9)))) = 0 then (none) else (if bt378.2.2.2 = 0 then (gangerlaw06_IndexesCounts.j0 k a3 (wrap64 (a0)) (wrap64 (1 + (wrap64 (Int.tmod a2 9)))) (wrap64 ((wrap64 (Int.tdiv (wrap64 (a1)) (wrap64 (1 + (wrap64 (Int.tmod a2 9)))))) + 1)) ((bt378.1.length : Int) != (wrap64 ((wrap64 (Int.tdiv (wrap64 (a1)) (wrap64 (1 + (wrap64 (Int.tmod a2 9)))))) + 1))) bt378.1 bt378.2.1) else (gangerlaw06_IndexesCounts.j0 k a3 (wrap64 (a0)) (wrap64 (1 + (wrap64 (Int.tmod a2 9)))) (wrap64 ((wrap64 (Int.tdiv (wrap64 (a1)) (wrap64 (1 + (wrap64 (Int.tmod a2 9)))))) + 1)) true bt378.1 bt378.2.1)))) else (none))) else (none)) else (none))) else (none))
theorem gangerlaw06_IndexesCounts.mono_l : ∀ k, (∀ y0 y1 y2 y3 y4 y5 y6, LeO (gangerlaw06_IndexesCounts.j0 k y0 y1 y2 y3 y4 y5 y6) (gangerlaw06_IndexesCounts.j0 (k + 1) y0 y1 y2 y3 y4 y5 y6)) ∧ (∀ y0 y1 y2 y3 y4 y5 y6 y7, LeO (gangerlaw06_IndexesCounts.l0 k y0 y1 y2 y3 y4 y5 y6 y7) (gangerlaw06_IndexesCounts.l0 (k + 1) y0 y1 y2 y3 y4 y5 y6 y7))
  | 0 => ⟨fun _ _ _ _ _ _ _ r h => by simp [gangerlaw06_IndexesCounts.j0] at h, fun _ _ _ _ _ _ _ _ r h => by simp [gangerlaw06_IndexesCounts.l0] at h⟩
  | k + 1 => by
    obtain ⟨ih0, ih1⟩ := gangerlaw06_IndexesCounts.mono_l k
    refine ⟨?_, ?_⟩
    · intro y0 y1 y2 y3 y4 y5 y6
      unfold gangerlaw06_IndexesCounts.j0
      repeat' first
      | (with_reducible exact ih0 _ _ _ _ _ _ _)
      | (with_reducible exact ih1 _ _ _ _ _ _ _ _)
      | (with_reducible exact gangerlaw06_known.mono _)
      | (with_reducible exact gangerref06_Digits.mono _ _)
      | (with_reducible exact gangerref06_Same.mono _ _ _ _ _)
      | (with_reducible exact LeO.refl _)
      | (with_reducible exact LeO.none _)
      | (with_reducible refine LeO.ite ?_ ?_)
      | (with_reducible refine LeO.bind ?_ (fun _ => ?_))
      | exact ih0 _ _ _ _ _ _ _
      | exact ih1 _ _ _ _ _ _ _ _
      | exact gangerlaw06_known.mono _
      | exact gangerref06_Digits.mono _ _
      | exact gangerref06_Same.mono _ _ _ _ _
      | exact LeO.none _
      | refine LeO.ite ?_ ?_
      | refine LeO.bind ?_ (fun _ => ?_)
    · intro y0 y1 y2 y3 y4 y5 y6 y7
      unfold gangerlaw06_IndexesCounts.l0
      repeat' first
      | (with_reducible exact ih0 _ _ _ _ _ _ _)
      | (with_reducible exact ih1 _ _ _ _ _ _ _ _)
      | (with_reducible exact gangerlaw06_known.mono _)
      | (with_reducible exact gangerref06_Digits.mono _ _)
      | (with_reducible exact gangerref06_Same.mono _ _ _ _ _)
      | (with_reducible exact LeO.refl _)
      | (with_reducible exact LeO.none _)
      | (with_reducible refine LeO.ite ?_ ?_)
      | (with_reducible refine LeO.bind ?_ (fun _ => ?_))
      | exact ih0 _ _ _ _ _ _ _
      | exact ih1 _ _ _ _ _ _ _ _
      | exact gangerlaw06_known.mono _
      | exact gangerref06_Digits.mono _ _
      | exact gangerref06_Same.mono _ _ _ _ _
      | exact LeO.none _
      | refine LeO.ite ?_ ?_
      | refine LeO.bind ?_ (fun _ => ?_)
theorem gangerlaw06_IndexesCounts.mono : ∀ a0 a1 a2 a3 k, LeO (gangerlaw06_IndexesCounts.f k a0 a1 a2 a3) (gangerlaw06_IndexesCounts.f (k + 1) a0 a1 a2 a3) := by
  intro a0 a1 a2 a3 k
  obtain ⟨ih0, ih1⟩ := gangerlaw06_IndexesCounts.mono_l k
  unfold gangerlaw06_IndexesCounts.f
  repeat' first
      | (with_reducible exact ih0 _ _ _ _ _ _ _)
      | (with_reducible exact ih1 _ _ _ _ _ _ _ _)
      | (with_reducible exact gangerlaw06_known.mono _)
      | (with_reducible exact gangerref06_Digits.mono _ _)
      | (with_reducible exact gangerref06_Same.mono _ _ _ _ _)
      | (with_reducible exact LeO.refl _)
      | (with_reducible exact LeO.none _)
      | (with_reducible refine LeO.ite ?_ ?_)
      | (with_reducible refine LeO.bind ?_ (fun _ => ?_))
      | exact ih0 _ _ _ _ _ _ _
      | exact ih1 _ _ _ _ _ _ _ _
      | exact gangerlaw06_known.mono _
      | exact gangerref06_Digits.mono _ _
      | exact gangerref06_Same.mono _ _ _ _ _
      | exact LeO.none _
      | refine LeO.ite ?_ ?_
      | refine LeO.bind ?_ (fun _ => ?_)
set_option maxHeartbeats 8000000 in
set_option maxRecDepth 100000 in
theorem gangerlaw06_IndexesCounts.calls (k : Nat) (a0 : Int) (a1 : Int) (a2 : Int) (a3 : Int) (r : Bool) (w : World) (hG : Glob w) (h : gangerlaw06_IndexesCounts.f k a0 a1 a2 a3 = some r) :
    Calls Tryd.prog 9 #[.int .u8 a0, .int .u8 a1, .int .u8 a2, .int .i64 a3] w fun e w' => e = .returned (.bool r) ∧ Below w.heap.size w w' := by
  have hu25 := Tryd.underlying25
  have HG := Aside0.mk hG
  clear hG
  have HB := Aside0.mk (Below.refl w.heap.size w)
  have H : ((gangerref06_Digits.f k (wrap64 (a0))).bind fun t375 => (if t375.size + 1 ≤ 9223372036854775807 then ((gangerref06_Digits.f k (wrap64 ((wrap64 (a0)) + (wrap64 (a1))))).bind fun t376 => (if (t375 ++ (⟨#[45]⟩ : ByteArray)).size + t376.size ≤ 9223372036854775807 then (if ((t375 ++ (⟨#[45]⟩ : ByteArray)) ++ t376).size + 1 ≤ 9223372036854775807 then ((gangerref06_Digits.f k (wrap64 (1 + (wrap64 (Int.tmod a2 9))))).bind fun t377 => (if (((t375 ++ (⟨#[45]⟩ : ByteArray)) ++ t376) ++ (⟨#[58]⟩ : ByteArray)).size + t377.size ≤ 9223372036854775807 then ((indexes_Parse.f ((((t375 ++ (⟨#[45]⟩ : ByteArray)) ++ t376) ++ (⟨#[58]⟩ : ByteArray)) ++ t377)).bind fun bt378 => (if (wrap64 (1 + (wrap64 (Int.tmod a2 9)))) = 0 then (none) else (if bt378.2.2.2 = 0 then (gangerlaw06_IndexesCounts.j0 k a3 (wrap64 (a0)) (wrap64 (1 + (wrap64 (Int.tmod a2 9)))) (wrap64 ((wrap64 (Int.tdiv (wrap64 (a1)) (wrap64 (1 + (wrap64 (Int.tmod a2 9)))))) + 1)) ((bt378.1.length : Int) != (wrap64 ((wrap64 (Int.tdiv (wrap64 (a1)) (wrap64 (1 + (wrap64 (Int.tmod a2 9)))))) + 1))) bt378.1 bt378.2.1) else (gangerlaw06_IndexesCounts.j0 k a3 (wrap64 (a0)) (wrap64 (1 + (wrap64 (Int.tmod a2 9)))) (wrap64 ((wrap64 (Int.tdiv (wrap64 (a1)) (wrap64 (1 + (wrap64 (Int.tmod a2 9)))))) + 1)) true bt378.1 bt378.2.1)))) else (none))) else (none)) else (none))) else (none))) = some r := h
  clear h
  replace H := Option.bind_eq_some_iff.mp H
  obtain ⟨t375, A50, H⟩ := H
  replace H : (if t375.size + 1 ≤ 9223372036854775807 then ((gangerref06_Digits.f k (wrap64 ((wrap64 (a0)) + (wrap64 (a1))))).bind fun t376 => (if (t375 ++ (⟨#[45]⟩ : ByteArray)).size + t376.size ≤ 9223372036854775807 then (if ((t375 ++ (⟨#[45]⟩ : ByteArray)) ++ t376).size + 1 ≤ 9223372036854775807 then ((gangerref06_Digits.f k (wrap64 (1 + (wrap64 (Int.tmod a2 9))))).bind fun t377 => (if (((t375 ++ (⟨#[45]⟩ : ByteArray)) ++ t376) ++ (⟨#[58]⟩ : ByteArray)).size + t377.size ≤ 9223372036854775807 then ((indexes_Parse.f ((((t375 ++ (⟨#[45]⟩ : ByteArray)) ++ t376) ++ (⟨#[58]⟩ : ByteArray)) ++ t377)).bind fun bt378 => (if (wrap64 (1 + (wrap64 (Int.tmod a2 9)))) = 0 then (none) else (if bt378.2.2.2 = 0 then (gangerlaw06_IndexesCounts.j0 k a3 (wrap64 (a0)) (wrap64 (1 + (wrap64 (Int.tmod a2 9)))) (wrap64 ((wrap64 (Int.tdiv (wrap64 (a1)) (wrap64 (1 + (wrap64 (Int.tmod a2 9)))))) + 1)) ((bt378.1.length : Int) != (wrap64 ((wrap64 (Int.tdiv (wrap64 (a1)) (wrap64 (1 + (wrap64 (Int.tmod a2 9)))))) + 1))) bt378.1 bt378.2.1) else (gangerlaw06_IndexesCounts.j0 k a3 (wrap64 (a0)) (wrap64 (1 + (wrap64 (Int.tmod a2 9)))) (wrap64 ((wrap64 (Int.tdiv (wrap64 (a1)) (wrap64 (1 + (wrap64 (Int.tmod a2 9)))))) + 1)) true bt378.1 bt378.2.1)))) else (none))) else (none)) else (none))) else (none)) = some r := H
  have A5 := Aside0.mk A50
  clear A50
  by_cases c6 : t375.size + 1 ≤ 9223372036854775807
  · rw [if_pos c6] at H
    have c6b0 := eq_true c6
    have c6b1 : decide (t375.size + 1 ≤ 9223372036854775807) = true := decide_eq_true c6
    try have c6b2 : (9223372036854775807 < t375.size + 1) = False := eq_false (Nat.not_lt.2 c6)
    try (have c6b3 := c6b2; simp only [ByteArray.size_append, size_lit1] at c6b3)
    replace H := Option.bind_eq_some_iff.mp H
    obtain ⟨t376, A70, H⟩ := H
    replace H : (if (t375 ++ (⟨#[45]⟩ : ByteArray)).size + t376.size ≤ 9223372036854775807 then (if ((t375 ++ (⟨#[45]⟩ : ByteArray)) ++ t376).size + 1 ≤ 9223372036854775807 then ((gangerref06_Digits.f k (wrap64 (1 + (wrap64 (Int.tmod a2 9))))).bind fun t377 => (if (((t375 ++ (⟨#[45]⟩ : ByteArray)) ++ t376) ++ (⟨#[58]⟩ : ByteArray)).size + t377.size ≤ 9223372036854775807 then ((indexes_Parse.f ((((t375 ++ (⟨#[45]⟩ : ByteArray)) ++ t376) ++ (⟨#[58]⟩ : ByteArray)) ++ t377)).bind fun bt378 => (if (wrap64 (1 + (wrap64 (Int.tmod a2 9)))) = 0 then (none) else (if bt378.2.2.2 = 0 then (gangerlaw06_IndexesCounts.j0 k a3 (wrap64 (a0)) (wrap64 (1 + (wrap64 (Int.tmod a2 9)))) (wrap64 ((wrap64 (Int.tdiv (wrap64 (a1)) (wrap64 (1 + (wrap64 (Int.tmod a2 9)))))) + 1)) ((bt378.1.length : Int) != (wrap64 ((wrap64 (Int.tdiv (wrap64 (a1)) (wrap64 (1 + (wrap64 (Int.tmod a2 9)))))) + 1))) bt378.1 bt378.2.1) else (gangerlaw06_IndexesCounts.j0 k a3 (wrap64 (a0)) (wrap64 (1 + (wrap64 (Int.tmod a2 9)))) (wrap64 ((wrap64 (Int.tdiv (wrap64 (a1)) (wrap64 (1 + (wrap64 (Int.tmod a2 9)))))) + 1)) true bt378.1 bt378.2.1)))) else (none))) else (none)) else (none)) = some r := H
    have A7 := Aside0.mk A70
    clear A70
    by_cases c8 : (t375 ++ (⟨#[45]⟩ : ByteArray)).size + t376.size ≤ 9223372036854775807
    · rw [if_pos c8] at H
      have c8b0 := eq_true c8
      have c8b1 : decide ((t375 ++ (⟨#[45]⟩ : ByteArray)).size + t376.size ≤ 9223372036854775807) = true := decide_eq_true c8
      try have c8b2 : (9223372036854775807 < (t375 ++ (⟨#[45]⟩ : ByteArray)).size + t376.size) = False := eq_false (Nat.not_lt.2 c8)
      try (have c8b3 := c8b2; simp only [ByteArray.size_append, size_lit1] at c8b3)
      by_cases c9 : ((t375 ++ (⟨#[45]⟩ : ByteArray)) ++ t376).size + 1 ≤ 9223372036854775807
      · rw [if_pos c9] at H
        have c9b0 := eq_true c9
        have c9b1 : decide (((t375 ++ (⟨#[45]⟩ : ByteArray)) ++ t376).size + 1 ≤ 9223372036854775807) = true := decide_eq_true c9
        try have c9b2 : (9223372036854775807 < ((t375 ++ (⟨#[45]⟩ : ByteArray)) ++ t376).size + 1) = False := eq_false (Nat.not_lt.2 c9)
        try (have c9b3 := c9b2; simp only [ByteArray.size_append, size_lit1] at c9b3)
        replace H := Option.bind_eq_some_iff.mp H
        obtain ⟨t377, A100, H⟩ := H
        replace H : (if (((t375 ++ (⟨#[45]⟩ : ByteArray)) ++ t376) ++ (⟨#[58]⟩ : ByteArray)).size + t377.size ≤ 9223372036854775807 then ((indexes_Parse.f ((((t375 ++ (⟨#[45]⟩ : ByteArray)) ++ t376) ++ (⟨#[58]⟩ : ByteArray)) ++ t377)).bind fun bt378 => (if (wrap64 (1 + (wrap64 (Int.tmod a2 9)))) = 0 then (none) else (if bt378.2.2.2 = 0 then (gangerlaw06_IndexesCounts.j0 k a3 (wrap64 (a0)) (wrap64 (1 + (wrap64 (Int.tmod a2 9)))) (wrap64 ((wrap64 (Int.tdiv (wrap64 (a1)) (wrap64 (1 + (wrap64 (Int.tmod a2 9)))))) + 1)) ((bt378.1.length : Int) != (wrap64 ((wrap64 (Int.tdiv (wrap64 (a1)) (wrap64 (1 + (wrap64 (Int.tmod a2 9)))))) + 1))) bt378.1 bt378.2.1) else (gangerlaw06_IndexesCounts.j0 k a3 (wrap64 (a0)) (wrap64 (1 + (wrap64 (Int.tmod a2 9)))) (wrap64 ((wrap64 (Int.tdiv (wrap64 (a1)) (wrap64 (1 + (wrap64 (Int.tmod a2 9)))))) + 1)) true bt378.1 bt378.2.1)))) else (none)) = some r := H
        have A10 := Aside0.mk A100
        clear A100
        by_cases c11 : (((t375 ++ (⟨#[45]⟩ : ByteArray)) ++ t376) ++ (⟨#[58]⟩ : ByteArray)).size + t377.size ≤ 9223372036854775807
        · rw [if_pos c11] at H
          have c11b0 := eq_true c11
          have c11b1 : decide ((((t375 ++ (⟨#[45]⟩ : ByteArray)) ++ t376) ++ (⟨#[58]⟩ : ByteArray)).size + t377.size ≤ 9223372036854775807) = true := decide_eq_true c11
          try have c11b2 : (9223372036854775807 < (((t375 ++ (⟨#[45]⟩ : ByteArray)) ++ t376) ++ (⟨#[58]⟩ : ByteArray)).size + t377.size) = False := eq_false (Nat.not_lt.2 c11)
          try (have c11b3 := c11b2; simp only [ByteArray.size_append, size_lit1] at c11b3)
          replace H := Option.bind_eq_some_iff.mp H
          obtain ⟨⟨t378, t381, t382, t383⟩, A120, H⟩ := H
          replace H : (if (wrap64 (1 + (wrap64 (Int.tmod a2 9)))) = 0 then (none) else (if t383 = 0 then (gangerlaw06_IndexesCounts.j0 k a3 (wrap64 (a0)) (wrap64 (1 + (wrap64 (Int.tmod a2 9)))) (wrap64 ((wrap64 (Int.tdiv (wrap64 (a1)) (wrap64 (1 + (wrap64 (Int.tmod a2 9)))))) + 1)) ((t378.length : Int) != (wrap64 ((wrap64 (Int.tdiv (wrap64 (a1)) (wrap64 (1 + (wrap64 (Int.tmod a2 9)))))) + 1))) t378 t381) else (gangerlaw06_IndexesCounts.j0 k a3 (wrap64 (a0)) (wrap64 (1 + (wrap64 (Int.tmod a2 9)))) (wrap64 ((wrap64 (Int.tdiv (wrap64 (a1)) (wrap64 (1 + (wrap64 (Int.tmod a2 9)))))) + 1)) true t378 t381))) = some r := H
          have A12 := Aside0.mk A120
          clear A120
          by_cases c13 : (wrap64 (1 + (wrap64 (Int.tmod a2 9)))) = 0
          · rw [if_pos c13] at H
            exact absurd H (by simp)
          · rw [if_neg c13] at H
            have c13b0 : ((wrap64 (1 + (wrap64 (Int.tmod a2 9)))) == 0) = false := beq_eq_false_iff_ne.mpr c13
            have c13b1 : ((wrap64 (1 + (wrap64 (Int.tmod a2 9)))) != 0) = true := bne_iff_ne.mpr c13
            have HC14 := Aside0.mk H
            clear H
            go_enter Tryd.func9, Tryd.ntmps9
            go_upto_region 7 with (first | ((with_reducible refine gate_callee (f := 19) rfl ?_); refine goesL_ (some 34) rfl rfl Tryd.func19 (by kernel_rfl) rfl #[.int .i64 (wrap64 (a0))] rfl (by (try simp only [List.map_toArray, List.map_cons, List.map_nil]); first | done | rfl | (simp only [List.length_drop, List.length_take]; rfl)) ?_; (with_reducible refine (gangerref06_Digits.calls k (wrap64 (a0)) t375 _ A5.out).mono ?_); rintro e w15 ⟨rfl, hb⟩; refine ⟨_, rfl, ?_⟩; have n0_ := Aside0.mk (below_step (by repeat (first | (with_reducible first | exact HB.out | apply below_alloc | apply pw_below_drewN | apply below_drew1) | exact HB.out)) hb); clear HB; have HB := n0_; clear n0_; (try clear hb); (try clear hb2); (try clear hk); (try clear hi)) | ((with_reducible refine gate_callee (f := 19) rfl ?_); refine goesL_ (some 37) rfl rfl Tryd.func19 (by kernel_rfl) rfl #[.int .i64 (wrap64 ((wrap64 (a0)) + (wrap64 (a1))))] rfl (by (try simp only [List.map_toArray, List.map_cons, List.map_nil]); first | done | rfl | (simp only [List.length_drop, List.length_take]; rfl)) ?_; (with_reducible refine (gangerref06_Digits.calls k (wrap64 ((wrap64 (a0)) + (wrap64 (a1)))) t376 _ A7.out).mono ?_); rintro e w16 ⟨rfl, hb⟩; refine ⟨_, rfl, ?_⟩; have n0_ := Aside0.mk (below_step (by repeat (first | (with_reducible first | exact HB.out | apply below_alloc | apply pw_below_drewN | apply below_drew1) | exact HB.out)) hb); clear HB; have HB := n0_; clear n0_; (try clear hb); (try clear hb2); (try clear hk); (try clear hi)) | ((with_reducible refine gate_callee (f := 19) rfl ?_); refine goesL_ (some 41) rfl rfl Tryd.func19 (by kernel_rfl) rfl #[.int .i64 (wrap64 (1 + (wrap64 (Int.tmod a2 9))))] rfl (by (try simp only [List.map_toArray, List.map_cons, List.map_nil]); first | done | rfl | (simp only [List.length_drop, List.length_take]; rfl)) ?_; (with_reducible refine (gangerref06_Digits.calls k (wrap64 (1 + (wrap64 (Int.tmod a2 9)))) t377 _ A10.out).mono ?_); rintro e w17 ⟨rfl, hb⟩; refine ⟨_, rfl, ?_⟩; have n0_ := Aside0.mk (below_step (by repeat (first | (with_reducible first | exact HB.out | apply below_alloc | apply pw_below_drewN | apply below_drew1) | exact HB.out)) hb); clear HB; have HB := n0_; clear n0_; (try clear hb); (try clear hb2); (try clear hk); (try clear hi)) | ((with_reducible refine gate_callee (f := 11) rfl ?_); refine goesL_ (some 45) rfl rfl Tryd.func11 (by kernel_rfl) rfl #[.string ((((t375 ++ (⟨#[45]⟩ : ByteArray)) ++ t376) ++ (⟨#[58]⟩ : ByteArray)) ++ t377)] rfl (by (try simp only [List.map_toArray, List.map_cons, List.map_nil]); first | done | rfl | (simp only [List.length_drop, List.length_take]; rfl)) ?_; (with_reducible refine (indexes_Parse.calls ((((t375 ++ (⟨#[45]⟩ : ByteArray)) ++ t376) ++ (⟨#[58]⟩ : ByteArray)) ++ t377) t378 t381 t382 t383 _ A12.out).mono ?_); rintro e w18 ⟨v379, rfl, ho0, hb⟩; refine ⟨_, rfl, ?_⟩; have n0_ := Aside0.mk (Kd.R_lower ho0 (below_size (by repeat (first | (with_reducible first | exact HB.out | apply below_alloc | apply pw_below_drewN | apply below_drew1) | exact HB.out)))); have n1_ := Aside0.mk (below_step (by repeat (first | (with_reducible first | exact HB.out | apply below_alloc | apply pw_below_drewN | apply below_drew1) | exact HB.out)) hb); clear HB; have HO380 := n0_; have HB := n1_; clear n0_ n1_; (try clear hb); (try clear hb2); (try clear hk); (try clear hi); (try clear ho0)) | ((with_reducible refine gate_dst (N := 13) rfl ?_); (try (refine gate_guard (by rfl) ?_; dsimp only)); refine box_event ?hg (N := 13) ?hd (cs := #[.slice none 0 0, .int .i64 0]) (t := 25) ?hr ?_; (case hd => rfl); (case hg => rfl); (case hr => first | (go_simp; done) | (go_simp; rfl)); intro gb384 hg w19 hbox hb; have n0_ := Aside0.mk (Kd.R_below (by (with_reducible repeat (first | apply Kd.R_alloc | apply Kd.R_drewN | apply Kd.R_drew)); exact HO380.out) hb); have n1_ := Aside0.mk (below_step (by repeat (first | (with_reducible first | exact HB.out | apply below_alloc | apply pw_below_drewN | apply below_drew1) | exact HB.out)) hb); have n2_ := Aside0.mk (hbox); have n3_ := Aside0.mk ((by rw [hg]; exact (below_size (by repeat (first | (with_reducible first | exact HB.out | apply below_alloc | apply pw_below_drewN | apply below_drew1) | exact HB.out))) : w.heap.size ≤ gb384)); have n4_ := Aside0.mk ((by rw [hg]; exact (below_size (by repeat (first | (with_reducible first | exact HB.out | apply below_alloc | apply pw_below_drewN | apply below_drew1) | exact HB.out))) : w.heap.size ≤ gb384)); clear HO380; clear HB; have HO380 := n0_; have HB := n1_; have BK384 := n2_; have GW384 := n3_; have GE384 := n4_; clear n0_ n1_ n2_ n3_ n4_; clear hb hbox hg; obtain ⟨Ao20, co20, eo20⟩ := Kd.R_slice HO380.out; subst eo20; have hcz21_0 : w19.cell? ⟨gb384, 0, none⟩ = some (.slice none 0 0) := (blk_cell BK384.out 0).trans rfl; have hcz21_1 : w19.cell? ⟨gb384, 1, none⟩ = some (.int .i64 0) := (blk_cell BK384.out 1).trans rfl; have hfz21_0 := blk_frozen BK384.out 0; have hfz21_1 := blk_frozen BK384.out 1))
            (try simp only [Act.put, List.setIfInBounds_toArray, List.set_cons_zero, List.set_cons_succ])
            go_cut [62] (fun v62 wc => ∃ (kq : Nat) (x62_13 : Bool), v62 = .bool x62_13 ∧ Aside0 (gangerlaw06_IndexesCounts.j0 kq a3 (wrap64 (a0)) (wrap64 (1 + (wrap64 (Int.tmod a2 9)))) (wrap64 ((wrap64 (Int.tdiv (wrap64 (a1)) (wrap64 (1 + (wrap64 (Int.tmod a2 9)))))) + 1)) x62_13 t378 t381 = some r) ∧ Aside0 (kq ≤ k) ∧ Aside0 (Kd.R (Kd.int .i64) 3 wc w.heap.size (fun _ => True) (.slice Ao20 t378.length co20) t378) ∧ Aside0 (wc.heap[gb384]? = some (.cells #[(.slice Ao20 t378.length co20), .int .i64 t381] 25 (0, 0))) ∧ Aside0 (Below w.heap.size w wc))
            case first =>
              have H := HC14.out
              clear HC14
              by_cases c22 : t383 = 0
              · rw [if_pos c22] at H
                have c22b0 : (t383 == 0) = true := beq_iff_eq.mpr c22
                have c22b1 : (t383 != 0) = false := bne_eq_false_iff_eq.mpr c22
                clear c22
                (first | rw [c22b0] | (simp only [i64_w, i32_w]; rw [c22b0]) | skip)
                have H' := Aside0.mk H
                clear H
                have hcz23_0 : w19.cell? ⟨gb384, 0, none⟩ = some (.slice none 0 0) := (blk_cell BK384.out 0).trans rfl
                have hcz23_1 : w19.cell? ⟨gb384, 1, none⟩ = some (.int .i64 0) := (blk_cell BK384.out 1).trans rfl
                have hfz23_0 := blk_frozen BK384.out 0
                have hfz23_1 := blk_frozen BK384.out 1
                go_wp2
                go_meet
                case rel => exact ⟨_, (((t378.length : Int) != (wrap64 ((wrap64 (Int.tdiv (wrap64 (a1)) (wrap64 (1 + (wrap64 (Int.tmod a2 9)))))) + 1)))), (by first | rfl | (simp; done) | (simp [*]; done)), H', ⟨by first | omega | exact Nat.le_refl _⟩, ⟨by (with_reducible repeat (first | apply Kd.R_alloc | apply Kd.R_drewN | apply Kd.R_drew)); exact Kd.R_mono (Kd.R_far (p := ⟨gb384, 1, none⟩) (Kd.R_far (p := ⟨gb384, 0, none⟩) (Kd.R_types HO380.out BK384.out (by decide)) (fun _ hk => hk.2) (.slice Ao20 t378.length co20)) (fun _ hk => hk.2) (.int .i64 t381)) (fun _ hk => trivial)⟩, ⟨by (with_reducible repeat (first | refine blk_drewN ?_ _ | refine blk_drew ?_ | refine blk_alloc ?_ _)); refine blk_put (cs := #[.slice Ao20 t378.length co20, .int .i64 0]) ?_ 1 _ rfl; (with_reducible repeat (first | refine blk_drewN ?_ _ | refine blk_drew ?_ | refine blk_alloc ?_ _)); refine blk_put (cs := #[.slice none 0 0, .int .i64 0]) ?_ 0 _ rfl; (with_reducible repeat (first | refine blk_drewN ?_ _ | refine blk_drew ?_ | refine blk_alloc ?_ _)); exact BK384.out⟩, ⟨by repeat (first | (with_reducible first | exact HB.out | apply below_alloc | apply pw_below_drewN | apply below_drew1 | refine below_set ?_ GE384.out) | exact HB.out)⟩⟩
              · rw [if_neg c22] at H
                have c22b0 : (t383 == 0) = false := beq_eq_false_iff_ne.mpr c22
                have c22b1 : (t383 != 0) = true := bne_iff_ne.mpr c22
                (first | rw [c22b0] | (simp only [i64_w, i32_w]; rw [c22b0]) | skip)
                have H' := Aside0.mk H
                clear H
                go_wp2
                go_meet
                case rel => exact ⟨_, (true), (by first | rfl | (simp; done) | (simp [*]; done)), H', ⟨by first | omega | exact Nat.le_refl _⟩, ⟨by (with_reducible repeat (first | apply Kd.R_alloc | apply Kd.R_drewN | apply Kd.R_drew)); exact Kd.R_mono (Kd.R_far (p := ⟨gb384, 1, none⟩) (Kd.R_far (p := ⟨gb384, 0, none⟩) (Kd.R_types HO380.out BK384.out (by decide)) (fun _ hk => hk.2) (.slice Ao20 t378.length co20)) (fun _ hk => hk.2) (.int .i64 t381)) (fun _ hk => trivial)⟩, ⟨by (with_reducible repeat (first | refine blk_drewN ?_ _ | refine blk_drew ?_ | refine blk_alloc ?_ _)); refine blk_put (cs := #[.slice Ao20 t378.length co20, .int .i64 0]) ?_ 1 _ rfl; (with_reducible repeat (first | refine blk_drewN ?_ _ | refine blk_drew ?_ | refine blk_alloc ?_ _)); refine blk_put (cs := #[.slice none 0 0, .int .i64 0]) ?_ 0 _ rfl; (with_reducible repeat (first | refine blk_drewN ?_ _ | refine blk_drew ?_ | refine blk_alloc ?_ _)); exact BK384.out⟩, ⟨by repeat (first | (with_reducible first | exact HB.out | apply below_alloc | apply pw_below_drewN | apply below_drew1 | refine below_set ?_ GE384.out) | exact HB.out)⟩⟩
            case rest =>
              clear HC14
              try clear c1
              try clear c2
              try clear p2
              try clear c6
              try clear c6b0
              try clear c6b1
              try clear c6b2
              try clear p6
              try clear c8
              try clear c8b0
              try clear c8b1
              try clear c8b2
              try clear c9
              try clear c9b0
              try clear c9b1
              try clear c9b2
              try clear c11
              try clear c11b0
              try clear c11b1
              try clear c11b2
              try clear c13
              try clear c13b0
              try clear c13b1
              try clear c19
              try clear c22
              try clear c22b0
              try clear c22b1
              try clear hcz21_0
              try clear hcz21_1
              try clear hcz23_0
              try clear hcz23_1
              try clear hfz21_0
              try clear hfz21_1
              try clear hfz23_0
              try clear hfz23_1
              obtain ⟨kq, x62_13, rfl, HA, HJ13, HO_385000, BK384, HB⟩ := hcut
              cases kq with
              | zero => exact absurd HA.out (by simp [gangerlaw06_IndexesCounts.j0])
              | succ kj13 =>
                have H := HA.out
                clear HA
                simp only [gangerlaw06_IndexesCounts.j0] at H
                by_cases c24 : x62_13 = true
                · subst c24
                  have H1 : (none) = some r := by rw [if_pos rfl] at H; exact H
                  clear H
                  have H := H1
                  clear H1
                  exact absurd H (by simp)
                · replace c24 := Bool.eq_false_iff.mpr c24
                  subst c24
                  have H1 : (if (IntKind.u64.wrap ((wrap64 ((wrap64 (Int.tdiv (wrap64 (a1)) (wrap64 (1 + (wrap64 (Int.tmod a2 9)))))) + 1)))) = 0 then (none) else (gangerlaw06_IndexesCounts.l0 kj13 (wrap64 (a0)) (wrap64 (1 + (wrap64 (Int.tmod a2 9)))) (wrap64 ((wrap64 (Int.tdiv (wrap64 (a1)) (wrap64 (1 + (wrap64 (Int.tmod a2 9)))))) + 1)) (⟨#[]⟩ : ByteArray) (wrap64 (Int.tmod (IntKind.u64.wrap (a3)) (IntKind.u64.wrap ((wrap64 ((wrap64 (Int.tdiv (wrap64 (a1)) (wrap64 (1 + (wrap64 (Int.tmod a2 9)))))) + 1)))))) 0 t378 t381)) = some r := by rw [if_neg (show ¬ (false = true) by decide)] at H; exact H
                  clear H
                  have H := H1
                  clear H1
                  by_cases c25 : (IntKind.u64.wrap ((wrap64 ((wrap64 (Int.tdiv (wrap64 (a1)) (wrap64 (1 + (wrap64 (Int.tmod a2 9)))))) + 1)))) = 0
                  · rw [if_pos c25] at H
                    exact absurd H (by simp)
                  · rw [if_neg c25] at H
                    have c25b0 : ((IntKind.u64.wrap ((wrap64 ((wrap64 (Int.tdiv (wrap64 (a1)) (wrap64 (1 + (wrap64 (Int.tmod a2 9)))))) + 1)))) == 0) = false := beq_eq_false_iff_ne.mpr c25
                    have c25b1 : ((IntKind.u64.wrap ((wrap64 ((wrap64 (Int.tdiv (wrap64 (a1)) (wrap64 (1 + (wrap64 (Int.tmod a2 9)))))) + 1)))) != 0) = true := bne_iff_ne.mpr c25
                    have H' := Aside0.mk H
                    clear H
                    go_wp2
                    go_loopg [17, 19] kj13 (fun kq v17 v19 w' => ∃ (x17_2 : ByteArray) (x19_2 : Int), v17 = .string x17_2 ∧ v19 = .int .i64 x19_2 ∧ Aside0 (gangerlaw06_IndexesCounts.l0 kq (wrap64 (a0)) (wrap64 (1 + (wrap64 (Int.tmod a2 9)))) (wrap64 ((wrap64 (Int.tdiv (wrap64 (a1)) (wrap64 (1 + (wrap64 (Int.tmod a2 9)))))) + 1)) x17_2 (wrap64 (Int.tmod (IntKind.u64.wrap (a3)) (IntKind.u64.wrap ((wrap64 ((wrap64 (Int.tdiv (wrap64 (a1)) (wrap64 (1 + (wrap64 (Int.tmod a2 9)))))) + 1)))))) x19_2 t378 t381 = some r) ∧ Aside0 (kq ≤ kj13) ∧ Aside0 (Kd.R (Kd.int .i64) 3 w' w.heap.size (fun _ => True) (.slice Ao20 t378.length co20) t378) ∧ Aside0 (w'.heap[gb384]? = some (.cells #[(.slice Ao20 t378.length co20), .int .i64 t381] 25 (0, 0))) ∧ Aside0 (Below w.heap.size w w'))
                    case atStart => exact ⟨((⟨#[]⟩ : ByteArray)), (0), (by first | rfl | (simp; done) | (simp [*]; done)), (by first | rfl | (simp; done) | (simp [*]; done)), H', ⟨Nat.le_refl _⟩, ⟨by (with_reducible repeat (first | apply Kd.R_alloc | apply Kd.R_drewN | apply Kd.R_drew)); exact HO_385000.out⟩, ⟨by (with_reducible repeat (first | refine blk_drewN ?_ _ | refine blk_drew ?_ | refine blk_alloc ?_ _)); exact BK384.out⟩, ⟨by repeat (first | (with_reducible first | exact HB.out | apply below_alloc | apply pw_below_drewN | apply below_drew1 | refine below_set ?_ GE384.out) | exact HB.out)⟩⟩
                    case round =>
                      clear H'
                      try clear c1
                      try clear c2
                      try clear p2
                      try clear c6
                      try clear c6b0
                      try clear c6b1
                      try clear c6b2
                      try clear p6
                      try clear c8
                      try clear c8b0
                      try clear c8b1
                      try clear c8b2
                      try clear c9
                      try clear c9b0
                      try clear c9b1
                      try clear c9b2
                      try clear c11
                      try clear c11b0
                      try clear c11b1
                      try clear c11b2
                      try clear c13
                      try clear c13b0
                      try clear c13b1
                      try clear c19
                      try clear c22
                      try clear c22b0
                      try clear c22b1
                      try clear c24
                      try clear c25
                      try clear c25b0
                      try clear c25b1
                      try clear hcz21_0
                      try clear hcz21_1
                      try clear hcz23_0
                      try clear hcz23_1
                      try clear hfz21_0
                      try clear hfz21_1
                      try clear hfz23_0
                      try clear hfz23_1
                      try clear p2
                      try clear p6
                      obtain ⟨x17_2, x19_2, rfl, rfl, HA, HK2, HO_385000, BK384, HB⟩ := hrel
                      cases gk with
                      | zero => exact absurd HA.out (by simp [gangerlaw06_IndexesCounts.l0])
                      | succ k2 =>
                        have H := HA.out
                        clear HA
                        simp only [gangerlaw06_IndexesCounts.l0] at H
                        by_cases c26 : x19_2 < (wrap64 ((wrap64 (Int.tdiv (wrap64 (a1)) (wrap64 (1 + (wrap64 (Int.tmod a2 9)))))) + 1))
                        · rw [if_pos c26] at H
                          have c26b0 : decide (x19_2 < (wrap64 ((wrap64 (Int.tdiv (wrap64 (a1)) (wrap64 (1 + (wrap64 (Int.tmod a2 9)))))) + 1))) = true := decide_eq_true c26
                          clear c26
                          by_cases c27 : x19_2 > 0
                          · rw [if_pos c27] at H
                            have c27b0 : decide (0 < x19_2) = true := decide_eq_true c27
                            clear c27
                            by_cases c28 : x17_2.size + 1 ≤ 9223372036854775807
                            · rw [if_pos c28] at H
                              have c28b0 := eq_true c28
                              have c28b1 : decide (x17_2.size + 1 ≤ 9223372036854775807) = true := decide_eq_true c28
                              try have c28b2 : (9223372036854775807 < x17_2.size + 1) = False := eq_false (Nat.not_lt.2 c28)
                              try (have c28b3 := c28b2; simp only [ByteArray.size_append, size_lit1] at c28b3)
                              by_cases c29 : (wrap64 ((wrap64 (Int.tdiv (wrap64 (a1)) (wrap64 (1 + (wrap64 (Int.tmod a2 9)))))) + 1)) = 0
                              · rw [if_pos c29] at H
                                exact absurd H (by simp)
                              · rw [if_neg c29] at H
                                have c29b0 : ((wrap64 ((wrap64 (Int.tdiv (wrap64 (a1)) (wrap64 (1 + (wrap64 (Int.tmod a2 9)))))) + 1)) == 0) = false := beq_eq_false_iff_ne.mpr c29
                                have c29b1 : ((wrap64 ((wrap64 (Int.tdiv (wrap64 (a1)) (wrap64 (1 + (wrap64 (Int.tmod a2 9)))))) + 1)) != 0) = true := bne_iff_ne.mpr c29
                                replace H := Option.bind_eq_some_iff.mp H
                                obtain ⟨t385, A300, H⟩ := H
                                replace H : (if (x17_2 ++ (⟨#[44]⟩ : ByteArray)).size + t385.size ≤ 9223372036854775807 then (gangerlaw06_IndexesCounts.l0 k2 (wrap64 (a0)) (wrap64 (1 + (wrap64 (Int.tmod a2 9)))) (wrap64 ((wrap64 (Int.tdiv (wrap64 (a1)) (wrap64 (1 + (wrap64 (Int.tmod a2 9)))))) + 1)) ((x17_2 ++ (⟨#[44]⟩ : ByteArray)) ++ t385) (wrap64 (Int.tmod (IntKind.u64.wrap (a3)) (IntKind.u64.wrap ((wrap64 ((wrap64 (Int.tdiv (wrap64 (a1)) (wrap64 (1 + (wrap64 (Int.tmod a2 9)))))) + 1)))))) (wrap64 (x19_2 + 1)) t378 t381) else (none)) = some r := H
                                have A30 := Aside0.mk A300
                                clear A300
                                by_cases c31 : (x17_2 ++ (⟨#[44]⟩ : ByteArray)).size + t385.size ≤ 9223372036854775807
                                · rw [if_pos c31] at H
                                  have c31b0 := eq_true c31
                                  have c31b1 : decide ((x17_2 ++ (⟨#[44]⟩ : ByteArray)).size + t385.size ≤ 9223372036854775807) = true := decide_eq_true c31
                                  try have c31b2 : (9223372036854775807 < (x17_2 ++ (⟨#[44]⟩ : ByteArray)).size + t385.size) = False := eq_false (Nat.not_lt.2 c31)
                                  try (have c31b3 := c31b2; simp only [ByteArray.size_append, size_lit1] at c31b3)
                                  have H' := Aside0.mk H
                                  clear H
                                  go_wp2_with (first | ((with_reducible refine gate_callee (f := 19) rfl ?_); refine goesL_ (some 88) rfl rfl Tryd.func19 (by kernel_rfl) rfl #[.int .i64 (wrap64 ((wrap64 (a0)) + (wrap64 ((wrap64 (1 + (wrap64 (Int.tmod a2 9)))) * (Int.tmod (wrap64 (x19_2 + (wrap64 (Int.tmod (IntKind.u64.wrap (a3)) (IntKind.u64.wrap ((wrap64 ((wrap64 (Int.tdiv (wrap64 (a1)) (wrap64 (1 + (wrap64 (Int.tmod a2 9)))))) + 1)))))))) (wrap64 ((wrap64 (Int.tdiv (wrap64 (a1)) (wrap64 (1 + (wrap64 (Int.tmod a2 9)))))) + 1)))))))] rfl (by (try simp only [List.map_toArray, List.map_cons, List.map_nil]); first | done | rfl | (simp only [List.length_drop, List.length_take]; rfl)) ?_; (with_reducible refine (gangerref06_Digits.calls k2 (wrap64 ((wrap64 (a0)) + (wrap64 ((wrap64 (1 + (wrap64 (Int.tmod a2 9)))) * (Int.tmod (wrap64 (x19_2 + (wrap64 (Int.tmod (IntKind.u64.wrap (a3)) (IntKind.u64.wrap ((wrap64 ((wrap64 (Int.tdiv (wrap64 (a1)) (wrap64 (1 + (wrap64 (Int.tmod a2 9)))))) + 1)))))))) (wrap64 ((wrap64 (Int.tdiv (wrap64 (a1)) (wrap64 (1 + (wrap64 (Int.tmod a2 9)))))) + 1))))))) t385 _ A30.out).mono ?_); rintro e w32 ⟨rfl, hb⟩; refine ⟨_, rfl, ?_⟩; have n0_ := Aside0.mk (Kd.R_below (by (with_reducible repeat (first | apply Kd.R_alloc | apply Kd.R_drewN | apply Kd.R_drew)); exact HO_385000.out) hb); have n1_ := Aside0.mk (blk_below (g := gb384) (o := .cells #[.slice Ao20 t378.length co20, .int .i64 t381] 25 (0, 0)) (by (with_reducible repeat (first | refine blk_drewN ?_ _ | refine blk_drew ?_ | refine blk_alloc ?_ _)); exact BK384.out) hb); have n2_ := Aside0.mk (below_step (by repeat (first | (with_reducible first | exact HB.out | apply below_alloc | apply pw_below_drewN | apply below_drew1 | refine below_set ?_ GE384.out) | exact HB.out)) hb); clear HO_385000; clear BK384; clear HB; have HO_385000 := n0_; have BK384 := n1_; have HB := n2_; clear n0_ n1_ n2_; (try clear hb); (try clear hb2); (try clear hk); (try clear hi)))
                                  go_roundg k2
                                  case measure => have := HJ13.out; have := HK2.out; omega
                                  case rel => exact ⟨((x17_2 ++ (⟨#[44]⟩ : ByteArray)) ++ t385), (wrap64 (x19_2 + 1)), (by first | rfl | (simp; done) | (simp [*]; done)), (by first | rfl | (simp; done) | (simp [*]; done)), H', ⟨by have := HJ13.out; have := HK2.out; omega⟩, ⟨by (with_reducible repeat (first | apply Kd.R_alloc | apply Kd.R_drewN | apply Kd.R_drew)); exact HO_385000.out⟩, ⟨by (with_reducible repeat (first | refine blk_drewN ?_ _ | refine blk_drew ?_ | refine blk_alloc ?_ _)); exact BK384.out⟩, ⟨by repeat (first | (with_reducible first | exact HB.out | apply below_alloc | apply pw_below_drewN | apply below_drew1 | refine below_set ?_ GE384.out) | exact HB.out)⟩⟩
                                · rw [if_neg c31] at H
                                  exact absurd H (by simp)
                            · rw [if_neg c28] at H
                              exact absurd H (by simp)
                          · rw [if_neg c27] at H
                            have c27b0 : decide (0 < x19_2) = false := decide_eq_false c27
                            clear c27
                            by_cases c33 : (wrap64 ((wrap64 (Int.tdiv (wrap64 (a1)) (wrap64 (1 + (wrap64 (Int.tmod a2 9)))))) + 1)) = 0
                            · rw [if_pos c33] at H
                              exact absurd H (by simp)
                            · rw [if_neg c33] at H
                              have c33b0 : ((wrap64 ((wrap64 (Int.tdiv (wrap64 (a1)) (wrap64 (1 + (wrap64 (Int.tmod a2 9)))))) + 1)) == 0) = false := beq_eq_false_iff_ne.mpr c33
                              have c33b1 : ((wrap64 ((wrap64 (Int.tdiv (wrap64 (a1)) (wrap64 (1 + (wrap64 (Int.tmod a2 9)))))) + 1)) != 0) = true := bne_iff_ne.mpr c33
                              replace H := Option.bind_eq_some_iff.mp H
                              obtain ⟨t386, A340, H⟩ := H
                              replace H : (if x17_2.size + t386.size ≤ 9223372036854775807 then (gangerlaw06_IndexesCounts.l0 k2 (wrap64 (a0)) (wrap64 (1 + (wrap64 (Int.tmod a2 9)))) (wrap64 ((wrap64 (Int.tdiv (wrap64 (a1)) (wrap64 (1 + (wrap64 (Int.tmod a2 9)))))) + 1)) (x17_2 ++ t386) (wrap64 (Int.tmod (IntKind.u64.wrap (a3)) (IntKind.u64.wrap ((wrap64 ((wrap64 (Int.tdiv (wrap64 (a1)) (wrap64 (1 + (wrap64 (Int.tmod a2 9)))))) + 1)))))) (wrap64 (x19_2 + 1)) t378 t381) else (none)) = some r := H
                              have A34 := Aside0.mk A340
                              clear A340
                              by_cases c35 : x17_2.size + t386.size ≤ 9223372036854775807
                              · rw [if_pos c35] at H
                                have c35b0 := eq_true c35
                                have c35b1 : decide (x17_2.size + t386.size ≤ 9223372036854775807) = true := decide_eq_true c35
                                try have c35b2 : (9223372036854775807 < x17_2.size + t386.size) = False := eq_false (Nat.not_lt.2 c35)
                                try (have c35b3 := c35b2; simp only [ByteArray.size_append, size_lit1] at c35b3)
                                have H' := Aside0.mk H
                                clear H
                                go_wp2_with (first | ((with_reducible refine gate_callee (f := 19) rfl ?_); refine goesL_ (some 88) rfl rfl Tryd.func19 (by kernel_rfl) rfl #[.int .i64 (wrap64 ((wrap64 (a0)) + (wrap64 ((wrap64 (1 + (wrap64 (Int.tmod a2 9)))) * (Int.tmod (wrap64 (x19_2 + (wrap64 (Int.tmod (IntKind.u64.wrap (a3)) (IntKind.u64.wrap ((wrap64 ((wrap64 (Int.tdiv (wrap64 (a1)) (wrap64 (1 + (wrap64 (Int.tmod a2 9)))))) + 1)))))))) (wrap64 ((wrap64 (Int.tdiv (wrap64 (a1)) (wrap64 (1 + (wrap64 (Int.tmod a2 9)))))) + 1)))))))] rfl (by (try simp only [List.map_toArray, List.map_cons, List.map_nil]); first | done | rfl | (simp only [List.length_drop, List.length_take]; rfl)) ?_; (with_reducible refine (gangerref06_Digits.calls k2 (wrap64 ((wrap64 (a0)) + (wrap64 ((wrap64 (1 + (wrap64 (Int.tmod a2 9)))) * (Int.tmod (wrap64 (x19_2 + (wrap64 (Int.tmod (IntKind.u64.wrap (a3)) (IntKind.u64.wrap ((wrap64 ((wrap64 (Int.tdiv (wrap64 (a1)) (wrap64 (1 + (wrap64 (Int.tmod a2 9)))))) + 1)))))))) (wrap64 ((wrap64 (Int.tdiv (wrap64 (a1)) (wrap64 (1 + (wrap64 (Int.tmod a2 9)))))) + 1))))))) t386 _ A34.out).mono ?_); rintro e w36 ⟨rfl, hb⟩; refine ⟨_, rfl, ?_⟩; have n0_ := Aside0.mk (Kd.R_below (by (with_reducible repeat (first | apply Kd.R_alloc | apply Kd.R_drewN | apply Kd.R_drew)); exact HO_385000.out) hb); have n1_ := Aside0.mk (blk_below (g := gb384) (o := .cells #[.slice Ao20 t378.length co20, .int .i64 t381] 25 (0, 0)) (by (with_reducible repeat (first | refine blk_drewN ?_ _ | refine blk_drew ?_ | refine blk_alloc ?_ _)); exact BK384.out) hb); have n2_ := Aside0.mk (below_step (by repeat (first | (with_reducible first | exact HB.out | apply below_alloc | apply pw_below_drewN | apply below_drew1 | refine below_set ?_ GE384.out) | exact HB.out)) hb); clear HO_385000; clear BK384; clear HB; have HO_385000 := n0_; have BK384 := n1_; have HB := n2_; clear n0_ n1_ n2_; (try clear hb); (try clear hb2); (try clear hk); (try clear hi)))
                                go_roundg k2
                                case measure => have := HJ13.out; have := HK2.out; omega
                                case rel => exact ⟨(x17_2 ++ t386), (wrap64 (x19_2 + 1)), (by first | rfl | (simp; done) | (simp [*]; done)), (by first | rfl | (simp; done) | (simp [*]; done)), H', ⟨by have := HJ13.out; have := HK2.out; omega⟩, ⟨by (with_reducible repeat (first | apply Kd.R_alloc | apply Kd.R_drewN | apply Kd.R_drew)); exact HO_385000.out⟩, ⟨by (with_reducible repeat (first | refine blk_drewN ?_ _ | refine blk_drew ?_ | refine blk_alloc ?_ _)); exact BK384.out⟩, ⟨by repeat (first | (with_reducible first | exact HB.out | apply below_alloc | apply pw_below_drewN | apply below_drew1 | refine below_set ?_ GE384.out) | exact HB.out)⟩⟩
                              · rw [if_neg c35] at H
                                exact absurd H (by simp)
                        · rw [if_neg c26] at H
                          have c26b0 : decide (x19_2 < (wrap64 ((wrap64 (Int.tdiv (wrap64 (a1)) (wrap64 (1 + (wrap64 (Int.tmod a2 9)))))) + 1))) = false := decide_eq_false c26
                          clear c26
                          replace H := Option.bind_eq_some_iff.mp H
                          obtain ⟨⟨t387, t390, t391, t392⟩, A370, H⟩ := H
                          replace H : (if t392 = 0 then ((gangerref06_Same.f k2 t378 t381 t387 t390).bind fun t394 => (if t394 = true then ((gangerlaw06_known.f k2).bind fun t395 => (some t395)) else (none))) else (none)) = some r := H
                          have A37 := Aside0.mk A370
                          clear A370
                          by_cases c38 : t392 = 0
                          · rw [if_pos c38] at H
                            have c38b0 : (t392 == 0) = true := beq_iff_eq.mpr c38
                            have c38b1 : (t392 != 0) = false := bne_eq_false_iff_eq.mpr c38
                            clear c38
                            replace H := Option.bind_eq_some_iff.mp H
                            obtain ⟨t394, A390, H⟩ := H
                            replace H : (if t394 = true then ((gangerlaw06_known.f k2).bind fun t395 => (some t395)) else (none)) = some r := H
                            have A39 := Aside0.mk A390
                            clear A390
                            by_cases c40 : t394 = true
                            · subst c40
                              have H1 : ((gangerlaw06_known.f k2).bind fun t395 => (some t395)) = some r := by rw [if_pos rfl] at H; exact H
                              clear H
                              have H := H1
                              clear H1
                              replace H := Option.bind_eq_some_iff.mp H
                              obtain ⟨t395, A410, H⟩ := H
                              replace H : (some t395) = some r := H
                              have A41 := Aside0.mk A410
                              clear A410
                              obtain rfl := Option.some.inj H
                              go_wp2_with (first | ((with_reducible refine gate_callee (f := 11) rfl ?_); refine goesL_ (some 92) rfl rfl Tryd.func11 (by kernel_rfl) rfl #[.string x17_2] rfl (by (try simp only [List.map_toArray, List.map_cons, List.map_nil]); first | done | rfl | (simp only [List.length_drop, List.length_take]; rfl)) ?_; (with_reducible refine (indexes_Parse.calls x17_2 t387 t390 t391 t392 _ A37.out).mono ?_); rintro e w42 ⟨v388, rfl, ho0, hb⟩; refine ⟨_, rfl, ?_⟩; have n0_ := Aside0.mk (Kd.R_elder' (by (with_reducible repeat (first | apply Kd.R_alloc | apply Kd.R_drewN | apply Kd.R_drew)); exact HO_385000.out) (Kd.R_base ho0) hb); have n1_ := Aside0.mk (Kd.R_lower (Kd.R_new' ho0 (Kd.R_lt (by (with_reducible repeat (first | apply Kd.R_alloc | apply Kd.R_drewN | apply Kd.R_drew)); exact HO_385000.out))) (below_size (by repeat (first | (with_reducible first | exact HB.out | apply below_alloc | apply pw_below_drewN | apply below_drew1 | refine below_set ?_ GE384.out) | exact HB.out)))); have n2_ := Aside0.mk (blk_below (g := gb384) (o := .cells #[.slice Ao20 t378.length co20, .int .i64 t381] 25 (0, 0)) (by (with_reducible repeat (first | refine blk_drewN ?_ _ | refine blk_drew ?_ | refine blk_alloc ?_ _)); exact BK384.out) hb); have n3_ := Aside0.mk (below_step (by repeat (first | (with_reducible first | exact HB.out | apply below_alloc | apply pw_below_drewN | apply below_drew1 | refine below_set ?_ GE384.out) | exact HB.out)) hb); clear HO_385000; clear BK384; clear HB; have HO_385000 := n0_; have HO389 := n1_; have BK384 := n2_; have HB := n3_; clear n0_ n1_ n2_ n3_; (try clear hb); (try clear hb2); (try clear hk); (try clear hi); (try clear ho0)) | ((with_reducible refine gate_dst (N := 20) rfl ?_); (try (refine gate_guard (by rfl) ?_; dsimp only)); refine box_event ?hg (N := 20) ?hd (cs := #[.slice none 0 0, .int .i64 0]) (t := 25) ?hr ?_; (case hd => rfl); (case hg => rfl); (case hr => first | (go_simp; done) | (go_simp; rfl)); intro gb393 hg w43 hbox hb; have n0_ := Aside0.mk (Kd.R_below (by (with_reducible repeat (first | apply Kd.R_alloc | apply Kd.R_drewN | apply Kd.R_drew)); exact HO_385000.out) hb); have n1_ := Aside0.mk (Kd.R_below (by (with_reducible repeat (first | apply Kd.R_alloc | apply Kd.R_drewN | apply Kd.R_drew)); exact HO389.out) hb); have n2_ := Aside0.mk (blk_below (g := gb384) (o := .cells #[.slice Ao20 t378.length co20, .int .i64 t381] 25 (0, 0)) (by (with_reducible repeat (first | refine blk_drewN ?_ _ | refine blk_drew ?_ | refine blk_alloc ?_ _)); exact BK384.out) hb); have n3_ := Aside0.mk (below_step (by repeat (first | (with_reducible first | exact HB.out | apply below_alloc | apply pw_below_drewN | apply below_drew1 | refine below_set ?_ GE384.out) | exact HB.out)) hb); have n4_ := Aside0.mk (hbox); have n5_ := Aside0.mk ((by rw [hg]; exact (below_size (by repeat (first | (with_reducible first | exact HB.out | apply below_alloc | apply pw_below_drewN | apply below_drew1 | refine below_set ?_ GE384.out) | exact HB.out))) : w.heap.size ≤ gb393)); have n6_ := Aside0.mk ((by rw [hg]; exact (below_size (by repeat (first | (with_reducible first | exact HB.out | apply below_alloc | apply pw_below_drewN | apply below_drew1 | refine below_set ?_ GE384.out) | exact HB.out))) : w.heap.size ≤ gb393)); have n7_ := Aside0.mk ((by rw [hg]; exact Nat.ne_of_lt (blk_lt (g := gb384) (o := .cells #[.slice Ao20 t378.length co20, .int .i64 t381] 25 (0, 0)) (by (with_reducible repeat (first | refine blk_drewN ?_ _ | refine blk_drew ?_ | refine blk_alloc ?_ _)); exact BK384.out)) : gb384 ≠ gb393)); have n8_ := Aside0.mk ((by rw [hg]; exact Nat.ne_of_gt (blk_lt (g := gb384) (o := .cells #[.slice Ao20 t378.length co20, .int .i64 t381] 25 (0, 0)) (by (with_reducible repeat (first | refine blk_drewN ?_ _ | refine blk_drew ?_ | refine blk_alloc ?_ _)); exact BK384.out)) : gb393 ≠ gb384)); clear HO_385000; clear HO389; clear BK384; clear HB; have HO_385000 := n0_; have HO389 := n1_; have BK384 := n2_; have HB := n3_; have BK393 := n4_; have GW393 := n5_; have GE393 := n6_; have NB384_393 := n7_; have NB393_384 := n8_; clear n0_ n1_ n2_ n3_ n4_ n5_ n6_ n7_ n8_; clear hb hbox hg; obtain ⟨Ao44, co44, eo44⟩ := Kd.R_slice HO389.out; subst eo44; have hnb45 := NB393_384.out; have hnc45 := NB384_393.out; have hcz46_0 : w43.cell? ⟨gb393, 0, none⟩ = some (.slice none 0 0) := (blk_cell BK393.out 0).trans rfl; have hcz46_1 : w43.cell? ⟨gb393, 1, none⟩ = some (.int .i64 0) := (blk_cell BK393.out 1).trans rfl; have hfz46_0 := blk_frozen BK393.out 0; have hfz46_1 := blk_frozen BK393.out 1; have hcz47_0 : w43.cell? ⟨gb384, 0, none⟩ = some (.slice Ao20 t378.length co20) := (blk_cell BK384.out 0).trans rfl; have hcz47_1 : w43.cell? ⟨gb384, 1, none⟩ = some (.int .i64 t381) := (blk_cell BK384.out 1).trans rfl; have hfz47_0 := blk_frozen BK384.out 0; have hfz47_1 := blk_frozen BK384.out 1) | (go_at_call 13; (with_reducible refine (gangerref06_Same.calls k2 _ _ t378 t381 _ _ t387 t390 true _ ?side1 ?side2 ?side3 ?side4 A39.out).mono ?_); (case side1 => refine (Kd.R_reads' (e := 3) (base := w.heap.size) (ok := fun k_ => (True ∧ some k_ ≠ (.slice Ao44 t387.length co44 : Value).ownBlock)) (n := t378.length) (c := co20) ?_).2.2; exact (by (with_reducible repeat (first | apply Kd.R_alloc | apply Kd.R_drewN | apply Kd.R_drew)); exact (Kd.R_mono (Kd.R_far (p := ⟨gb393, 1, none⟩) (Kd.R_far (p := ⟨gb393, 0, none⟩) (Kd.R_types HO_385000.out BK393.out (by decide)) (fun _ hk => hk.2) (.slice Ao44 t387.length co44)) (fun _ hk => hk.2) (.int .i64 t390)) (fun _ h_ => h_.1)))); (case side2 => exact (Kd.R_reads' HO_385000.out).2.1); (case side3 => refine (Kd.R_reads' (e := 3) (base := w.heap.size) (ok := fun k_ => (True ∧ some k_ ≠ (.slice Ao20 t378.length co20 : Value).ownBlock)) (n := t387.length) (c := co44) ?_).2.2; exact (by (with_reducible repeat (first | apply Kd.R_alloc | apply Kd.R_drewN | apply Kd.R_drew)); exact (Kd.R_mono (Kd.R_far (p := ⟨gb393, 1, none⟩) (Kd.R_far (p := ⟨gb393, 0, none⟩) (Kd.R_types HO389.out BK393.out (by decide)) (fun _ hk => hk.2) (.slice Ao44 t387.length co44)) (fun _ hk => hk.2) (.int .i64 t390)) (fun _ h_ => h_.1)))); (case side4 => exact (Kd.R_reads' HO389.out).2.1); rintro e w48 ⟨rfl, hb⟩; have n0_ := Aside0.mk (Kd.R_below (by (with_reducible repeat (first | apply Kd.R_alloc | apply Kd.R_drewN | apply Kd.R_drew)); exact (Kd.R_mono (Kd.R_far (p := ⟨gb393, 1, none⟩) (Kd.R_far (p := ⟨gb393, 0, none⟩) (Kd.R_types HO_385000.out BK393.out (by decide)) (fun _ hk => hk.2) (.slice Ao44 t387.length co44)) (fun _ hk => hk.2) (.int .i64 t390)) (fun _ h_ => h_.1))) hb); have n1_ := Aside0.mk (Kd.R_below (by (with_reducible repeat (first | apply Kd.R_alloc | apply Kd.R_drewN | apply Kd.R_drew)); exact (Kd.R_mono (Kd.R_far (p := ⟨gb393, 1, none⟩) (Kd.R_far (p := ⟨gb393, 0, none⟩) (Kd.R_types HO389.out BK393.out (by decide)) (fun _ hk => hk.2) (.slice Ao44 t387.length co44)) (fun _ hk => hk.2) (.int .i64 t390)) (fun _ h_ => h_.1))) hb); have n2_ := Aside0.mk (blk_below (g := gb384) (o := .cells #[.slice Ao20 t378.length co20, .int .i64 t381] 25 (0, 0)) (by (with_reducible repeat (first | refine blk_drewN ?_ _ | refine blk_drew ?_ | refine blk_alloc ?_ _)); refine blk_far ?_ NB384_393.out _; (with_reducible repeat (first | refine blk_drewN ?_ _ | refine blk_drew ?_ | refine blk_alloc ?_ _)); refine blk_far ?_ NB384_393.out _; (with_reducible repeat (first | refine blk_drewN ?_ _ | refine blk_drew ?_ | refine blk_alloc ?_ _)); exact BK384.out) hb); have n3_ := Aside0.mk (blk_below (g := gb393) (o := .cells #[.slice Ao44 t387.length co44, .int .i64 t390] 25 (0, 0)) (by (with_reducible repeat (first | refine blk_drewN ?_ _ | refine blk_drew ?_ | refine blk_alloc ?_ _)); refine blk_put (cs := #[.slice Ao44 t387.length co44, .int .i64 0]) ?_ 1 _ rfl; (with_reducible repeat (first | refine blk_drewN ?_ _ | refine blk_drew ?_ | refine blk_alloc ?_ _)); refine blk_put (cs := #[.slice none 0 0, .int .i64 0]) ?_ 0 _ rfl; (with_reducible repeat (first | refine blk_drewN ?_ _ | refine blk_drew ?_ | refine blk_alloc ?_ _)); exact BK393.out) hb); have n4_ := Aside0.mk (below_step (by repeat (first | (with_reducible first | exact HB.out | apply below_alloc | apply pw_below_drewN | apply below_drew1 | refine below_set ?_ GE384.out | refine below_set ?_ GE393.out) | exact HB.out)) hb); clear HO_385000; clear HO389; clear BK384; clear BK393; clear HB; have HO_385000 := n0_; have HO389 := n1_; have BK384 := n2_; have BK393 := n3_; have HB := n4_; clear n0_ n1_ n2_ n3_ n4_; (try clear hb); (try clear hb2); (try clear hk); (try clear hi)) | (go_at_call 10; (with_reducible refine (gangerlaw06_known.calls k2  t395 _ ?side1 A41.out).mono ?_); (case side1 => exact Glob.below HG.out (by repeat (first | (with_reducible first | exact HB.out | apply below_alloc | apply pw_below_drewN | apply below_drew1 | refine below_set ?_ GE384.out | refine below_set ?_ GE393.out) | exact HB.out))); rintro e w49 ⟨rfl, hb⟩; have n0_ := Aside0.mk (Kd.R_below (by (with_reducible repeat (first | apply Kd.R_alloc | apply Kd.R_drewN | apply Kd.R_drew)); exact HO_385000.out) hb); have n1_ := Aside0.mk (Kd.R_below (by (with_reducible repeat (first | apply Kd.R_alloc | apply Kd.R_drewN | apply Kd.R_drew)); exact HO389.out) hb); have n2_ := Aside0.mk (blk_below (g := gb384) (o := .cells #[.slice Ao20 t378.length co20, .int .i64 t381] 25 (0, 0)) (by (with_reducible repeat (first | refine blk_drewN ?_ _ | refine blk_drew ?_ | refine blk_alloc ?_ _)); exact BK384.out) hb); have n3_ := Aside0.mk (blk_below (g := gb393) (o := .cells #[.slice Ao44 t387.length co44, .int .i64 t390] 25 (0, 0)) (by (with_reducible repeat (first | refine blk_drewN ?_ _ | refine blk_drew ?_ | refine blk_alloc ?_ _)); exact BK393.out) hb); have n4_ := Aside0.mk (below_step (by repeat (first | (with_reducible first | exact HB.out | apply below_alloc | apply pw_below_drewN | apply below_drew1 | refine below_set ?_ GE384.out | refine below_set ?_ GE393.out) | exact HB.out)) hb); clear HO_385000; clear HO389; clear BK384; clear BK393; clear HB; have HO_385000 := n0_; have HO389 := n1_; have BK384 := n2_; have BK393 := n3_; have HB := n4_; clear n0_ n1_ n2_ n3_ n4_; (try clear hb); (try clear hb2); (try clear hk); (try clear hi)))
                              go_ret
                              exact ⟨by first | rfl | (simp [errW_none, errW_some] <;> rfl) | (simp [*, errW_none, errW_some] <;> rfl), by repeat (first | (with_reducible first | exact HB.out | apply below_alloc | apply pw_below_drewN | apply below_drew1 | refine below_set ?_ GE384.out | refine below_set ?_ GE393.out) | exact HB.out)⟩
                            · replace c40 := Bool.eq_false_iff.mpr c40
                              subst c40
                              have H1 : (none) = some r := by rw [if_neg (show ¬ (false = true) by decide)] at H; exact H
                              clear H
                              have H := H1
                              clear H1
                              exact absurd H (by simp)
                          · rw [if_neg c38] at H
                            exact absurd H (by simp)
        · rw [if_neg c11] at H
          exact absurd H (by simp)
      · rw [if_neg c9] at H
        exact absurd H (by simp)
    · rw [if_neg c8] at H
      exact absurd H (by simp)
  · rw [if_neg c6] at H
    exact absurd H (by simp)

/-- THE ONE PURE STATEMENT of gangerlaw06_IndexesCounts: yours. -/
def gangerlaw06_IndexesCounts.Pure : Prop := ∀ (a0 : Int) (a1 : Int) (a2 : Int) (a3 : Int), (Lit.int .u8 a0).wf = true → (Lit.int .u8 a1).wf = true → (Lit.int .u8 a2).wf = true → (Lit.int .i64 a3).wf = true → ∃ k, gangerlaw06_IndexesCounts.f k a0 a1 a2 a3 = some true
theorem gangerlaw06_IndexesCounts.walk (P : gangerlaw06_IndexesCounts.Pure) (a0 : Int) (a1 : Int) (a2 : Int) (a3 : Int) (w : World) (hG : Glob w) (w0 : (Lit.int .u8 a0).wf = true) (w1 : (Lit.int .u8 a1).wf = true) (w2 : (Lit.int .u8 a2).wf = true) (w3 : (Lit.int .i64 a3).wf = true) :
    Calls Tryd.prog 9 #[.int .u8 a0, .int .u8 a1, .int .u8 a2, .int .i64 a3] w fun e w' => e = .returned (.bool true) ∧ Below w.heap.size w w' := by
  obtain ⟨k, h⟩ := P a0 a1 a2 a3 w0 w1 w2 w3
  refine (gangerlaw06_IndexesCounts.calls k a0 a1 a2 a3 true w hG h).mono ?_
  rintro e w' ⟨rfl, hd⟩
  exact ⟨rfl, hd⟩

end Go.Proofs.YtpkococfmohmiaaDoor.P
