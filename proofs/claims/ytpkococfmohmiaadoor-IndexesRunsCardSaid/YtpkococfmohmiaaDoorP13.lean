/- The machine's side of the laws of this seat: each function's plain form and its contract, written by a program of this session out of Lean's print of the loaded functions; no condition beyond what each statement says. -/
import Derived.Test.YtpkococfmohmiaaDoorP0
import Derived.Test.YtpkococfmohmiaaDoorP2
import Derived.Test.YtpkococfmohmiaaDoorP4
import Derived.Test.YtpkococfmohmiaaDoorP8
import Derived.Test.YtpkococfmohmiaaDoorP11
namespace Go.Proofs.YtpkococfmohmiaaDoor.P
open Go.RowKit Go.Proofs.YtpkococfmohmiaaDoorW.PrintWords Go.Proofs.YtpkococfmohmiaaDoorW.PrintLast Go.Proofs.YtpkococfmohmiaaDoorW.PrintMore
attribute [local go_sem] max2_int min2_int max_two min_two max_three min_three max_four min_four   -- for this text's walks alone
set_option linter.unusedVariables false
set_option linter.unusedSimpArgs false

attribute [local go_sem] isSome_setCell
/-! ### gangerlaw06_IndexesRuns: function 7 -/
mutual
def gangerlaw06_IndexesRuns.j0 : Nat → Int → Int → Int → Int → Int → Bool → List Int → Int → Option (Bool)
  | 0, _, _, _, _, _, _, _, _ => none
  | k + 1, x7, x8, x9, x12, x13, x56, x346000, x346001 => if x56 = true then (if x12 = 2 then (if x13 = 2 then (if (x346000.length : Int) = 0 then ((gangerlaw06_known.f k).bind fun t346 => (some t346)) else (none)) else (none)) else (none)) else (if x13 = 0 then (if x12 = 0 then (gangerlaw06_IndexesRuns.j1 k x7 x8 x9 ((x346000.length : Int) == 0) x346000 x346001) else (gangerlaw06_IndexesRuns.j1 k x7 x8 x9 true x346000 x346001)) else (gangerlaw06_IndexesRuns.j1 k x7 x8 x9 true x346000 x346001))
def gangerlaw06_IndexesRuns.j1 : Nat → Int → Int → Int → Bool → List Int → Int → Option (Bool)
  | 0, _, _, _, _, _, _ => none
  | k + 1, x7, x8, x9, x83, x346000, x346001 => if x83 = true then (none) else (gangerlaw06_IndexesRuns.l0 k x7 x8 x9 0 x346000 x346001)
def gangerlaw06_IndexesRuns.l0 : Nat → Int → Int → Int → Int → List Int → Int → Option (Bool)
  | 0, _, _, _, _, _, _ => none
  | k + 1, x7, x8, x9, x14, x346000, x346001 => if x14 ≤ 1000 then (if x14 = 7 then (gangerlaw06_IndexesRuns.j3 k x7 x8 x9 x14 true x346000 x346001) else (if x14 ≥ x7 then (if x14 ≤ x8 then (if x9 = 0 then (none) else (gangerlaw06_IndexesRuns.j3 k x7 x8 x9 x14 ((Int.tmod (wrap64 (x14 - x7)) x9) == 0) x346000 x346001)) else (gangerlaw06_IndexesRuns.j3 k x7 x8 x9 x14 false x346000 x346001)) else (gangerlaw06_IndexesRuns.j3 k x7 x8 x9 x14 false x346000 x346001))) else ((gangerlaw06_known.f k).bind fun t347 => (some t347))
def gangerlaw06_IndexesRuns.j3 : Nat → Int → Int → Int → Int → Bool → List Int → Int → Option (Bool)
  | 0, _, _, _, _, _, _, _ => none
  | k + 1, x7, x8, x9, x14, x15, x346000, x346001 => (gangerlaw06_has.f k x346000 x346001 x14).bind fun t348 => (if (t348 != x15) = true then (none) else (gangerlaw06_IndexesRuns.l0 k x7 x8 x9 (wrap64 (x14 + 1)) x346000 x346001))
end
def gangerlaw06_IndexesRuns.f (k : Nat) (a0 : Int) (a1 : Int) (a2 : Int) : Option (Bool) := (gangerref06_Digits.f k (wrap64 (Int.tmod a0 1200))).bind fun t336 => (if t336.size + 1 ≤ 9223372036854775807 then ((gangerref06_Digits.f k (wrap64 (Int.tmod a1 1200))).bind fun t337 => (if (t336 ++ (⟨#[45]⟩ : ByteArray)).size + t337.size ≤ 9223372036854775807 then (if ((t336 ++ (⟨#[45]⟩ : ByteArray)) ++ t337).size + 1 ≤ 9223372036854775807 then ((gangerref06_Digits.f k (wrap64 (Int.tmod a2 1200))).bind fun t338 => (if (((t336 ++ (⟨#[45]⟩ : ByteArray)) ++ t337) ++ (⟨#[58]⟩ : ByteArray)).size + t338.size ≤ 9223372036854775807 then (if 2 + ((((t336 ++ (⟨#[45]⟩ : ByteArray)) ++ t337) ++ (⟨#[58]⟩ : ByteArray)) ++ t338).size ≤ 9223372036854775807 then ((indexes_Parse.f ((⟨#[55, 44]⟩ : ByteArray) ++ ((((t336 ++ (⟨#[45]⟩ : ByteArray)) ++ t337) ++ (⟨#[58]⟩ : ByteArray)) ++ t338))).bind fun bt339 => (if (wrap64 (Int.tmod a0 1200)) > (wrap64 (Int.tmod a1 1200)) then (gangerlaw06_IndexesRuns.j0 k (wrap64 (Int.tmod a0 1200)) (wrap64 (Int.tmod a1 1200)) (wrap64 (Int.tmod a2 1200)) bt339.2.2.1 bt339.2.2.2 true bt339.1 bt339.2.1) else (if (wrap64 (Int.tmod a2 1200)) = 0 then (gangerlaw06_IndexesRuns.j0 k (wrap64 (Int.tmod a0 1200)) (wrap64 (Int.tmod a1 1200)) (wrap64 (Int.tmod a2 1200)) bt339.2.2.1 bt339.2.2.2 true bt339.1 bt339.2.1) else (if (wrap64 (Int.tmod a1 1200)) > 1000 then (gangerlaw06_IndexesRuns.j0 k (wrap64 (Int.tmod a0 1200)) (wrap64 (Int.tmod a1 1200)) (wrap64 (Int.tmod a2 1200)) bt339.2.2.1 bt339.2.2.2 true bt339.1 bt339.2.1) else (gangerlaw06_IndexesRuns.j0 k (wrap64 (Int.tmod a0 1200)) (wrap64 (Int.tmod a1 1200)) (wrap64 (Int.tmod a2 1200)) bt339.2.2.1 bt339.2.2.2 (decide ((wrap64 (Int.tmod a2 1200)) > 1000)) bt339.1 bt339.2.1))))) else (none)) else (none))) else (none)) else (none))) else (none))
theorem gangerlaw06_IndexesRuns.mono_l : ∀ k, (∀ y0 y1 y2 y3 y4 y5 y6 y7, LeO (gangerlaw06_IndexesRuns.j0 k y0 y1 y2 y3 y4 y5 y6 y7) (gangerlaw06_IndexesRuns.j0 (k + 1) y0 y1 y2 y3 y4 y5 y6 y7)) ∧ (∀ y0 y1 y2 y3 y4 y5, LeO (gangerlaw06_IndexesRuns.j1 k y0 y1 y2 y3 y4 y5) (gangerlaw06_IndexesRuns.j1 (k + 1) y0 y1 y2 y3 y4 y5)) ∧ (∀ y0 y1 y2 y3 y4 y5, LeO (gangerlaw06_IndexesRuns.l0 k y0 y1 y2 y3 y4 y5) (gangerlaw06_IndexesRuns.l0 (k + 1) y0 y1 y2 y3 y4 y5)) ∧ (∀ y0 y1 y2 y3 y4 y5 y6, LeO (gangerlaw06_IndexesRuns.j3 k y0 y1 y2 y3 y4 y5 y6) (gangerlaw06_IndexesRuns.j3 (k + 1) y0 y1 y2 y3 y4 y5 y6))
  | 0 => ⟨fun _ _ _ _ _ _ _ _ r h => by simp [gangerlaw06_IndexesRuns.j0] at h, fun _ _ _ _ _ _ r h => by simp [gangerlaw06_IndexesRuns.j1] at h, fun _ _ _ _ _ _ r h => by simp [gangerlaw06_IndexesRuns.l0] at h, fun _ _ _ _ _ _ _ r h => by simp [gangerlaw06_IndexesRuns.j3] at h⟩
  | k + 1 => by
    obtain ⟨ih0, ih1, ih2, ih3⟩ := gangerlaw06_IndexesRuns.mono_l k
    refine ⟨?_, ?_, ?_, ?_⟩
    · intro y0 y1 y2 y3 y4 y5 y6 y7
      unfold gangerlaw06_IndexesRuns.j0
      repeat' first
      | (with_reducible exact ih0 _ _ _ _ _ _ _ _)
      | (with_reducible exact ih1 _ _ _ _ _ _)
      | (with_reducible exact ih2 _ _ _ _ _ _)
      | (with_reducible exact ih3 _ _ _ _ _ _ _)
      | (with_reducible exact gangerlaw06_has.mono _ _ _ _)
      | (with_reducible exact gangerlaw06_known.mono _)
      | (with_reducible exact gangerref06_Digits.mono _ _)
      | (with_reducible exact LeO.refl _)
      | (with_reducible exact LeO.none _)
      | (with_reducible refine LeO.ite ?_ ?_)
      | (with_reducible refine LeO.bind ?_ (fun _ => ?_))
      | exact ih0 _ _ _ _ _ _ _ _
      | exact ih1 _ _ _ _ _ _
      | exact ih2 _ _ _ _ _ _
      | exact ih3 _ _ _ _ _ _ _
      | exact gangerlaw06_has.mono _ _ _ _
      | exact gangerlaw06_known.mono _
      | exact gangerref06_Digits.mono _ _
      | exact LeO.none _
      | refine LeO.ite ?_ ?_
      | refine LeO.bind ?_ (fun _ => ?_)
    · intro y0 y1 y2 y3 y4 y5
      unfold gangerlaw06_IndexesRuns.j1
      repeat' first
      | (with_reducible exact ih0 _ _ _ _ _ _ _ _)
      | (with_reducible exact ih1 _ _ _ _ _ _)
      | (with_reducible exact ih2 _ _ _ _ _ _)
      | (with_reducible exact ih3 _ _ _ _ _ _ _)
      | (with_reducible exact gangerlaw06_has.mono _ _ _ _)
      | (with_reducible exact gangerlaw06_known.mono _)
      | (with_reducible exact gangerref06_Digits.mono _ _)
      | (with_reducible exact LeO.refl _)
      | (with_reducible exact LeO.none _)
      | (with_reducible refine LeO.ite ?_ ?_)
      | (with_reducible refine LeO.bind ?_ (fun _ => ?_))
      | exact ih0 _ _ _ _ _ _ _ _
      | exact ih1 _ _ _ _ _ _
      | exact ih2 _ _ _ _ _ _
      | exact ih3 _ _ _ _ _ _ _
      | exact gangerlaw06_has.mono _ _ _ _
      | exact gangerlaw06_known.mono _
      | exact gangerref06_Digits.mono _ _
      | exact LeO.none _
      | refine LeO.ite ?_ ?_
      | refine LeO.bind ?_ (fun _ => ?_)
    · intro y0 y1 y2 y3 y4 y5
      unfold gangerlaw06_IndexesRuns.l0
      repeat' first
      | (with_reducible exact ih0 _ _ _ _ _ _ _ _)
      | (with_reducible exact ih1 _ _ _ _ _ _)
      | (with_reducible exact ih2 _ _ _ _ _ _)
      | (with_reducible exact ih3 _ _ _ _ _ _ _)
      | (with_reducible exact gangerlaw06_has.mono _ _ _ _)
      | (with_reducible exact gangerlaw06_known.mono _)
      | (with_reducible exact gangerref06_Digits.mono _ _)
      | (with_reducible exact LeO.refl _)
      | (with_reducible exact LeO.none _)
      | (with_reducible refine LeO.ite ?_ ?_)
      | (with_reducible refine LeO.bind ?_ (fun _ => ?_))
      | exact ih0 _ _ _ _ _ _ _ _
      | exact ih1 _ _ _ _ _ _
      | exact ih2 _ _ _ _ _ _
      | exact ih3 _ _ _ _ _ _ _
      | exact gangerlaw06_has.mono _ _ _ _
      | exact gangerlaw06_known.mono _
      | exact gangerref06_Digits.mono _ _
      | exact LeO.none _
      | refine LeO.ite ?_ ?_
      | refine LeO.bind ?_ (fun _ => ?_)
    · intro y0 y1 y2 y3 y4 y5 y6
      unfold gangerlaw06_IndexesRuns.j3
      repeat' first
      | (with_reducible exact ih0 _ _ _ _ _ _ _ _)
      | (with_reducible exact ih1 _ _ _ _ _ _)
      | (with_reducible exact ih2 _ _ _ _ _ _)
      | (with_reducible exact ih3 _ _ _ _ _ _ _)
      | (with_reducible exact gangerlaw06_has.mono _ _ _ _)
      | (with_reducible exact gangerlaw06_known.mono _)
      | (with_reducible exact gangerref06_Digits.mono _ _)
      | (with_reducible exact LeO.refl _)
      | (with_reducible exact LeO.none _)
      | (with_reducible refine LeO.ite ?_ ?_)
      | (with_reducible refine LeO.bind ?_ (fun _ => ?_))
      | exact ih0 _ _ _ _ _ _ _ _
      | exact ih1 _ _ _ _ _ _
      | exact ih2 _ _ _ _ _ _
      | exact ih3 _ _ _ _ _ _ _
      | exact gangerlaw06_has.mono _ _ _ _
      | exact gangerlaw06_known.mono _
      | exact gangerref06_Digits.mono _ _
      | exact LeO.none _
      | refine LeO.ite ?_ ?_
      | refine LeO.bind ?_ (fun _ => ?_)
theorem gangerlaw06_IndexesRuns.mono : ∀ a0 a1 a2 k, LeO (gangerlaw06_IndexesRuns.f k a0 a1 a2) (gangerlaw06_IndexesRuns.f (k + 1) a0 a1 a2) := by
  intro a0 a1 a2 k
  obtain ⟨ih0, ih1, ih2, ih3⟩ := gangerlaw06_IndexesRuns.mono_l k
  unfold gangerlaw06_IndexesRuns.f
  repeat' first
      | (with_reducible exact ih0 _ _ _ _ _ _ _ _)
      | (with_reducible exact ih1 _ _ _ _ _ _)
      | (with_reducible exact ih2 _ _ _ _ _ _)
      | (with_reducible exact ih3 _ _ _ _ _ _ _)
      | (with_reducible exact gangerlaw06_has.mono _ _ _ _)
      | (with_reducible exact gangerlaw06_known.mono _)
      | (with_reducible exact gangerref06_Digits.mono _ _)
      | (with_reducible exact LeO.refl _)
      | (with_reducible exact LeO.none _)
      | (with_reducible refine LeO.ite ?_ ?_)
      | (with_reducible refine LeO.bind ?_ (fun _ => ?_))
      | exact ih0 _ _ _ _ _ _ _ _
      | exact ih1 _ _ _ _ _ _
      | exact ih2 _ _ _ _ _ _
      | exact ih3 _ _ _ _ _ _ _
      | exact gangerlaw06_has.mono _ _ _ _
      | exact gangerlaw06_known.mono _
      | exact gangerref06_Digits.mono _ _
      | exact LeO.none _
      | refine LeO.ite ?_ ?_
      | refine LeO.bind ?_ (fun _ => ?_)
set_option maxHeartbeats 8000000 in
set_option maxRecDepth 100000 in
theorem gangerlaw06_IndexesRuns.calls (k : Nat) (a0 : Int) (a1 : Int) (a2 : Int) (r : Bool) (w : World) (hG : Glob w) (h : gangerlaw06_IndexesRuns.f k a0 a1 a2 = some r) :
    Calls Tryd.prog 7 #[.int .u16 a0, .int .u16 a1, .int .u16 a2] w fun e w' => e = .returned (.bool r) ∧ Below w.heap.size w w' := by
  have hu25 := Tryd.underlying25
  have HG := Aside0.mk hG
  clear hG
  have HB := Aside0.mk (Below.refl w.heap.size w)
  have H : ((gangerref06_Digits.f k (wrap64 (Int.tmod a0 1200))).bind fun t336 => (if t336.size + 1 ≤ 9223372036854775807 then ((gangerref06_Digits.f k (wrap64 (Int.tmod a1 1200))).bind fun t337 => (if (t336 ++ (⟨#[45]⟩ : ByteArray)).size + t337.size ≤ 9223372036854775807 then (if ((t336 ++ (⟨#[45]⟩ : ByteArray)) ++ t337).size + 1 ≤ 9223372036854775807 then ((gangerref06_Digits.f k (wrap64 (Int.tmod a2 1200))).bind fun t338 => (if (((t336 ++ (⟨#[45]⟩ : ByteArray)) ++ t337) ++ (⟨#[58]⟩ : ByteArray)).size + t338.size ≤ 9223372036854775807 then (if 2 + ((((t336 ++ (⟨#[45]⟩ : ByteArray)) ++ t337) ++ (⟨#[58]⟩ : ByteArray)) ++ t338).size ≤ 9223372036854775807 then ((indexes_Parse.f ((⟨#[55, 44]⟩ : ByteArray) ++ ((((t336 ++ (⟨#[45]⟩ : ByteArray)) ++ t337) ++ (⟨#[58]⟩ : ByteArray)) ++ t338))).bind fun bt339 => (if (wrap64 (Int.tmod a0 1200)) > (wrap64 (Int.tmod a1 1200)) then (gangerlaw06_IndexesRuns.j0 k (wrap64 (Int.tmod a0 1200)) (wrap64 (Int.tmod a1 1200)) (wrap64 (Int.tmod a2 1200)) bt339.2.2.1 bt339.2.2.2 true bt339.1 bt339.2.1) else (if (wrap64 (Int.tmod a2 1200)) = 0 then (gangerlaw06_IndexesRuns.j0 k (wrap64 (Int.tmod a0 1200)) (wrap64 (Int.tmod a1 1200)) (wrap64 (Int.tmod a2 1200)) bt339.2.2.1 bt339.2.2.2 true bt339.1 bt339.2.1) else (if (wrap64 (Int.tmod a1 1200)) > 1000 then (gangerlaw06_IndexesRuns.j0 k (wrap64 (Int.tmod a0 1200)) (wrap64 (Int.tmod a1 1200)) (wrap64 (Int.tmod a2 1200)) bt339.2.2.1 bt339.2.2.2 true bt339.1 bt339.2.1) else (gangerlaw06_IndexesRuns.j0 k (wrap64 (Int.tmod a0 1200)) (wrap64 (Int.tmod a1 1200)) (wrap64 (Int.tmod a2 1200)) bt339.2.2.1 bt339.2.2.2 (decide ((wrap64 (Int.tmod a2 1200)) > 1000)) bt339.1 bt339.2.1))))) else (none)) else (none))) else (none)) else (none))) else (none))) = some r := h
  clear h
  replace H := Option.bind_eq_some_iff.mp H
  obtain ⟨t336, A40, H⟩ := H
  replace H : (if t336.size + 1 ≤ 9223372036854775807 then ((gangerref06_Digits.f k (wrap64 (Int.tmod a1 1200))).bind fun t337 => (if (t336 ++ (⟨#[45]⟩ : ByteArray)).size + t337.size ≤ 9223372036854775807 then (if ((t336 ++ (⟨#[45]⟩ : ByteArray)) ++ t337).size + 1 ≤ 9223372036854775807 then ((gangerref06_Digits.f k (wrap64 (Int.tmod a2 1200))).bind fun t338 => (if (((t336 ++ (⟨#[45]⟩ : ByteArray)) ++ t337) ++ (⟨#[58]⟩ : ByteArray)).size + t338.size ≤ 9223372036854775807 then (if 2 + ((((t336 ++ (⟨#[45]⟩ : ByteArray)) ++ t337) ++ (⟨#[58]⟩ : ByteArray)) ++ t338).size ≤ 9223372036854775807 then ((indexes_Parse.f ((⟨#[55, 44]⟩ : ByteArray) ++ ((((t336 ++ (⟨#[45]⟩ : ByteArray)) ++ t337) ++ (⟨#[58]⟩ : ByteArray)) ++ t338))).bind fun bt339 => (if (wrap64 (Int.tmod a0 1200)) > (wrap64 (Int.tmod a1 1200)) then (gangerlaw06_IndexesRuns.j0 k (wrap64 (Int.tmod a0 1200)) (wrap64 (Int.tmod a1 1200)) (wrap64 (Int.tmod a2 1200)) bt339.2.2.1 bt339.2.2.2 true bt339.1 bt339.2.1) else (if (wrap64 (Int.tmod a2 1200)) = 0 then (gangerlaw06_IndexesRuns.j0 k (wrap64 (Int.tmod a0 1200)) (wrap64 (Int.tmod a1 1200)) (wrap64 (Int.tmod a2 1200)) bt339.2.2.1 bt339.2.2.2 true bt339.1 bt339.2.1) else (if (wrap64 (Int.tmod a1 1200)) > 1000 then (gangerlaw06_IndexesRuns.j0 k (wrap64 (Int.tmod a0 1200)) (wrap64 (Int.tmod a1 1200)) (wrap64 (Int.tmod a2 1200)) bt339.2.2.1 bt339.2.2.2 true bt339.1 bt339.2.1) else (gangerlaw06_IndexesRuns.j0 k (wrap64 (Int.tmod a0 1200)) (wrap64 (Int.tmod a1 1200)) (wrap64 (Int.tmod a2 1200)) bt339.2.2.1 bt339.2.2.2 (decide ((wrap64 (Int.tmod a2 1200)) > 1000)) bt339.1 bt339.2.1))))) else (none)) else (none))) else (none)) else (none))) else (none)) = some r := H
  have A4 := Aside0.mk A40
  clear A40
  by_cases c5 : t336.size + 1 ≤ 9223372036854775807
  · rw [if_pos c5] at H
    have c5b0 := eq_true c5
    have c5b1 : decide (t336.size + 1 ≤ 9223372036854775807) = true := decide_eq_true c5
    try have c5b2 : (9223372036854775807 < t336.size + 1) = False := eq_false (Nat.not_lt.2 c5)
    try (have c5b3 := c5b2; simp only [ByteArray.size_append, size_lit1] at c5b3)
    replace H := Option.bind_eq_some_iff.mp H
    obtain ⟨t337, A60, H⟩ := H
    replace H : (if (t336 ++ (⟨#[45]⟩ : ByteArray)).size + t337.size ≤ 9223372036854775807 then (if ((t336 ++ (⟨#[45]⟩ : ByteArray)) ++ t337).size + 1 ≤ 9223372036854775807 then ((gangerref06_Digits.f k (wrap64 (Int.tmod a2 1200))).bind fun t338 => (if (((t336 ++ (⟨#[45]⟩ : ByteArray)) ++ t337) ++ (⟨#[58]⟩ : ByteArray)).size + t338.size ≤ 9223372036854775807 then (if 2 + ((((t336 ++ (⟨#[45]⟩ : ByteArray)) ++ t337) ++ (⟨#[58]⟩ : ByteArray)) ++ t338).size ≤ 9223372036854775807 then ((indexes_Parse.f ((⟨#[55, 44]⟩ : ByteArray) ++ ((((t336 ++ (⟨#[45]⟩ : ByteArray)) ++ t337) ++ (⟨#[58]⟩ : ByteArray)) ++ t338))).bind fun bt339 => (if (wrap64 (Int.tmod a0 1200)) > (wrap64 (Int.tmod a1 1200)) then (gangerlaw06_IndexesRuns.j0 k (wrap64 (Int.tmod a0 1200)) (wrap64 (Int.tmod a1 1200)) (wrap64 (Int.tmod a2 1200)) bt339.2.2.1 bt339.2.2.2 true bt339.1 bt339.2.1) else (if (wrap64 (Int.tmod a2 1200)) = 0 then (gangerlaw06_IndexesRuns.j0 k (wrap64 (Int.tmod a0 1200)) (wrap64 (Int.tmod a1 1200)) (wrap64 (Int.tmod a2 1200)) bt339.2.2.1 bt339.2.2.2 true bt339.1 bt339.2.1) else (if (wrap64 (Int.tmod a1 1200)) > 1000 then (gangerlaw06_IndexesRuns.j0 k (wrap64 (Int.tmod a0 1200)) (wrap64 (Int.tmod a1 1200)) (wrap64 (Int.tmod a2 1200)) bt339.2.2.1 bt339.2.2.2 true bt339.1 bt339.2.1) else (gangerlaw06_IndexesRuns.j0 k (wrap64 (Int.tmod a0 1200)) (wrap64 (Int.tmod a1 1200)) (wrap64 (Int.tmod a2 1200)) bt339.2.2.1 bt339.2.2.2 (decide ((wrap64 (Int.tmod a2 1200)) > 1000)) bt339.1 bt339.2.1))))) else (none)) else (none))) else (none)) else (none)) = some r := H
    have A6 := Aside0.mk A60
    clear A60
    by_cases c7 : (t336 ++ (⟨#[45]⟩ : ByteArray)).size + t337.size ≤ 9223372036854775807
    · rw [if_pos c7] at H
      have c7b0 := eq_true c7
      have c7b1 : decide ((t336 ++ (⟨#[45]⟩ : ByteArray)).size + t337.size ≤ 9223372036854775807) = true := decide_eq_true c7
      try have c7b2 : (9223372036854775807 < (t336 ++ (⟨#[45]⟩ : ByteArray)).size + t337.size) = False := eq_false (Nat.not_lt.2 c7)
      try (have c7b3 := c7b2; simp only [ByteArray.size_append, size_lit1] at c7b3)
      by_cases c8 : ((t336 ++ (⟨#[45]⟩ : ByteArray)) ++ t337).size + 1 ≤ 9223372036854775807
      · rw [if_pos c8] at H
        have c8b0 := eq_true c8
        have c8b1 : decide (((t336 ++ (⟨#[45]⟩ : ByteArray)) ++ t337).size + 1 ≤ 9223372036854775807) = true := decide_eq_true c8
        try have c8b2 : (9223372036854775807 < ((t336 ++ (⟨#[45]⟩ : ByteArray)) ++ t337).size + 1) = False := eq_false (Nat.not_lt.2 c8)
        try (have c8b3 := c8b2; simp only [ByteArray.size_append, size_lit1] at c8b3)
        replace H := Option.bind_eq_some_iff.mp H
        obtain ⟨t338, A90, H⟩ := H
        replace H : (if (((t336 ++ (⟨#[45]⟩ : ByteArray)) ++ t337) ++ (⟨#[58]⟩ : ByteArray)).size + t338.size ≤ 9223372036854775807 then (if 2 + ((((t336 ++ (⟨#[45]⟩ : ByteArray)) ++ t337) ++ (⟨#[58]⟩ : ByteArray)) ++ t338).size ≤ 9223372036854775807 then ((indexes_Parse.f ((⟨#[55, 44]⟩ : ByteArray) ++ ((((t336 ++ (⟨#[45]⟩ : ByteArray)) ++ t337) ++ (⟨#[58]⟩ : ByteArray)) ++ t338))).bind fun bt339 => (if (wrap64 (Int.tmod a0 1200)) > (wrap64 (Int.tmod a1 1200)) then (gangerlaw06_IndexesRuns.j0 k (wrap64 (Int.tmod a0 1200)) (wrap64 (Int.tmod a1 1200)) (wrap64 (Int.tmod a2 1200)) bt339.2.2.1 bt339.2.2.2 true bt339.1 bt339.2.1) else (if (wrap64 (Int.tmod a2 1200)) = 0 then (gangerlaw06_IndexesRuns.j0 k (wrap64 (Int.tmod a0 1200)) (wrap64 (Int.tmod a1 1200)) (wrap64 (Int.tmod a2 1200)) bt339.2.2.1 bt339.2.2.2 true bt339.1 bt339.2.1) else (if (wrap64 (Int.tmod a1 1200)) > 1000 then (gangerlaw06_IndexesRuns.j0 k (wrap64 (Int.tmod a0 1200)) (wrap64 (Int.tmod a1 1200)) (wrap64 (Int.tmod a2 1200)) bt339.2.2.1 bt339.2.2.2 true bt339.1 bt339.2.1) else (gangerlaw06_IndexesRuns.j0 k (wrap64 (Int.tmod a0 1200)) (wrap64 (Int.tmod a1 1200)) (wrap64 (Int.tmod a2 1200)) bt339.2.2.1 bt339.2.2.2 (decide ((wrap64 (Int.tmod a2 1200)) > 1000)) bt339.1 bt339.2.1))))) else (none)) else (none)) = some r := H
        have A9 := Aside0.mk A90
        clear A90
        by_cases c10 : (((t336 ++ (⟨#[45]⟩ : ByteArray)) ++ t337) ++ (⟨#[58]⟩ : ByteArray)).size + t338.size ≤ 9223372036854775807
        · rw [if_pos c10] at H
          have c10b0 := eq_true c10
          have c10b1 : decide ((((t336 ++ (⟨#[45]⟩ : ByteArray)) ++ t337) ++ (⟨#[58]⟩ : ByteArray)).size + t338.size ≤ 9223372036854775807) = true := decide_eq_true c10
          try have c10b2 : (9223372036854775807 < (((t336 ++ (⟨#[45]⟩ : ByteArray)) ++ t337) ++ (⟨#[58]⟩ : ByteArray)).size + t338.size) = False := eq_false (Nat.not_lt.2 c10)
          try (have c10b3 := c10b2; simp only [ByteArray.size_append, size_lit1] at c10b3)
          by_cases c11 : 2 + ((((t336 ++ (⟨#[45]⟩ : ByteArray)) ++ t337) ++ (⟨#[58]⟩ : ByteArray)) ++ t338).size ≤ 9223372036854775807
          · rw [if_pos c11] at H
            have c11b0 := eq_true c11
            have c11b1 : decide (2 + ((((t336 ++ (⟨#[45]⟩ : ByteArray)) ++ t337) ++ (⟨#[58]⟩ : ByteArray)) ++ t338).size ≤ 9223372036854775807) = true := decide_eq_true c11
            try have c11b2 : (9223372036854775807 < 2 + ((((t336 ++ (⟨#[45]⟩ : ByteArray)) ++ t337) ++ (⟨#[58]⟩ : ByteArray)) ++ t338).size) = False := eq_false (Nat.not_lt.2 c11)
            try (have c11b3 := c11b2; simp only [ByteArray.size_append, size_lit1] at c11b3)
            replace H := Option.bind_eq_some_iff.mp H
            obtain ⟨⟨t339, t342, t343, t344⟩, A120, H⟩ := H
            replace H : (if (wrap64 (Int.tmod a0 1200)) > (wrap64 (Int.tmod a1 1200)) then (gangerlaw06_IndexesRuns.j0 k (wrap64 (Int.tmod a0 1200)) (wrap64 (Int.tmod a1 1200)) (wrap64 (Int.tmod a2 1200)) t343 t344 true t339 t342) else (if (wrap64 (Int.tmod a2 1200)) = 0 then (gangerlaw06_IndexesRuns.j0 k (wrap64 (Int.tmod a0 1200)) (wrap64 (Int.tmod a1 1200)) (wrap64 (Int.tmod a2 1200)) t343 t344 true t339 t342) else (if (wrap64 (Int.tmod a1 1200)) > 1000 then (gangerlaw06_IndexesRuns.j0 k (wrap64 (Int.tmod a0 1200)) (wrap64 (Int.tmod a1 1200)) (wrap64 (Int.tmod a2 1200)) t343 t344 true t339 t342) else (gangerlaw06_IndexesRuns.j0 k (wrap64 (Int.tmod a0 1200)) (wrap64 (Int.tmod a1 1200)) (wrap64 (Int.tmod a2 1200)) t343 t344 (decide ((wrap64 (Int.tmod a2 1200)) > 1000)) t339 t342)))) = some r := H
            have A12 := Aside0.mk A120
            clear A120
            have HC13 := Aside0.mk H
            clear H
            go_enter Tryd.func7, Tryd.ntmps7
            go_upto_region 6 with (first | ((with_reducible refine gate_callee (f := 19) rfl ?_); refine goesL_ (some 26) rfl rfl Tryd.func19 (by kernel_rfl) rfl #[.int .i64 (wrap64 (Int.tmod a0 1200))] rfl (by (try simp only [List.map_toArray, List.map_cons, List.map_nil]); first | done | rfl | (simp only [List.length_drop, List.length_take]; rfl)) ?_; (with_reducible refine (gangerref06_Digits.calls k (wrap64 (Int.tmod a0 1200)) t336 _ A4.out).mono ?_); rintro e w14 ⟨rfl, hb⟩; refine ⟨_, rfl, ?_⟩; have n0_ := Aside0.mk (below_step (by repeat (first | (with_reducible first | exact HB.out | apply below_alloc | apply pw_below_drewN | apply below_drew1) | exact HB.out)) hb); clear HB; have HB := n0_; clear n0_; (try clear hb); (try clear hb2); (try clear hk); (try clear hi)) | ((with_reducible refine gate_callee (f := 19) rfl ?_); refine goesL_ (some 29) rfl rfl Tryd.func19 (by kernel_rfl) rfl #[.int .i64 (wrap64 (Int.tmod a1 1200))] rfl (by (try simp only [List.map_toArray, List.map_cons, List.map_nil]); first | done | rfl | (simp only [List.length_drop, List.length_take]; rfl)) ?_; (with_reducible refine (gangerref06_Digits.calls k (wrap64 (Int.tmod a1 1200)) t337 _ A6.out).mono ?_); rintro e w15 ⟨rfl, hb⟩; refine ⟨_, rfl, ?_⟩; have n0_ := Aside0.mk (below_step (by repeat (first | (with_reducible first | exact HB.out | apply below_alloc | apply pw_below_drewN | apply below_drew1) | exact HB.out)) hb); clear HB; have HB := n0_; clear n0_; (try clear hb); (try clear hb2); (try clear hk); (try clear hi)) | ((with_reducible refine gate_callee (f := 19) rfl ?_); refine goesL_ (some 33) rfl rfl Tryd.func19 (by kernel_rfl) rfl #[.int .i64 (wrap64 (Int.tmod a2 1200))] rfl (by (try simp only [List.map_toArray, List.map_cons, List.map_nil]); first | done | rfl | (simp only [List.length_drop, List.length_take]; rfl)) ?_; (with_reducible refine (gangerref06_Digits.calls k (wrap64 (Int.tmod a2 1200)) t338 _ A9.out).mono ?_); rintro e w16 ⟨rfl, hb⟩; refine ⟨_, rfl, ?_⟩; have n0_ := Aside0.mk (below_step (by repeat (first | (with_reducible first | exact HB.out | apply below_alloc | apply pw_below_drewN | apply below_drew1) | exact HB.out)) hb); clear HB; have HB := n0_; clear n0_; (try clear hb); (try clear hb2); (try clear hk); (try clear hi)) | ((with_reducible refine gate_callee (f := 11) rfl ?_); refine goesL_ (some 38) rfl rfl Tryd.func11 (by kernel_rfl) rfl #[.string ((⟨#[55, 44]⟩ : ByteArray) ++ ((((t336 ++ (⟨#[45]⟩ : ByteArray)) ++ t337) ++ (⟨#[58]⟩ : ByteArray)) ++ t338))] rfl (by (try simp only [List.map_toArray, List.map_cons, List.map_nil]); first | done | rfl | (simp only [List.length_drop, List.length_take]; rfl)) ?_; (with_reducible refine (indexes_Parse.calls ((⟨#[55, 44]⟩ : ByteArray) ++ ((((t336 ++ (⟨#[45]⟩ : ByteArray)) ++ t337) ++ (⟨#[58]⟩ : ByteArray)) ++ t338)) t339 t342 t343 t344 _ A12.out).mono ?_); rintro e w17 ⟨v340, rfl, ho0, hb⟩; refine ⟨_, rfl, ?_⟩; have n0_ := Aside0.mk (Kd.R_lower ho0 (below_size (by repeat (first | (with_reducible first | exact HB.out | apply below_alloc | apply pw_below_drewN | apply below_drew1) | exact HB.out)))); have n1_ := Aside0.mk (below_step (by repeat (first | (with_reducible first | exact HB.out | apply below_alloc | apply pw_below_drewN | apply below_drew1) | exact HB.out)) hb); clear HB; have HO341 := n0_; have HB := n1_; clear n0_ n1_; (try clear hb); (try clear hb2); (try clear hk); (try clear hi); (try clear ho0)) | ((with_reducible refine gate_dst (N := 11) rfl ?_); (try (refine gate_guard (by rfl) ?_; dsimp only)); refine box_event ?hg (N := 11) ?hd (cs := #[.slice none 0 0, .int .i64 0]) (t := 25) ?hr ?_; (case hd => rfl); (case hg => rfl); (case hr => first | (go_simp; done) | (go_simp; rfl)); intro gb345 hg w18 hbox hb; have n0_ := Aside0.mk (Kd.R_below (by (with_reducible repeat (first | apply Kd.R_alloc | apply Kd.R_drewN | apply Kd.R_drew)); exact HO341.out) hb); have n1_ := Aside0.mk (below_step (by repeat (first | (with_reducible first | exact HB.out | apply below_alloc | apply pw_below_drewN | apply below_drew1) | exact HB.out)) hb); have n2_ := Aside0.mk (hbox); have n3_ := Aside0.mk ((by rw [hg]; exact (below_size (by repeat (first | (with_reducible first | exact HB.out | apply below_alloc | apply pw_below_drewN | apply below_drew1) | exact HB.out))) : w.heap.size ≤ gb345)); have n4_ := Aside0.mk ((by rw [hg]; exact (below_size (by repeat (first | (with_reducible first | exact HB.out | apply below_alloc | apply pw_below_drewN | apply below_drew1) | exact HB.out))) : w.heap.size ≤ gb345)); clear HO341; clear HB; have HO341 := n0_; have HB := n1_; have BK345 := n2_; have GW345 := n3_; have GE345 := n4_; clear n0_ n1_ n2_ n3_ n4_; clear hb hbox hg; obtain ⟨Ao19, co19, eo19⟩ := Kd.R_slice HO341.out; subst eo19; have hcz20_0 : w18.cell? ⟨gb345, 0, none⟩ = some (.slice none 0 0) := (blk_cell BK345.out 0).trans rfl; have hcz20_1 : w18.cell? ⟨gb345, 1, none⟩ = some (.int .i64 0) := (blk_cell BK345.out 1).trans rfl; have hfz20_0 := blk_frozen BK345.out 0; have hfz20_1 := blk_frozen BK345.out 1))
            (try simp only [Act.put, List.setIfInBounds_toArray, List.set_cons_zero, List.set_cons_succ])
            go_cut [56] (fun v56 wc => ∃ (kq : Nat) (x56_12 : Bool), v56 = .bool x56_12 ∧ Aside0 (gangerlaw06_IndexesRuns.j0 kq (wrap64 (Int.tmod a0 1200)) (wrap64 (Int.tmod a1 1200)) (wrap64 (Int.tmod a2 1200)) t343 t344 x56_12 t339 t342 = some r) ∧ Aside0 (kq ≤ k) ∧ Aside0 (Kd.R (Kd.int .i64) 3 wc w.heap.size (fun _ => True) (.slice Ao19 t339.length co19) t339) ∧ Aside0 (wc.heap[gb345]? = some (.cells #[(.slice Ao19 t339.length co19), .int .i64 t342] 25 (0, 0))) ∧ Aside0 (Below w.heap.size w wc))
            case first =>
              have H := HC13.out
              clear HC13
              by_cases c21 : (wrap64 (Int.tmod a0 1200)) > (wrap64 (Int.tmod a1 1200))
              · rw [if_pos c21] at H
                have c21b0 : decide ((wrap64 (Int.tmod a1 1200)) < (wrap64 (Int.tmod a0 1200))) = true := decide_eq_true c21
                clear c21
                (first | rw [c21b0] | (simp only [i64_w, i32_w]; rw [c21b0]) | skip)
                have H' := Aside0.mk H
                clear H
                go_wp2
                go_meet
                case rel => exact ⟨_, (true), (by first | rfl | (simp; done) | (simp [*]; done)), H', ⟨by first | omega | exact Nat.le_refl _⟩, ⟨by (with_reducible repeat (first | apply Kd.R_alloc | apply Kd.R_drewN | apply Kd.R_drew)); exact Kd.R_mono (Kd.R_far (p := ⟨gb345, 1, none⟩) (Kd.R_far (p := ⟨gb345, 0, none⟩) (Kd.R_types HO341.out BK345.out (by decide)) (fun _ hk => hk.2) (.slice Ao19 t339.length co19)) (fun _ hk => hk.2) (.int .i64 t342)) (fun _ hk => trivial)⟩, ⟨by (with_reducible repeat (first | refine blk_drewN ?_ _ | refine blk_drew ?_ | refine blk_alloc ?_ _)); refine blk_put (cs := #[.slice Ao19 t339.length co19, .int .i64 0]) ?_ 1 _ rfl; (with_reducible repeat (first | refine blk_drewN ?_ _ | refine blk_drew ?_ | refine blk_alloc ?_ _)); refine blk_put (cs := #[.slice none 0 0, .int .i64 0]) ?_ 0 _ rfl; (with_reducible repeat (first | refine blk_drewN ?_ _ | refine blk_drew ?_ | refine blk_alloc ?_ _)); exact BK345.out⟩, ⟨by repeat (first | (with_reducible first | exact HB.out | apply below_alloc | apply pw_below_drewN | apply below_drew1 | refine below_set ?_ GE345.out) | exact HB.out)⟩⟩
              · rw [if_neg c21] at H
                have c21b0 : decide ((wrap64 (Int.tmod a1 1200)) < (wrap64 (Int.tmod a0 1200))) = false := decide_eq_false c21
                clear c21
                (first | rw [c21b0] | (simp only [i64_w, i32_w]; rw [c21b0]) | skip)
                by_cases c22 : (wrap64 (Int.tmod a2 1200)) = 0
                · rw [if_pos c22] at H
                  have c22b0 : ((wrap64 (Int.tmod a2 1200)) == 0) = true := beq_iff_eq.mpr c22
                  have c22b1 : ((wrap64 (Int.tmod a2 1200)) != 0) = false := bne_eq_false_iff_eq.mpr c22
                  clear c22
                  have H' := Aside0.mk H
                  clear H
                  go_wp2
                  go_meet
                  case rel => exact ⟨_, (true), (by first | rfl | (simp; done) | (simp [*]; done)), H', ⟨by first | omega | exact Nat.le_refl _⟩, ⟨by (with_reducible repeat (first | apply Kd.R_alloc | apply Kd.R_drewN | apply Kd.R_drew)); exact Kd.R_mono (Kd.R_far (p := ⟨gb345, 1, none⟩) (Kd.R_far (p := ⟨gb345, 0, none⟩) (Kd.R_types HO341.out BK345.out (by decide)) (fun _ hk => hk.2) (.slice Ao19 t339.length co19)) (fun _ hk => hk.2) (.int .i64 t342)) (fun _ hk => trivial)⟩, ⟨by (with_reducible repeat (first | refine blk_drewN ?_ _ | refine blk_drew ?_ | refine blk_alloc ?_ _)); refine blk_put (cs := #[.slice Ao19 t339.length co19, .int .i64 0]) ?_ 1 _ rfl; (with_reducible repeat (first | refine blk_drewN ?_ _ | refine blk_drew ?_ | refine blk_alloc ?_ _)); refine blk_put (cs := #[.slice none 0 0, .int .i64 0]) ?_ 0 _ rfl; (with_reducible repeat (first | refine blk_drewN ?_ _ | refine blk_drew ?_ | refine blk_alloc ?_ _)); exact BK345.out⟩, ⟨by repeat (first | (with_reducible first | exact HB.out | apply below_alloc | apply pw_below_drewN | apply below_drew1 | refine below_set ?_ GE345.out) | exact HB.out)⟩⟩
                · rw [if_neg c22] at H
                  have c22b0 : ((wrap64 (Int.tmod a2 1200)) == 0) = false := beq_eq_false_iff_ne.mpr c22
                  have c22b1 : ((wrap64 (Int.tmod a2 1200)) != 0) = true := bne_iff_ne.mpr c22
                  by_cases c23 : (wrap64 (Int.tmod a1 1200)) > 1000
                  · rw [if_pos c23] at H
                    have c23b0 : decide (1000 < (wrap64 (Int.tmod a1 1200))) = true := decide_eq_true c23
                    clear c23
                    have H' := Aside0.mk H
                    clear H
                    go_wp2
                    go_meet
                    case rel => exact ⟨_, (true), (by first | rfl | (simp; done) | (simp [*]; done)), H', ⟨by first | omega | exact Nat.le_refl _⟩, ⟨by (with_reducible repeat (first | apply Kd.R_alloc | apply Kd.R_drewN | apply Kd.R_drew)); exact Kd.R_mono (Kd.R_far (p := ⟨gb345, 1, none⟩) (Kd.R_far (p := ⟨gb345, 0, none⟩) (Kd.R_types HO341.out BK345.out (by decide)) (fun _ hk => hk.2) (.slice Ao19 t339.length co19)) (fun _ hk => hk.2) (.int .i64 t342)) (fun _ hk => trivial)⟩, ⟨by (with_reducible repeat (first | refine blk_drewN ?_ _ | refine blk_drew ?_ | refine blk_alloc ?_ _)); refine blk_put (cs := #[.slice Ao19 t339.length co19, .int .i64 0]) ?_ 1 _ rfl; (with_reducible repeat (first | refine blk_drewN ?_ _ | refine blk_drew ?_ | refine blk_alloc ?_ _)); refine blk_put (cs := #[.slice none 0 0, .int .i64 0]) ?_ 0 _ rfl; (with_reducible repeat (first | refine blk_drewN ?_ _ | refine blk_drew ?_ | refine blk_alloc ?_ _)); exact BK345.out⟩, ⟨by repeat (first | (with_reducible first | exact HB.out | apply below_alloc | apply pw_below_drewN | apply below_drew1 | refine below_set ?_ GE345.out) | exact HB.out)⟩⟩
                  · rw [if_neg c23] at H
                    have c23b0 : decide (1000 < (wrap64 (Int.tmod a1 1200))) = false := decide_eq_false c23
                    clear c23
                    have H' := Aside0.mk H
                    clear H
                    go_wp2
                    go_meet
                    case rel => exact ⟨_, (decide ((wrap64 (Int.tmod a2 1200)) > 1000)), (by first | rfl | (simp; done) | (simp [*]; done)), H', ⟨by first | omega | exact Nat.le_refl _⟩, ⟨by (with_reducible repeat (first | apply Kd.R_alloc | apply Kd.R_drewN | apply Kd.R_drew)); exact Kd.R_mono (Kd.R_far (p := ⟨gb345, 1, none⟩) (Kd.R_far (p := ⟨gb345, 0, none⟩) (Kd.R_types HO341.out BK345.out (by decide)) (fun _ hk => hk.2) (.slice Ao19 t339.length co19)) (fun _ hk => hk.2) (.int .i64 t342)) (fun _ hk => trivial)⟩, ⟨by (with_reducible repeat (first | refine blk_drewN ?_ _ | refine blk_drew ?_ | refine blk_alloc ?_ _)); refine blk_put (cs := #[.slice Ao19 t339.length co19, .int .i64 0]) ?_ 1 _ rfl; (with_reducible repeat (first | refine blk_drewN ?_ _ | refine blk_drew ?_ | refine blk_alloc ?_ _)); refine blk_put (cs := #[.slice none 0 0, .int .i64 0]) ?_ 0 _ rfl; (with_reducible repeat (first | refine blk_drewN ?_ _ | refine blk_drew ?_ | refine blk_alloc ?_ _)); exact BK345.out⟩, ⟨by repeat (first | (with_reducible first | exact HB.out | apply below_alloc | apply pw_below_drewN | apply below_drew1 | refine below_set ?_ GE345.out) | exact HB.out)⟩⟩
            case rest =>
              clear HC13
              try clear c1
              try clear c2
              try clear p2
              try clear c5
              try clear c5b0
              try clear c5b1
              try clear c5b2
              try clear p6
              try clear c7
              try clear c7b0
              try clear c7b1
              try clear c7b2
              try clear c8
              try clear c8b0
              try clear c8b1
              try clear c8b2
              try clear c10
              try clear c10b0
              try clear c10b1
              try clear c10b2
              try clear c11
              try clear c11b0
              try clear c11b1
              try clear c11b2
              try clear c19
              try clear c21
              try clear c21b0
              try clear c22
              try clear c22b0
              try clear c22b1
              try clear c23
              try clear c23b0
              try clear hcz20_0
              try clear hcz20_1
              try clear hfz20_0
              try clear hfz20_1
              obtain ⟨kq, x56_12, rfl, HA, HJ12, HO_346000, BK345, HB⟩ := hcut
              cases kq with
              | zero => exact absurd HA.out (by simp [gangerlaw06_IndexesRuns.j0])
              | succ kj12 =>
                have H := HA.out
                clear HA
                simp only [gangerlaw06_IndexesRuns.j0] at H
                by_cases c24 : x56_12 = true
                · subst c24
                  have H1 : (if t343 = 2 then (if t344 = 2 then (if (t339.length : Int) = 0 then ((gangerlaw06_known.f kj12).bind fun t346 => (some t346)) else (none)) else (none)) else (none)) = some r := by rw [if_pos rfl] at H; exact H
                  clear H
                  have H := H1
                  clear H1
                  by_cases c25 : t343 = 2
                  · rw [if_pos c25] at H
                    have c25b0 : (t343 == 2) = true := beq_iff_eq.mpr c25
                    have c25b1 : (t343 != 2) = false := bne_eq_false_iff_eq.mpr c25
                    clear c25
                    by_cases c26 : t344 = 2
                    · rw [if_pos c26] at H
                      have c26b0 : (t344 == 2) = true := beq_iff_eq.mpr c26
                      have c26b1 : (t344 != 2) = false := bne_eq_false_iff_eq.mpr c26
                      clear c26
                      by_cases c27 : (t339.length : Int) = 0
                      · rw [if_pos c27] at H
                        have c27b0 : ((t339.length : Int) == 0) = true := beq_iff_eq.mpr c27
                        have c27b1 : ((t339.length : Int) != 0) = false := bne_eq_false_iff_eq.mpr c27
                        clear c27
                        replace H := Option.bind_eq_some_iff.mp H
                        obtain ⟨t346, A280, H⟩ := H
                        replace H : (some t346) = some r := H
                        have A28 := Aside0.mk A280
                        clear A280
                        obtain rfl := Option.some.inj H
                        have hcz29_0 : wc.cell? ⟨gb345, 0, none⟩ = some (.slice Ao19 t339.length co19) := (blk_cell BK345.out 0).trans rfl
                        have hcz29_1 : wc.cell? ⟨gb345, 1, none⟩ = some (.int .i64 t342) := (blk_cell BK345.out 1).trans rfl
                        have hfz29_0 := blk_frozen BK345.out 0
                        have hfz29_1 := blk_frozen BK345.out 1
                        go_wp2_with (first | (go_at_call 10; (with_reducible refine (gangerlaw06_known.calls kj12  t346 _ ?side1 A28.out).mono ?_); (case side1 => exact Glob.below HG.out (by repeat (first | (with_reducible first | exact HB.out | apply below_alloc | apply pw_below_drewN | apply below_drew1 | refine below_set ?_ GE345.out) | exact HB.out))); rintro e w30 ⟨rfl, hb⟩; have n0_ := Aside0.mk (Kd.R_below (by (with_reducible repeat (first | apply Kd.R_alloc | apply Kd.R_drewN | apply Kd.R_drew)); exact HO_346000.out) hb); have n1_ := Aside0.mk (blk_below (g := gb345) (o := .cells #[.slice Ao19 t339.length co19, .int .i64 t342] 25 (0, 0)) (by (with_reducible repeat (first | refine blk_drewN ?_ _ | refine blk_drew ?_ | refine blk_alloc ?_ _)); exact BK345.out) hb); have n2_ := Aside0.mk (below_step (by repeat (first | (with_reducible first | exact HB.out | apply below_alloc | apply pw_below_drewN | apply below_drew1 | refine below_set ?_ GE345.out) | exact HB.out)) hb); clear HO_346000; clear BK345; clear HB; have HO_346000 := n0_; have BK345 := n1_; have HB := n2_; clear n0_ n1_ n2_; (try clear hb); (try clear hb2); (try clear hk); (try clear hi)))
                        go_ret
                        exact ⟨by first | rfl | (simp [errW_none, errW_some] <;> rfl) | (simp [*, errW_none, errW_some] <;> rfl), by repeat (first | (with_reducible first | exact HB.out | apply below_alloc | apply pw_below_drewN | apply below_drew1 | refine below_set ?_ GE345.out) | exact HB.out)⟩
                      · rw [if_neg c27] at H
                        exact absurd H (by simp)
                    · rw [if_neg c26] at H
                      exact absurd H (by simp)
                  · rw [if_neg c25] at H
                    exact absurd H (by simp)
                · replace c24 := Bool.eq_false_iff.mpr c24
                  subst c24
                  have H1 : (if t344 = 0 then (if t343 = 0 then (gangerlaw06_IndexesRuns.j1 kj12 (wrap64 (Int.tmod a0 1200)) (wrap64 (Int.tmod a1 1200)) (wrap64 (Int.tmod a2 1200)) ((t339.length : Int) == 0) t339 t342) else (gangerlaw06_IndexesRuns.j1 kj12 (wrap64 (Int.tmod a0 1200)) (wrap64 (Int.tmod a1 1200)) (wrap64 (Int.tmod a2 1200)) true t339 t342)) else (gangerlaw06_IndexesRuns.j1 kj12 (wrap64 (Int.tmod a0 1200)) (wrap64 (Int.tmod a1 1200)) (wrap64 (Int.tmod a2 1200)) true t339 t342)) = some r := by rw [if_neg (show ¬ (false = true) by decide)] at H; exact H
                  clear H
                  have H := H1
                  clear H1
                  have HC31 := Aside0.mk H
                  clear H
                  go_upto_region 8 with (fail)
                  go_cut [83] (fun v83 wc => ∃ (kq : Nat) (x83_30 : Bool), v83 = .bool x83_30 ∧ Aside0 (gangerlaw06_IndexesRuns.j1 kq (wrap64 (Int.tmod a0 1200)) (wrap64 (Int.tmod a1 1200)) (wrap64 (Int.tmod a2 1200)) x83_30 t339 t342 = some r) ∧ Aside0 (kq ≤ kj12) ∧ Aside0 (Kd.R (Kd.int .i64) 3 wc w.heap.size (fun _ => True) (.slice Ao19 t339.length co19) t339) ∧ Aside0 (wc.heap[gb345]? = some (.cells #[(.slice Ao19 t339.length co19), .int .i64 t342] 25 (0, 0))) ∧ Aside0 (Below w.heap.size w wc))
                  case first =>
                    have H := HC31.out
                    clear HC31
                    by_cases c32 : t344 = 0
                    · rw [if_pos c32] at H
                      have c32b0 : (t344 == 0) = true := beq_iff_eq.mpr c32
                      have c32b1 : (t344 != 0) = false := bne_eq_false_iff_eq.mpr c32
                      clear c32
                      (first | rw [c32b0] | (simp only [i64_w, i32_w]; rw [c32b0]) | skip)
                      by_cases c33 : t343 = 0
                      · rw [if_pos c33] at H
                        have c33b0 : (t343 == 0) = true := beq_iff_eq.mpr c33
                        have c33b1 : (t343 != 0) = false := bne_eq_false_iff_eq.mpr c33
                        clear c33
                        have H' := Aside0.mk H
                        clear H
                        have hcz34_0 : wc.cell? ⟨gb345, 0, none⟩ = some (.slice Ao19 t339.length co19) := (blk_cell BK345.out 0).trans rfl
                        have hcz34_1 : wc.cell? ⟨gb345, 1, none⟩ = some (.int .i64 t342) := (blk_cell BK345.out 1).trans rfl
                        have hfz34_0 := blk_frozen BK345.out 0
                        have hfz34_1 := blk_frozen BK345.out 1
                        go_wp2
                        go_meet
                        case rel => exact ⟨_, (((t339.length : Int) == 0)), (by first | rfl | (simp; done) | (simp [*]; done)), H', ⟨by have := HJ12.out; first | omega | exact Nat.le_refl _⟩, ⟨by (with_reducible repeat (first | apply Kd.R_alloc | apply Kd.R_drewN | apply Kd.R_drew)); exact HO_346000.out⟩, ⟨by (with_reducible repeat (first | refine blk_drewN ?_ _ | refine blk_drew ?_ | refine blk_alloc ?_ _)); exact BK345.out⟩, ⟨by repeat (first | (with_reducible first | exact HB.out | apply below_alloc | apply pw_below_drewN | apply below_drew1 | refine below_set ?_ GE345.out) | exact HB.out)⟩⟩
                      · rw [if_neg c33] at H
                        have c33b0 : (t343 == 0) = false := beq_eq_false_iff_ne.mpr c33
                        have c33b1 : (t343 != 0) = true := bne_iff_ne.mpr c33
                        have H' := Aside0.mk H
                        clear H
                        go_wp2
                        go_meet
                        case rel => exact ⟨_, (true), (by first | rfl | (simp; done) | (simp [*]; done)), H', ⟨by have := HJ12.out; first | omega | exact Nat.le_refl _⟩, ⟨by (with_reducible repeat (first | apply Kd.R_alloc | apply Kd.R_drewN | apply Kd.R_drew)); exact HO_346000.out⟩, ⟨by (with_reducible repeat (first | refine blk_drewN ?_ _ | refine blk_drew ?_ | refine blk_alloc ?_ _)); exact BK345.out⟩, ⟨by repeat (first | (with_reducible first | exact HB.out | apply below_alloc | apply pw_below_drewN | apply below_drew1 | refine below_set ?_ GE345.out) | exact HB.out)⟩⟩
                    · rw [if_neg c32] at H
                      have c32b0 : (t344 == 0) = false := beq_eq_false_iff_ne.mpr c32
                      have c32b1 : (t344 != 0) = true := bne_iff_ne.mpr c32
                      (first | rw [c32b0] | (simp only [i64_w, i32_w]; rw [c32b0]) | skip)
                      have H' := Aside0.mk H
                      clear H
                      go_wp2
                      go_meet
                      case rel => exact ⟨_, (true), (by first | rfl | (simp; done) | (simp [*]; done)), H', ⟨by have := HJ12.out; first | omega | exact Nat.le_refl _⟩, ⟨by (with_reducible repeat (first | apply Kd.R_alloc | apply Kd.R_drewN | apply Kd.R_drew)); exact HO_346000.out⟩, ⟨by (with_reducible repeat (first | refine blk_drewN ?_ _ | refine blk_drew ?_ | refine blk_alloc ?_ _)); exact BK345.out⟩, ⟨by repeat (first | (with_reducible first | exact HB.out | apply below_alloc | apply pw_below_drewN | apply below_drew1 | refine below_set ?_ GE345.out) | exact HB.out)⟩⟩
                  case rest =>
                    clear HC31
                    try clear c1
                    try clear c2
                    try clear p2
                    try clear c3
                    try clear c5
                    try clear c5b0
                    try clear c5b1
                    try clear c5b2
                    try clear p6
                    try clear c7
                    try clear c7b0
                    try clear c7b1
                    try clear c7b2
                    try clear c8
                    try clear c8b0
                    try clear c8b1
                    try clear c8b2
                    try clear c10
                    try clear c10b0
                    try clear c10b1
                    try clear c10b2
                    try clear c11
                    try clear c11b0
                    try clear c11b1
                    try clear c11b2
                    try clear c19
                    try clear c21
                    try clear c21b0
                    try clear c22
                    try clear c22b0
                    try clear c22b1
                    try clear c23
                    try clear c23b0
                    try clear c24
                    try clear c25
                    try clear c25b0
                    try clear c25b1
                    try clear c26
                    try clear c26b0
                    try clear c26b1
                    try clear c27
                    try clear c27b0
                    try clear c27b1
                    try clear c32
                    try clear c32b0
                    try clear c32b1
                    try clear c33
                    try clear c33b0
                    try clear c33b1
                    try clear hcz20_0
                    try clear hcz20_1
                    try clear hcz29_0
                    try clear hcz29_1
                    try clear hcz34_0
                    try clear hcz34_1
                    try clear hfz20_0
                    try clear hfz20_1
                    try clear hfz29_0
                    try clear hfz29_1
                    try clear hfz34_0
                    try clear hfz34_1
                    try clear p2
                    try clear p6
                    obtain ⟨kq, x83_30, rfl, HA, HJ30, HO_346000, BK345, HB⟩ := hcut
                    cases kq with
                    | zero => exact absurd HA.out (by simp [gangerlaw06_IndexesRuns.j1])
                    | succ kj30 =>
                      have H := HA.out
                      clear HA
                      simp only [gangerlaw06_IndexesRuns.j1] at H
                      by_cases c35 : x83_30 = true
                      · subst c35
                        have H1 : (none) = some r := by rw [if_pos rfl] at H; exact H
                        clear H
                        have H := H1
                        clear H1
                        exact absurd H (by simp)
                      · replace c35 := Bool.eq_false_iff.mpr c35
                        subst c35
                        have H1 : (gangerlaw06_IndexesRuns.l0 kj30 (wrap64 (Int.tmod a0 1200)) (wrap64 (Int.tmod a1 1200)) (wrap64 (Int.tmod a2 1200)) 0 t339 t342) = some r := by rw [if_neg (show ¬ (false = true) by decide)] at H; exact H
                        clear H
                        have H := H1
                        clear H1
                        have H' := Aside0.mk H
                        clear H
                        go_wp2
                        go_loopg [14] kj30 (fun kq v14 w' => ∃ (x14_3 : Int), v14 = .int .i64 x14_3 ∧ Aside0 (gangerlaw06_IndexesRuns.l0 kq (wrap64 (Int.tmod a0 1200)) (wrap64 (Int.tmod a1 1200)) (wrap64 (Int.tmod a2 1200)) x14_3 t339 t342 = some r) ∧ Aside0 (kq ≤ kj30) ∧ Aside0 (Kd.R (Kd.int .i64) 3 w' w.heap.size (fun _ => True) (.slice Ao19 t339.length co19) t339) ∧ Aside0 (w'.heap[gb345]? = some (.cells #[(.slice Ao19 t339.length co19), .int .i64 t342] 25 (0, 0))) ∧ Aside0 (Below w.heap.size w w'))
                        case atStart => exact ⟨(0), (by first | rfl | (simp; done) | (simp [*]; done)), H', ⟨Nat.le_refl _⟩, ⟨by (with_reducible repeat (first | apply Kd.R_alloc | apply Kd.R_drewN | apply Kd.R_drew)); exact HO_346000.out⟩, ⟨by (with_reducible repeat (first | refine blk_drewN ?_ _ | refine blk_drew ?_ | refine blk_alloc ?_ _)); exact BK345.out⟩, ⟨by repeat (first | (with_reducible first | exact HB.out | apply below_alloc | apply pw_below_drewN | apply below_drew1 | refine below_set ?_ GE345.out) | exact HB.out)⟩⟩
                        case round =>
                          clear H'
                          try clear c1
                          try clear c2
                          try clear p2
                          try clear c3
                          try clear c5
                          try clear c5b0
                          try clear c5b1
                          try clear c5b2
                          try clear p6
                          try clear c7
                          try clear c7b0
                          try clear c7b1
                          try clear c7b2
                          try clear c8
                          try clear c8b0
                          try clear c8b1
                          try clear c8b2
                          try clear c10
                          try clear c10b0
                          try clear c10b1
                          try clear c10b2
                          try clear c11
                          try clear c11b0
                          try clear c11b1
                          try clear c11b2
                          try clear c19
                          try clear c21
                          try clear c21b0
                          try clear c22
                          try clear c22b0
                          try clear c22b1
                          try clear c23
                          try clear c23b0
                          try clear c24
                          try clear c25
                          try clear c25b0
                          try clear c25b1
                          try clear c26
                          try clear c26b0
                          try clear c26b1
                          try clear c27
                          try clear c27b0
                          try clear c27b1
                          try clear c32
                          try clear c32b0
                          try clear c32b1
                          try clear c33
                          try clear c33b0
                          try clear c33b1
                          try clear c35
                          try clear hcz20_0
                          try clear hcz20_1
                          try clear hcz29_0
                          try clear hcz29_1
                          try clear hcz34_0
                          try clear hcz34_1
                          try clear hfz20_0
                          try clear hfz20_1
                          try clear hfz29_0
                          try clear hfz29_1
                          try clear hfz34_0
                          try clear hfz34_1
                          try clear p2
                          try clear p6
                          obtain ⟨x14_3, rfl, HA, HK3, HO_346000, BK345, HB⟩ := hrel
                          cases gk with
                          | zero => exact absurd HA.out (by simp [gangerlaw06_IndexesRuns.l0])
                          | succ k3 =>
                            have H := HA.out
                            clear HA
                            simp only [gangerlaw06_IndexesRuns.l0] at H
                            by_cases c36 : x14_3 ≤ 1000
                            · rw [if_pos c36] at H
                              have c36b0 : decide (x14_3 ≤ 1000) = true := decide_eq_true c36
                              clear c36
                              have HC37 := Aside0.mk H
                              clear H
                              go_upto_region 13 with (fail)
                              go_cut [15] (fun v15 wc => ∃ (kq : Nat) (x15_36 : Bool), v15 = .bool x15_36 ∧ Aside0 (gangerlaw06_IndexesRuns.j3 kq (wrap64 (Int.tmod a0 1200)) (wrap64 (Int.tmod a1 1200)) (wrap64 (Int.tmod a2 1200)) x14_3 x15_36 t339 t342 = some r) ∧ Aside0 (kq ≤ k3) ∧ Aside0 (Kd.R (Kd.int .i64) 3 wc w.heap.size (fun _ => True) (.slice Ao19 t339.length co19) t339) ∧ Aside0 (wc.heap[gb345]? = some (.cells #[(.slice Ao19 t339.length co19), .int .i64 t342] 25 (0, 0))) ∧ Aside0 (Below w.heap.size w wc))
                              case first =>
                                have H := HC37.out
                                clear HC37
                                by_cases c38 : x14_3 = 7
                                · rw [if_pos c38] at H
                                  have c38b0 : (x14_3 == 7) = true := beq_iff_eq.mpr c38
                                  have c38b1 : (x14_3 != 7) = false := bne_eq_false_iff_eq.mpr c38
                                  clear c38
                                  (first | rw [c38b0] | (simp only [i64_w, i32_w]; rw [c38b0]) | skip)
                                  have H' := Aside0.mk H
                                  clear H
                                  go_wp2
                                  go_meet
                                  case rel => exact ⟨_, (true), (by first | rfl | (simp; done) | (simp [*]; done)), H', ⟨by have := HJ12.out; have := HJ30.out; have := HK3.out; first | omega | exact Nat.le_refl _⟩, ⟨by (with_reducible repeat (first | apply Kd.R_alloc | apply Kd.R_drewN | apply Kd.R_drew)); exact HO_346000.out⟩, ⟨by (with_reducible repeat (first | refine blk_drewN ?_ _ | refine blk_drew ?_ | refine blk_alloc ?_ _)); exact BK345.out⟩, ⟨by repeat (first | (with_reducible first | exact HB.out | apply below_alloc | apply pw_below_drewN | apply below_drew1 | refine below_set ?_ GE345.out) | exact HB.out)⟩⟩
                                · rw [if_neg c38] at H
                                  have c38b0 : (x14_3 == 7) = false := beq_eq_false_iff_ne.mpr c38
                                  have c38b1 : (x14_3 != 7) = true := bne_iff_ne.mpr c38
                                  (first | rw [c38b0] | (simp only [i64_w, i32_w]; rw [c38b0]) | skip)
                                  by_cases c39 : x14_3 ≥ (wrap64 (Int.tmod a0 1200))
                                  · rw [if_pos c39] at H
                                    have c39b0 : decide ((wrap64 (Int.tmod a0 1200)) ≤ x14_3) = true := decide_eq_true c39
                                    clear c39
                                    by_cases c40 : x14_3 ≤ (wrap64 (Int.tmod a1 1200))
                                    · rw [if_pos c40] at H
                                      have c40b0 : decide (x14_3 ≤ (wrap64 (Int.tmod a1 1200))) = true := decide_eq_true c40
                                      clear c40
                                      by_cases c41 : (wrap64 (Int.tmod a2 1200)) = 0
                                      · rw [if_pos c41] at H
                                        exact absurd H (by simp)
                                      · rw [if_neg c41] at H
                                        have c41b0 : ((wrap64 (Int.tmod a2 1200)) == 0) = false := beq_eq_false_iff_ne.mpr c41
                                        have c41b1 : ((wrap64 (Int.tmod a2 1200)) != 0) = true := bne_iff_ne.mpr c41
                                        have H' := Aside0.mk H
                                        clear H
                                        go_wp2
                                        go_meet
                                        case rel => exact ⟨_, (((Int.tmod (wrap64 (x14_3 - (wrap64 (Int.tmod a0 1200)))) (wrap64 (Int.tmod a2 1200))) == 0)), (by first | rfl | (simp; done) | (simp [*]; done)), H', ⟨by have := HJ12.out; have := HJ30.out; have := HK3.out; first | omega | exact Nat.le_refl _⟩, ⟨by (with_reducible repeat (first | apply Kd.R_alloc | apply Kd.R_drewN | apply Kd.R_drew)); exact HO_346000.out⟩, ⟨by (with_reducible repeat (first | refine blk_drewN ?_ _ | refine blk_drew ?_ | refine blk_alloc ?_ _)); exact BK345.out⟩, ⟨by repeat (first | (with_reducible first | exact HB.out | apply below_alloc | apply pw_below_drewN | apply below_drew1 | refine below_set ?_ GE345.out) | exact HB.out)⟩⟩
                                    · rw [if_neg c40] at H
                                      have c40b0 : decide (x14_3 ≤ (wrap64 (Int.tmod a1 1200))) = false := decide_eq_false c40
                                      clear c40
                                      have H' := Aside0.mk H
                                      clear H
                                      go_wp2
                                      go_meet
                                      case rel => exact ⟨_, (false), (by first | rfl | (simp; done) | (simp [*]; done)), H', ⟨by have := HJ12.out; have := HJ30.out; have := HK3.out; first | omega | exact Nat.le_refl _⟩, ⟨by (with_reducible repeat (first | apply Kd.R_alloc | apply Kd.R_drewN | apply Kd.R_drew)); exact HO_346000.out⟩, ⟨by (with_reducible repeat (first | refine blk_drewN ?_ _ | refine blk_drew ?_ | refine blk_alloc ?_ _)); exact BK345.out⟩, ⟨by repeat (first | (with_reducible first | exact HB.out | apply below_alloc | apply pw_below_drewN | apply below_drew1 | refine below_set ?_ GE345.out) | exact HB.out)⟩⟩
                                  · rw [if_neg c39] at H
                                    have c39b0 : decide ((wrap64 (Int.tmod a0 1200)) ≤ x14_3) = false := decide_eq_false c39
                                    clear c39
                                    have H' := Aside0.mk H
                                    clear H
                                    go_wp2
                                    go_meet
                                    case rel => exact ⟨_, (false), (by first | rfl | (simp; done) | (simp [*]; done)), H', ⟨by have := HJ12.out; have := HJ30.out; have := HK3.out; first | omega | exact Nat.le_refl _⟩, ⟨by (with_reducible repeat (first | apply Kd.R_alloc | apply Kd.R_drewN | apply Kd.R_drew)); exact HO_346000.out⟩, ⟨by (with_reducible repeat (first | refine blk_drewN ?_ _ | refine blk_drew ?_ | refine blk_alloc ?_ _)); exact BK345.out⟩, ⟨by repeat (first | (with_reducible first | exact HB.out | apply below_alloc | apply pw_below_drewN | apply below_drew1 | refine below_set ?_ GE345.out) | exact HB.out)⟩⟩
                              case rest =>
                                clear HC37
                                try clear c1
                                try clear c2
                                try clear p2
                                try clear c3
                                try clear c4
                                try clear c5
                                try clear c5b0
                                try clear c5b1
                                try clear c5b2
                                try clear p6
                                try clear c7
                                try clear c7b0
                                try clear c7b1
                                try clear c7b2
                                try clear c8
                                try clear c8b0
                                try clear c8b1
                                try clear c8b2
                                try clear c10
                                try clear c10b0
                                try clear c10b1
                                try clear c10b2
                                try clear c11
                                try clear c11b0
                                try clear c11b1
                                try clear c11b2
                                try clear c19
                                try clear c21
                                try clear c21b0
                                try clear c22
                                try clear c22b0
                                try clear c22b1
                                try clear c23
                                try clear c23b0
                                try clear c24
                                try clear c25
                                try clear c25b0
                                try clear c25b1
                                try clear c26
                                try clear c26b0
                                try clear c26b1
                                try clear c27
                                try clear c27b0
                                try clear c27b1
                                try clear c32
                                try clear c32b0
                                try clear c32b1
                                try clear c33
                                try clear c33b0
                                try clear c33b1
                                try clear c35
                                try clear c36
                                try clear c36b0
                                try clear c38
                                try clear c38b0
                                try clear c38b1
                                try clear c39
                                try clear c39b0
                                try clear c40
                                try clear c40b0
                                try clear c41
                                try clear c41b0
                                try clear c41b1
                                try clear hcz20_0
                                try clear hcz20_1
                                try clear hcz29_0
                                try clear hcz29_1
                                try clear hcz34_0
                                try clear hcz34_1
                                try clear hfz20_0
                                try clear hfz20_1
                                try clear hfz29_0
                                try clear hfz29_1
                                try clear hfz34_0
                                try clear hfz34_1
                                try clear p2
                                try clear p6
                                obtain ⟨kq, x15_36, rfl, HA, HJ36, HO_346000, BK345, HB⟩ := hcut
                                cases kq with
                                | zero => exact absurd HA.out (by simp [gangerlaw06_IndexesRuns.j3])
                                | succ kj36 =>
                                  have H := HA.out
                                  clear HA
                                  simp only [gangerlaw06_IndexesRuns.j3] at H
                                  replace H := Option.bind_eq_some_iff.mp H
                                  obtain ⟨t348, A420, H⟩ := H
                                  replace H : (if (t348 != x15_36) = true then (none) else (gangerlaw06_IndexesRuns.l0 kj36 (wrap64 (Int.tmod a0 1200)) (wrap64 (Int.tmod a1 1200)) (wrap64 (Int.tmod a2 1200)) (wrap64 (x14_3 + 1)) t339 t342)) = some r := H
                                  have A42 := Aside0.mk A420
                                  clear A420
                                  by_cases c43 : (t348 != x15_36) = true
                                  · rw [if_pos c43] at H
                                    exact absurd H (by simp)
                                  · rw [if_neg c43] at H
                                    have c43b0 : (t348 != x15_36) = false := by simpa using c43
                                    (try (have c43b1 : decide (t348 = x15_36) = true := by simpa using c43))
                                    (try (have c43b2 : (t348 == x15_36) = true := by simpa using c43))
                                    clear c43
                                    have H' := Aside0.mk H
                                    clear H
                                    have hcz44_0 : wc.cell? ⟨gb345, 0, none⟩ = some (.slice Ao19 t339.length co19) := (blk_cell BK345.out 0).trans rfl
                                    have hcz44_1 : wc.cell? ⟨gb345, 1, none⟩ = some (.int .i64 t342) := (blk_cell BK345.out 1).trans rfl
                                    have hfz44_0 := blk_frozen BK345.out 0
                                    have hfz44_1 := blk_frozen BK345.out 1
                                    go_wp2_with (first | ((with_reducible refine gate_callee (f := 18) rfl ?_); refine goesL_ (some 110) rfl rfl Tryd.func18 (by kernel_rfl) rfl #[.agg #[.slice Ao19 t339.length co19, .int .i64 t342], .int .i64 x14_3] rfl (by (try simp only [List.map_toArray, List.map_cons, List.map_nil]); first | done | rfl | (simp only [List.length_drop, List.length_take]; rfl)) ?_; (with_reducible refine (gangerlaw06_has.calls kj36 _ _ t339 t342 x14_3 t348 _ ?side1 ?side2 A42.out).mono ?_); (case side1 => repeat (first | exact (Kd.R_reads' HO_346000.out).2.2 | (with_reducible refine Kd.C_alloc ?_ _) | (with_reducible refine Kd.C_drewN ?_ _) | (with_reducible refine Kd.C_drew ?_))); (case side2 => exact (Kd.R_reads' HO_346000.out).2.1); rintro e w45 ⟨rfl, hb⟩; refine ⟨_, rfl, ?_⟩; have n0_ := Aside0.mk (Kd.R_below (by (with_reducible repeat (first | apply Kd.R_alloc | apply Kd.R_drewN | apply Kd.R_drew)); exact HO_346000.out) hb); have n1_ := Aside0.mk (blk_below (g := gb345) (o := .cells #[.slice Ao19 t339.length co19, .int .i64 t342] 25 (0, 0)) (by (with_reducible repeat (first | refine blk_drewN ?_ _ | refine blk_drew ?_ | refine blk_alloc ?_ _)); exact BK345.out) hb); have n2_ := Aside0.mk (below_step (by repeat (first | (with_reducible first | exact HB.out | apply below_alloc | apply pw_below_drewN | apply below_drew1 | refine below_set ?_ GE345.out) | exact HB.out)) hb); clear HO_346000; clear BK345; clear HB; have HO_346000 := n0_; have BK345 := n1_; have HB := n2_; clear n0_ n1_ n2_; (try clear hb); (try clear hb2); (try clear hk); (try clear hi)))
                                    go_roundg kj36
                                    case measure => have := HJ12.out; have := HJ30.out; have := HK3.out; have := HJ36.out; omega
                                    case rel => exact ⟨(wrap64 (x14_3 + 1)), (by first | rfl | (simp; done) | (simp [*]; done)), H', ⟨by have := HJ12.out; have := HJ30.out; have := HK3.out; have := HJ36.out; omega⟩, ⟨by (with_reducible repeat (first | apply Kd.R_alloc | apply Kd.R_drewN | apply Kd.R_drew)); exact HO_346000.out⟩, ⟨by (with_reducible repeat (first | refine blk_drewN ?_ _ | refine blk_drew ?_ | refine blk_alloc ?_ _)); exact BK345.out⟩, ⟨by repeat (first | (with_reducible first | exact HB.out | apply below_alloc | apply pw_below_drewN | apply below_drew1 | refine below_set ?_ GE345.out) | exact HB.out)⟩⟩
                            · rw [if_neg c36] at H
                              have c36b0 : decide (x14_3 ≤ 1000) = false := decide_eq_false c36
                              clear c36
                              replace H := Option.bind_eq_some_iff.mp H
                              obtain ⟨t347, A460, H⟩ := H
                              replace H : (some t347) = some r := H
                              have A46 := Aside0.mk A460
                              clear A460
                              obtain rfl := Option.some.inj H
                              go_wp2_with (first | ((with_reducible refine gate_callee (f := 10) rfl ?_); refine goesL_ (some 113) rfl rfl Tryd.func10 (by kernel_rfl) rfl #[] rfl (by (try simp only [List.map_toArray, List.map_cons, List.map_nil]); first | done | rfl | (simp only [List.length_drop, List.length_take]; rfl)) ?_; (with_reducible refine (gangerlaw06_known.calls k3  t347 _ ?side1 A46.out).mono ?_); (case side1 => exact Glob.below HG.out (by repeat (first | (with_reducible first | exact HB.out | apply below_alloc | apply pw_below_drewN | apply below_drew1 | refine below_set ?_ GE345.out) | exact HB.out))); rintro e w47 ⟨rfl, hb⟩; refine ⟨_, rfl, ?_⟩; have n0_ := Aside0.mk (Kd.R_below (by (with_reducible repeat (first | apply Kd.R_alloc | apply Kd.R_drewN | apply Kd.R_drew)); exact HO_346000.out) hb); have n1_ := Aside0.mk (blk_below (g := gb345) (o := .cells #[.slice Ao19 t339.length co19, .int .i64 t342] 25 (0, 0)) (by (with_reducible repeat (first | refine blk_drewN ?_ _ | refine blk_drew ?_ | refine blk_alloc ?_ _)); exact BK345.out) hb); have n2_ := Aside0.mk (below_step (by repeat (first | (with_reducible first | exact HB.out | apply below_alloc | apply pw_below_drewN | apply below_drew1 | refine below_set ?_ GE345.out) | exact HB.out)) hb); clear HO_346000; clear BK345; clear HB; have HO_346000 := n0_; have BK345 := n1_; have HB := n2_; clear n0_ n1_ n2_; (try clear hb); (try clear hb2); (try clear hk); (try clear hi)))
                              go_ret
                              exact ⟨by first | rfl | (simp [errW_none, errW_some] <;> rfl) | (simp [*, errW_none, errW_some] <;> rfl), by repeat (first | (with_reducible first | exact HB.out | apply below_alloc | apply pw_below_drewN | apply below_drew1 | refine below_set ?_ GE345.out) | exact HB.out)⟩
          · rw [if_neg c11] at H
            exact absurd H (by simp)
        · rw [if_neg c10] at H
          exact absurd H (by simp)
      · rw [if_neg c8] at H
        exact absurd H (by simp)
    · rw [if_neg c7] at H
      exact absurd H (by simp)
  · rw [if_neg c5] at H
    exact absurd H (by simp)

/-- THE ONE PURE STATEMENT of gangerlaw06_IndexesRuns: yours. -/
def gangerlaw06_IndexesRuns.Pure : Prop := ∀ (a0 : Int) (a1 : Int) (a2 : Int), (Lit.int .u16 a0).wf = true → (Lit.int .u16 a1).wf = true → (Lit.int .u16 a2).wf = true → ∃ k, gangerlaw06_IndexesRuns.f k a0 a1 a2 = some true
theorem gangerlaw06_IndexesRuns.walk (P : gangerlaw06_IndexesRuns.Pure) (a0 : Int) (a1 : Int) (a2 : Int) (w : World) (hG : Glob w) (w0 : (Lit.int .u16 a0).wf = true) (w1 : (Lit.int .u16 a1).wf = true) (w2 : (Lit.int .u16 a2).wf = true) :
    Calls Tryd.prog 7 #[.int .u16 a0, .int .u16 a1, .int .u16 a2] w fun e w' => e = .returned (.bool true) ∧ Below w.heap.size w w' := by
  obtain ⟨k, h⟩ := P a0 a1 a2 w0 w1 w2
  refine (gangerlaw06_IndexesRuns.calls k a0 a1 a2 true w hG h).mono ?_
  rintro e w' ⟨rfl, hd⟩
  exact ⟨rfl, hd⟩

end Go.Proofs.YtpkococfmohmiaaDoor.P
