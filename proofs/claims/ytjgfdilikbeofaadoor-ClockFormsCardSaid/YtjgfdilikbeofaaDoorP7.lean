/- The machine's side of the laws of this seat: each function's plain form and its contract, written by a program of this session out of Lean's print of the loaded functions; no condition beyond what each statement says. -/
import Derived.Test.YtjgfdilikbeofaaDoorP0
import Derived.Test.YtjgfdilikbeofaaDoorP2
import Derived.Test.YtjgfdilikbeofaaDoorP3
import Derived.Test.YtjgfdilikbeofaaDoorP5
namespace Go.Proofs.YtjgfdilikbeofaaDoor.P
open Go.RowKit Go.Proofs.YtjgfdilikbeofaaDoorW.PrintWords Go.Proofs.YtjgfdilikbeofaaDoorW.PrintLast Go.Proofs.YtjgfdilikbeofaaDoorW.PrintMore
attribute [local go_sem] max2_int min2_int max_two min_two max_three min_three max_four min_four   -- for this text's walks alone
set_option linter.unusedVariables false
set_option linter.unusedSimpArgs false

attribute [local go_sem] isSome_setCell
/-! ### gangerlaw07_ClockForms: function 6 -/
mutual
def gangerlaw07_ClockForms.j0 : Nat → Int → Int → Int → Int → ByteArray → ByteArray → ByteArray → Int → Int → Int → Bool → Option (Bool)
  | 0, _, _, _, _, _, _, _, _, _, _, _ => none
  | k + 1, x9, x10, x11, x12, x13, x14, x15, x21, x22, x23, x129 => if x129 = true then (none) else (if (wrap64 ((wrap64 (x9 * 24)) + x10)) < 10000 then (if (wrap64 ((wrap64 ((wrap64 ((wrap64 (x9 * 24)) + x10)) * 60)) + x11)) ≤ 999999 then (if x21 = x23 then (gangerlaw07_ClockForms.j1 k x11 x12 x13 x14 x15 x23 (x22 != 0)) else (gangerlaw07_ClockForms.j1 k x11 x12 x13 x14 x15 x23 true)) else (gangerlaw07_ClockForms.j1 k x11 x12 x13 x14 x15 x23 false)) else (gangerlaw07_ClockForms.j1 k x11 x12 x13 x14 x15 x23 false))
def gangerlaw07_ClockForms.j1 : Nat → Int → Int → ByteArray → ByteArray → ByteArray → Int → Bool → Option (Bool)
  | 0, _, _, _, _, _, _, _ => none
  | k + 1, x11, x12, x13, x14, x15, x23, x153 => if x153 = true then (none) else (if x13.size + 1 ≤ 9223372036854775807 then (if (x13 ++ (⟨#[45]⟩ : ByteArray)).size + x14.size ≤ 9223372036854775807 then (if ((x13 ++ (⟨#[45]⟩ : ByteArray)) ++ x14).size + 1 ≤ 9223372036854775807 then (if (((x13 ++ (⟨#[45]⟩ : ByteArray)) ++ x14) ++ (⟨#[58]⟩ : ByteArray)).size + x15.size ≤ 9223372036854775807 then ((clock_Parse.f k ((((x13 ++ (⟨#[45]⟩ : ByteArray)) ++ x14) ++ (⟨#[58]⟩ : ByteArray)) ++ x15)).bind fun bt232 => ((clock_Parse.f k ((x13 ++ (⟨#[45]⟩ : ByteArray)) ++ x14)).bind fun bt234 => (if bt232.1 = (wrap64 (x23 - x12)) then (if bt232.2 = 0 then (if x23 = (wrap64 (x12 + (wrap64 (60 * x11)))) then ((gangerlaw07_known.f k).bind fun t236 => (some t236)) else (if bt234.1 = (wrap64 ((wrap64 (x23 - x12)) - (wrap64 (60 * x11)))) then (if bt234.2 = 0 then ((gangerlaw07_known.f k).bind fun t237 => (some t237)) else (none)) else (none))) else (if x23 > x12 then (none) else (if x23 = (wrap64 (x12 + (wrap64 (60 * x11)))) then ((gangerlaw07_known.f k).bind fun t238 => (some t238)) else (if bt234.1 = (wrap64 ((wrap64 (x23 - x12)) - (wrap64 (60 * x11)))) then (if bt234.2 = 0 then ((gangerlaw07_known.f k).bind fun t239 => (some t239)) else (none)) else (none))))) else (if x23 > x12 then (none) else (if x23 = (wrap64 (x12 + (wrap64 (60 * x11)))) then ((gangerlaw07_known.f k).bind fun t240 => (some t240)) else (if bt234.1 = (wrap64 ((wrap64 (x23 - x12)) - (wrap64 (60 * x11)))) then (if bt234.2 = 0 then ((gangerlaw07_known.f k).bind fun t241 => (some t241)) else (none)) else (none))))))) else (none)) else (none)) else (none)) else (none))
end
def gangerlaw07_ClockForms.f (k : Nat) (a0 : Int) (a1 : Int) (a2 : Int) (a3 : Int) : Option (Bool) := (gangerref06_Digits.f k (wrap64 (Int.tmod a0 1000))).bind fun t219 => ((gangerref06_Digits.f k (wrap64 (Int.tmod a1 24))).bind fun t220 => ((gangerref06_Digits.f k (wrap64 (Int.tmod a2 60))).bind fun t221 => ((gangerref06_Digits.f k (wrap64 (Int.tmod a3 60))).bind fun t222 => (if t219.size + 1 ≤ 9223372036854775807 then (if (t219 ++ (⟨#[45]⟩ : ByteArray)).size + t220.size ≤ 9223372036854775807 then (if ((t219 ++ (⟨#[45]⟩ : ByteArray)) ++ t220).size + 1 ≤ 9223372036854775807 then (if (((t219 ++ (⟨#[45]⟩ : ByteArray)) ++ t220) ++ (⟨#[58]⟩ : ByteArray)).size + t221.size ≤ 9223372036854775807 then (if ((((t219 ++ (⟨#[45]⟩ : ByteArray)) ++ t220) ++ (⟨#[58]⟩ : ByteArray)) ++ t221).size + 1 ≤ 9223372036854775807 then (if (((((t219 ++ (⟨#[45]⟩ : ByteArray)) ++ t220) ++ (⟨#[58]⟩ : ByteArray)) ++ t221) ++ (⟨#[58]⟩ : ByteArray)).size + t222.size ≤ 9223372036854775807 then ((clock_Parse.f k ((((((t219 ++ (⟨#[45]⟩ : ByteArray)) ++ t220) ++ (⟨#[58]⟩ : ByteArray)) ++ t221) ++ (⟨#[58]⟩ : ByteArray)) ++ t222)).bind fun bt223 => ((gangerref06_Digits.f k (wrap64 ((wrap64 ((wrap64 (Int.tmod a0 1000)) * 24)) + (wrap64 (Int.tmod a1 24))))).bind fun t225 => (if t225.size + 1 ≤ 9223372036854775807 then (if (t225 ++ (⟨#[58]⟩ : ByteArray)).size + t221.size ≤ 9223372036854775807 then (if ((t225 ++ (⟨#[58]⟩ : ByteArray)) ++ t221).size + 1 ≤ 9223372036854775807 then (if (((t225 ++ (⟨#[58]⟩ : ByteArray)) ++ t221) ++ (⟨#[58]⟩ : ByteArray)).size + t222.size ≤ 9223372036854775807 then ((clock_Parse.f k ((((t225 ++ (⟨#[58]⟩ : ByteArray)) ++ t221) ++ (⟨#[58]⟩ : ByteArray)) ++ t222)).bind fun bt226 => ((gangerref06_Digits.f k (wrap64 ((wrap64 ((Int.tmod (wrap64 ((wrap64 ((wrap64 (Int.tmod a0 1000)) * 24)) + (wrap64 (Int.tmod a1 24)))) 10000) * 60)) + (wrap64 (Int.tmod a2 60))))).bind fun t228 => (if t228.size + 1 ≤ 9223372036854775807 then (if (t228 ++ (⟨#[58]⟩ : ByteArray)).size + t222.size ≤ 9223372036854775807 then ((clock_Parse.f k ((t228 ++ (⟨#[58]⟩ : ByteArray)) ++ t222)).bind fun bt229 => (if (wrap64 ((wrap64 ((wrap64 ((wrap64 ((wrap64 ((wrap64 ((wrap64 (Int.tmod a0 1000)) * 24)) + (wrap64 (Int.tmod a1 24)))) * 60)) + (wrap64 (Int.tmod a2 60)))) * 60)) + (wrap64 (Int.tmod a3 60)))) = 0 then (if bt223.2 = 2 then (if bt226.2 = 2 then ((gangerlaw07_known.f k).bind fun t231 => (some t231)) else (none)) else (none)) else (if bt223.1 = (wrap64 ((wrap64 ((wrap64 ((wrap64 ((wrap64 ((wrap64 ((wrap64 (Int.tmod a0 1000)) * 24)) + (wrap64 (Int.tmod a1 24)))) * 60)) + (wrap64 (Int.tmod a2 60)))) * 60)) + (wrap64 (Int.tmod a3 60)))) then (if bt226.1 = (wrap64 ((wrap64 ((wrap64 ((wrap64 ((wrap64 ((wrap64 ((wrap64 (Int.tmod a0 1000)) * 24)) + (wrap64 (Int.tmod a1 24)))) * 60)) + (wrap64 (Int.tmod a2 60)))) * 60)) + (wrap64 (Int.tmod a3 60)))) then (if bt223.2 = 0 then (gangerlaw07_ClockForms.j0 k (wrap64 (Int.tmod a0 1000)) (wrap64 (Int.tmod a1 24)) (wrap64 (Int.tmod a2 60)) (wrap64 (Int.tmod a3 60)) t219 t220 t221 bt229.1 bt229.2 (wrap64 ((wrap64 ((wrap64 ((wrap64 ((wrap64 ((wrap64 ((wrap64 (Int.tmod a0 1000)) * 24)) + (wrap64 (Int.tmod a1 24)))) * 60)) + (wrap64 (Int.tmod a2 60)))) * 60)) + (wrap64 (Int.tmod a3 60)))) (bt226.2 != 0)) else (gangerlaw07_ClockForms.j0 k (wrap64 (Int.tmod a0 1000)) (wrap64 (Int.tmod a1 24)) (wrap64 (Int.tmod a2 60)) (wrap64 (Int.tmod a3 60)) t219 t220 t221 bt229.1 bt229.2 (wrap64 ((wrap64 ((wrap64 ((wrap64 ((wrap64 ((wrap64 ((wrap64 (Int.tmod a0 1000)) * 24)) + (wrap64 (Int.tmod a1 24)))) * 60)) + (wrap64 (Int.tmod a2 60)))) * 60)) + (wrap64 (Int.tmod a3 60)))) true)) else (gangerlaw07_ClockForms.j0 k (wrap64 (Int.tmod a0 1000)) (wrap64 (Int.tmod a1 24)) (wrap64 (Int.tmod a2 60)) (wrap64 (Int.tmod a3 60)) t219 t220 t221 bt229.1 bt229.2 (wrap64 ((wrap64 ((wrap64 ((wrap64 ((wrap64 ((wrap64 ((wrap64 (Int.tmod a0 1000)) * 24)) + (wrap64 (Int.tmod a1 24)))) * 60)) + (wrap64 (Int.tmod a2 60)))) * 60)) + (wrap64 (Int.tmod a3 60)))) true)) else (gangerlaw07_ClockForms.j0 k (wrap64 (Int.tmod a0 1000)) (wrap64 (Int.tmod a1 24)) (wrap64 (Int.tmod a2 60)) (wrap64 (Int.tmod a3 60)) t219 t220 t221 bt229.1 bt229.2 (wrap64 ((wrap64 ((wrap64 ((wrap64 ((wrap64 ((wrap64 ((wrap64 (Int.tmod a0 1000)) * 24)) + (wrap64 (Int.tmod a1 24)))) * 60)) + (wrap64 (Int.tmod a2 60)))) * 60)) + (wrap64 (Int.tmod a3 60)))) true)))) else (none)) else (none)))) else (none)) else (none)) else (none)) else (none)))) else (none)) else (none)) else (none)) else (none)) else (none)) else (none)))))
theorem gangerlaw07_ClockForms.mono_l : ∀ k, (∀ y0 y1 y2 y3 y4 y5 y6 y7 y8 y9 y10, LeO (gangerlaw07_ClockForms.j0 k y0 y1 y2 y3 y4 y5 y6 y7 y8 y9 y10) (gangerlaw07_ClockForms.j0 (k + 1) y0 y1 y2 y3 y4 y5 y6 y7 y8 y9 y10)) ∧ (∀ y0 y1 y2 y3 y4 y5 y6, LeO (gangerlaw07_ClockForms.j1 k y0 y1 y2 y3 y4 y5 y6) (gangerlaw07_ClockForms.j1 (k + 1) y0 y1 y2 y3 y4 y5 y6))
  | 0 => ⟨fun _ _ _ _ _ _ _ _ _ _ _ r h => by simp [gangerlaw07_ClockForms.j0] at h, fun _ _ _ _ _ _ _ r h => by simp [gangerlaw07_ClockForms.j1] at h⟩
  | k + 1 => by
    obtain ⟨ih0, ih1⟩ := gangerlaw07_ClockForms.mono_l k
    refine ⟨?_, ?_⟩
    · intro y0 y1 y2 y3 y4 y5 y6 y7 y8 y9 y10
      unfold gangerlaw07_ClockForms.j0
      repeat' first
      | (with_reducible exact ih0 _ _ _ _ _ _ _ _ _ _ _)
      | (with_reducible exact ih1 _ _ _ _ _ _ _)
      | (with_reducible exact clock_Parse.mono _ _)
      | (with_reducible exact gangerlaw07_known.mono _)
      | (with_reducible exact gangerref06_Digits.mono _ _)
      | (with_reducible exact LeO.refl _)
      | (with_reducible exact LeO.none _)
      | (with_reducible refine LeO.ite ?_ ?_)
      | (with_reducible refine LeO.bind ?_ (fun _ => ?_))
      | exact ih0 _ _ _ _ _ _ _ _ _ _ _
      | exact ih1 _ _ _ _ _ _ _
      | exact clock_Parse.mono _ _
      | exact gangerlaw07_known.mono _
      | exact gangerref06_Digits.mono _ _
      | exact LeO.none _
      | refine LeO.ite ?_ ?_
      | refine LeO.bind ?_ (fun _ => ?_)
    · intro y0 y1 y2 y3 y4 y5 y6
      unfold gangerlaw07_ClockForms.j1
      repeat' first
      | (with_reducible exact ih0 _ _ _ _ _ _ _ _ _ _ _)
      | (with_reducible exact ih1 _ _ _ _ _ _ _)
      | (with_reducible exact clock_Parse.mono _ _)
      | (with_reducible exact gangerlaw07_known.mono _)
      | (with_reducible exact gangerref06_Digits.mono _ _)
      | (with_reducible exact LeO.refl _)
      | (with_reducible exact LeO.none _)
      | (with_reducible refine LeO.ite ?_ ?_)
      | (with_reducible refine LeO.bind ?_ (fun _ => ?_))
      | exact ih0 _ _ _ _ _ _ _ _ _ _ _
      | exact ih1 _ _ _ _ _ _ _
      | exact clock_Parse.mono _ _
      | exact gangerlaw07_known.mono _
      | exact gangerref06_Digits.mono _ _
      | exact LeO.none _
      | refine LeO.ite ?_ ?_
      | refine LeO.bind ?_ (fun _ => ?_)
theorem gangerlaw07_ClockForms.mono : ∀ a0 a1 a2 a3 k, LeO (gangerlaw07_ClockForms.f k a0 a1 a2 a3) (gangerlaw07_ClockForms.f (k + 1) a0 a1 a2 a3) := by
  intro a0 a1 a2 a3 k
  obtain ⟨ih0, ih1⟩ := gangerlaw07_ClockForms.mono_l k
  unfold gangerlaw07_ClockForms.f
  repeat' first
      | (with_reducible exact ih0 _ _ _ _ _ _ _ _ _ _ _)
      | (with_reducible exact ih1 _ _ _ _ _ _ _)
      | (with_reducible exact clock_Parse.mono _ _)
      | (with_reducible exact gangerlaw07_known.mono _)
      | (with_reducible exact gangerref06_Digits.mono _ _)
      | (with_reducible exact LeO.refl _)
      | (with_reducible exact LeO.none _)
      | (with_reducible refine LeO.ite ?_ ?_)
      | (with_reducible refine LeO.bind ?_ (fun _ => ?_))
      | exact ih0 _ _ _ _ _ _ _ _ _ _ _
      | exact ih1 _ _ _ _ _ _ _
      | exact clock_Parse.mono _ _
      | exact gangerlaw07_known.mono _
      | exact gangerref06_Digits.mono _ _
      | exact LeO.none _
      | refine LeO.ite ?_ ?_
      | refine LeO.bind ?_ (fun _ => ?_)
set_option maxHeartbeats 8000000 in
set_option maxRecDepth 100000 in
theorem gangerlaw07_ClockForms.calls (k : Nat) (a0 : Int) (a1 : Int) (a2 : Int) (a3 : Int) (r : Bool) (w : World) (hG : Glob w) (h : gangerlaw07_ClockForms.f k a0 a1 a2 a3 = some r) :
    Calls Tryd.prog 6 #[.int .u16 a0, .int .u16 a1, .int .u16 a2, .int .u16 a3] w fun e w' => e = .returned (.bool r) ∧ Below w.heap.size w w' := by
  have HG := Aside0.mk hG
  clear hG
  have HB := Aside0.mk (Below.refl w.heap.size w)
  have H : ((gangerref06_Digits.f k (wrap64 (Int.tmod a0 1000))).bind fun t219 => ((gangerref06_Digits.f k (wrap64 (Int.tmod a1 24))).bind fun t220 => ((gangerref06_Digits.f k (wrap64 (Int.tmod a2 60))).bind fun t221 => ((gangerref06_Digits.f k (wrap64 (Int.tmod a3 60))).bind fun t222 => (if t219.size + 1 ≤ 9223372036854775807 then (if (t219 ++ (⟨#[45]⟩ : ByteArray)).size + t220.size ≤ 9223372036854775807 then (if ((t219 ++ (⟨#[45]⟩ : ByteArray)) ++ t220).size + 1 ≤ 9223372036854775807 then (if (((t219 ++ (⟨#[45]⟩ : ByteArray)) ++ t220) ++ (⟨#[58]⟩ : ByteArray)).size + t221.size ≤ 9223372036854775807 then (if ((((t219 ++ (⟨#[45]⟩ : ByteArray)) ++ t220) ++ (⟨#[58]⟩ : ByteArray)) ++ t221).size + 1 ≤ 9223372036854775807 then (if (((((t219 ++ (⟨#[45]⟩ : ByteArray)) ++ t220) ++ (⟨#[58]⟩ : ByteArray)) ++ t221) ++ (⟨#[58]⟩ : ByteArray)).size + t222.size ≤ 9223372036854775807 then ((clock_Parse.f k ((((((t219 ++ (⟨#[45]⟩ : ByteArray)) ++ t220) ++ (⟨#[58]⟩ : ByteArray)) ++ t221) ++ (⟨#[58]⟩ : ByteArray)) ++ t222)).bind fun bt223 => ((gangerref06_Digits.f k (wrap64 ((wrap64 ((wrap64 (Int.tmod a0 1000)) * 24)) + (wrap64 (Int.tmod a1 24))))).bind fun t225 => (if t225.size + 1 ≤ 9223372036854775807 then (if (t225 ++ (⟨#[58]⟩ : ByteArray)).size + t221.size ≤ 9223372036854775807 then (if ((t225 ++ (⟨#[58]⟩ : ByteArray)) ++ t221).size + 1 ≤ 9223372036854775807 then (if (((t225 ++ (⟨#[58]⟩ : ByteArray)) ++ t221) ++ (⟨#[58]⟩ : ByteArray)).size + t222.size ≤ 9223372036854775807 then ((clock_Parse.f k ((((t225 ++ (⟨#[58]⟩ : ByteArray)) ++ t221) ++ (⟨#[58]⟩ : ByteArray)) ++ t222)).bind fun bt226 => ((gangerref06_Digits.f k (wrap64 ((wrap64 ((Int.tmod (wrap64 ((wrap64 ((wrap64 (Int.tmod a0 1000)) * 24)) + (wrap64 (Int.tmod a1 24)))) 10000) * 60)) + (wrap64 (Int.tmod a2 60))))).bind fun t228 => (if t228.size + 1 ≤ 9223372036854775807 then (if (t228 ++ (⟨#[58]⟩ : ByteArray)).size + t222.size ≤ 9223372036854775807 then ((clock_Parse.f k ((t228 ++ (⟨#[58]⟩ : ByteArray)) ++ t222)).bind fun bt229 => (if (wrap64 ((wrap64 ((wrap64 ((wrap64 ((wrap64 ((wrap64 ((wrap64 (Int.tmod a0 1000)) * 24)) + (wrap64 (Int.tmod a1 24)))) * 60)) + (wrap64 (Int.tmod a2 60)))) * 60)) + (wrap64 (Int.tmod a3 60)))) = 0 then (if bt223.2 = 2 then (if bt226.2 = 2 then ((gangerlaw07_known.f k).bind fun t231 => (some t231)) else (none)) else (none)) else (if bt223.1 = (wrap64 ((wrap64 ((wrap64 ((wrap64 ((wrap64 ((wrap64 ((wrap64 (Int.tmod a0 1000)) * 24)) + (wrap64 (Int.tmod a1 24)))) * 60)) + (wrap64 (Int.tmod a2 60)))) * 60)) + (wrap64 (Int.tmod a3 60)))) then (if bt226.1 = (wrap64 ((wrap64 ((wrap64 ((wrap64 ((wrap64 ((wrap64 ((wrap64 (Int.tmod a0 1000)) * 24)) + (wrap64 (Int.tmod a1 24)))) * 60)) + (wrap64 (Int.tmod a2 60)))) * 60)) + (wrap64 (Int.tmod a3 60)))) then (if bt223.2 = 0 then (gangerlaw07_ClockForms.j0 k (wrap64 (Int.tmod a0 1000)) (wrap64 (Int.tmod a1 24)) (wrap64 (Int.tmod a2 60)) (wrap64 (Int.tmod a3 60)) t219 t220 t221 bt229.1 bt229.2 (wrap64 ((wrap64 ((wrap64 ((wrap64 ((wrap64 ((wrap64 ((wrap64 (Int.tmod a0 1000)) * 24)) + (wrap64 (Int.tmod a1 24)))) * 60)) + (wrap64 (Int.tmod a2 60)))) * 60)) + (wrap64 (Int.tmod a3 60)))) (bt226.2 != 0)) else (gangerlaw07_ClockForms.j0 k (wrap64 (Int.tmod a0 1000)) (wrap64 (Int.tmod a1 24)) (wrap64 (Int.tmod a2 60)) (wrap64 (Int.tmod a3 60)) t219 t220 t221 bt229.1 bt229.2 (wrap64 ((wrap64 ((wrap64 ((wrap64 ((wrap64 ((wrap64 ((wrap64 (Int.tmod a0 1000)) * 24)) + (wrap64 (Int.tmod a1 24)))) * 60)) + (wrap64 (Int.tmod a2 60)))) * 60)) + (wrap64 (Int.tmod a3 60)))) true)) else (gangerlaw07_ClockForms.j0 k (wrap64 (Int.tmod a0 1000)) (wrap64 (Int.tmod a1 24)) (wrap64 (Int.tmod a2 60)) (wrap64 (Int.tmod a3 60)) t219 t220 t221 bt229.1 bt229.2 (wrap64 ((wrap64 ((wrap64 ((wrap64 ((wrap64 ((wrap64 ((wrap64 (Int.tmod a0 1000)) * 24)) + (wrap64 (Int.tmod a1 24)))) * 60)) + (wrap64 (Int.tmod a2 60)))) * 60)) + (wrap64 (Int.tmod a3 60)))) true)) else (gangerlaw07_ClockForms.j0 k (wrap64 (Int.tmod a0 1000)) (wrap64 (Int.tmod a1 24)) (wrap64 (Int.tmod a2 60)) (wrap64 (Int.tmod a3 60)) t219 t220 t221 bt229.1 bt229.2 (wrap64 ((wrap64 ((wrap64 ((wrap64 ((wrap64 ((wrap64 ((wrap64 (Int.tmod a0 1000)) * 24)) + (wrap64 (Int.tmod a1 24)))) * 60)) + (wrap64 (Int.tmod a2 60)))) * 60)) + (wrap64 (Int.tmod a3 60)))) true)))) else (none)) else (none)))) else (none)) else (none)) else (none)) else (none)))) else (none)) else (none)) else (none)) else (none)) else (none)) else (none)))))) = some r := h
  clear h
  replace H := Option.bind_eq_some_iff.mp H
  obtain ⟨t219, A50, H⟩ := H
  replace H : ((gangerref06_Digits.f k (wrap64 (Int.tmod a1 24))).bind fun t220 => ((gangerref06_Digits.f k (wrap64 (Int.tmod a2 60))).bind fun t221 => ((gangerref06_Digits.f k (wrap64 (Int.tmod a3 60))).bind fun t222 => (if t219.size + 1 ≤ 9223372036854775807 then (if (t219 ++ (⟨#[45]⟩ : ByteArray)).size + t220.size ≤ 9223372036854775807 then (if ((t219 ++ (⟨#[45]⟩ : ByteArray)) ++ t220).size + 1 ≤ 9223372036854775807 then (if (((t219 ++ (⟨#[45]⟩ : ByteArray)) ++ t220) ++ (⟨#[58]⟩ : ByteArray)).size + t221.size ≤ 9223372036854775807 then (if ((((t219 ++ (⟨#[45]⟩ : ByteArray)) ++ t220) ++ (⟨#[58]⟩ : ByteArray)) ++ t221).size + 1 ≤ 9223372036854775807 then (if (((((t219 ++ (⟨#[45]⟩ : ByteArray)) ++ t220) ++ (⟨#[58]⟩ : ByteArray)) ++ t221) ++ (⟨#[58]⟩ : ByteArray)).size + t222.size ≤ 9223372036854775807 then ((clock_Parse.f k ((((((t219 ++ (⟨#[45]⟩ : ByteArray)) ++ t220) ++ (⟨#[58]⟩ : ByteArray)) ++ t221) ++ (⟨#[58]⟩ : ByteArray)) ++ t222)).bind fun bt223 => ((gangerref06_Digits.f k (wrap64 ((wrap64 ((wrap64 (Int.tmod a0 1000)) * 24)) + (wrap64 (Int.tmod a1 24))))).bind fun t225 => (if t225.size + 1 ≤ 9223372036854775807 then (if (t225 ++ (⟨#[58]⟩ : ByteArray)).size + t221.size ≤ 9223372036854775807 then (if ((t225 ++ (⟨#[58]⟩ : ByteArray)) ++ t221).size + 1 ≤ 9223372036854775807 then (if (((t225 ++ (⟨#[58]⟩ : ByteArray)) ++ t221) ++ (⟨#[58]⟩ : ByteArray)).size + t222.size ≤ 9223372036854775807 then ((clock_Parse.f k ((((t225 ++ (⟨#[58]⟩ : ByteArray)) ++ t221) ++ (⟨#[58]⟩ : ByteArray)) ++ t222)).bind fun bt226 => ((gangerref06_Digits.f k (wrap64 ((wrap64 ((Int.tmod (wrap64 ((wrap64 ((wrap64 (Int.tmod a0 1000)) * 24)) + (wrap64 (Int.tmod a1 24)))) 10000) * 60)) + (wrap64 (Int.tmod a2 60))))).bind fun t228 => (if t228.size + 1 ≤ 9223372036854775807 then (if (t228 ++ (⟨#[58]⟩ : ByteArray)).size + t222.size ≤ 9223372036854775807 then ((clock_Parse.f k ((t228 ++ (⟨#[58]⟩ : ByteArray)) ++ t222)).bind fun bt229 => (if (wrap64 ((wrap64 ((wrap64 ((wrap64 ((wrap64 ((wrap64 ((wrap64 (Int.tmod a0 1000)) * 24)) + (wrap64 (Int.tmod a1 24)))) * 60)) + (wrap64 (Int.tmod a2 60)))) * 60)) + (wrap64 (Int.tmod a3 60)))) = 0 then (if bt223.2 = 2 then (if bt226.2 = 2 then ((gangerlaw07_known.f k).bind fun t231 => (some t231)) else (none)) else (none)) else (if bt223.1 = (wrap64 ((wrap64 ((wrap64 ((wrap64 ((wrap64 ((wrap64 ((wrap64 (Int.tmod a0 1000)) * 24)) + (wrap64 (Int.tmod a1 24)))) * 60)) + (wrap64 (Int.tmod a2 60)))) * 60)) + (wrap64 (Int.tmod a3 60)))) then (if bt226.1 = (wrap64 ((wrap64 ((wrap64 ((wrap64 ((wrap64 ((wrap64 ((wrap64 (Int.tmod a0 1000)) * 24)) + (wrap64 (Int.tmod a1 24)))) * 60)) + (wrap64 (Int.tmod a2 60)))) * 60)) + (wrap64 (Int.tmod a3 60)))) then (if bt223.2 = 0 then (gangerlaw07_ClockForms.j0 k (wrap64 (Int.tmod a0 1000)) (wrap64 (Int.tmod a1 24)) (wrap64 (Int.tmod a2 60)) (wrap64 (Int.tmod a3 60)) t219 t220 t221 bt229.1 bt229.2 (wrap64 ((wrap64 ((wrap64 ((wrap64 ((wrap64 ((wrap64 ((wrap64 (Int.tmod a0 1000)) * 24)) + (wrap64 (Int.tmod a1 24)))) * 60)) + (wrap64 (Int.tmod a2 60)))) * 60)) + (wrap64 (Int.tmod a3 60)))) (bt226.2 != 0)) else (gangerlaw07_ClockForms.j0 k (wrap64 (Int.tmod a0 1000)) (wrap64 (Int.tmod a1 24)) (wrap64 (Int.tmod a2 60)) (wrap64 (Int.tmod a3 60)) t219 t220 t221 bt229.1 bt229.2 (wrap64 ((wrap64 ((wrap64 ((wrap64 ((wrap64 ((wrap64 ((wrap64 (Int.tmod a0 1000)) * 24)) + (wrap64 (Int.tmod a1 24)))) * 60)) + (wrap64 (Int.tmod a2 60)))) * 60)) + (wrap64 (Int.tmod a3 60)))) true)) else (gangerlaw07_ClockForms.j0 k (wrap64 (Int.tmod a0 1000)) (wrap64 (Int.tmod a1 24)) (wrap64 (Int.tmod a2 60)) (wrap64 (Int.tmod a3 60)) t219 t220 t221 bt229.1 bt229.2 (wrap64 ((wrap64 ((wrap64 ((wrap64 ((wrap64 ((wrap64 ((wrap64 (Int.tmod a0 1000)) * 24)) + (wrap64 (Int.tmod a1 24)))) * 60)) + (wrap64 (Int.tmod a2 60)))) * 60)) + (wrap64 (Int.tmod a3 60)))) true)) else (gangerlaw07_ClockForms.j0 k (wrap64 (Int.tmod a0 1000)) (wrap64 (Int.tmod a1 24)) (wrap64 (Int.tmod a2 60)) (wrap64 (Int.tmod a3 60)) t219 t220 t221 bt229.1 bt229.2 (wrap64 ((wrap64 ((wrap64 ((wrap64 ((wrap64 ((wrap64 ((wrap64 (Int.tmod a0 1000)) * 24)) + (wrap64 (Int.tmod a1 24)))) * 60)) + (wrap64 (Int.tmod a2 60)))) * 60)) + (wrap64 (Int.tmod a3 60)))) true)))) else (none)) else (none)))) else (none)) else (none)) else (none)) else (none)))) else (none)) else (none)) else (none)) else (none)) else (none)) else (none))))) = some r := H
  have A5 := Aside0.mk A50
  clear A50
  replace H := Option.bind_eq_some_iff.mp H
  obtain ⟨t220, A60, H⟩ := H
  replace H : ((gangerref06_Digits.f k (wrap64 (Int.tmod a2 60))).bind fun t221 => ((gangerref06_Digits.f k (wrap64 (Int.tmod a3 60))).bind fun t222 => (if t219.size + 1 ≤ 9223372036854775807 then (if (t219 ++ (⟨#[45]⟩ : ByteArray)).size + t220.size ≤ 9223372036854775807 then (if ((t219 ++ (⟨#[45]⟩ : ByteArray)) ++ t220).size + 1 ≤ 9223372036854775807 then (if (((t219 ++ (⟨#[45]⟩ : ByteArray)) ++ t220) ++ (⟨#[58]⟩ : ByteArray)).size + t221.size ≤ 9223372036854775807 then (if ((((t219 ++ (⟨#[45]⟩ : ByteArray)) ++ t220) ++ (⟨#[58]⟩ : ByteArray)) ++ t221).size + 1 ≤ 9223372036854775807 then (if (((((t219 ++ (⟨#[45]⟩ : ByteArray)) ++ t220) ++ (⟨#[58]⟩ : ByteArray)) ++ t221) ++ (⟨#[58]⟩ : ByteArray)).size + t222.size ≤ 9223372036854775807 then ((clock_Parse.f k ((((((t219 ++ (⟨#[45]⟩ : ByteArray)) ++ t220) ++ (⟨#[58]⟩ : ByteArray)) ++ t221) ++ (⟨#[58]⟩ : ByteArray)) ++ t222)).bind fun bt223 => ((gangerref06_Digits.f k (wrap64 ((wrap64 ((wrap64 (Int.tmod a0 1000)) * 24)) + (wrap64 (Int.tmod a1 24))))).bind fun t225 => (if t225.size + 1 ≤ 9223372036854775807 then (if (t225 ++ (⟨#[58]⟩ : ByteArray)).size + t221.size ≤ 9223372036854775807 then (if ((t225 ++ (⟨#[58]⟩ : ByteArray)) ++ t221).size + 1 ≤ 9223372036854775807 then (if (((t225 ++ (⟨#[58]⟩ : ByteArray)) ++ t221) ++ (⟨#[58]⟩ : ByteArray)).size + t222.size ≤ 9223372036854775807 then ((clock_Parse.f k ((((t225 ++ (⟨#[58]⟩ : ByteArray)) ++ t221) ++ (⟨#[58]⟩ : ByteArray)) ++ t222)).bind fun bt226 => ((gangerref06_Digits.f k (wrap64 ((wrap64 ((Int.tmod (wrap64 ((wrap64 ((wrap64 (Int.tmod a0 1000)) * 24)) + (wrap64 (Int.tmod a1 24)))) 10000) * 60)) + (wrap64 (Int.tmod a2 60))))).bind fun t228 => (if t228.size + 1 ≤ 9223372036854775807 then (if (t228 ++ (⟨#[58]⟩ : ByteArray)).size + t222.size ≤ 9223372036854775807 then ((clock_Parse.f k ((t228 ++ (⟨#[58]⟩ : ByteArray)) ++ t222)).bind fun bt229 => (if (wrap64 ((wrap64 ((wrap64 ((wrap64 ((wrap64 ((wrap64 ((wrap64 (Int.tmod a0 1000)) * 24)) + (wrap64 (Int.tmod a1 24)))) * 60)) + (wrap64 (Int.tmod a2 60)))) * 60)) + (wrap64 (Int.tmod a3 60)))) = 0 then (if bt223.2 = 2 then (if bt226.2 = 2 then ((gangerlaw07_known.f k).bind fun t231 => (some t231)) else (none)) else (none)) else (if bt223.1 = (wrap64 ((wrap64 ((wrap64 ((wrap64 ((wrap64 ((wrap64 ((wrap64 (Int.tmod a0 1000)) * 24)) + (wrap64 (Int.tmod a1 24)))) * 60)) + (wrap64 (Int.tmod a2 60)))) * 60)) + (wrap64 (Int.tmod a3 60)))) then (if bt226.1 = (wrap64 ((wrap64 ((wrap64 ((wrap64 ((wrap64 ((wrap64 ((wrap64 (Int.tmod a0 1000)) * 24)) + (wrap64 (Int.tmod a1 24)))) * 60)) + (wrap64 (Int.tmod a2 60)))) * 60)) + (wrap64 (Int.tmod a3 60)))) then (if bt223.2 = 0 then (gangerlaw07_ClockForms.j0 k (wrap64 (Int.tmod a0 1000)) (wrap64 (Int.tmod a1 24)) (wrap64 (Int.tmod a2 60)) (wrap64 (Int.tmod a3 60)) t219 t220 t221 bt229.1 bt229.2 (wrap64 ((wrap64 ((wrap64 ((wrap64 ((wrap64 ((wrap64 ((wrap64 (Int.tmod a0 1000)) * 24)) + (wrap64 (Int.tmod a1 24)))) * 60)) + (wrap64 (Int.tmod a2 60)))) * 60)) + (wrap64 (Int.tmod a3 60)))) (bt226.2 != 0)) else (gangerlaw07_ClockForms.j0 k (wrap64 (Int.tmod a0 1000)) (wrap64 (Int.tmod a1 24)) (wrap64 (Int.tmod a2 60)) (wrap64 (Int.tmod a3 60)) t219 t220 t221 bt229.1 bt229.2 (wrap64 ((wrap64 ((wrap64 ((wrap64 ((wrap64 ((wrap64 ((wrap64 (Int.tmod a0 1000)) * 24)) + (wrap64 (Int.tmod a1 24)))) * 60)) + (wrap64 (Int.tmod a2 60)))) * 60)) + (wrap64 (Int.tmod a3 60)))) true)) else (gangerlaw07_ClockForms.j0 k (wrap64 (Int.tmod a0 1000)) (wrap64 (Int.tmod a1 24)) (wrap64 (Int.tmod a2 60)) (wrap64 (Int.tmod a3 60)) t219 t220 t221 bt229.1 bt229.2 (wrap64 ((wrap64 ((wrap64 ((wrap64 ((wrap64 ((wrap64 ((wrap64 (Int.tmod a0 1000)) * 24)) + (wrap64 (Int.tmod a1 24)))) * 60)) + (wrap64 (Int.tmod a2 60)))) * 60)) + (wrap64 (Int.tmod a3 60)))) true)) else (gangerlaw07_ClockForms.j0 k (wrap64 (Int.tmod a0 1000)) (wrap64 (Int.tmod a1 24)) (wrap64 (Int.tmod a2 60)) (wrap64 (Int.tmod a3 60)) t219 t220 t221 bt229.1 bt229.2 (wrap64 ((wrap64 ((wrap64 ((wrap64 ((wrap64 ((wrap64 ((wrap64 (Int.tmod a0 1000)) * 24)) + (wrap64 (Int.tmod a1 24)))) * 60)) + (wrap64 (Int.tmod a2 60)))) * 60)) + (wrap64 (Int.tmod a3 60)))) true)))) else (none)) else (none)))) else (none)) else (none)) else (none)) else (none)))) else (none)) else (none)) else (none)) else (none)) else (none)) else (none)))) = some r := H
  have A6 := Aside0.mk A60
  clear A60
  replace H := Option.bind_eq_some_iff.mp H
  obtain ⟨t221, A70, H⟩ := H
  replace H : ((gangerref06_Digits.f k (wrap64 (Int.tmod a3 60))).bind fun t222 => (if t219.size + 1 ≤ 9223372036854775807 then (if (t219 ++ (⟨#[45]⟩ : ByteArray)).size + t220.size ≤ 9223372036854775807 then (if ((t219 ++ (⟨#[45]⟩ : ByteArray)) ++ t220).size + 1 ≤ 9223372036854775807 then (if (((t219 ++ (⟨#[45]⟩ : ByteArray)) ++ t220) ++ (⟨#[58]⟩ : ByteArray)).size + t221.size ≤ 9223372036854775807 then (if ((((t219 ++ (⟨#[45]⟩ : ByteArray)) ++ t220) ++ (⟨#[58]⟩ : ByteArray)) ++ t221).size + 1 ≤ 9223372036854775807 then (if (((((t219 ++ (⟨#[45]⟩ : ByteArray)) ++ t220) ++ (⟨#[58]⟩ : ByteArray)) ++ t221) ++ (⟨#[58]⟩ : ByteArray)).size + t222.size ≤ 9223372036854775807 then ((clock_Parse.f k ((((((t219 ++ (⟨#[45]⟩ : ByteArray)) ++ t220) ++ (⟨#[58]⟩ : ByteArray)) ++ t221) ++ (⟨#[58]⟩ : ByteArray)) ++ t222)).bind fun bt223 => ((gangerref06_Digits.f k (wrap64 ((wrap64 ((wrap64 (Int.tmod a0 1000)) * 24)) + (wrap64 (Int.tmod a1 24))))).bind fun t225 => (if t225.size + 1 ≤ 9223372036854775807 then (if (t225 ++ (⟨#[58]⟩ : ByteArray)).size + t221.size ≤ 9223372036854775807 then (if ((t225 ++ (⟨#[58]⟩ : ByteArray)) ++ t221).size + 1 ≤ 9223372036854775807 then (if (((t225 ++ (⟨#[58]⟩ : ByteArray)) ++ t221) ++ (⟨#[58]⟩ : ByteArray)).size + t222.size ≤ 9223372036854775807 then ((clock_Parse.f k ((((t225 ++ (⟨#[58]⟩ : ByteArray)) ++ t221) ++ (⟨#[58]⟩ : ByteArray)) ++ t222)).bind fun bt226 => ((gangerref06_Digits.f k (wrap64 ((wrap64 ((Int.tmod (wrap64 ((wrap64 ((wrap64 (Int.tmod a0 1000)) * 24)) + (wrap64 (Int.tmod a1 24)))) 10000) * 60)) + (wrap64 (Int.tmod a2 60))))).bind fun t228 => (if t228.size + 1 ≤ 9223372036854775807 then (if (t228 ++ (⟨#[58]⟩ : ByteArray)).size + t222.size ≤ 9223372036854775807 then ((clock_Parse.f k ((t228 ++ (⟨#[58]⟩ : ByteArray)) ++ t222)).bind fun bt229 => (if (wrap64 ((wrap64 ((wrap64 ((wrap64 ((wrap64 ((wrap64 ((wrap64 (Int.tmod a0 1000)) * 24)) + (wrap64 (Int.tmod a1 24)))) * 60)) + (wrap64 (Int.tmod a2 60)))) * 60)) + (wrap64 (Int.tmod a3 60)))) = 0 then (if bt223.2 = 2 then (if bt226.2 = 2 then ((gangerlaw07_known.f k).bind fun t231 => (some t231)) else (none)) else (none)) else (if bt223.1 = (wrap64 ((wrap64 ((wrap64 ((wrap64 ((wrap64 ((wrap64 ((wrap64 (Int.tmod a0 1000)) * 24)) + (wrap64 (Int.tmod a1 24)))) * 60)) + (wrap64 (Int.tmod a2 60)))) * 60)) + (wrap64 (Int.tmod a3 60)))) then (if bt226.1 = (wrap64 ((wrap64 ((wrap64 ((wrap64 ((wrap64 ((wrap64 ((wrap64 (Int.tmod a0 1000)) * 24)) + (wrap64 (Int.tmod a1 24)))) * 60)) + (wrap64 (Int.tmod a2 60)))) * 60)) + (wrap64 (Int.tmod a3 60)))) then (if bt223.2 = 0 then (gangerlaw07_ClockForms.j0 k (wrap64 (Int.tmod a0 1000)) (wrap64 (Int.tmod a1 24)) (wrap64 (Int.tmod a2 60)) (wrap64 (Int.tmod a3 60)) t219 t220 t221 bt229.1 bt229.2 (wrap64 ((wrap64 ((wrap64 ((wrap64 ((wrap64 ((wrap64 ((wrap64 (Int.tmod a0 1000)) * 24)) + (wrap64 (Int.tmod a1 24)))) * 60)) + (wrap64 (Int.tmod a2 60)))) * 60)) + (wrap64 (Int.tmod a3 60)))) (bt226.2 != 0)) else (gangerlaw07_ClockForms.j0 k (wrap64 (Int.tmod a0 1000)) (wrap64 (Int.tmod a1 24)) (wrap64 (Int.tmod a2 60)) (wrap64 (Int.tmod a3 60)) t219 t220 t221 bt229.1 bt229.2 (wrap64 ((wrap64 ((wrap64 ((wrap64 ((wrap64 ((wrap64 ((wrap64 (Int.tmod a0 1000)) * 24)) + (wrap64 (Int.tmod a1 24)))) * 60)) + (wrap64 (Int.tmod a2 60)))) * 60)) + (wrap64 (Int.tmod a3 60)))) true)) else (gangerlaw07_ClockForms.j0 k (wrap64 (Int.tmod a0 1000)) (wrap64 (Int.tmod a1 24)) (wrap64 (Int.tmod a2 60)) (wrap64 (Int.tmod a3 60)) t219 t220 t221 bt229.1 bt229.2 (wrap64 ((wrap64 ((wrap64 ((wrap64 ((wrap64 ((wrap64 ((wrap64 (Int.tmod a0 1000)) * 24)) + (wrap64 (Int.tmod a1 24)))) * 60)) + (wrap64 (Int.tmod a2 60)))) * 60)) + (wrap64 (Int.tmod a3 60)))) true)) else (gangerlaw07_ClockForms.j0 k (wrap64 (Int.tmod a0 1000)) (wrap64 (Int.tmod a1 24)) (wrap64 (Int.tmod a2 60)) (wrap64 (Int.tmod a3 60)) t219 t220 t221 bt229.1 bt229.2 (wrap64 ((wrap64 ((wrap64 ((wrap64 ((wrap64 ((wrap64 ((wrap64 (Int.tmod a0 1000)) * 24)) + (wrap64 (Int.tmod a1 24)))) * 60)) + (wrap64 (Int.tmod a2 60)))) * 60)) + (wrap64 (Int.tmod a3 60)))) true)))) else (none)) else (none)))) else (none)) else (none)) else (none)) else (none)))) else (none)) else (none)) else (none)) else (none)) else (none)) else (none))) = some r := H
  have A7 := Aside0.mk A70
  clear A70
  replace H := Option.bind_eq_some_iff.mp H
  obtain ⟨t222, A80, H⟩ := H
  replace H : (if t219.size + 1 ≤ 9223372036854775807 then (if (t219 ++ (⟨#[45]⟩ : ByteArray)).size + t220.size ≤ 9223372036854775807 then (if ((t219 ++ (⟨#[45]⟩ : ByteArray)) ++ t220).size + 1 ≤ 9223372036854775807 then (if (((t219 ++ (⟨#[45]⟩ : ByteArray)) ++ t220) ++ (⟨#[58]⟩ : ByteArray)).size + t221.size ≤ 9223372036854775807 then (if ((((t219 ++ (⟨#[45]⟩ : ByteArray)) ++ t220) ++ (⟨#[58]⟩ : ByteArray)) ++ t221).size + 1 ≤ 9223372036854775807 then (if (((((t219 ++ (⟨#[45]⟩ : ByteArray)) ++ t220) ++ (⟨#[58]⟩ : ByteArray)) ++ t221) ++ (⟨#[58]⟩ : ByteArray)).size + t222.size ≤ 9223372036854775807 then ((clock_Parse.f k ((((((t219 ++ (⟨#[45]⟩ : ByteArray)) ++ t220) ++ (⟨#[58]⟩ : ByteArray)) ++ t221) ++ (⟨#[58]⟩ : ByteArray)) ++ t222)).bind fun bt223 => ((gangerref06_Digits.f k (wrap64 ((wrap64 ((wrap64 (Int.tmod a0 1000)) * 24)) + (wrap64 (Int.tmod a1 24))))).bind fun t225 => (if t225.size + 1 ≤ 9223372036854775807 then (if (t225 ++ (⟨#[58]⟩ : ByteArray)).size + t221.size ≤ 9223372036854775807 then (if ((t225 ++ (⟨#[58]⟩ : ByteArray)) ++ t221).size + 1 ≤ 9223372036854775807 then (if (((t225 ++ (⟨#[58]⟩ : ByteArray)) ++ t221) ++ (⟨#[58]⟩ : ByteArray)).size + t222.size ≤ 9223372036854775807 then ((clock_Parse.f k ((((t225 ++ (⟨#[58]⟩ : ByteArray)) ++ t221) ++ (⟨#[58]⟩ : ByteArray)) ++ t222)).bind fun bt226 => ((gangerref06_Digits.f k (wrap64 ((wrap64 ((Int.tmod (wrap64 ((wrap64 ((wrap64 (Int.tmod a0 1000)) * 24)) + (wrap64 (Int.tmod a1 24)))) 10000) * 60)) + (wrap64 (Int.tmod a2 60))))).bind fun t228 => (if t228.size + 1 ≤ 9223372036854775807 then (if (t228 ++ (⟨#[58]⟩ : ByteArray)).size + t222.size ≤ 9223372036854775807 then ((clock_Parse.f k ((t228 ++ (⟨#[58]⟩ : ByteArray)) ++ t222)).bind fun bt229 => (if (wrap64 ((wrap64 ((wrap64 ((wrap64 ((wrap64 ((wrap64 ((wrap64 (Int.tmod a0 1000)) * 24)) + (wrap64 (Int.tmod a1 24)))) * 60)) + (wrap64 (Int.tmod a2 60)))) * 60)) + (wrap64 (Int.tmod a3 60)))) = 0 then (if bt223.2 = 2 then (if bt226.2 = 2 then ((gangerlaw07_known.f k).bind fun t231 => (some t231)) else (none)) else (none)) else (if bt223.1 = (wrap64 ((wrap64 ((wrap64 ((wrap64 ((wrap64 ((wrap64 ((wrap64 (Int.tmod a0 1000)) * 24)) + (wrap64 (Int.tmod a1 24)))) * 60)) + (wrap64 (Int.tmod a2 60)))) * 60)) + (wrap64 (Int.tmod a3 60)))) then (if bt226.1 = (wrap64 ((wrap64 ((wrap64 ((wrap64 ((wrap64 ((wrap64 ((wrap64 (Int.tmod a0 1000)) * 24)) + (wrap64 (Int.tmod a1 24)))) * 60)) + (wrap64 (Int.tmod a2 60)))) * 60)) + (wrap64 (Int.tmod a3 60)))) then (if bt223.2 = 0 then (gangerlaw07_ClockForms.j0 k (wrap64 (Int.tmod a0 1000)) (wrap64 (Int.tmod a1 24)) (wrap64 (Int.tmod a2 60)) (wrap64 (Int.tmod a3 60)) t219 t220 t221 bt229.1 bt229.2 (wrap64 ((wrap64 ((wrap64 ((wrap64 ((wrap64 ((wrap64 ((wrap64 (Int.tmod a0 1000)) * 24)) + (wrap64 (Int.tmod a1 24)))) * 60)) + (wrap64 (Int.tmod a2 60)))) * 60)) + (wrap64 (Int.tmod a3 60)))) (bt226.2 != 0)) else (gangerlaw07_ClockForms.j0 k (wrap64 (Int.tmod a0 1000)) (wrap64 (Int.tmod a1 24)) (wrap64 (Int.tmod a2 60)) (wrap64 (Int.tmod a3 60)) t219 t220 t221 bt229.1 bt229.2 (wrap64 ((wrap64 ((wrap64 ((wrap64 ((wrap64 ((wrap64 ((wrap64 (Int.tmod a0 1000)) * 24)) + (wrap64 (Int.tmod a1 24)))) * 60)) + (wrap64 (Int.tmod a2 60)))) * 60)) + (wrap64 (Int.tmod a3 60)))) true)) else (gangerlaw07_ClockForms.j0 k (wrap64 (Int.tmod a0 1000)) (wrap64 (Int.tmod a1 24)) (wrap64 (Int.tmod a2 60)) (wrap64 (Int.tmod a3 60)) t219 t220 t221 bt229.1 bt229.2 (wrap64 ((wrap64 ((wrap64 ((wrap64 ((wrap64 ((wrap64 ((wrap64 (Int.tmod a0 1000)) * 24)) + (wrap64 (Int.tmod a1 24)))) * 60)) + (wrap64 (Int.tmod a2 60)))) * 60)) + (wrap64 (Int.tmod a3 60)))) true)) else (gangerlaw07_ClockForms.j0 k (wrap64 (Int.tmod a0 1000)) (wrap64 (Int.tmod a1 24)) (wrap64 (Int.tmod a2 60)) (wrap64 (Int.tmod a3 60)) t219 t220 t221 bt229.1 bt229.2 (wrap64 ((wrap64 ((wrap64 ((wrap64 ((wrap64 ((wrap64 ((wrap64 (Int.tmod a0 1000)) * 24)) + (wrap64 (Int.tmod a1 24)))) * 60)) + (wrap64 (Int.tmod a2 60)))) * 60)) + (wrap64 (Int.tmod a3 60)))) true)))) else (none)) else (none)))) else (none)) else (none)) else (none)) else (none)))) else (none)) else (none)) else (none)) else (none)) else (none)) else (none)) = some r := H
  have A8 := Aside0.mk A80
  clear A80
  by_cases c9 : t219.size + 1 ≤ 9223372036854775807
  · rw [if_pos c9] at H
    have c9b0 := eq_true c9
    have c9b1 : decide (t219.size + 1 ≤ 9223372036854775807) = true := decide_eq_true c9
    try have c9b2 : (9223372036854775807 < t219.size + 1) = False := eq_false (Nat.not_lt.2 c9)
    try (have c9b3 := c9b2; simp only [ByteArray.size_append, size_lit1] at c9b3)
    by_cases c10 : (t219 ++ (⟨#[45]⟩ : ByteArray)).size + t220.size ≤ 9223372036854775807
    · rw [if_pos c10] at H
      have c10b0 := eq_true c10
      have c10b1 : decide ((t219 ++ (⟨#[45]⟩ : ByteArray)).size + t220.size ≤ 9223372036854775807) = true := decide_eq_true c10
      try have c10b2 : (9223372036854775807 < (t219 ++ (⟨#[45]⟩ : ByteArray)).size + t220.size) = False := eq_false (Nat.not_lt.2 c10)
      try (have c10b3 := c10b2; simp only [ByteArray.size_append, size_lit1] at c10b3)
      by_cases c11 : ((t219 ++ (⟨#[45]⟩ : ByteArray)) ++ t220).size + 1 ≤ 9223372036854775807
      · rw [if_pos c11] at H
        have c11b0 := eq_true c11
        have c11b1 : decide (((t219 ++ (⟨#[45]⟩ : ByteArray)) ++ t220).size + 1 ≤ 9223372036854775807) = true := decide_eq_true c11
        try have c11b2 : (9223372036854775807 < ((t219 ++ (⟨#[45]⟩ : ByteArray)) ++ t220).size + 1) = False := eq_false (Nat.not_lt.2 c11)
        try (have c11b3 := c11b2; simp only [ByteArray.size_append, size_lit1] at c11b3)
        by_cases c12 : (((t219 ++ (⟨#[45]⟩ : ByteArray)) ++ t220) ++ (⟨#[58]⟩ : ByteArray)).size + t221.size ≤ 9223372036854775807
        · rw [if_pos c12] at H
          have c12b0 := eq_true c12
          have c12b1 : decide ((((t219 ++ (⟨#[45]⟩ : ByteArray)) ++ t220) ++ (⟨#[58]⟩ : ByteArray)).size + t221.size ≤ 9223372036854775807) = true := decide_eq_true c12
          try have c12b2 : (9223372036854775807 < (((t219 ++ (⟨#[45]⟩ : ByteArray)) ++ t220) ++ (⟨#[58]⟩ : ByteArray)).size + t221.size) = False := eq_false (Nat.not_lt.2 c12)
          try (have c12b3 := c12b2; simp only [ByteArray.size_append, size_lit1] at c12b3)
          by_cases c13 : ((((t219 ++ (⟨#[45]⟩ : ByteArray)) ++ t220) ++ (⟨#[58]⟩ : ByteArray)) ++ t221).size + 1 ≤ 9223372036854775807
          · rw [if_pos c13] at H
            have c13b0 := eq_true c13
            have c13b1 : decide (((((t219 ++ (⟨#[45]⟩ : ByteArray)) ++ t220) ++ (⟨#[58]⟩ : ByteArray)) ++ t221).size + 1 ≤ 9223372036854775807) = true := decide_eq_true c13
            try have c13b2 : (9223372036854775807 < ((((t219 ++ (⟨#[45]⟩ : ByteArray)) ++ t220) ++ (⟨#[58]⟩ : ByteArray)) ++ t221).size + 1) = False := eq_false (Nat.not_lt.2 c13)
            try (have c13b3 := c13b2; simp only [ByteArray.size_append, size_lit1] at c13b3)
            by_cases c14 : (((((t219 ++ (⟨#[45]⟩ : ByteArray)) ++ t220) ++ (⟨#[58]⟩ : ByteArray)) ++ t221) ++ (⟨#[58]⟩ : ByteArray)).size + t222.size ≤ 9223372036854775807
            · rw [if_pos c14] at H
              have c14b0 := eq_true c14
              have c14b1 : decide ((((((t219 ++ (⟨#[45]⟩ : ByteArray)) ++ t220) ++ (⟨#[58]⟩ : ByteArray)) ++ t221) ++ (⟨#[58]⟩ : ByteArray)).size + t222.size ≤ 9223372036854775807) = true := decide_eq_true c14
              try have c14b2 : (9223372036854775807 < (((((t219 ++ (⟨#[45]⟩ : ByteArray)) ++ t220) ++ (⟨#[58]⟩ : ByteArray)) ++ t221) ++ (⟨#[58]⟩ : ByteArray)).size + t222.size) = False := eq_false (Nat.not_lt.2 c14)
              try (have c14b3 := c14b2; simp only [ByteArray.size_append, size_lit1] at c14b3)
              replace H := Option.bind_eq_some_iff.mp H
              obtain ⟨⟨t223, t224⟩, A150, H⟩ := H
              replace H : ((gangerref06_Digits.f k (wrap64 ((wrap64 ((wrap64 (Int.tmod a0 1000)) * 24)) + (wrap64 (Int.tmod a1 24))))).bind fun t225 => (if t225.size + 1 ≤ 9223372036854775807 then (if (t225 ++ (⟨#[58]⟩ : ByteArray)).size + t221.size ≤ 9223372036854775807 then (if ((t225 ++ (⟨#[58]⟩ : ByteArray)) ++ t221).size + 1 ≤ 9223372036854775807 then (if (((t225 ++ (⟨#[58]⟩ : ByteArray)) ++ t221) ++ (⟨#[58]⟩ : ByteArray)).size + t222.size ≤ 9223372036854775807 then ((clock_Parse.f k ((((t225 ++ (⟨#[58]⟩ : ByteArray)) ++ t221) ++ (⟨#[58]⟩ : ByteArray)) ++ t222)).bind fun bt226 => ((gangerref06_Digits.f k (wrap64 ((wrap64 ((Int.tmod (wrap64 ((wrap64 ((wrap64 (Int.tmod a0 1000)) * 24)) + (wrap64 (Int.tmod a1 24)))) 10000) * 60)) + (wrap64 (Int.tmod a2 60))))).bind fun t228 => (if t228.size + 1 ≤ 9223372036854775807 then (if (t228 ++ (⟨#[58]⟩ : ByteArray)).size + t222.size ≤ 9223372036854775807 then ((clock_Parse.f k ((t228 ++ (⟨#[58]⟩ : ByteArray)) ++ t222)).bind fun bt229 => (if (wrap64 ((wrap64 ((wrap64 ((wrap64 ((wrap64 ((wrap64 ((wrap64 (Int.tmod a0 1000)) * 24)) + (wrap64 (Int.tmod a1 24)))) * 60)) + (wrap64 (Int.tmod a2 60)))) * 60)) + (wrap64 (Int.tmod a3 60)))) = 0 then (if t224 = 2 then (if bt226.2 = 2 then ((gangerlaw07_known.f k).bind fun t231 => (some t231)) else (none)) else (none)) else (if t223 = (wrap64 ((wrap64 ((wrap64 ((wrap64 ((wrap64 ((wrap64 ((wrap64 (Int.tmod a0 1000)) * 24)) + (wrap64 (Int.tmod a1 24)))) * 60)) + (wrap64 (Int.tmod a2 60)))) * 60)) + (wrap64 (Int.tmod a3 60)))) then (if bt226.1 = (wrap64 ((wrap64 ((wrap64 ((wrap64 ((wrap64 ((wrap64 ((wrap64 (Int.tmod a0 1000)) * 24)) + (wrap64 (Int.tmod a1 24)))) * 60)) + (wrap64 (Int.tmod a2 60)))) * 60)) + (wrap64 (Int.tmod a3 60)))) then (if t224 = 0 then (gangerlaw07_ClockForms.j0 k (wrap64 (Int.tmod a0 1000)) (wrap64 (Int.tmod a1 24)) (wrap64 (Int.tmod a2 60)) (wrap64 (Int.tmod a3 60)) t219 t220 t221 bt229.1 bt229.2 (wrap64 ((wrap64 ((wrap64 ((wrap64 ((wrap64 ((wrap64 ((wrap64 (Int.tmod a0 1000)) * 24)) + (wrap64 (Int.tmod a1 24)))) * 60)) + (wrap64 (Int.tmod a2 60)))) * 60)) + (wrap64 (Int.tmod a3 60)))) (bt226.2 != 0)) else (gangerlaw07_ClockForms.j0 k (wrap64 (Int.tmod a0 1000)) (wrap64 (Int.tmod a1 24)) (wrap64 (Int.tmod a2 60)) (wrap64 (Int.tmod a3 60)) t219 t220 t221 bt229.1 bt229.2 (wrap64 ((wrap64 ((wrap64 ((wrap64 ((wrap64 ((wrap64 ((wrap64 (Int.tmod a0 1000)) * 24)) + (wrap64 (Int.tmod a1 24)))) * 60)) + (wrap64 (Int.tmod a2 60)))) * 60)) + (wrap64 (Int.tmod a3 60)))) true)) else (gangerlaw07_ClockForms.j0 k (wrap64 (Int.tmod a0 1000)) (wrap64 (Int.tmod a1 24)) (wrap64 (Int.tmod a2 60)) (wrap64 (Int.tmod a3 60)) t219 t220 t221 bt229.1 bt229.2 (wrap64 ((wrap64 ((wrap64 ((wrap64 ((wrap64 ((wrap64 ((wrap64 (Int.tmod a0 1000)) * 24)) + (wrap64 (Int.tmod a1 24)))) * 60)) + (wrap64 (Int.tmod a2 60)))) * 60)) + (wrap64 (Int.tmod a3 60)))) true)) else (gangerlaw07_ClockForms.j0 k (wrap64 (Int.tmod a0 1000)) (wrap64 (Int.tmod a1 24)) (wrap64 (Int.tmod a2 60)) (wrap64 (Int.tmod a3 60)) t219 t220 t221 bt229.1 bt229.2 (wrap64 ((wrap64 ((wrap64 ((wrap64 ((wrap64 ((wrap64 ((wrap64 (Int.tmod a0 1000)) * 24)) + (wrap64 (Int.tmod a1 24)))) * 60)) + (wrap64 (Int.tmod a2 60)))) * 60)) + (wrap64 (Int.tmod a3 60)))) true)))) else (none)) else (none)))) else (none)) else (none)) else (none)) else (none))) = some r := H
              have A15 := Aside0.mk A150
              clear A150
              replace H := Option.bind_eq_some_iff.mp H
              obtain ⟨t225, A160, H⟩ := H
              replace H : (if t225.size + 1 ≤ 9223372036854775807 then (if (t225 ++ (⟨#[58]⟩ : ByteArray)).size + t221.size ≤ 9223372036854775807 then (if ((t225 ++ (⟨#[58]⟩ : ByteArray)) ++ t221).size + 1 ≤ 9223372036854775807 then (if (((t225 ++ (⟨#[58]⟩ : ByteArray)) ++ t221) ++ (⟨#[58]⟩ : ByteArray)).size + t222.size ≤ 9223372036854775807 then ((clock_Parse.f k ((((t225 ++ (⟨#[58]⟩ : ByteArray)) ++ t221) ++ (⟨#[58]⟩ : ByteArray)) ++ t222)).bind fun bt226 => ((gangerref06_Digits.f k (wrap64 ((wrap64 ((Int.tmod (wrap64 ((wrap64 ((wrap64 (Int.tmod a0 1000)) * 24)) + (wrap64 (Int.tmod a1 24)))) 10000) * 60)) + (wrap64 (Int.tmod a2 60))))).bind fun t228 => (if t228.size + 1 ≤ 9223372036854775807 then (if (t228 ++ (⟨#[58]⟩ : ByteArray)).size + t222.size ≤ 9223372036854775807 then ((clock_Parse.f k ((t228 ++ (⟨#[58]⟩ : ByteArray)) ++ t222)).bind fun bt229 => (if (wrap64 ((wrap64 ((wrap64 ((wrap64 ((wrap64 ((wrap64 ((wrap64 (Int.tmod a0 1000)) * 24)) + (wrap64 (Int.tmod a1 24)))) * 60)) + (wrap64 (Int.tmod a2 60)))) * 60)) + (wrap64 (Int.tmod a3 60)))) = 0 then (if t224 = 2 then (if bt226.2 = 2 then ((gangerlaw07_known.f k).bind fun t231 => (some t231)) else (none)) else (none)) else (if t223 = (wrap64 ((wrap64 ((wrap64 ((wrap64 ((wrap64 ((wrap64 ((wrap64 (Int.tmod a0 1000)) * 24)) + (wrap64 (Int.tmod a1 24)))) * 60)) + (wrap64 (Int.tmod a2 60)))) * 60)) + (wrap64 (Int.tmod a3 60)))) then (if bt226.1 = (wrap64 ((wrap64 ((wrap64 ((wrap64 ((wrap64 ((wrap64 ((wrap64 (Int.tmod a0 1000)) * 24)) + (wrap64 (Int.tmod a1 24)))) * 60)) + (wrap64 (Int.tmod a2 60)))) * 60)) + (wrap64 (Int.tmod a3 60)))) then (if t224 = 0 then (gangerlaw07_ClockForms.j0 k (wrap64 (Int.tmod a0 1000)) (wrap64 (Int.tmod a1 24)) (wrap64 (Int.tmod a2 60)) (wrap64 (Int.tmod a3 60)) t219 t220 t221 bt229.1 bt229.2 (wrap64 ((wrap64 ((wrap64 ((wrap64 ((wrap64 ((wrap64 ((wrap64 (Int.tmod a0 1000)) * 24)) + (wrap64 (Int.tmod a1 24)))) * 60)) + (wrap64 (Int.tmod a2 60)))) * 60)) + (wrap64 (Int.tmod a3 60)))) (bt226.2 != 0)) else (gangerlaw07_ClockForms.j0 k (wrap64 (Int.tmod a0 1000)) (wrap64 (Int.tmod a1 24)) (wrap64 (Int.tmod a2 60)) (wrap64 (Int.tmod a3 60)) t219 t220 t221 bt229.1 bt229.2 (wrap64 ((wrap64 ((wrap64 ((wrap64 ((wrap64 ((wrap64 ((wrap64 (Int.tmod a0 1000)) * 24)) + (wrap64 (Int.tmod a1 24)))) * 60)) + (wrap64 (Int.tmod a2 60)))) * 60)) + (wrap64 (Int.tmod a3 60)))) true)) else (gangerlaw07_ClockForms.j0 k (wrap64 (Int.tmod a0 1000)) (wrap64 (Int.tmod a1 24)) (wrap64 (Int.tmod a2 60)) (wrap64 (Int.tmod a3 60)) t219 t220 t221 bt229.1 bt229.2 (wrap64 ((wrap64 ((wrap64 ((wrap64 ((wrap64 ((wrap64 ((wrap64 (Int.tmod a0 1000)) * 24)) + (wrap64 (Int.tmod a1 24)))) * 60)) + (wrap64 (Int.tmod a2 60)))) * 60)) + (wrap64 (Int.tmod a3 60)))) true)) else (gangerlaw07_ClockForms.j0 k (wrap64 (Int.tmod a0 1000)) (wrap64 (Int.tmod a1 24)) (wrap64 (Int.tmod a2 60)) (wrap64 (Int.tmod a3 60)) t219 t220 t221 bt229.1 bt229.2 (wrap64 ((wrap64 ((wrap64 ((wrap64 ((wrap64 ((wrap64 ((wrap64 (Int.tmod a0 1000)) * 24)) + (wrap64 (Int.tmod a1 24)))) * 60)) + (wrap64 (Int.tmod a2 60)))) * 60)) + (wrap64 (Int.tmod a3 60)))) true)))) else (none)) else (none)))) else (none)) else (none)) else (none)) else (none)) = some r := H
              have A16 := Aside0.mk A160
              clear A160
              by_cases c17 : t225.size + 1 ≤ 9223372036854775807
              · rw [if_pos c17] at H
                have c17b0 := eq_true c17
                have c17b1 : decide (t225.size + 1 ≤ 9223372036854775807) = true := decide_eq_true c17
                try have c17b2 : (9223372036854775807 < t225.size + 1) = False := eq_false (Nat.not_lt.2 c17)
                try (have c17b3 := c17b2; simp only [ByteArray.size_append, size_lit1] at c17b3)
                by_cases c18 : (t225 ++ (⟨#[58]⟩ : ByteArray)).size + t221.size ≤ 9223372036854775807
                · rw [if_pos c18] at H
                  have c18b0 := eq_true c18
                  have c18b1 : decide ((t225 ++ (⟨#[58]⟩ : ByteArray)).size + t221.size ≤ 9223372036854775807) = true := decide_eq_true c18
                  try have c18b2 : (9223372036854775807 < (t225 ++ (⟨#[58]⟩ : ByteArray)).size + t221.size) = False := eq_false (Nat.not_lt.2 c18)
                  try (have c18b3 := c18b2; simp only [ByteArray.size_append, size_lit1] at c18b3)
                  by_cases c19 : ((t225 ++ (⟨#[58]⟩ : ByteArray)) ++ t221).size + 1 ≤ 9223372036854775807
                  · rw [if_pos c19] at H
                    have c19b0 := eq_true c19
                    have c19b1 : decide (((t225 ++ (⟨#[58]⟩ : ByteArray)) ++ t221).size + 1 ≤ 9223372036854775807) = true := decide_eq_true c19
                    try have c19b2 : (9223372036854775807 < ((t225 ++ (⟨#[58]⟩ : ByteArray)) ++ t221).size + 1) = False := eq_false (Nat.not_lt.2 c19)
                    try (have c19b3 := c19b2; simp only [ByteArray.size_append, size_lit1] at c19b3)
                    by_cases c20 : (((t225 ++ (⟨#[58]⟩ : ByteArray)) ++ t221) ++ (⟨#[58]⟩ : ByteArray)).size + t222.size ≤ 9223372036854775807
                    · rw [if_pos c20] at H
                      have c20b0 := eq_true c20
                      have c20b1 : decide ((((t225 ++ (⟨#[58]⟩ : ByteArray)) ++ t221) ++ (⟨#[58]⟩ : ByteArray)).size + t222.size ≤ 9223372036854775807) = true := decide_eq_true c20
                      try have c20b2 : (9223372036854775807 < (((t225 ++ (⟨#[58]⟩ : ByteArray)) ++ t221) ++ (⟨#[58]⟩ : ByteArray)).size + t222.size) = False := eq_false (Nat.not_lt.2 c20)
                      try (have c20b3 := c20b2; simp only [ByteArray.size_append, size_lit1] at c20b3)
                      replace H := Option.bind_eq_some_iff.mp H
                      obtain ⟨⟨t226, t227⟩, A210, H⟩ := H
                      replace H : ((gangerref06_Digits.f k (wrap64 ((wrap64 ((Int.tmod (wrap64 ((wrap64 ((wrap64 (Int.tmod a0 1000)) * 24)) + (wrap64 (Int.tmod a1 24)))) 10000) * 60)) + (wrap64 (Int.tmod a2 60))))).bind fun t228 => (if t228.size + 1 ≤ 9223372036854775807 then (if (t228 ++ (⟨#[58]⟩ : ByteArray)).size + t222.size ≤ 9223372036854775807 then ((clock_Parse.f k ((t228 ++ (⟨#[58]⟩ : ByteArray)) ++ t222)).bind fun bt229 => (if (wrap64 ((wrap64 ((wrap64 ((wrap64 ((wrap64 ((wrap64 ((wrap64 (Int.tmod a0 1000)) * 24)) + (wrap64 (Int.tmod a1 24)))) * 60)) + (wrap64 (Int.tmod a2 60)))) * 60)) + (wrap64 (Int.tmod a3 60)))) = 0 then (if t224 = 2 then (if t227 = 2 then ((gangerlaw07_known.f k).bind fun t231 => (some t231)) else (none)) else (none)) else (if t223 = (wrap64 ((wrap64 ((wrap64 ((wrap64 ((wrap64 ((wrap64 ((wrap64 (Int.tmod a0 1000)) * 24)) + (wrap64 (Int.tmod a1 24)))) * 60)) + (wrap64 (Int.tmod a2 60)))) * 60)) + (wrap64 (Int.tmod a3 60)))) then (if t226 = (wrap64 ((wrap64 ((wrap64 ((wrap64 ((wrap64 ((wrap64 ((wrap64 (Int.tmod a0 1000)) * 24)) + (wrap64 (Int.tmod a1 24)))) * 60)) + (wrap64 (Int.tmod a2 60)))) * 60)) + (wrap64 (Int.tmod a3 60)))) then (if t224 = 0 then (gangerlaw07_ClockForms.j0 k (wrap64 (Int.tmod a0 1000)) (wrap64 (Int.tmod a1 24)) (wrap64 (Int.tmod a2 60)) (wrap64 (Int.tmod a3 60)) t219 t220 t221 bt229.1 bt229.2 (wrap64 ((wrap64 ((wrap64 ((wrap64 ((wrap64 ((wrap64 ((wrap64 (Int.tmod a0 1000)) * 24)) + (wrap64 (Int.tmod a1 24)))) * 60)) + (wrap64 (Int.tmod a2 60)))) * 60)) + (wrap64 (Int.tmod a3 60)))) (t227 != 0)) else (gangerlaw07_ClockForms.j0 k (wrap64 (Int.tmod a0 1000)) (wrap64 (Int.tmod a1 24)) (wrap64 (Int.tmod a2 60)) (wrap64 (Int.tmod a3 60)) t219 t220 t221 bt229.1 bt229.2 (wrap64 ((wrap64 ((wrap64 ((wrap64 ((wrap64 ((wrap64 ((wrap64 (Int.tmod a0 1000)) * 24)) + (wrap64 (Int.tmod a1 24)))) * 60)) + (wrap64 (Int.tmod a2 60)))) * 60)) + (wrap64 (Int.tmod a3 60)))) true)) else (gangerlaw07_ClockForms.j0 k (wrap64 (Int.tmod a0 1000)) (wrap64 (Int.tmod a1 24)) (wrap64 (Int.tmod a2 60)) (wrap64 (Int.tmod a3 60)) t219 t220 t221 bt229.1 bt229.2 (wrap64 ((wrap64 ((wrap64 ((wrap64 ((wrap64 ((wrap64 ((wrap64 (Int.tmod a0 1000)) * 24)) + (wrap64 (Int.tmod a1 24)))) * 60)) + (wrap64 (Int.tmod a2 60)))) * 60)) + (wrap64 (Int.tmod a3 60)))) true)) else (gangerlaw07_ClockForms.j0 k (wrap64 (Int.tmod a0 1000)) (wrap64 (Int.tmod a1 24)) (wrap64 (Int.tmod a2 60)) (wrap64 (Int.tmod a3 60)) t219 t220 t221 bt229.1 bt229.2 (wrap64 ((wrap64 ((wrap64 ((wrap64 ((wrap64 ((wrap64 ((wrap64 (Int.tmod a0 1000)) * 24)) + (wrap64 (Int.tmod a1 24)))) * 60)) + (wrap64 (Int.tmod a2 60)))) * 60)) + (wrap64 (Int.tmod a3 60)))) true)))) else (none)) else (none))) = some r := H
                      have A21 := Aside0.mk A210
                      clear A210
                      replace H := Option.bind_eq_some_iff.mp H
                      obtain ⟨t228, A220, H⟩ := H
                      replace H : (if t228.size + 1 ≤ 9223372036854775807 then (if (t228 ++ (⟨#[58]⟩ : ByteArray)).size + t222.size ≤ 9223372036854775807 then ((clock_Parse.f k ((t228 ++ (⟨#[58]⟩ : ByteArray)) ++ t222)).bind fun bt229 => (if (wrap64 ((wrap64 ((wrap64 ((wrap64 ((wrap64 ((wrap64 ((wrap64 (Int.tmod a0 1000)) * 24)) + (wrap64 (Int.tmod a1 24)))) * 60)) + (wrap64 (Int.tmod a2 60)))) * 60)) + (wrap64 (Int.tmod a3 60)))) = 0 then (if t224 = 2 then (if t227 = 2 then ((gangerlaw07_known.f k).bind fun t231 => (some t231)) else (none)) else (none)) else (if t223 = (wrap64 ((wrap64 ((wrap64 ((wrap64 ((wrap64 ((wrap64 ((wrap64 (Int.tmod a0 1000)) * 24)) + (wrap64 (Int.tmod a1 24)))) * 60)) + (wrap64 (Int.tmod a2 60)))) * 60)) + (wrap64 (Int.tmod a3 60)))) then (if t226 = (wrap64 ((wrap64 ((wrap64 ((wrap64 ((wrap64 ((wrap64 ((wrap64 (Int.tmod a0 1000)) * 24)) + (wrap64 (Int.tmod a1 24)))) * 60)) + (wrap64 (Int.tmod a2 60)))) * 60)) + (wrap64 (Int.tmod a3 60)))) then (if t224 = 0 then (gangerlaw07_ClockForms.j0 k (wrap64 (Int.tmod a0 1000)) (wrap64 (Int.tmod a1 24)) (wrap64 (Int.tmod a2 60)) (wrap64 (Int.tmod a3 60)) t219 t220 t221 bt229.1 bt229.2 (wrap64 ((wrap64 ((wrap64 ((wrap64 ((wrap64 ((wrap64 ((wrap64 (Int.tmod a0 1000)) * 24)) + (wrap64 (Int.tmod a1 24)))) * 60)) + (wrap64 (Int.tmod a2 60)))) * 60)) + (wrap64 (Int.tmod a3 60)))) (t227 != 0)) else (gangerlaw07_ClockForms.j0 k (wrap64 (Int.tmod a0 1000)) (wrap64 (Int.tmod a1 24)) (wrap64 (Int.tmod a2 60)) (wrap64 (Int.tmod a3 60)) t219 t220 t221 bt229.1 bt229.2 (wrap64 ((wrap64 ((wrap64 ((wrap64 ((wrap64 ((wrap64 ((wrap64 (Int.tmod a0 1000)) * 24)) + (wrap64 (Int.tmod a1 24)))) * 60)) + (wrap64 (Int.tmod a2 60)))) * 60)) + (wrap64 (Int.tmod a3 60)))) true)) else (gangerlaw07_ClockForms.j0 k (wrap64 (Int.tmod a0 1000)) (wrap64 (Int.tmod a1 24)) (wrap64 (Int.tmod a2 60)) (wrap64 (Int.tmod a3 60)) t219 t220 t221 bt229.1 bt229.2 (wrap64 ((wrap64 ((wrap64 ((wrap64 ((wrap64 ((wrap64 ((wrap64 (Int.tmod a0 1000)) * 24)) + (wrap64 (Int.tmod a1 24)))) * 60)) + (wrap64 (Int.tmod a2 60)))) * 60)) + (wrap64 (Int.tmod a3 60)))) true)) else (gangerlaw07_ClockForms.j0 k (wrap64 (Int.tmod a0 1000)) (wrap64 (Int.tmod a1 24)) (wrap64 (Int.tmod a2 60)) (wrap64 (Int.tmod a3 60)) t219 t220 t221 bt229.1 bt229.2 (wrap64 ((wrap64 ((wrap64 ((wrap64 ((wrap64 ((wrap64 ((wrap64 (Int.tmod a0 1000)) * 24)) + (wrap64 (Int.tmod a1 24)))) * 60)) + (wrap64 (Int.tmod a2 60)))) * 60)) + (wrap64 (Int.tmod a3 60)))) true)))) else (none)) else (none)) = some r := H
                      have A22 := Aside0.mk A220
                      clear A220
                      by_cases c23 : t228.size + 1 ≤ 9223372036854775807
                      · rw [if_pos c23] at H
                        have c23b0 := eq_true c23
                        have c23b1 : decide (t228.size + 1 ≤ 9223372036854775807) = true := decide_eq_true c23
                        try have c23b2 : (9223372036854775807 < t228.size + 1) = False := eq_false (Nat.not_lt.2 c23)
                        try (have c23b3 := c23b2; simp only [ByteArray.size_append, size_lit1] at c23b3)
                        by_cases c24 : (t228 ++ (⟨#[58]⟩ : ByteArray)).size + t222.size ≤ 9223372036854775807
                        · rw [if_pos c24] at H
                          have c24b0 := eq_true c24
                          have c24b1 : decide ((t228 ++ (⟨#[58]⟩ : ByteArray)).size + t222.size ≤ 9223372036854775807) = true := decide_eq_true c24
                          try have c24b2 : (9223372036854775807 < (t228 ++ (⟨#[58]⟩ : ByteArray)).size + t222.size) = False := eq_false (Nat.not_lt.2 c24)
                          try (have c24b3 := c24b2; simp only [ByteArray.size_append, size_lit1] at c24b3)
                          replace H := Option.bind_eq_some_iff.mp H
                          obtain ⟨⟨t229, t230⟩, A250, H⟩ := H
                          replace H : (if (wrap64 ((wrap64 ((wrap64 ((wrap64 ((wrap64 ((wrap64 ((wrap64 (Int.tmod a0 1000)) * 24)) + (wrap64 (Int.tmod a1 24)))) * 60)) + (wrap64 (Int.tmod a2 60)))) * 60)) + (wrap64 (Int.tmod a3 60)))) = 0 then (if t224 = 2 then (if t227 = 2 then ((gangerlaw07_known.f k).bind fun t231 => (some t231)) else (none)) else (none)) else (if t223 = (wrap64 ((wrap64 ((wrap64 ((wrap64 ((wrap64 ((wrap64 ((wrap64 (Int.tmod a0 1000)) * 24)) + (wrap64 (Int.tmod a1 24)))) * 60)) + (wrap64 (Int.tmod a2 60)))) * 60)) + (wrap64 (Int.tmod a3 60)))) then (if t226 = (wrap64 ((wrap64 ((wrap64 ((wrap64 ((wrap64 ((wrap64 ((wrap64 (Int.tmod a0 1000)) * 24)) + (wrap64 (Int.tmod a1 24)))) * 60)) + (wrap64 (Int.tmod a2 60)))) * 60)) + (wrap64 (Int.tmod a3 60)))) then (if t224 = 0 then (gangerlaw07_ClockForms.j0 k (wrap64 (Int.tmod a0 1000)) (wrap64 (Int.tmod a1 24)) (wrap64 (Int.tmod a2 60)) (wrap64 (Int.tmod a3 60)) t219 t220 t221 t229 t230 (wrap64 ((wrap64 ((wrap64 ((wrap64 ((wrap64 ((wrap64 ((wrap64 (Int.tmod a0 1000)) * 24)) + (wrap64 (Int.tmod a1 24)))) * 60)) + (wrap64 (Int.tmod a2 60)))) * 60)) + (wrap64 (Int.tmod a3 60)))) (t227 != 0)) else (gangerlaw07_ClockForms.j0 k (wrap64 (Int.tmod a0 1000)) (wrap64 (Int.tmod a1 24)) (wrap64 (Int.tmod a2 60)) (wrap64 (Int.tmod a3 60)) t219 t220 t221 t229 t230 (wrap64 ((wrap64 ((wrap64 ((wrap64 ((wrap64 ((wrap64 ((wrap64 (Int.tmod a0 1000)) * 24)) + (wrap64 (Int.tmod a1 24)))) * 60)) + (wrap64 (Int.tmod a2 60)))) * 60)) + (wrap64 (Int.tmod a3 60)))) true)) else (gangerlaw07_ClockForms.j0 k (wrap64 (Int.tmod a0 1000)) (wrap64 (Int.tmod a1 24)) (wrap64 (Int.tmod a2 60)) (wrap64 (Int.tmod a3 60)) t219 t220 t221 t229 t230 (wrap64 ((wrap64 ((wrap64 ((wrap64 ((wrap64 ((wrap64 ((wrap64 (Int.tmod a0 1000)) * 24)) + (wrap64 (Int.tmod a1 24)))) * 60)) + (wrap64 (Int.tmod a2 60)))) * 60)) + (wrap64 (Int.tmod a3 60)))) true)) else (gangerlaw07_ClockForms.j0 k (wrap64 (Int.tmod a0 1000)) (wrap64 (Int.tmod a1 24)) (wrap64 (Int.tmod a2 60)) (wrap64 (Int.tmod a3 60)) t219 t220 t221 t229 t230 (wrap64 ((wrap64 ((wrap64 ((wrap64 ((wrap64 ((wrap64 ((wrap64 (Int.tmod a0 1000)) * 24)) + (wrap64 (Int.tmod a1 24)))) * 60)) + (wrap64 (Int.tmod a2 60)))) * 60)) + (wrap64 (Int.tmod a3 60)))) true))) = some r := H
                          have A25 := Aside0.mk A250
                          clear A250
                          by_cases c26 : (wrap64 ((wrap64 ((wrap64 ((wrap64 ((wrap64 ((wrap64 ((wrap64 (Int.tmod a0 1000)) * 24)) + (wrap64 (Int.tmod a1 24)))) * 60)) + (wrap64 (Int.tmod a2 60)))) * 60)) + (wrap64 (Int.tmod a3 60)))) = 0
                          · rw [if_pos c26] at H
                            have c26b0 : ((wrap64 ((wrap64 ((wrap64 ((wrap64 ((wrap64 ((wrap64 ((wrap64 (Int.tmod a0 1000)) * 24)) + (wrap64 (Int.tmod a1 24)))) * 60)) + (wrap64 (Int.tmod a2 60)))) * 60)) + (wrap64 (Int.tmod a3 60)))) == 0) = true := beq_iff_eq.mpr c26
                            have c26b1 : ((wrap64 ((wrap64 ((wrap64 ((wrap64 ((wrap64 ((wrap64 ((wrap64 (Int.tmod a0 1000)) * 24)) + (wrap64 (Int.tmod a1 24)))) * 60)) + (wrap64 (Int.tmod a2 60)))) * 60)) + (wrap64 (Int.tmod a3 60)))) != 0) = false := bne_eq_false_iff_eq.mpr c26
                            clear c26
                            by_cases c27 : t224 = 2
                            · rw [if_pos c27] at H
                              have c27b0 : (t224 == 2) = true := beq_iff_eq.mpr c27
                              have c27b1 : (t224 != 2) = false := bne_eq_false_iff_eq.mpr c27
                              clear c27
                              by_cases c28 : t227 = 2
                              · rw [if_pos c28] at H
                                have c28b0 : (t227 == 2) = true := beq_iff_eq.mpr c28
                                have c28b1 : (t227 != 2) = false := bne_eq_false_iff_eq.mpr c28
                                clear c28
                                replace H := Option.bind_eq_some_iff.mp H
                                obtain ⟨t231, A290, H⟩ := H
                                replace H : (some t231) = some r := H
                                have A29 := Aside0.mk A290
                                clear A290
                                obtain rfl := Option.some.inj H
                                go_enter Tryd.func6, Tryd.ntmps6
                                go_wp2_with (first | ((with_reducible refine gate_callee (f := 17) rfl ?_); refine goesL_ (some 41) rfl rfl Tryd.func17 (by kernel_rfl) rfl #[.int .i64 (wrap64 (Int.tmod a0 1000))] rfl (by (try simp only [List.map_toArray, List.map_cons, List.map_nil]); first | done | rfl | (simp only [List.length_drop, List.length_take]; rfl)) ?_; (with_reducible refine (gangerref06_Digits.calls k (wrap64 (Int.tmod a0 1000)) t219 _ A5.out).mono ?_); rintro e w30 ⟨rfl, hb⟩; refine ⟨_, rfl, ?_⟩; have n0_ := Aside0.mk (below_step (by repeat (first | (with_reducible first | exact HB.out | apply below_alloc | apply pw_below_drewN | apply below_drew1) | exact HB.out)) hb); clear HB; have HB := n0_; clear n0_; (try clear hb); (try clear hb2); (try clear hk); (try clear hi)) | ((with_reducible refine gate_callee (f := 17) rfl ?_); refine goesL_ (some 43) rfl rfl Tryd.func17 (by kernel_rfl) rfl #[.int .i64 (wrap64 (Int.tmod a1 24))] rfl (by (try simp only [List.map_toArray, List.map_cons, List.map_nil]); first | done | rfl | (simp only [List.length_drop, List.length_take]; rfl)) ?_; (with_reducible refine (gangerref06_Digits.calls k (wrap64 (Int.tmod a1 24)) t220 _ A6.out).mono ?_); rintro e w31 ⟨rfl, hb⟩; refine ⟨_, rfl, ?_⟩; have n0_ := Aside0.mk (below_step (by repeat (first | (with_reducible first | exact HB.out | apply below_alloc | apply pw_below_drewN | apply below_drew1) | exact HB.out)) hb); clear HB; have HB := n0_; clear n0_; (try clear hb); (try clear hb2); (try clear hk); (try clear hi)) | ((with_reducible refine gate_callee (f := 17) rfl ?_); refine goesL_ (some 45) rfl rfl Tryd.func17 (by kernel_rfl) rfl #[.int .i64 (wrap64 (Int.tmod a2 60))] rfl (by (try simp only [List.map_toArray, List.map_cons, List.map_nil]); first | done | rfl | (simp only [List.length_drop, List.length_take]; rfl)) ?_; (with_reducible refine (gangerref06_Digits.calls k (wrap64 (Int.tmod a2 60)) t221 _ A7.out).mono ?_); rintro e w32 ⟨rfl, hb⟩; refine ⟨_, rfl, ?_⟩; have n0_ := Aside0.mk (below_step (by repeat (first | (with_reducible first | exact HB.out | apply below_alloc | apply pw_below_drewN | apply below_drew1) | exact HB.out)) hb); clear HB; have HB := n0_; clear n0_; (try clear hb); (try clear hb2); (try clear hk); (try clear hi)) | ((with_reducible refine gate_callee (f := 17) rfl ?_); refine goesL_ (some 47) rfl rfl Tryd.func17 (by kernel_rfl) rfl #[.int .i64 (wrap64 (Int.tmod a3 60))] rfl (by (try simp only [List.map_toArray, List.map_cons, List.map_nil]); first | done | rfl | (simp only [List.length_drop, List.length_take]; rfl)) ?_; (with_reducible refine (gangerref06_Digits.calls k (wrap64 (Int.tmod a3 60)) t222 _ A8.out).mono ?_); rintro e w33 ⟨rfl, hb⟩; refine ⟨_, rfl, ?_⟩; have n0_ := Aside0.mk (below_step (by repeat (first | (with_reducible first | exact HB.out | apply below_alloc | apply pw_below_drewN | apply below_drew1) | exact HB.out)) hb); clear HB; have HB := n0_; clear n0_; (try clear hb); (try clear hb2); (try clear hk); (try clear hi)) | ((with_reducible refine gate_callee (f := 11) rfl ?_); refine goesL_ (some 59) rfl rfl Tryd.func11 (by kernel_rfl) rfl #[.string ((((((t219 ++ (⟨#[45]⟩ : ByteArray)) ++ t220) ++ (⟨#[58]⟩ : ByteArray)) ++ t221) ++ (⟨#[58]⟩ : ByteArray)) ++ t222)] rfl (by (try simp only [List.map_toArray, List.map_cons, List.map_nil]); first | done | rfl | (simp only [List.length_drop, List.length_take]; rfl)) ?_; (with_reducible refine (clock_Parse.calls k ((((((t219 ++ (⟨#[45]⟩ : ByteArray)) ++ t220) ++ (⟨#[58]⟩ : ByteArray)) ++ t221) ++ (⟨#[58]⟩ : ByteArray)) ++ t222) t223 t224 _ ?side1 A15.out).mono ?_); (case side1 => exact Glob.below HG.out (by repeat (first | (with_reducible first | exact HB.out | apply below_alloc | apply pw_below_drewN | apply below_drew1) | exact HB.out))); rintro e w34 ⟨rfl, hb⟩; refine ⟨_, rfl, ?_⟩; have n0_ := Aside0.mk (below_step (by repeat (first | (with_reducible first | exact HB.out | apply below_alloc | apply pw_below_drewN | apply below_drew1) | exact HB.out)) hb); clear HB; have HB := n0_; clear n0_; (try clear hb); (try clear hb2); (try clear hk); (try clear hi)) | ((with_reducible refine gate_callee (f := 17) rfl ?_); refine goesL_ (some 67) rfl rfl Tryd.func17 (by kernel_rfl) rfl #[.int .i64 (wrap64 ((wrap64 ((wrap64 (Int.tmod a0 1000)) * 24)) + (wrap64 (Int.tmod a1 24))))] rfl (by (try simp only [List.map_toArray, List.map_cons, List.map_nil]); first | done | rfl | (simp only [List.length_drop, List.length_take]; rfl)) ?_; (with_reducible refine (gangerref06_Digits.calls k (wrap64 ((wrap64 ((wrap64 (Int.tmod a0 1000)) * 24)) + (wrap64 (Int.tmod a1 24)))) t225 _ A16.out).mono ?_); rintro e w35 ⟨rfl, hb⟩; refine ⟨_, rfl, ?_⟩; have n0_ := Aside0.mk (below_step (by repeat (first | (with_reducible first | exact HB.out | apply below_alloc | apply pw_below_drewN | apply below_drew1) | exact HB.out)) hb); clear HB; have HB := n0_; clear n0_; (try clear hb); (try clear hb2); (try clear hk); (try clear hi)) | ((with_reducible refine gate_callee (f := 11) rfl ?_); refine goesL_ (some 74) rfl rfl Tryd.func11 (by kernel_rfl) rfl #[.string ((((t225 ++ (⟨#[58]⟩ : ByteArray)) ++ t221) ++ (⟨#[58]⟩ : ByteArray)) ++ t222)] rfl (by (try simp only [List.map_toArray, List.map_cons, List.map_nil]); first | done | rfl | (simp only [List.length_drop, List.length_take]; rfl)) ?_; (with_reducible refine (clock_Parse.calls k ((((t225 ++ (⟨#[58]⟩ : ByteArray)) ++ t221) ++ (⟨#[58]⟩ : ByteArray)) ++ t222) t226 t227 _ ?side1 A21.out).mono ?_); (case side1 => exact Glob.below HG.out (by repeat (first | (with_reducible first | exact HB.out | apply below_alloc | apply pw_below_drewN | apply below_drew1) | exact HB.out))); rintro e w36 ⟨rfl, hb⟩; refine ⟨_, rfl, ?_⟩; have n0_ := Aside0.mk (below_step (by repeat (first | (with_reducible first | exact HB.out | apply below_alloc | apply pw_below_drewN | apply below_drew1) | exact HB.out)) hb); clear HB; have HB := n0_; clear n0_; (try clear hb); (try clear hb2); (try clear hk); (try clear hi)) | ((with_reducible refine gate_callee (f := 17) rfl ?_); refine goesL_ (some 86) rfl rfl Tryd.func17 (by kernel_rfl) rfl #[.int .i64 (wrap64 ((wrap64 ((Int.tmod (wrap64 ((wrap64 ((wrap64 (Int.tmod a0 1000)) * 24)) + (wrap64 (Int.tmod a1 24)))) 10000) * 60)) + (wrap64 (Int.tmod a2 60))))] rfl (by (try simp only [List.map_toArray, List.map_cons, List.map_nil]); first | done | rfl | (simp only [List.length_drop, List.length_take]; rfl)) ?_; (with_reducible refine (gangerref06_Digits.calls k (wrap64 ((wrap64 ((Int.tmod (wrap64 ((wrap64 ((wrap64 (Int.tmod a0 1000)) * 24)) + (wrap64 (Int.tmod a1 24)))) 10000) * 60)) + (wrap64 (Int.tmod a2 60)))) t228 _ A22.out).mono ?_); rintro e w37 ⟨rfl, hb⟩; refine ⟨_, rfl, ?_⟩; have n0_ := Aside0.mk (below_step (by repeat (first | (with_reducible first | exact HB.out | apply below_alloc | apply pw_below_drewN | apply below_drew1) | exact HB.out)) hb); clear HB; have HB := n0_; clear n0_; (try clear hb); (try clear hb2); (try clear hk); (try clear hi)) | ((with_reducible refine gate_callee (f := 11) rfl ?_); refine goesL_ (some 90) rfl rfl Tryd.func11 (by kernel_rfl) rfl #[.string ((t228 ++ (⟨#[58]⟩ : ByteArray)) ++ t222)] rfl (by (try simp only [List.map_toArray, List.map_cons, List.map_nil]); first | done | rfl | (simp only [List.length_drop, List.length_take]; rfl)) ?_; (with_reducible refine (clock_Parse.calls k ((t228 ++ (⟨#[58]⟩ : ByteArray)) ++ t222) t229 t230 _ ?side1 A25.out).mono ?_); (case side1 => exact Glob.below HG.out (by repeat (first | (with_reducible first | exact HB.out | apply below_alloc | apply pw_below_drewN | apply below_drew1) | exact HB.out))); rintro e w38 ⟨rfl, hb⟩; refine ⟨_, rfl, ?_⟩; have n0_ := Aside0.mk (below_step (by repeat (first | (with_reducible first | exact HB.out | apply below_alloc | apply pw_below_drewN | apply below_drew1) | exact HB.out)) hb); clear HB; have HB := n0_; clear n0_; (try clear hb); (try clear hb2); (try clear hk); (try clear hi)) | (go_at_call 10; (with_reducible refine (gangerlaw07_known.calls k  t231 _ ?side1 A29.out).mono ?_); (case side1 => exact Glob.below HG.out (by repeat (first | (with_reducible first | exact HB.out | apply below_alloc | apply pw_below_drewN | apply below_drew1) | exact HB.out))); rintro e w39 ⟨rfl, hb⟩; have n0_ := Aside0.mk (below_step (by repeat (first | (with_reducible first | exact HB.out | apply below_alloc | apply pw_below_drewN | apply below_drew1) | exact HB.out)) hb); clear HB; have HB := n0_; clear n0_; (try clear hb); (try clear hb2); (try clear hk); (try clear hi)))
                                go_ret
                                exact ⟨by first | rfl | (simp [errW_none, errW_some] <;> rfl) | (simp [*, errW_none, errW_some] <;> rfl), by repeat (first | (with_reducible first | exact HB.out | apply below_alloc | apply pw_below_drewN | apply below_drew1) | exact HB.out)⟩
                              · rw [if_neg c28] at H
                                exact absurd H (by simp)
                            · rw [if_neg c27] at H
                              exact absurd H (by simp)
                          · rw [if_neg c26] at H
                            have c26b0 : ((wrap64 ((wrap64 ((wrap64 ((wrap64 ((wrap64 ((wrap64 ((wrap64 (Int.tmod a0 1000)) * 24)) + (wrap64 (Int.tmod a1 24)))) * 60)) + (wrap64 (Int.tmod a2 60)))) * 60)) + (wrap64 (Int.tmod a3 60)))) == 0) = false := beq_eq_false_iff_ne.mpr c26
                            have c26b1 : ((wrap64 ((wrap64 ((wrap64 ((wrap64 ((wrap64 ((wrap64 ((wrap64 (Int.tmod a0 1000)) * 24)) + (wrap64 (Int.tmod a1 24)))) * 60)) + (wrap64 (Int.tmod a2 60)))) * 60)) + (wrap64 (Int.tmod a3 60)))) != 0) = true := bne_iff_ne.mpr c26
                            have HC40 := Aside0.mk H
                            clear H
                            go_enter Tryd.func6, Tryd.ntmps6
                            go_upto_region 15 with (first | ((with_reducible refine gate_callee (f := 17) rfl ?_); refine goesL_ (some 41) rfl rfl Tryd.func17 (by kernel_rfl) rfl #[.int .i64 (wrap64 (Int.tmod a0 1000))] rfl (by (try simp only [List.map_toArray, List.map_cons, List.map_nil]); first | done | rfl | (simp only [List.length_drop, List.length_take]; rfl)) ?_; (with_reducible refine (gangerref06_Digits.calls k (wrap64 (Int.tmod a0 1000)) t219 _ A5.out).mono ?_); rintro e w41 ⟨rfl, hb⟩; refine ⟨_, rfl, ?_⟩; have n0_ := Aside0.mk (below_step (by repeat (first | (with_reducible first | exact HB.out | apply below_alloc | apply pw_below_drewN | apply below_drew1) | exact HB.out)) hb); clear HB; have HB := n0_; clear n0_; (try clear hb); (try clear hb2); (try clear hk); (try clear hi)) | ((with_reducible refine gate_callee (f := 17) rfl ?_); refine goesL_ (some 43) rfl rfl Tryd.func17 (by kernel_rfl) rfl #[.int .i64 (wrap64 (Int.tmod a1 24))] rfl (by (try simp only [List.map_toArray, List.map_cons, List.map_nil]); first | done | rfl | (simp only [List.length_drop, List.length_take]; rfl)) ?_; (with_reducible refine (gangerref06_Digits.calls k (wrap64 (Int.tmod a1 24)) t220 _ A6.out).mono ?_); rintro e w42 ⟨rfl, hb⟩; refine ⟨_, rfl, ?_⟩; have n0_ := Aside0.mk (below_step (by repeat (first | (with_reducible first | exact HB.out | apply below_alloc | apply pw_below_drewN | apply below_drew1) | exact HB.out)) hb); clear HB; have HB := n0_; clear n0_; (try clear hb); (try clear hb2); (try clear hk); (try clear hi)) | ((with_reducible refine gate_callee (f := 17) rfl ?_); refine goesL_ (some 45) rfl rfl Tryd.func17 (by kernel_rfl) rfl #[.int .i64 (wrap64 (Int.tmod a2 60))] rfl (by (try simp only [List.map_toArray, List.map_cons, List.map_nil]); first | done | rfl | (simp only [List.length_drop, List.length_take]; rfl)) ?_; (with_reducible refine (gangerref06_Digits.calls k (wrap64 (Int.tmod a2 60)) t221 _ A7.out).mono ?_); rintro e w43 ⟨rfl, hb⟩; refine ⟨_, rfl, ?_⟩; have n0_ := Aside0.mk (below_step (by repeat (first | (with_reducible first | exact HB.out | apply below_alloc | apply pw_below_drewN | apply below_drew1) | exact HB.out)) hb); clear HB; have HB := n0_; clear n0_; (try clear hb); (try clear hb2); (try clear hk); (try clear hi)) | ((with_reducible refine gate_callee (f := 17) rfl ?_); refine goesL_ (some 47) rfl rfl Tryd.func17 (by kernel_rfl) rfl #[.int .i64 (wrap64 (Int.tmod a3 60))] rfl (by (try simp only [List.map_toArray, List.map_cons, List.map_nil]); first | done | rfl | (simp only [List.length_drop, List.length_take]; rfl)) ?_; (with_reducible refine (gangerref06_Digits.calls k (wrap64 (Int.tmod a3 60)) t222 _ A8.out).mono ?_); rintro e w44 ⟨rfl, hb⟩; refine ⟨_, rfl, ?_⟩; have n0_ := Aside0.mk (below_step (by repeat (first | (with_reducible first | exact HB.out | apply below_alloc | apply pw_below_drewN | apply below_drew1) | exact HB.out)) hb); clear HB; have HB := n0_; clear n0_; (try clear hb); (try clear hb2); (try clear hk); (try clear hi)) | ((with_reducible refine gate_callee (f := 11) rfl ?_); refine goesL_ (some 59) rfl rfl Tryd.func11 (by kernel_rfl) rfl #[.string ((((((t219 ++ (⟨#[45]⟩ : ByteArray)) ++ t220) ++ (⟨#[58]⟩ : ByteArray)) ++ t221) ++ (⟨#[58]⟩ : ByteArray)) ++ t222)] rfl (by (try simp only [List.map_toArray, List.map_cons, List.map_nil]); first | done | rfl | (simp only [List.length_drop, List.length_take]; rfl)) ?_; (with_reducible refine (clock_Parse.calls k ((((((t219 ++ (⟨#[45]⟩ : ByteArray)) ++ t220) ++ (⟨#[58]⟩ : ByteArray)) ++ t221) ++ (⟨#[58]⟩ : ByteArray)) ++ t222) t223 t224 _ ?side1 A15.out).mono ?_); (case side1 => exact Glob.below HG.out (by repeat (first | (with_reducible first | exact HB.out | apply below_alloc | apply pw_below_drewN | apply below_drew1) | exact HB.out))); rintro e w45 ⟨rfl, hb⟩; refine ⟨_, rfl, ?_⟩; have n0_ := Aside0.mk (below_step (by repeat (first | (with_reducible first | exact HB.out | apply below_alloc | apply pw_below_drewN | apply below_drew1) | exact HB.out)) hb); clear HB; have HB := n0_; clear n0_; (try clear hb); (try clear hb2); (try clear hk); (try clear hi)) | ((with_reducible refine gate_callee (f := 17) rfl ?_); refine goesL_ (some 67) rfl rfl Tryd.func17 (by kernel_rfl) rfl #[.int .i64 (wrap64 ((wrap64 ((wrap64 (Int.tmod a0 1000)) * 24)) + (wrap64 (Int.tmod a1 24))))] rfl (by (try simp only [List.map_toArray, List.map_cons, List.map_nil]); first | done | rfl | (simp only [List.length_drop, List.length_take]; rfl)) ?_; (with_reducible refine (gangerref06_Digits.calls k (wrap64 ((wrap64 ((wrap64 (Int.tmod a0 1000)) * 24)) + (wrap64 (Int.tmod a1 24)))) t225 _ A16.out).mono ?_); rintro e w46 ⟨rfl, hb⟩; refine ⟨_, rfl, ?_⟩; have n0_ := Aside0.mk (below_step (by repeat (first | (with_reducible first | exact HB.out | apply below_alloc | apply pw_below_drewN | apply below_drew1) | exact HB.out)) hb); clear HB; have HB := n0_; clear n0_; (try clear hb); (try clear hb2); (try clear hk); (try clear hi)) | ((with_reducible refine gate_callee (f := 11) rfl ?_); refine goesL_ (some 74) rfl rfl Tryd.func11 (by kernel_rfl) rfl #[.string ((((t225 ++ (⟨#[58]⟩ : ByteArray)) ++ t221) ++ (⟨#[58]⟩ : ByteArray)) ++ t222)] rfl (by (try simp only [List.map_toArray, List.map_cons, List.map_nil]); first | done | rfl | (simp only [List.length_drop, List.length_take]; rfl)) ?_; (with_reducible refine (clock_Parse.calls k ((((t225 ++ (⟨#[58]⟩ : ByteArray)) ++ t221) ++ (⟨#[58]⟩ : ByteArray)) ++ t222) t226 t227 _ ?side1 A21.out).mono ?_); (case side1 => exact Glob.below HG.out (by repeat (first | (with_reducible first | exact HB.out | apply below_alloc | apply pw_below_drewN | apply below_drew1) | exact HB.out))); rintro e w47 ⟨rfl, hb⟩; refine ⟨_, rfl, ?_⟩; have n0_ := Aside0.mk (below_step (by repeat (first | (with_reducible first | exact HB.out | apply below_alloc | apply pw_below_drewN | apply below_drew1) | exact HB.out)) hb); clear HB; have HB := n0_; clear n0_; (try clear hb); (try clear hb2); (try clear hk); (try clear hi)) | ((with_reducible refine gate_callee (f := 17) rfl ?_); refine goesL_ (some 86) rfl rfl Tryd.func17 (by kernel_rfl) rfl #[.int .i64 (wrap64 ((wrap64 ((Int.tmod (wrap64 ((wrap64 ((wrap64 (Int.tmod a0 1000)) * 24)) + (wrap64 (Int.tmod a1 24)))) 10000) * 60)) + (wrap64 (Int.tmod a2 60))))] rfl (by (try simp only [List.map_toArray, List.map_cons, List.map_nil]); first | done | rfl | (simp only [List.length_drop, List.length_take]; rfl)) ?_; (with_reducible refine (gangerref06_Digits.calls k (wrap64 ((wrap64 ((Int.tmod (wrap64 ((wrap64 ((wrap64 (Int.tmod a0 1000)) * 24)) + (wrap64 (Int.tmod a1 24)))) 10000) * 60)) + (wrap64 (Int.tmod a2 60)))) t228 _ A22.out).mono ?_); rintro e w48 ⟨rfl, hb⟩; refine ⟨_, rfl, ?_⟩; have n0_ := Aside0.mk (below_step (by repeat (first | (with_reducible first | exact HB.out | apply below_alloc | apply pw_below_drewN | apply below_drew1) | exact HB.out)) hb); clear HB; have HB := n0_; clear n0_; (try clear hb); (try clear hb2); (try clear hk); (try clear hi)) | ((with_reducible refine gate_callee (f := 11) rfl ?_); refine goesL_ (some 90) rfl rfl Tryd.func11 (by kernel_rfl) rfl #[.string ((t228 ++ (⟨#[58]⟩ : ByteArray)) ++ t222)] rfl (by (try simp only [List.map_toArray, List.map_cons, List.map_nil]); first | done | rfl | (simp only [List.length_drop, List.length_take]; rfl)) ?_; (with_reducible refine (clock_Parse.calls k ((t228 ++ (⟨#[58]⟩ : ByteArray)) ++ t222) t229 t230 _ ?side1 A25.out).mono ?_); (case side1 => exact Glob.below HG.out (by repeat (first | (with_reducible first | exact HB.out | apply below_alloc | apply pw_below_drewN | apply below_drew1) | exact HB.out))); rintro e w49 ⟨rfl, hb⟩; refine ⟨_, rfl, ?_⟩; have n0_ := Aside0.mk (below_step (by repeat (first | (with_reducible first | exact HB.out | apply below_alloc | apply pw_below_drewN | apply below_drew1) | exact HB.out)) hb); clear HB; have HB := n0_; clear n0_; (try clear hb); (try clear hb2); (try clear hk); (try clear hi)))
                            (try simp only [Act.put, List.setIfInBounds_toArray, List.set_cons_zero, List.set_cons_succ])
                            go_cut [129] (fun v129 wc => ∃ (kq : Nat) (x129_39 : Bool), v129 = .bool x129_39 ∧ Aside0 (gangerlaw07_ClockForms.j0 kq (wrap64 (Int.tmod a0 1000)) (wrap64 (Int.tmod a1 24)) (wrap64 (Int.tmod a2 60)) (wrap64 (Int.tmod a3 60)) t219 t220 t221 t229 t230 (wrap64 ((wrap64 ((wrap64 ((wrap64 ((wrap64 ((wrap64 ((wrap64 (Int.tmod a0 1000)) * 24)) + (wrap64 (Int.tmod a1 24)))) * 60)) + (wrap64 (Int.tmod a2 60)))) * 60)) + (wrap64 (Int.tmod a3 60)))) x129_39 = some r) ∧ Aside0 (kq ≤ k) ∧ Aside0 (Below w.heap.size w wc))
                            case first =>
                              have H := HC40.out
                              clear HC40
                              by_cases c50 : t223 = (wrap64 ((wrap64 ((wrap64 ((wrap64 ((wrap64 ((wrap64 ((wrap64 (Int.tmod a0 1000)) * 24)) + (wrap64 (Int.tmod a1 24)))) * 60)) + (wrap64 (Int.tmod a2 60)))) * 60)) + (wrap64 (Int.tmod a3 60))))
                              · rw [if_pos c50] at H
                                have c50b0 : (t223 == (wrap64 ((wrap64 ((wrap64 ((wrap64 ((wrap64 ((wrap64 ((wrap64 (Int.tmod a0 1000)) * 24)) + (wrap64 (Int.tmod a1 24)))) * 60)) + (wrap64 (Int.tmod a2 60)))) * 60)) + (wrap64 (Int.tmod a3 60))))) = true := beq_iff_eq.mpr c50
                                have c50b1 : (t223 != (wrap64 ((wrap64 ((wrap64 ((wrap64 ((wrap64 ((wrap64 ((wrap64 (Int.tmod a0 1000)) * 24)) + (wrap64 (Int.tmod a1 24)))) * 60)) + (wrap64 (Int.tmod a2 60)))) * 60)) + (wrap64 (Int.tmod a3 60))))) = false := bne_eq_false_iff_eq.mpr c50
                                clear c50
                                (first | rw [c50b0] | (simp only [i64_w, i32_w]; rw [c50b0]) | skip)
                                by_cases c51 : t226 = (wrap64 ((wrap64 ((wrap64 ((wrap64 ((wrap64 ((wrap64 ((wrap64 (Int.tmod a0 1000)) * 24)) + (wrap64 (Int.tmod a1 24)))) * 60)) + (wrap64 (Int.tmod a2 60)))) * 60)) + (wrap64 (Int.tmod a3 60))))
                                · rw [if_pos c51] at H
                                  have c51b0 : (t226 == (wrap64 ((wrap64 ((wrap64 ((wrap64 ((wrap64 ((wrap64 ((wrap64 (Int.tmod a0 1000)) * 24)) + (wrap64 (Int.tmod a1 24)))) * 60)) + (wrap64 (Int.tmod a2 60)))) * 60)) + (wrap64 (Int.tmod a3 60))))) = true := beq_iff_eq.mpr c51
                                  have c51b1 : (t226 != (wrap64 ((wrap64 ((wrap64 ((wrap64 ((wrap64 ((wrap64 ((wrap64 (Int.tmod a0 1000)) * 24)) + (wrap64 (Int.tmod a1 24)))) * 60)) + (wrap64 (Int.tmod a2 60)))) * 60)) + (wrap64 (Int.tmod a3 60))))) = false := bne_eq_false_iff_eq.mpr c51
                                  clear c51
                                  by_cases c52 : t224 = 0
                                  · rw [if_pos c52] at H
                                    have c52b0 : (t224 == 0) = true := beq_iff_eq.mpr c52
                                    have c52b1 : (t224 != 0) = false := bne_eq_false_iff_eq.mpr c52
                                    clear c52
                                    have H' := Aside0.mk H
                                    clear H
                                    go_wp2
                                    go_meet
                                    case rel => exact ⟨_, ((t227 != 0)), (by first | rfl | (simp; done) | (simp [*]; done)), H', ⟨by first | omega | exact Nat.le_refl _⟩, ⟨by repeat (first | (with_reducible first | exact HB.out | apply below_alloc | apply pw_below_drewN | apply below_drew1) | exact HB.out)⟩⟩
                                  · rw [if_neg c52] at H
                                    have c52b0 : (t224 == 0) = false := beq_eq_false_iff_ne.mpr c52
                                    have c52b1 : (t224 != 0) = true := bne_iff_ne.mpr c52
                                    have H' := Aside0.mk H
                                    clear H
                                    go_wp2
                                    go_meet
                                    case rel => exact ⟨_, (true), (by first | rfl | (simp; done) | (simp [*]; done)), H', ⟨by first | omega | exact Nat.le_refl _⟩, ⟨by repeat (first | (with_reducible first | exact HB.out | apply below_alloc | apply pw_below_drewN | apply below_drew1) | exact HB.out)⟩⟩
                                · rw [if_neg c51] at H
                                  have c51b0 : (t226 == (wrap64 ((wrap64 ((wrap64 ((wrap64 ((wrap64 ((wrap64 ((wrap64 (Int.tmod a0 1000)) * 24)) + (wrap64 (Int.tmod a1 24)))) * 60)) + (wrap64 (Int.tmod a2 60)))) * 60)) + (wrap64 (Int.tmod a3 60))))) = false := beq_eq_false_iff_ne.mpr c51
                                  have c51b1 : (t226 != (wrap64 ((wrap64 ((wrap64 ((wrap64 ((wrap64 ((wrap64 ((wrap64 (Int.tmod a0 1000)) * 24)) + (wrap64 (Int.tmod a1 24)))) * 60)) + (wrap64 (Int.tmod a2 60)))) * 60)) + (wrap64 (Int.tmod a3 60))))) = true := bne_iff_ne.mpr c51
                                  have H' := Aside0.mk H
                                  clear H
                                  go_wp2
                                  go_meet
                                  case rel => exact ⟨_, (true), (by first | rfl | (simp; done) | (simp [*]; done)), H', ⟨by first | omega | exact Nat.le_refl _⟩, ⟨by repeat (first | (with_reducible first | exact HB.out | apply below_alloc | apply pw_below_drewN | apply below_drew1) | exact HB.out)⟩⟩
                              · rw [if_neg c50] at H
                                have c50b0 : (t223 == (wrap64 ((wrap64 ((wrap64 ((wrap64 ((wrap64 ((wrap64 ((wrap64 (Int.tmod a0 1000)) * 24)) + (wrap64 (Int.tmod a1 24)))) * 60)) + (wrap64 (Int.tmod a2 60)))) * 60)) + (wrap64 (Int.tmod a3 60))))) = false := beq_eq_false_iff_ne.mpr c50
                                have c50b1 : (t223 != (wrap64 ((wrap64 ((wrap64 ((wrap64 ((wrap64 ((wrap64 ((wrap64 (Int.tmod a0 1000)) * 24)) + (wrap64 (Int.tmod a1 24)))) * 60)) + (wrap64 (Int.tmod a2 60)))) * 60)) + (wrap64 (Int.tmod a3 60))))) = true := bne_iff_ne.mpr c50
                                (first | rw [c50b0] | (simp only [i64_w, i32_w]; rw [c50b0]) | skip)
                                have H' := Aside0.mk H
                                clear H
                                go_wp2
                                go_meet
                                case rel => exact ⟨_, (true), (by first | rfl | (simp; done) | (simp [*]; done)), H', ⟨by first | omega | exact Nat.le_refl _⟩, ⟨by repeat (first | (with_reducible first | exact HB.out | apply below_alloc | apply pw_below_drewN | apply below_drew1) | exact HB.out)⟩⟩
                            case rest =>
                              clear HC40
                              try clear c1
                              try clear c2
                              try clear p2
                              try clear c5
                              try clear c6
                              try clear p6
                              try clear c9
                              try clear c9b0
                              try clear c9b1
                              try clear c9b2
                              try clear c10
                              try clear c10b0
                              try clear c10b1
                              try clear c10b2
                              try clear c11
                              try clear c11b0
                              try clear c11b1
                              try clear c11b2
                              try clear c12
                              try clear c12b0
                              try clear c12b1
                              try clear c12b2
                              try clear c13
                              try clear c13b0
                              try clear c13b1
                              try clear c13b2
                              try clear c14
                              try clear c14b0
                              try clear c14b1
                              try clear c14b2
                              try clear c17
                              try clear c17b0
                              try clear c17b1
                              try clear c17b2
                              try clear c18
                              try clear c18b0
                              try clear c18b1
                              try clear c18b2
                              try clear c19
                              try clear c19b0
                              try clear c19b1
                              try clear c19b2
                              try clear c20
                              try clear c20b0
                              try clear c20b1
                              try clear c20b2
                              try clear c23
                              try clear c23b0
                              try clear c23b1
                              try clear c23b2
                              try clear c24
                              try clear c24b0
                              try clear c24b1
                              try clear c24b2
                              try clear c26
                              try clear c26b0
                              try clear c26b1
                              try clear c27
                              try clear c27b0
                              try clear c27b1
                              try clear c28
                              try clear c28b0
                              try clear c28b1
                              try clear c50
                              try clear c50b0
                              try clear c50b1
                              try clear c51
                              try clear c51b0
                              try clear c51b1
                              try clear c52
                              try clear c52b0
                              try clear c52b1
                              obtain ⟨kq, x129_39, rfl, HA, HJ39, HB⟩ := hcut
                              cases kq with
                              | zero => exact absurd HA.out (by simp [gangerlaw07_ClockForms.j0])
                              | succ kj39 =>
                                have H := HA.out
                                clear HA
                                simp only [gangerlaw07_ClockForms.j0] at H
                                by_cases c53 : x129_39 = true
                                · subst c53
                                  have H1 : (none) = some r := by rw [if_pos rfl] at H; exact H
                                  clear H
                                  have H := H1
                                  clear H1
                                  exact absurd H (by simp)
                                · replace c53 := Bool.eq_false_iff.mpr c53
                                  subst c53
                                  have H1 : (if (wrap64 ((wrap64 ((wrap64 (Int.tmod a0 1000)) * 24)) + (wrap64 (Int.tmod a1 24)))) < 10000 then (if (wrap64 ((wrap64 ((wrap64 ((wrap64 ((wrap64 (Int.tmod a0 1000)) * 24)) + (wrap64 (Int.tmod a1 24)))) * 60)) + (wrap64 (Int.tmod a2 60)))) ≤ 999999 then (if t229 = (wrap64 ((wrap64 ((wrap64 ((wrap64 ((wrap64 ((wrap64 ((wrap64 (Int.tmod a0 1000)) * 24)) + (wrap64 (Int.tmod a1 24)))) * 60)) + (wrap64 (Int.tmod a2 60)))) * 60)) + (wrap64 (Int.tmod a3 60)))) then (gangerlaw07_ClockForms.j1 kj39 (wrap64 (Int.tmod a2 60)) (wrap64 (Int.tmod a3 60)) t219 t220 t221 (wrap64 ((wrap64 ((wrap64 ((wrap64 ((wrap64 ((wrap64 ((wrap64 (Int.tmod a0 1000)) * 24)) + (wrap64 (Int.tmod a1 24)))) * 60)) + (wrap64 (Int.tmod a2 60)))) * 60)) + (wrap64 (Int.tmod a3 60)))) (t230 != 0)) else (gangerlaw07_ClockForms.j1 kj39 (wrap64 (Int.tmod a2 60)) (wrap64 (Int.tmod a3 60)) t219 t220 t221 (wrap64 ((wrap64 ((wrap64 ((wrap64 ((wrap64 ((wrap64 ((wrap64 (Int.tmod a0 1000)) * 24)) + (wrap64 (Int.tmod a1 24)))) * 60)) + (wrap64 (Int.tmod a2 60)))) * 60)) + (wrap64 (Int.tmod a3 60)))) true)) else (gangerlaw07_ClockForms.j1 kj39 (wrap64 (Int.tmod a2 60)) (wrap64 (Int.tmod a3 60)) t219 t220 t221 (wrap64 ((wrap64 ((wrap64 ((wrap64 ((wrap64 ((wrap64 ((wrap64 (Int.tmod a0 1000)) * 24)) + (wrap64 (Int.tmod a1 24)))) * 60)) + (wrap64 (Int.tmod a2 60)))) * 60)) + (wrap64 (Int.tmod a3 60)))) false)) else (gangerlaw07_ClockForms.j1 kj39 (wrap64 (Int.tmod a2 60)) (wrap64 (Int.tmod a3 60)) t219 t220 t221 (wrap64 ((wrap64 ((wrap64 ((wrap64 ((wrap64 ((wrap64 ((wrap64 (Int.tmod a0 1000)) * 24)) + (wrap64 (Int.tmod a1 24)))) * 60)) + (wrap64 (Int.tmod a2 60)))) * 60)) + (wrap64 (Int.tmod a3 60)))) false)) = some r := by rw [if_neg (show ¬ (false = true) by decide)] at H; exact H
                                  clear H
                                  have H := H1
                                  clear H1
                                  have HC54 := Aside0.mk H
                                  clear H
                                  go_upto_region 17 with (fail)
                                  go_cut [153] (fun v153 wc => ∃ (kq : Nat) (x153_53 : Bool), v153 = .bool x153_53 ∧ Aside0 (gangerlaw07_ClockForms.j1 kq (wrap64 (Int.tmod a2 60)) (wrap64 (Int.tmod a3 60)) t219 t220 t221 (wrap64 ((wrap64 ((wrap64 ((wrap64 ((wrap64 ((wrap64 ((wrap64 (Int.tmod a0 1000)) * 24)) + (wrap64 (Int.tmod a1 24)))) * 60)) + (wrap64 (Int.tmod a2 60)))) * 60)) + (wrap64 (Int.tmod a3 60)))) x153_53 = some r) ∧ Aside0 (kq ≤ kj39) ∧ Aside0 (Below w.heap.size w wc))
                                  case first =>
                                    have H := HC54.out
                                    clear HC54
                                    by_cases c55 : (wrap64 ((wrap64 ((wrap64 (Int.tmod a0 1000)) * 24)) + (wrap64 (Int.tmod a1 24)))) < 10000
                                    · rw [if_pos c55] at H
                                      have c55b0 : decide ((wrap64 ((wrap64 ((wrap64 (Int.tmod a0 1000)) * 24)) + (wrap64 (Int.tmod a1 24)))) < 10000) = true := decide_eq_true c55
                                      clear c55
                                      (first | rw [c55b0] | (simp only [i64_w, i32_w]; rw [c55b0]) | skip)
                                      by_cases c56 : (wrap64 ((wrap64 ((wrap64 ((wrap64 ((wrap64 (Int.tmod a0 1000)) * 24)) + (wrap64 (Int.tmod a1 24)))) * 60)) + (wrap64 (Int.tmod a2 60)))) ≤ 999999
                                      · rw [if_pos c56] at H
                                        have c56b0 : decide ((wrap64 ((wrap64 ((wrap64 ((wrap64 ((wrap64 (Int.tmod a0 1000)) * 24)) + (wrap64 (Int.tmod a1 24)))) * 60)) + (wrap64 (Int.tmod a2 60)))) ≤ 999999) = true := decide_eq_true c56
                                        clear c56
                                        by_cases c57 : t229 = (wrap64 ((wrap64 ((wrap64 ((wrap64 ((wrap64 ((wrap64 ((wrap64 (Int.tmod a0 1000)) * 24)) + (wrap64 (Int.tmod a1 24)))) * 60)) + (wrap64 (Int.tmod a2 60)))) * 60)) + (wrap64 (Int.tmod a3 60))))
                                        · rw [if_pos c57] at H
                                          have c57b0 : (t229 == (wrap64 ((wrap64 ((wrap64 ((wrap64 ((wrap64 ((wrap64 ((wrap64 (Int.tmod a0 1000)) * 24)) + (wrap64 (Int.tmod a1 24)))) * 60)) + (wrap64 (Int.tmod a2 60)))) * 60)) + (wrap64 (Int.tmod a3 60))))) = true := beq_iff_eq.mpr c57
                                          have c57b1 : (t229 != (wrap64 ((wrap64 ((wrap64 ((wrap64 ((wrap64 ((wrap64 ((wrap64 (Int.tmod a0 1000)) * 24)) + (wrap64 (Int.tmod a1 24)))) * 60)) + (wrap64 (Int.tmod a2 60)))) * 60)) + (wrap64 (Int.tmod a3 60))))) = false := bne_eq_false_iff_eq.mpr c57
                                          clear c57
                                          have H' := Aside0.mk H
                                          clear H
                                          go_wp2
                                          go_meet
                                          case rel => exact ⟨_, ((t230 != 0)), (by first | rfl | (simp; done) | (simp [*]; done)), H', ⟨by have := HJ39.out; first | omega | exact Nat.le_refl _⟩, ⟨by repeat (first | (with_reducible first | exact HB.out | apply below_alloc | apply pw_below_drewN | apply below_drew1) | exact HB.out)⟩⟩
                                        · rw [if_neg c57] at H
                                          have c57b0 : (t229 == (wrap64 ((wrap64 ((wrap64 ((wrap64 ((wrap64 ((wrap64 ((wrap64 (Int.tmod a0 1000)) * 24)) + (wrap64 (Int.tmod a1 24)))) * 60)) + (wrap64 (Int.tmod a2 60)))) * 60)) + (wrap64 (Int.tmod a3 60))))) = false := beq_eq_false_iff_ne.mpr c57
                                          have c57b1 : (t229 != (wrap64 ((wrap64 ((wrap64 ((wrap64 ((wrap64 ((wrap64 ((wrap64 (Int.tmod a0 1000)) * 24)) + (wrap64 (Int.tmod a1 24)))) * 60)) + (wrap64 (Int.tmod a2 60)))) * 60)) + (wrap64 (Int.tmod a3 60))))) = true := bne_iff_ne.mpr c57
                                          have H' := Aside0.mk H
                                          clear H
                                          go_wp2
                                          go_meet
                                          case rel => exact ⟨_, (true), (by first | rfl | (simp; done) | (simp [*]; done)), H', ⟨by have := HJ39.out; first | omega | exact Nat.le_refl _⟩, ⟨by repeat (first | (with_reducible first | exact HB.out | apply below_alloc | apply pw_below_drewN | apply below_drew1) | exact HB.out)⟩⟩
                                      · rw [if_neg c56] at H
                                        have c56b0 : decide ((wrap64 ((wrap64 ((wrap64 ((wrap64 ((wrap64 (Int.tmod a0 1000)) * 24)) + (wrap64 (Int.tmod a1 24)))) * 60)) + (wrap64 (Int.tmod a2 60)))) ≤ 999999) = false := decide_eq_false c56
                                        clear c56
                                        have H' := Aside0.mk H
                                        clear H
                                        go_wp2
                                        go_meet
                                        case rel => exact ⟨_, (false), (by first | rfl | (simp; done) | (simp [*]; done)), H', ⟨by have := HJ39.out; first | omega | exact Nat.le_refl _⟩, ⟨by repeat (first | (with_reducible first | exact HB.out | apply below_alloc | apply pw_below_drewN | apply below_drew1) | exact HB.out)⟩⟩
                                    · rw [if_neg c55] at H
                                      have c55b0 : decide ((wrap64 ((wrap64 ((wrap64 (Int.tmod a0 1000)) * 24)) + (wrap64 (Int.tmod a1 24)))) < 10000) = false := decide_eq_false c55
                                      clear c55
                                      (first | rw [c55b0] | (simp only [i64_w, i32_w]; rw [c55b0]) | skip)
                                      have H' := Aside0.mk H
                                      clear H
                                      go_wp2
                                      go_meet
                                      case rel => exact ⟨_, (false), (by first | rfl | (simp; done) | (simp [*]; done)), H', ⟨by have := HJ39.out; first | omega | exact Nat.le_refl _⟩, ⟨by repeat (first | (with_reducible first | exact HB.out | apply below_alloc | apply pw_below_drewN | apply below_drew1) | exact HB.out)⟩⟩
                                  case rest =>
                                    clear HC54
                                    try clear c1
                                    try clear c2
                                    try clear p2
                                    try clear c5
                                    try clear c6
                                    try clear p6
                                    try clear c9
                                    try clear c9b0
                                    try clear c9b1
                                    try clear c9b2
                                    try clear c10
                                    try clear c10b0
                                    try clear c10b1
                                    try clear c10b2
                                    try clear c11
                                    try clear c11b0
                                    try clear c11b1
                                    try clear c11b2
                                    try clear c12
                                    try clear c12b0
                                    try clear c12b1
                                    try clear c12b2
                                    try clear c13
                                    try clear c13b0
                                    try clear c13b1
                                    try clear c13b2
                                    try clear c14
                                    try clear c14b0
                                    try clear c14b1
                                    try clear c14b2
                                    try clear c17
                                    try clear c17b0
                                    try clear c17b1
                                    try clear c17b2
                                    try clear c18
                                    try clear c18b0
                                    try clear c18b1
                                    try clear c18b2
                                    try clear c19
                                    try clear c19b0
                                    try clear c19b1
                                    try clear c19b2
                                    try clear c20
                                    try clear c20b0
                                    try clear c20b1
                                    try clear c20b2
                                    try clear c23
                                    try clear c23b0
                                    try clear c23b1
                                    try clear c23b2
                                    try clear c24
                                    try clear c24b0
                                    try clear c24b1
                                    try clear c24b2
                                    try clear c26
                                    try clear c26b0
                                    try clear c26b1
                                    try clear c27
                                    try clear c27b0
                                    try clear c27b1
                                    try clear c28
                                    try clear c28b0
                                    try clear c28b1
                                    try clear c50
                                    try clear c50b0
                                    try clear c50b1
                                    try clear c51
                                    try clear c51b0
                                    try clear c51b1
                                    try clear c52
                                    try clear c52b0
                                    try clear c52b1
                                    try clear c53
                                    try clear c55
                                    try clear c55b0
                                    try clear c56
                                    try clear c56b0
                                    try clear c57
                                    try clear c57b0
                                    try clear c57b1
                                    try clear p2
                                    try clear p6
                                    obtain ⟨kq, x153_53, rfl, HA, HJ53, HB⟩ := hcut
                                    cases kq with
                                    | zero => exact absurd HA.out (by simp [gangerlaw07_ClockForms.j1])
                                    | succ kj53 =>
                                      have H := HA.out
                                      clear HA
                                      simp only [gangerlaw07_ClockForms.j1] at H
                                      by_cases c58 : x153_53 = true
                                      · subst c58
                                        have H1 : (none) = some r := by rw [if_pos rfl] at H; exact H
                                        clear H
                                        have H := H1
                                        clear H1
                                        exact absurd H (by simp)
                                      · replace c58 := Bool.eq_false_iff.mpr c58
                                        subst c58
                                        have H1 : (if t219.size + 1 ≤ 9223372036854775807 then (if (t219 ++ (⟨#[45]⟩ : ByteArray)).size + t220.size ≤ 9223372036854775807 then (if ((t219 ++ (⟨#[45]⟩ : ByteArray)) ++ t220).size + 1 ≤ 9223372036854775807 then (if (((t219 ++ (⟨#[45]⟩ : ByteArray)) ++ t220) ++ (⟨#[58]⟩ : ByteArray)).size + t221.size ≤ 9223372036854775807 then ((clock_Parse.f kj53 ((((t219 ++ (⟨#[45]⟩ : ByteArray)) ++ t220) ++ (⟨#[58]⟩ : ByteArray)) ++ t221)).bind fun bt232 => ((clock_Parse.f kj53 ((t219 ++ (⟨#[45]⟩ : ByteArray)) ++ t220)).bind fun bt234 => (if bt232.1 = (wrap64 ((wrap64 ((wrap64 ((wrap64 ((wrap64 ((wrap64 ((wrap64 ((wrap64 (Int.tmod a0 1000)) * 24)) + (wrap64 (Int.tmod a1 24)))) * 60)) + (wrap64 (Int.tmod a2 60)))) * 60)) + (wrap64 (Int.tmod a3 60)))) - (wrap64 (Int.tmod a3 60)))) then (if bt232.2 = 0 then (if (wrap64 ((wrap64 ((wrap64 ((wrap64 ((wrap64 ((wrap64 ((wrap64 (Int.tmod a0 1000)) * 24)) + (wrap64 (Int.tmod a1 24)))) * 60)) + (wrap64 (Int.tmod a2 60)))) * 60)) + (wrap64 (Int.tmod a3 60)))) = (wrap64 ((wrap64 (Int.tmod a3 60)) + (wrap64 (60 * (wrap64 (Int.tmod a2 60)))))) then ((gangerlaw07_known.f kj53).bind fun t236 => (some t236)) else (if bt234.1 = (wrap64 ((wrap64 ((wrap64 ((wrap64 ((wrap64 ((wrap64 ((wrap64 ((wrap64 ((wrap64 (Int.tmod a0 1000)) * 24)) + (wrap64 (Int.tmod a1 24)))) * 60)) + (wrap64 (Int.tmod a2 60)))) * 60)) + (wrap64 (Int.tmod a3 60)))) - (wrap64 (Int.tmod a3 60)))) - (wrap64 (60 * (wrap64 (Int.tmod a2 60)))))) then (if bt234.2 = 0 then ((gangerlaw07_known.f kj53).bind fun t237 => (some t237)) else (none)) else (none))) else (if (wrap64 ((wrap64 ((wrap64 ((wrap64 ((wrap64 ((wrap64 ((wrap64 (Int.tmod a0 1000)) * 24)) + (wrap64 (Int.tmod a1 24)))) * 60)) + (wrap64 (Int.tmod a2 60)))) * 60)) + (wrap64 (Int.tmod a3 60)))) > (wrap64 (Int.tmod a3 60)) then (none) else (if (wrap64 ((wrap64 ((wrap64 ((wrap64 ((wrap64 ((wrap64 ((wrap64 (Int.tmod a0 1000)) * 24)) + (wrap64 (Int.tmod a1 24)))) * 60)) + (wrap64 (Int.tmod a2 60)))) * 60)) + (wrap64 (Int.tmod a3 60)))) = (wrap64 ((wrap64 (Int.tmod a3 60)) + (wrap64 (60 * (wrap64 (Int.tmod a2 60)))))) then ((gangerlaw07_known.f kj53).bind fun t238 => (some t238)) else (if bt234.1 = (wrap64 ((wrap64 ((wrap64 ((wrap64 ((wrap64 ((wrap64 ((wrap64 ((wrap64 ((wrap64 (Int.tmod a0 1000)) * 24)) + (wrap64 (Int.tmod a1 24)))) * 60)) + (wrap64 (Int.tmod a2 60)))) * 60)) + (wrap64 (Int.tmod a3 60)))) - (wrap64 (Int.tmod a3 60)))) - (wrap64 (60 * (wrap64 (Int.tmod a2 60)))))) then (if bt234.2 = 0 then ((gangerlaw07_known.f kj53).bind fun t239 => (some t239)) else (none)) else (none))))) else (if (wrap64 ((wrap64 ((wrap64 ((wrap64 ((wrap64 ((wrap64 ((wrap64 (Int.tmod a0 1000)) * 24)) + (wrap64 (Int.tmod a1 24)))) * 60)) + (wrap64 (Int.tmod a2 60)))) * 60)) + (wrap64 (Int.tmod a3 60)))) > (wrap64 (Int.tmod a3 60)) then (none) else (if (wrap64 ((wrap64 ((wrap64 ((wrap64 ((wrap64 ((wrap64 ((wrap64 (Int.tmod a0 1000)) * 24)) + (wrap64 (Int.tmod a1 24)))) * 60)) + (wrap64 (Int.tmod a2 60)))) * 60)) + (wrap64 (Int.tmod a3 60)))) = (wrap64 ((wrap64 (Int.tmod a3 60)) + (wrap64 (60 * (wrap64 (Int.tmod a2 60)))))) then ((gangerlaw07_known.f kj53).bind fun t240 => (some t240)) else (if bt234.1 = (wrap64 ((wrap64 ((wrap64 ((wrap64 ((wrap64 ((wrap64 ((wrap64 ((wrap64 ((wrap64 (Int.tmod a0 1000)) * 24)) + (wrap64 (Int.tmod a1 24)))) * 60)) + (wrap64 (Int.tmod a2 60)))) * 60)) + (wrap64 (Int.tmod a3 60)))) - (wrap64 (Int.tmod a3 60)))) - (wrap64 (60 * (wrap64 (Int.tmod a2 60)))))) then (if bt234.2 = 0 then ((gangerlaw07_known.f kj53).bind fun t241 => (some t241)) else (none)) else (none))))))) else (none)) else (none)) else (none)) else (none)) = some r := by rw [if_neg (show ¬ (false = true) by decide)] at H; exact H
                                        clear H
                                        have H := H1
                                        clear H1
                                        by_cases c59 : t219.size + 1 ≤ 9223372036854775807
                                        · rw [if_pos c59] at H
                                          have c59b0 := eq_true c59
                                          have c59b1 : decide (t219.size + 1 ≤ 9223372036854775807) = true := decide_eq_true c59
                                          try have c59b2 : (9223372036854775807 < t219.size + 1) = False := eq_false (Nat.not_lt.2 c59)
                                          try (have c59b3 := c59b2; simp only [ByteArray.size_append, size_lit1] at c59b3)
                                          by_cases c60 : (t219 ++ (⟨#[45]⟩ : ByteArray)).size + t220.size ≤ 9223372036854775807
                                          · rw [if_pos c60] at H
                                            have c60b0 := eq_true c60
                                            have c60b1 : decide ((t219 ++ (⟨#[45]⟩ : ByteArray)).size + t220.size ≤ 9223372036854775807) = true := decide_eq_true c60
                                            try have c60b2 : (9223372036854775807 < (t219 ++ (⟨#[45]⟩ : ByteArray)).size + t220.size) = False := eq_false (Nat.not_lt.2 c60)
                                            try (have c60b3 := c60b2; simp only [ByteArray.size_append, size_lit1] at c60b3)
                                            by_cases c61 : ((t219 ++ (⟨#[45]⟩ : ByteArray)) ++ t220).size + 1 ≤ 9223372036854775807
                                            · rw [if_pos c61] at H
                                              have c61b0 := eq_true c61
                                              have c61b1 : decide (((t219 ++ (⟨#[45]⟩ : ByteArray)) ++ t220).size + 1 ≤ 9223372036854775807) = true := decide_eq_true c61
                                              try have c61b2 : (9223372036854775807 < ((t219 ++ (⟨#[45]⟩ : ByteArray)) ++ t220).size + 1) = False := eq_false (Nat.not_lt.2 c61)
                                              try (have c61b3 := c61b2; simp only [ByteArray.size_append, size_lit1] at c61b3)
                                              by_cases c62 : (((t219 ++ (⟨#[45]⟩ : ByteArray)) ++ t220) ++ (⟨#[58]⟩ : ByteArray)).size + t221.size ≤ 9223372036854775807
                                              · rw [if_pos c62] at H
                                                have c62b0 := eq_true c62
                                                have c62b1 : decide ((((t219 ++ (⟨#[45]⟩ : ByteArray)) ++ t220) ++ (⟨#[58]⟩ : ByteArray)).size + t221.size ≤ 9223372036854775807) = true := decide_eq_true c62
                                                try have c62b2 : (9223372036854775807 < (((t219 ++ (⟨#[45]⟩ : ByteArray)) ++ t220) ++ (⟨#[58]⟩ : ByteArray)).size + t221.size) = False := eq_false (Nat.not_lt.2 c62)
                                                try (have c62b3 := c62b2; simp only [ByteArray.size_append, size_lit1] at c62b3)
                                                replace H := Option.bind_eq_some_iff.mp H
                                                obtain ⟨⟨t232, t233⟩, A630, H⟩ := H
                                                replace H : ((clock_Parse.f kj53 ((t219 ++ (⟨#[45]⟩ : ByteArray)) ++ t220)).bind fun bt234 => (if t232 = (wrap64 ((wrap64 ((wrap64 ((wrap64 ((wrap64 ((wrap64 ((wrap64 ((wrap64 (Int.tmod a0 1000)) * 24)) + (wrap64 (Int.tmod a1 24)))) * 60)) + (wrap64 (Int.tmod a2 60)))) * 60)) + (wrap64 (Int.tmod a3 60)))) - (wrap64 (Int.tmod a3 60)))) then (if t233 = 0 then (if (wrap64 ((wrap64 ((wrap64 ((wrap64 ((wrap64 ((wrap64 ((wrap64 (Int.tmod a0 1000)) * 24)) + (wrap64 (Int.tmod a1 24)))) * 60)) + (wrap64 (Int.tmod a2 60)))) * 60)) + (wrap64 (Int.tmod a3 60)))) = (wrap64 ((wrap64 (Int.tmod a3 60)) + (wrap64 (60 * (wrap64 (Int.tmod a2 60)))))) then ((gangerlaw07_known.f kj53).bind fun t236 => (some t236)) else (if bt234.1 = (wrap64 ((wrap64 ((wrap64 ((wrap64 ((wrap64 ((wrap64 ((wrap64 ((wrap64 ((wrap64 (Int.tmod a0 1000)) * 24)) + (wrap64 (Int.tmod a1 24)))) * 60)) + (wrap64 (Int.tmod a2 60)))) * 60)) + (wrap64 (Int.tmod a3 60)))) - (wrap64 (Int.tmod a3 60)))) - (wrap64 (60 * (wrap64 (Int.tmod a2 60)))))) then (if bt234.2 = 0 then ((gangerlaw07_known.f kj53).bind fun t237 => (some t237)) else (none)) else (none))) else (if (wrap64 ((wrap64 ((wrap64 ((wrap64 ((wrap64 ((wrap64 ((wrap64 (Int.tmod a0 1000)) * 24)) + (wrap64 (Int.tmod a1 24)))) * 60)) + (wrap64 (Int.tmod a2 60)))) * 60)) + (wrap64 (Int.tmod a3 60)))) > (wrap64 (Int.tmod a3 60)) then (none) else (if (wrap64 ((wrap64 ((wrap64 ((wrap64 ((wrap64 ((wrap64 ((wrap64 (Int.tmod a0 1000)) * 24)) + (wrap64 (Int.tmod a1 24)))) * 60)) + (wrap64 (Int.tmod a2 60)))) * 60)) + (wrap64 (Int.tmod a3 60)))) = (wrap64 ((wrap64 (Int.tmod a3 60)) + (wrap64 (60 * (wrap64 (Int.tmod a2 60)))))) then ((gangerlaw07_known.f kj53).bind fun t238 => (some t238)) else (if bt234.1 = (wrap64 ((wrap64 ((wrap64 ((wrap64 ((wrap64 ((wrap64 ((wrap64 ((wrap64 ((wrap64 (Int.tmod a0 1000)) * 24)) + (wrap64 (Int.tmod a1 24)))) * 60)) + (wrap64 (Int.tmod a2 60)))) * 60)) + (wrap64 (Int.tmod a3 60)))) - (wrap64 (Int.tmod a3 60)))) - (wrap64 (60 * (wrap64 (Int.tmod a2 60)))))) then (if bt234.2 = 0 then ((gangerlaw07_known.f kj53).bind fun t239 => (some t239)) else (none)) else (none))))) else (if (wrap64 ((wrap64 ((wrap64 ((wrap64 ((wrap64 ((wrap64 ((wrap64 (Int.tmod a0 1000)) * 24)) + (wrap64 (Int.tmod a1 24)))) * 60)) + (wrap64 (Int.tmod a2 60)))) * 60)) + (wrap64 (Int.tmod a3 60)))) > (wrap64 (Int.tmod a3 60)) then (none) else (if (wrap64 ((wrap64 ((wrap64 ((wrap64 ((wrap64 ((wrap64 ((wrap64 (Int.tmod a0 1000)) * 24)) + (wrap64 (Int.tmod a1 24)))) * 60)) + (wrap64 (Int.tmod a2 60)))) * 60)) + (wrap64 (Int.tmod a3 60)))) = (wrap64 ((wrap64 (Int.tmod a3 60)) + (wrap64 (60 * (wrap64 (Int.tmod a2 60)))))) then ((gangerlaw07_known.f kj53).bind fun t240 => (some t240)) else (if bt234.1 = (wrap64 ((wrap64 ((wrap64 ((wrap64 ((wrap64 ((wrap64 ((wrap64 ((wrap64 ((wrap64 (Int.tmod a0 1000)) * 24)) + (wrap64 (Int.tmod a1 24)))) * 60)) + (wrap64 (Int.tmod a2 60)))) * 60)) + (wrap64 (Int.tmod a3 60)))) - (wrap64 (Int.tmod a3 60)))) - (wrap64 (60 * (wrap64 (Int.tmod a2 60)))))) then (if bt234.2 = 0 then ((gangerlaw07_known.f kj53).bind fun t241 => (some t241)) else (none)) else (none)))))) = some r := H
                                                have A63 := Aside0.mk A630
                                                clear A630
                                                replace H := Option.bind_eq_some_iff.mp H
                                                obtain ⟨⟨t234, t235⟩, A640, H⟩ := H
                                                replace H : (if t232 = (wrap64 ((wrap64 ((wrap64 ((wrap64 ((wrap64 ((wrap64 ((wrap64 ((wrap64 (Int.tmod a0 1000)) * 24)) + (wrap64 (Int.tmod a1 24)))) * 60)) + (wrap64 (Int.tmod a2 60)))) * 60)) + (wrap64 (Int.tmod a3 60)))) - (wrap64 (Int.tmod a3 60)))) then (if t233 = 0 then (if (wrap64 ((wrap64 ((wrap64 ((wrap64 ((wrap64 ((wrap64 ((wrap64 (Int.tmod a0 1000)) * 24)) + (wrap64 (Int.tmod a1 24)))) * 60)) + (wrap64 (Int.tmod a2 60)))) * 60)) + (wrap64 (Int.tmod a3 60)))) = (wrap64 ((wrap64 (Int.tmod a3 60)) + (wrap64 (60 * (wrap64 (Int.tmod a2 60)))))) then ((gangerlaw07_known.f kj53).bind fun t236 => (some t236)) else (if t234 = (wrap64 ((wrap64 ((wrap64 ((wrap64 ((wrap64 ((wrap64 ((wrap64 ((wrap64 ((wrap64 (Int.tmod a0 1000)) * 24)) + (wrap64 (Int.tmod a1 24)))) * 60)) + (wrap64 (Int.tmod a2 60)))) * 60)) + (wrap64 (Int.tmod a3 60)))) - (wrap64 (Int.tmod a3 60)))) - (wrap64 (60 * (wrap64 (Int.tmod a2 60)))))) then (if t235 = 0 then ((gangerlaw07_known.f kj53).bind fun t237 => (some t237)) else (none)) else (none))) else (if (wrap64 ((wrap64 ((wrap64 ((wrap64 ((wrap64 ((wrap64 ((wrap64 (Int.tmod a0 1000)) * 24)) + (wrap64 (Int.tmod a1 24)))) * 60)) + (wrap64 (Int.tmod a2 60)))) * 60)) + (wrap64 (Int.tmod a3 60)))) > (wrap64 (Int.tmod a3 60)) then (none) else (if (wrap64 ((wrap64 ((wrap64 ((wrap64 ((wrap64 ((wrap64 ((wrap64 (Int.tmod a0 1000)) * 24)) + (wrap64 (Int.tmod a1 24)))) * 60)) + (wrap64 (Int.tmod a2 60)))) * 60)) + (wrap64 (Int.tmod a3 60)))) = (wrap64 ((wrap64 (Int.tmod a3 60)) + (wrap64 (60 * (wrap64 (Int.tmod a2 60)))))) then ((gangerlaw07_known.f kj53).bind fun t238 => (some t238)) else (if t234 = (wrap64 ((wrap64 ((wrap64 ((wrap64 ((wrap64 ((wrap64 ((wrap64 ((wrap64 ((wrap64 (Int.tmod a0 1000)) * 24)) + (wrap64 (Int.tmod a1 24)))) * 60)) + (wrap64 (Int.tmod a2 60)))) * 60)) + (wrap64 (Int.tmod a3 60)))) - (wrap64 (Int.tmod a3 60)))) - (wrap64 (60 * (wrap64 (Int.tmod a2 60)))))) then (if t235 = 0 then ((gangerlaw07_known.f kj53).bind fun t239 => (some t239)) else (none)) else (none))))) else (if (wrap64 ((wrap64 ((wrap64 ((wrap64 ((wrap64 ((wrap64 ((wrap64 (Int.tmod a0 1000)) * 24)) + (wrap64 (Int.tmod a1 24)))) * 60)) + (wrap64 (Int.tmod a2 60)))) * 60)) + (wrap64 (Int.tmod a3 60)))) > (wrap64 (Int.tmod a3 60)) then (none) else (if (wrap64 ((wrap64 ((wrap64 ((wrap64 ((wrap64 ((wrap64 ((wrap64 (Int.tmod a0 1000)) * 24)) + (wrap64 (Int.tmod a1 24)))) * 60)) + (wrap64 (Int.tmod a2 60)))) * 60)) + (wrap64 (Int.tmod a3 60)))) = (wrap64 ((wrap64 (Int.tmod a3 60)) + (wrap64 (60 * (wrap64 (Int.tmod a2 60)))))) then ((gangerlaw07_known.f kj53).bind fun t240 => (some t240)) else (if t234 = (wrap64 ((wrap64 ((wrap64 ((wrap64 ((wrap64 ((wrap64 ((wrap64 ((wrap64 ((wrap64 (Int.tmod a0 1000)) * 24)) + (wrap64 (Int.tmod a1 24)))) * 60)) + (wrap64 (Int.tmod a2 60)))) * 60)) + (wrap64 (Int.tmod a3 60)))) - (wrap64 (Int.tmod a3 60)))) - (wrap64 (60 * (wrap64 (Int.tmod a2 60)))))) then (if t235 = 0 then ((gangerlaw07_known.f kj53).bind fun t241 => (some t241)) else (none)) else (none))))) = some r := H
                                                have A64 := Aside0.mk A640
                                                clear A640
                                                by_cases c65 : t232 = (wrap64 ((wrap64 ((wrap64 ((wrap64 ((wrap64 ((wrap64 ((wrap64 ((wrap64 (Int.tmod a0 1000)) * 24)) + (wrap64 (Int.tmod a1 24)))) * 60)) + (wrap64 (Int.tmod a2 60)))) * 60)) + (wrap64 (Int.tmod a3 60)))) - (wrap64 (Int.tmod a3 60))))
                                                · rw [if_pos c65] at H
                                                  have c65b0 : (t232 == (wrap64 ((wrap64 ((wrap64 ((wrap64 ((wrap64 ((wrap64 ((wrap64 ((wrap64 (Int.tmod a0 1000)) * 24)) + (wrap64 (Int.tmod a1 24)))) * 60)) + (wrap64 (Int.tmod a2 60)))) * 60)) + (wrap64 (Int.tmod a3 60)))) - (wrap64 (Int.tmod a3 60))))) = true := beq_iff_eq.mpr c65
                                                  have c65b1 : (t232 != (wrap64 ((wrap64 ((wrap64 ((wrap64 ((wrap64 ((wrap64 ((wrap64 ((wrap64 (Int.tmod a0 1000)) * 24)) + (wrap64 (Int.tmod a1 24)))) * 60)) + (wrap64 (Int.tmod a2 60)))) * 60)) + (wrap64 (Int.tmod a3 60)))) - (wrap64 (Int.tmod a3 60))))) = false := bne_eq_false_iff_eq.mpr c65
                                                  clear c65
                                                  by_cases c66 : t233 = 0
                                                  · rw [if_pos c66] at H
                                                    have c66b0 : (t233 == 0) = true := beq_iff_eq.mpr c66
                                                    have c66b1 : (t233 != 0) = false := bne_eq_false_iff_eq.mpr c66
                                                    clear c66
                                                    by_cases c67 : (wrap64 ((wrap64 ((wrap64 ((wrap64 ((wrap64 ((wrap64 ((wrap64 (Int.tmod a0 1000)) * 24)) + (wrap64 (Int.tmod a1 24)))) * 60)) + (wrap64 (Int.tmod a2 60)))) * 60)) + (wrap64 (Int.tmod a3 60)))) = (wrap64 ((wrap64 (Int.tmod a3 60)) + (wrap64 (60 * (wrap64 (Int.tmod a2 60))))))
                                                    · rw [if_pos c67] at H
                                                      have c67b0 : ((wrap64 ((wrap64 ((wrap64 ((wrap64 ((wrap64 ((wrap64 ((wrap64 (Int.tmod a0 1000)) * 24)) + (wrap64 (Int.tmod a1 24)))) * 60)) + (wrap64 (Int.tmod a2 60)))) * 60)) + (wrap64 (Int.tmod a3 60)))) == (wrap64 ((wrap64 (Int.tmod a3 60)) + (wrap64 (60 * (wrap64 (Int.tmod a2 60))))))) = true := beq_iff_eq.mpr c67
                                                      have c67b1 : ((wrap64 ((wrap64 ((wrap64 ((wrap64 ((wrap64 ((wrap64 ((wrap64 (Int.tmod a0 1000)) * 24)) + (wrap64 (Int.tmod a1 24)))) * 60)) + (wrap64 (Int.tmod a2 60)))) * 60)) + (wrap64 (Int.tmod a3 60)))) != (wrap64 ((wrap64 (Int.tmod a3 60)) + (wrap64 (60 * (wrap64 (Int.tmod a2 60))))))) = false := bne_eq_false_iff_eq.mpr c67
                                                      clear c67
                                                      replace H := Option.bind_eq_some_iff.mp H
                                                      obtain ⟨t236, A680, H⟩ := H
                                                      replace H : (some t236) = some r := H
                                                      have A68 := Aside0.mk A680
                                                      clear A680
                                                      obtain rfl := Option.some.inj H
                                                      go_wp2_with (first | ((with_reducible refine gate_callee (f := 11) rfl ?_); refine goesL_ (some 162) rfl rfl Tryd.func11 (by kernel_rfl) rfl #[.string ((((t219 ++ (⟨#[45]⟩ : ByteArray)) ++ t220) ++ (⟨#[58]⟩ : ByteArray)) ++ t221)] rfl (by (try simp only [List.map_toArray, List.map_cons, List.map_nil]); first | done | rfl | (simp only [List.length_drop, List.length_take]; rfl)) ?_; (with_reducible refine (clock_Parse.calls kj53 ((((t219 ++ (⟨#[45]⟩ : ByteArray)) ++ t220) ++ (⟨#[58]⟩ : ByteArray)) ++ t221) t232 t233 _ ?side1 A63.out).mono ?_); (case side1 => exact Glob.below HG.out (by repeat (first | (with_reducible first | exact HB.out | apply below_alloc | apply pw_below_drewN | apply below_drew1) | exact HB.out))); rintro e w69 ⟨rfl, hb⟩; refine ⟨_, rfl, ?_⟩; have n0_ := Aside0.mk (below_step (by repeat (first | (with_reducible first | exact HB.out | apply below_alloc | apply pw_below_drewN | apply below_drew1) | exact HB.out)) hb); clear HB; have HB := n0_; clear n0_; (try clear hb); (try clear hb2); (try clear hk); (try clear hi)) | ((with_reducible refine gate_callee (f := 11) rfl ?_); refine goesL_ (some 170) rfl rfl Tryd.func11 (by kernel_rfl) rfl #[.string ((t219 ++ (⟨#[45]⟩ : ByteArray)) ++ t220)] rfl (by (try simp only [List.map_toArray, List.map_cons, List.map_nil]); first | done | rfl | (simp only [List.length_drop, List.length_take]; rfl)) ?_; (with_reducible refine (clock_Parse.calls kj53 ((t219 ++ (⟨#[45]⟩ : ByteArray)) ++ t220) t234 t235 _ ?side1 A64.out).mono ?_); (case side1 => exact Glob.below HG.out (by repeat (first | (with_reducible first | exact HB.out | apply below_alloc | apply pw_below_drewN | apply below_drew1) | exact HB.out))); rintro e w70 ⟨rfl, hb⟩; refine ⟨_, rfl, ?_⟩; have n0_ := Aside0.mk (below_step (by repeat (first | (with_reducible first | exact HB.out | apply below_alloc | apply pw_below_drewN | apply below_drew1) | exact HB.out)) hb); clear HB; have HB := n0_; clear n0_; (try clear hb); (try clear hb2); (try clear hk); (try clear hi)) | (go_at_call 10; (with_reducible refine (gangerlaw07_known.calls kj53  t236 _ ?side1 A68.out).mono ?_); (case side1 => exact Glob.below HG.out (by repeat (first | (with_reducible first | exact HB.out | apply below_alloc | apply pw_below_drewN | apply below_drew1) | exact HB.out))); rintro e w71 ⟨rfl, hb⟩; have n0_ := Aside0.mk (below_step (by repeat (first | (with_reducible first | exact HB.out | apply below_alloc | apply pw_below_drewN | apply below_drew1) | exact HB.out)) hb); clear HB; have HB := n0_; clear n0_; (try clear hb); (try clear hb2); (try clear hk); (try clear hi)))
                                                      go_ret
                                                      exact ⟨by first | rfl | (simp [errW_none, errW_some] <;> rfl) | (simp [*, errW_none, errW_some] <;> rfl), by repeat (first | (with_reducible first | exact HB.out | apply below_alloc | apply pw_below_drewN | apply below_drew1) | exact HB.out)⟩
                                                    · rw [if_neg c67] at H
                                                      have c67b0 : ((wrap64 ((wrap64 ((wrap64 ((wrap64 ((wrap64 ((wrap64 ((wrap64 (Int.tmod a0 1000)) * 24)) + (wrap64 (Int.tmod a1 24)))) * 60)) + (wrap64 (Int.tmod a2 60)))) * 60)) + (wrap64 (Int.tmod a3 60)))) == (wrap64 ((wrap64 (Int.tmod a3 60)) + (wrap64 (60 * (wrap64 (Int.tmod a2 60))))))) = false := beq_eq_false_iff_ne.mpr c67
                                                      have c67b1 : ((wrap64 ((wrap64 ((wrap64 ((wrap64 ((wrap64 ((wrap64 ((wrap64 (Int.tmod a0 1000)) * 24)) + (wrap64 (Int.tmod a1 24)))) * 60)) + (wrap64 (Int.tmod a2 60)))) * 60)) + (wrap64 (Int.tmod a3 60)))) != (wrap64 ((wrap64 (Int.tmod a3 60)) + (wrap64 (60 * (wrap64 (Int.tmod a2 60))))))) = true := bne_iff_ne.mpr c67
                                                      by_cases c72 : t234 = (wrap64 ((wrap64 ((wrap64 ((wrap64 ((wrap64 ((wrap64 ((wrap64 ((wrap64 ((wrap64 (Int.tmod a0 1000)) * 24)) + (wrap64 (Int.tmod a1 24)))) * 60)) + (wrap64 (Int.tmod a2 60)))) * 60)) + (wrap64 (Int.tmod a3 60)))) - (wrap64 (Int.tmod a3 60)))) - (wrap64 (60 * (wrap64 (Int.tmod a2 60))))))
                                                      · rw [if_pos c72] at H
                                                        have c72b0 : (t234 == (wrap64 ((wrap64 ((wrap64 ((wrap64 ((wrap64 ((wrap64 ((wrap64 ((wrap64 ((wrap64 (Int.tmod a0 1000)) * 24)) + (wrap64 (Int.tmod a1 24)))) * 60)) + (wrap64 (Int.tmod a2 60)))) * 60)) + (wrap64 (Int.tmod a3 60)))) - (wrap64 (Int.tmod a3 60)))) - (wrap64 (60 * (wrap64 (Int.tmod a2 60))))))) = true := beq_iff_eq.mpr c72
                                                        have c72b1 : (t234 != (wrap64 ((wrap64 ((wrap64 ((wrap64 ((wrap64 ((wrap64 ((wrap64 ((wrap64 ((wrap64 (Int.tmod a0 1000)) * 24)) + (wrap64 (Int.tmod a1 24)))) * 60)) + (wrap64 (Int.tmod a2 60)))) * 60)) + (wrap64 (Int.tmod a3 60)))) - (wrap64 (Int.tmod a3 60)))) - (wrap64 (60 * (wrap64 (Int.tmod a2 60))))))) = false := bne_eq_false_iff_eq.mpr c72
                                                        clear c72
                                                        by_cases c73 : t235 = 0
                                                        · rw [if_pos c73] at H
                                                          have c73b0 : (t235 == 0) = true := beq_iff_eq.mpr c73
                                                          have c73b1 : (t235 != 0) = false := bne_eq_false_iff_eq.mpr c73
                                                          clear c73
                                                          replace H := Option.bind_eq_some_iff.mp H
                                                          obtain ⟨t237, A740, H⟩ := H
                                                          replace H : (some t237) = some r := H
                                                          have A74 := Aside0.mk A740
                                                          clear A740
                                                          obtain rfl := Option.some.inj H
                                                          go_wp2_with (first | ((with_reducible refine gate_callee (f := 11) rfl ?_); refine goesL_ (some 162) rfl rfl Tryd.func11 (by kernel_rfl) rfl #[.string ((((t219 ++ (⟨#[45]⟩ : ByteArray)) ++ t220) ++ (⟨#[58]⟩ : ByteArray)) ++ t221)] rfl (by (try simp only [List.map_toArray, List.map_cons, List.map_nil]); first | done | rfl | (simp only [List.length_drop, List.length_take]; rfl)) ?_; (with_reducible refine (clock_Parse.calls kj53 ((((t219 ++ (⟨#[45]⟩ : ByteArray)) ++ t220) ++ (⟨#[58]⟩ : ByteArray)) ++ t221) t232 t233 _ ?side1 A63.out).mono ?_); (case side1 => exact Glob.below HG.out (by repeat (first | (with_reducible first | exact HB.out | apply below_alloc | apply pw_below_drewN | apply below_drew1) | exact HB.out))); rintro e w75 ⟨rfl, hb⟩; refine ⟨_, rfl, ?_⟩; have n0_ := Aside0.mk (below_step (by repeat (first | (with_reducible first | exact HB.out | apply below_alloc | apply pw_below_drewN | apply below_drew1) | exact HB.out)) hb); clear HB; have HB := n0_; clear n0_; (try clear hb); (try clear hb2); (try clear hk); (try clear hi)) | ((with_reducible refine gate_callee (f := 11) rfl ?_); refine goesL_ (some 170) rfl rfl Tryd.func11 (by kernel_rfl) rfl #[.string ((t219 ++ (⟨#[45]⟩ : ByteArray)) ++ t220)] rfl (by (try simp only [List.map_toArray, List.map_cons, List.map_nil]); first | done | rfl | (simp only [List.length_drop, List.length_take]; rfl)) ?_; (with_reducible refine (clock_Parse.calls kj53 ((t219 ++ (⟨#[45]⟩ : ByteArray)) ++ t220) t234 t235 _ ?side1 A64.out).mono ?_); (case side1 => exact Glob.below HG.out (by repeat (first | (with_reducible first | exact HB.out | apply below_alloc | apply pw_below_drewN | apply below_drew1) | exact HB.out))); rintro e w76 ⟨rfl, hb⟩; refine ⟨_, rfl, ?_⟩; have n0_ := Aside0.mk (below_step (by repeat (first | (with_reducible first | exact HB.out | apply below_alloc | apply pw_below_drewN | apply below_drew1) | exact HB.out)) hb); clear HB; have HB := n0_; clear n0_; (try clear hb); (try clear hb2); (try clear hk); (try clear hi)) | (go_at_call 10; (with_reducible refine (gangerlaw07_known.calls kj53  t237 _ ?side1 A74.out).mono ?_); (case side1 => exact Glob.below HG.out (by repeat (first | (with_reducible first | exact HB.out | apply below_alloc | apply pw_below_drewN | apply below_drew1) | exact HB.out))); rintro e w77 ⟨rfl, hb⟩; have n0_ := Aside0.mk (below_step (by repeat (first | (with_reducible first | exact HB.out | apply below_alloc | apply pw_below_drewN | apply below_drew1) | exact HB.out)) hb); clear HB; have HB := n0_; clear n0_; (try clear hb); (try clear hb2); (try clear hk); (try clear hi)))
                                                          go_ret
                                                          exact ⟨by first | rfl | (simp [errW_none, errW_some] <;> rfl) | (simp [*, errW_none, errW_some] <;> rfl), by repeat (first | (with_reducible first | exact HB.out | apply below_alloc | apply pw_below_drewN | apply below_drew1) | exact HB.out)⟩
                                                        · rw [if_neg c73] at H
                                                          exact absurd H (by simp)
                                                      · rw [if_neg c72] at H
                                                        exact absurd H (by simp)
                                                  · rw [if_neg c66] at H
                                                    have c66b0 : (t233 == 0) = false := beq_eq_false_iff_ne.mpr c66
                                                    have c66b1 : (t233 != 0) = true := bne_iff_ne.mpr c66
                                                    by_cases c78 : (wrap64 ((wrap64 ((wrap64 ((wrap64 ((wrap64 ((wrap64 ((wrap64 (Int.tmod a0 1000)) * 24)) + (wrap64 (Int.tmod a1 24)))) * 60)) + (wrap64 (Int.tmod a2 60)))) * 60)) + (wrap64 (Int.tmod a3 60)))) > (wrap64 (Int.tmod a3 60))
                                                    · rw [if_pos c78] at H
                                                      exact absurd H (by simp)
                                                    · rw [if_neg c78] at H
                                                      have c78b0 : decide ((wrap64 (Int.tmod a3 60)) < (wrap64 ((wrap64 ((wrap64 ((wrap64 ((wrap64 ((wrap64 ((wrap64 (Int.tmod a0 1000)) * 24)) + (wrap64 (Int.tmod a1 24)))) * 60)) + (wrap64 (Int.tmod a2 60)))) * 60)) + (wrap64 (Int.tmod a3 60))))) = false := decide_eq_false c78
                                                      clear c78
                                                      by_cases c79 : (wrap64 ((wrap64 ((wrap64 ((wrap64 ((wrap64 ((wrap64 ((wrap64 (Int.tmod a0 1000)) * 24)) + (wrap64 (Int.tmod a1 24)))) * 60)) + (wrap64 (Int.tmod a2 60)))) * 60)) + (wrap64 (Int.tmod a3 60)))) = (wrap64 ((wrap64 (Int.tmod a3 60)) + (wrap64 (60 * (wrap64 (Int.tmod a2 60))))))
                                                      · rw [if_pos c79] at H
                                                        have c79b0 : ((wrap64 ((wrap64 ((wrap64 ((wrap64 ((wrap64 ((wrap64 ((wrap64 (Int.tmod a0 1000)) * 24)) + (wrap64 (Int.tmod a1 24)))) * 60)) + (wrap64 (Int.tmod a2 60)))) * 60)) + (wrap64 (Int.tmod a3 60)))) == (wrap64 ((wrap64 (Int.tmod a3 60)) + (wrap64 (60 * (wrap64 (Int.tmod a2 60))))))) = true := beq_iff_eq.mpr c79
                                                        have c79b1 : ((wrap64 ((wrap64 ((wrap64 ((wrap64 ((wrap64 ((wrap64 ((wrap64 (Int.tmod a0 1000)) * 24)) + (wrap64 (Int.tmod a1 24)))) * 60)) + (wrap64 (Int.tmod a2 60)))) * 60)) + (wrap64 (Int.tmod a3 60)))) != (wrap64 ((wrap64 (Int.tmod a3 60)) + (wrap64 (60 * (wrap64 (Int.tmod a2 60))))))) = false := bne_eq_false_iff_eq.mpr c79
                                                        clear c79
                                                        replace H := Option.bind_eq_some_iff.mp H
                                                        obtain ⟨t238, A800, H⟩ := H
                                                        replace H : (some t238) = some r := H
                                                        have A80 := Aside0.mk A800
                                                        clear A800
                                                        obtain rfl := Option.some.inj H
                                                        go_wp2_with (first | ((with_reducible refine gate_callee (f := 11) rfl ?_); refine goesL_ (some 162) rfl rfl Tryd.func11 (by kernel_rfl) rfl #[.string ((((t219 ++ (⟨#[45]⟩ : ByteArray)) ++ t220) ++ (⟨#[58]⟩ : ByteArray)) ++ t221)] rfl (by (try simp only [List.map_toArray, List.map_cons, List.map_nil]); first | done | rfl | (simp only [List.length_drop, List.length_take]; rfl)) ?_; (with_reducible refine (clock_Parse.calls kj53 ((((t219 ++ (⟨#[45]⟩ : ByteArray)) ++ t220) ++ (⟨#[58]⟩ : ByteArray)) ++ t221) t232 t233 _ ?side1 A63.out).mono ?_); (case side1 => exact Glob.below HG.out (by repeat (first | (with_reducible first | exact HB.out | apply below_alloc | apply pw_below_drewN | apply below_drew1) | exact HB.out))); rintro e w81 ⟨rfl, hb⟩; refine ⟨_, rfl, ?_⟩; have n0_ := Aside0.mk (below_step (by repeat (first | (with_reducible first | exact HB.out | apply below_alloc | apply pw_below_drewN | apply below_drew1) | exact HB.out)) hb); clear HB; have HB := n0_; clear n0_; (try clear hb); (try clear hb2); (try clear hk); (try clear hi)) | ((with_reducible refine gate_callee (f := 11) rfl ?_); refine goesL_ (some 170) rfl rfl Tryd.func11 (by kernel_rfl) rfl #[.string ((t219 ++ (⟨#[45]⟩ : ByteArray)) ++ t220)] rfl (by (try simp only [List.map_toArray, List.map_cons, List.map_nil]); first | done | rfl | (simp only [List.length_drop, List.length_take]; rfl)) ?_; (with_reducible refine (clock_Parse.calls kj53 ((t219 ++ (⟨#[45]⟩ : ByteArray)) ++ t220) t234 t235 _ ?side1 A64.out).mono ?_); (case side1 => exact Glob.below HG.out (by repeat (first | (with_reducible first | exact HB.out | apply below_alloc | apply pw_below_drewN | apply below_drew1) | exact HB.out))); rintro e w82 ⟨rfl, hb⟩; refine ⟨_, rfl, ?_⟩; have n0_ := Aside0.mk (below_step (by repeat (first | (with_reducible first | exact HB.out | apply below_alloc | apply pw_below_drewN | apply below_drew1) | exact HB.out)) hb); clear HB; have HB := n0_; clear n0_; (try clear hb); (try clear hb2); (try clear hk); (try clear hi)) | (go_at_call 10; (with_reducible refine (gangerlaw07_known.calls kj53  t238 _ ?side1 A80.out).mono ?_); (case side1 => exact Glob.below HG.out (by repeat (first | (with_reducible first | exact HB.out | apply below_alloc | apply pw_below_drewN | apply below_drew1) | exact HB.out))); rintro e w83 ⟨rfl, hb⟩; have n0_ := Aside0.mk (below_step (by repeat (first | (with_reducible first | exact HB.out | apply below_alloc | apply pw_below_drewN | apply below_drew1) | exact HB.out)) hb); clear HB; have HB := n0_; clear n0_; (try clear hb); (try clear hb2); (try clear hk); (try clear hi)))
                                                        go_ret
                                                        exact ⟨by first | rfl | (simp [errW_none, errW_some] <;> rfl) | (simp [*, errW_none, errW_some] <;> rfl), by repeat (first | (with_reducible first | exact HB.out | apply below_alloc | apply pw_below_drewN | apply below_drew1) | exact HB.out)⟩
                                                      · rw [if_neg c79] at H
                                                        have c79b0 : ((wrap64 ((wrap64 ((wrap64 ((wrap64 ((wrap64 ((wrap64 ((wrap64 (Int.tmod a0 1000)) * 24)) + (wrap64 (Int.tmod a1 24)))) * 60)) + (wrap64 (Int.tmod a2 60)))) * 60)) + (wrap64 (Int.tmod a3 60)))) == (wrap64 ((wrap64 (Int.tmod a3 60)) + (wrap64 (60 * (wrap64 (Int.tmod a2 60))))))) = false := beq_eq_false_iff_ne.mpr c79
                                                        have c79b1 : ((wrap64 ((wrap64 ((wrap64 ((wrap64 ((wrap64 ((wrap64 ((wrap64 (Int.tmod a0 1000)) * 24)) + (wrap64 (Int.tmod a1 24)))) * 60)) + (wrap64 (Int.tmod a2 60)))) * 60)) + (wrap64 (Int.tmod a3 60)))) != (wrap64 ((wrap64 (Int.tmod a3 60)) + (wrap64 (60 * (wrap64 (Int.tmod a2 60))))))) = true := bne_iff_ne.mpr c79
                                                        by_cases c84 : t234 = (wrap64 ((wrap64 ((wrap64 ((wrap64 ((wrap64 ((wrap64 ((wrap64 ((wrap64 ((wrap64 (Int.tmod a0 1000)) * 24)) + (wrap64 (Int.tmod a1 24)))) * 60)) + (wrap64 (Int.tmod a2 60)))) * 60)) + (wrap64 (Int.tmod a3 60)))) - (wrap64 (Int.tmod a3 60)))) - (wrap64 (60 * (wrap64 (Int.tmod a2 60))))))
                                                        · rw [if_pos c84] at H
                                                          have c84b0 : (t234 == (wrap64 ((wrap64 ((wrap64 ((wrap64 ((wrap64 ((wrap64 ((wrap64 ((wrap64 ((wrap64 (Int.tmod a0 1000)) * 24)) + (wrap64 (Int.tmod a1 24)))) * 60)) + (wrap64 (Int.tmod a2 60)))) * 60)) + (wrap64 (Int.tmod a3 60)))) - (wrap64 (Int.tmod a3 60)))) - (wrap64 (60 * (wrap64 (Int.tmod a2 60))))))) = true := beq_iff_eq.mpr c84
                                                          have c84b1 : (t234 != (wrap64 ((wrap64 ((wrap64 ((wrap64 ((wrap64 ((wrap64 ((wrap64 ((wrap64 ((wrap64 (Int.tmod a0 1000)) * 24)) + (wrap64 (Int.tmod a1 24)))) * 60)) + (wrap64 (Int.tmod a2 60)))) * 60)) + (wrap64 (Int.tmod a3 60)))) - (wrap64 (Int.tmod a3 60)))) - (wrap64 (60 * (wrap64 (Int.tmod a2 60))))))) = false := bne_eq_false_iff_eq.mpr c84
                                                          clear c84
                                                          by_cases c85 : t235 = 0
                                                          · rw [if_pos c85] at H
                                                            have c85b0 : (t235 == 0) = true := beq_iff_eq.mpr c85
                                                            have c85b1 : (t235 != 0) = false := bne_eq_false_iff_eq.mpr c85
                                                            clear c85
                                                            replace H := Option.bind_eq_some_iff.mp H
                                                            obtain ⟨t239, A860, H⟩ := H
                                                            replace H : (some t239) = some r := H
                                                            have A86 := Aside0.mk A860
                                                            clear A860
                                                            obtain rfl := Option.some.inj H
                                                            go_wp2_with (first | ((with_reducible refine gate_callee (f := 11) rfl ?_); refine goesL_ (some 162) rfl rfl Tryd.func11 (by kernel_rfl) rfl #[.string ((((t219 ++ (⟨#[45]⟩ : ByteArray)) ++ t220) ++ (⟨#[58]⟩ : ByteArray)) ++ t221)] rfl (by (try simp only [List.map_toArray, List.map_cons, List.map_nil]); first | done | rfl | (simp only [List.length_drop, List.length_take]; rfl)) ?_; (with_reducible refine (clock_Parse.calls kj53 ((((t219 ++ (⟨#[45]⟩ : ByteArray)) ++ t220) ++ (⟨#[58]⟩ : ByteArray)) ++ t221) t232 t233 _ ?side1 A63.out).mono ?_); (case side1 => exact Glob.below HG.out (by repeat (first | (with_reducible first | exact HB.out | apply below_alloc | apply pw_below_drewN | apply below_drew1) | exact HB.out))); rintro e w87 ⟨rfl, hb⟩; refine ⟨_, rfl, ?_⟩; have n0_ := Aside0.mk (below_step (by repeat (first | (with_reducible first | exact HB.out | apply below_alloc | apply pw_below_drewN | apply below_drew1) | exact HB.out)) hb); clear HB; have HB := n0_; clear n0_; (try clear hb); (try clear hb2); (try clear hk); (try clear hi)) | ((with_reducible refine gate_callee (f := 11) rfl ?_); refine goesL_ (some 170) rfl rfl Tryd.func11 (by kernel_rfl) rfl #[.string ((t219 ++ (⟨#[45]⟩ : ByteArray)) ++ t220)] rfl (by (try simp only [List.map_toArray, List.map_cons, List.map_nil]); first | done | rfl | (simp only [List.length_drop, List.length_take]; rfl)) ?_; (with_reducible refine (clock_Parse.calls kj53 ((t219 ++ (⟨#[45]⟩ : ByteArray)) ++ t220) t234 t235 _ ?side1 A64.out).mono ?_); (case side1 => exact Glob.below HG.out (by repeat (first | (with_reducible first | exact HB.out | apply below_alloc | apply pw_below_drewN | apply below_drew1) | exact HB.out))); rintro e w88 ⟨rfl, hb⟩; refine ⟨_, rfl, ?_⟩; have n0_ := Aside0.mk (below_step (by repeat (first | (with_reducible first | exact HB.out | apply below_alloc | apply pw_below_drewN | apply below_drew1) | exact HB.out)) hb); clear HB; have HB := n0_; clear n0_; (try clear hb); (try clear hb2); (try clear hk); (try clear hi)) | (go_at_call 10; (with_reducible refine (gangerlaw07_known.calls kj53  t239 _ ?side1 A86.out).mono ?_); (case side1 => exact Glob.below HG.out (by repeat (first | (with_reducible first | exact HB.out | apply below_alloc | apply pw_below_drewN | apply below_drew1) | exact HB.out))); rintro e w89 ⟨rfl, hb⟩; have n0_ := Aside0.mk (below_step (by repeat (first | (with_reducible first | exact HB.out | apply below_alloc | apply pw_below_drewN | apply below_drew1) | exact HB.out)) hb); clear HB; have HB := n0_; clear n0_; (try clear hb); (try clear hb2); (try clear hk); (try clear hi)))
                                                            go_ret
                                                            exact ⟨by first | rfl | (simp [errW_none, errW_some] <;> rfl) | (simp [*, errW_none, errW_some] <;> rfl), by repeat (first | (with_reducible first | exact HB.out | apply below_alloc | apply pw_below_drewN | apply below_drew1) | exact HB.out)⟩
                                                          · rw [if_neg c85] at H
                                                            exact absurd H (by simp)
                                                        · rw [if_neg c84] at H
                                                          exact absurd H (by simp)
                                                · rw [if_neg c65] at H
                                                  have c65b0 : (t232 == (wrap64 ((wrap64 ((wrap64 ((wrap64 ((wrap64 ((wrap64 ((wrap64 ((wrap64 (Int.tmod a0 1000)) * 24)) + (wrap64 (Int.tmod a1 24)))) * 60)) + (wrap64 (Int.tmod a2 60)))) * 60)) + (wrap64 (Int.tmod a3 60)))) - (wrap64 (Int.tmod a3 60))))) = false := beq_eq_false_iff_ne.mpr c65
                                                  have c65b1 : (t232 != (wrap64 ((wrap64 ((wrap64 ((wrap64 ((wrap64 ((wrap64 ((wrap64 ((wrap64 (Int.tmod a0 1000)) * 24)) + (wrap64 (Int.tmod a1 24)))) * 60)) + (wrap64 (Int.tmod a2 60)))) * 60)) + (wrap64 (Int.tmod a3 60)))) - (wrap64 (Int.tmod a3 60))))) = true := bne_iff_ne.mpr c65
                                                  by_cases c90 : (wrap64 ((wrap64 ((wrap64 ((wrap64 ((wrap64 ((wrap64 ((wrap64 (Int.tmod a0 1000)) * 24)) + (wrap64 (Int.tmod a1 24)))) * 60)) + (wrap64 (Int.tmod a2 60)))) * 60)) + (wrap64 (Int.tmod a3 60)))) > (wrap64 (Int.tmod a3 60))
                                                  · rw [if_pos c90] at H
                                                    exact absurd H (by simp)
                                                  · rw [if_neg c90] at H
                                                    have c90b0 : decide ((wrap64 (Int.tmod a3 60)) < (wrap64 ((wrap64 ((wrap64 ((wrap64 ((wrap64 ((wrap64 ((wrap64 (Int.tmod a0 1000)) * 24)) + (wrap64 (Int.tmod a1 24)))) * 60)) + (wrap64 (Int.tmod a2 60)))) * 60)) + (wrap64 (Int.tmod a3 60))))) = false := decide_eq_false c90
                                                    clear c90
                                                    by_cases c91 : (wrap64 ((wrap64 ((wrap64 ((wrap64 ((wrap64 ((wrap64 ((wrap64 (Int.tmod a0 1000)) * 24)) + (wrap64 (Int.tmod a1 24)))) * 60)) + (wrap64 (Int.tmod a2 60)))) * 60)) + (wrap64 (Int.tmod a3 60)))) = (wrap64 ((wrap64 (Int.tmod a3 60)) + (wrap64 (60 * (wrap64 (Int.tmod a2 60))))))
                                                    · rw [if_pos c91] at H
                                                      have c91b0 : ((wrap64 ((wrap64 ((wrap64 ((wrap64 ((wrap64 ((wrap64 ((wrap64 (Int.tmod a0 1000)) * 24)) + (wrap64 (Int.tmod a1 24)))) * 60)) + (wrap64 (Int.tmod a2 60)))) * 60)) + (wrap64 (Int.tmod a3 60)))) == (wrap64 ((wrap64 (Int.tmod a3 60)) + (wrap64 (60 * (wrap64 (Int.tmod a2 60))))))) = true := beq_iff_eq.mpr c91
                                                      have c91b1 : ((wrap64 ((wrap64 ((wrap64 ((wrap64 ((wrap64 ((wrap64 ((wrap64 (Int.tmod a0 1000)) * 24)) + (wrap64 (Int.tmod a1 24)))) * 60)) + (wrap64 (Int.tmod a2 60)))) * 60)) + (wrap64 (Int.tmod a3 60)))) != (wrap64 ((wrap64 (Int.tmod a3 60)) + (wrap64 (60 * (wrap64 (Int.tmod a2 60))))))) = false := bne_eq_false_iff_eq.mpr c91
                                                      clear c91
                                                      replace H := Option.bind_eq_some_iff.mp H
                                                      obtain ⟨t240, A920, H⟩ := H
                                                      replace H : (some t240) = some r := H
                                                      have A92 := Aside0.mk A920
                                                      clear A920
                                                      obtain rfl := Option.some.inj H
                                                      go_wp2_with (first | ((with_reducible refine gate_callee (f := 11) rfl ?_); refine goesL_ (some 162) rfl rfl Tryd.func11 (by kernel_rfl) rfl #[.string ((((t219 ++ (⟨#[45]⟩ : ByteArray)) ++ t220) ++ (⟨#[58]⟩ : ByteArray)) ++ t221)] rfl (by (try simp only [List.map_toArray, List.map_cons, List.map_nil]); first | done | rfl | (simp only [List.length_drop, List.length_take]; rfl)) ?_; (with_reducible refine (clock_Parse.calls kj53 ((((t219 ++ (⟨#[45]⟩ : ByteArray)) ++ t220) ++ (⟨#[58]⟩ : ByteArray)) ++ t221) t232 t233 _ ?side1 A63.out).mono ?_); (case side1 => exact Glob.below HG.out (by repeat (first | (with_reducible first | exact HB.out | apply below_alloc | apply pw_below_drewN | apply below_drew1) | exact HB.out))); rintro e w93 ⟨rfl, hb⟩; refine ⟨_, rfl, ?_⟩; have n0_ := Aside0.mk (below_step (by repeat (first | (with_reducible first | exact HB.out | apply below_alloc | apply pw_below_drewN | apply below_drew1) | exact HB.out)) hb); clear HB; have HB := n0_; clear n0_; (try clear hb); (try clear hb2); (try clear hk); (try clear hi)) | ((with_reducible refine gate_callee (f := 11) rfl ?_); refine goesL_ (some 170) rfl rfl Tryd.func11 (by kernel_rfl) rfl #[.string ((t219 ++ (⟨#[45]⟩ : ByteArray)) ++ t220)] rfl (by (try simp only [List.map_toArray, List.map_cons, List.map_nil]); first | done | rfl | (simp only [List.length_drop, List.length_take]; rfl)) ?_; (with_reducible refine (clock_Parse.calls kj53 ((t219 ++ (⟨#[45]⟩ : ByteArray)) ++ t220) t234 t235 _ ?side1 A64.out).mono ?_); (case side1 => exact Glob.below HG.out (by repeat (first | (with_reducible first | exact HB.out | apply below_alloc | apply pw_below_drewN | apply below_drew1) | exact HB.out))); rintro e w94 ⟨rfl, hb⟩; refine ⟨_, rfl, ?_⟩; have n0_ := Aside0.mk (below_step (by repeat (first | (with_reducible first | exact HB.out | apply below_alloc | apply pw_below_drewN | apply below_drew1) | exact HB.out)) hb); clear HB; have HB := n0_; clear n0_; (try clear hb); (try clear hb2); (try clear hk); (try clear hi)) | (go_at_call 10; (with_reducible refine (gangerlaw07_known.calls kj53  t240 _ ?side1 A92.out).mono ?_); (case side1 => exact Glob.below HG.out (by repeat (first | (with_reducible first | exact HB.out | apply below_alloc | apply pw_below_drewN | apply below_drew1) | exact HB.out))); rintro e w95 ⟨rfl, hb⟩; have n0_ := Aside0.mk (below_step (by repeat (first | (with_reducible first | exact HB.out | apply below_alloc | apply pw_below_drewN | apply below_drew1) | exact HB.out)) hb); clear HB; have HB := n0_; clear n0_; (try clear hb); (try clear hb2); (try clear hk); (try clear hi)))
                                                      go_ret
                                                      exact ⟨by first | rfl | (simp [errW_none, errW_some] <;> rfl) | (simp [*, errW_none, errW_some] <;> rfl), by repeat (first | (with_reducible first | exact HB.out | apply below_alloc | apply pw_below_drewN | apply below_drew1) | exact HB.out)⟩
                                                    · rw [if_neg c91] at H
                                                      have c91b0 : ((wrap64 ((wrap64 ((wrap64 ((wrap64 ((wrap64 ((wrap64 ((wrap64 (Int.tmod a0 1000)) * 24)) + (wrap64 (Int.tmod a1 24)))) * 60)) + (wrap64 (Int.tmod a2 60)))) * 60)) + (wrap64 (Int.tmod a3 60)))) == (wrap64 ((wrap64 (Int.tmod a3 60)) + (wrap64 (60 * (wrap64 (Int.tmod a2 60))))))) = false := beq_eq_false_iff_ne.mpr c91
                                                      have c91b1 : ((wrap64 ((wrap64 ((wrap64 ((wrap64 ((wrap64 ((wrap64 ((wrap64 (Int.tmod a0 1000)) * 24)) + (wrap64 (Int.tmod a1 24)))) * 60)) + (wrap64 (Int.tmod a2 60)))) * 60)) + (wrap64 (Int.tmod a3 60)))) != (wrap64 ((wrap64 (Int.tmod a3 60)) + (wrap64 (60 * (wrap64 (Int.tmod a2 60))))))) = true := bne_iff_ne.mpr c91
                                                      by_cases c96 : t234 = (wrap64 ((wrap64 ((wrap64 ((wrap64 ((wrap64 ((wrap64 ((wrap64 ((wrap64 ((wrap64 (Int.tmod a0 1000)) * 24)) + (wrap64 (Int.tmod a1 24)))) * 60)) + (wrap64 (Int.tmod a2 60)))) * 60)) + (wrap64 (Int.tmod a3 60)))) - (wrap64 (Int.tmod a3 60)))) - (wrap64 (60 * (wrap64 (Int.tmod a2 60))))))
                                                      · rw [if_pos c96] at H
                                                        have c96b0 : (t234 == (wrap64 ((wrap64 ((wrap64 ((wrap64 ((wrap64 ((wrap64 ((wrap64 ((wrap64 ((wrap64 (Int.tmod a0 1000)) * 24)) + (wrap64 (Int.tmod a1 24)))) * 60)) + (wrap64 (Int.tmod a2 60)))) * 60)) + (wrap64 (Int.tmod a3 60)))) - (wrap64 (Int.tmod a3 60)))) - (wrap64 (60 * (wrap64 (Int.tmod a2 60))))))) = true := beq_iff_eq.mpr c96
                                                        have c96b1 : (t234 != (wrap64 ((wrap64 ((wrap64 ((wrap64 ((wrap64 ((wrap64 ((wrap64 ((wrap64 ((wrap64 (Int.tmod a0 1000)) * 24)) + (wrap64 (Int.tmod a1 24)))) * 60)) + (wrap64 (Int.tmod a2 60)))) * 60)) + (wrap64 (Int.tmod a3 60)))) - (wrap64 (Int.tmod a3 60)))) - (wrap64 (60 * (wrap64 (Int.tmod a2 60))))))) = false := bne_eq_false_iff_eq.mpr c96
                                                        clear c96
                                                        by_cases c97 : t235 = 0
                                                        · rw [if_pos c97] at H
                                                          have c97b0 : (t235 == 0) = true := beq_iff_eq.mpr c97
                                                          have c97b1 : (t235 != 0) = false := bne_eq_false_iff_eq.mpr c97
                                                          clear c97
                                                          replace H := Option.bind_eq_some_iff.mp H
                                                          obtain ⟨t241, A980, H⟩ := H
                                                          replace H : (some t241) = some r := H
                                                          have A98 := Aside0.mk A980
                                                          clear A980
                                                          obtain rfl := Option.some.inj H
                                                          go_wp2_with (first | ((with_reducible refine gate_callee (f := 11) rfl ?_); refine goesL_ (some 162) rfl rfl Tryd.func11 (by kernel_rfl) rfl #[.string ((((t219 ++ (⟨#[45]⟩ : ByteArray)) ++ t220) ++ (⟨#[58]⟩ : ByteArray)) ++ t221)] rfl (by (try simp only [List.map_toArray, List.map_cons, List.map_nil]); first | done | rfl | (simp only [List.length_drop, List.length_take]; rfl)) ?_; (with_reducible refine (clock_Parse.calls kj53 ((((t219 ++ (⟨#[45]⟩ : ByteArray)) ++ t220) ++ (⟨#[58]⟩ : ByteArray)) ++ t221) t232 t233 _ ?side1 A63.out).mono ?_); (case side1 => exact Glob.below HG.out (by repeat (first | (with_reducible first | exact HB.out | apply below_alloc | apply pw_below_drewN | apply below_drew1) | exact HB.out))); rintro e w99 ⟨rfl, hb⟩; refine ⟨_, rfl, ?_⟩; have n0_ := Aside0.mk (below_step (by repeat (first | (with_reducible first | exact HB.out | apply below_alloc | apply pw_below_drewN | apply below_drew1) | exact HB.out)) hb); clear HB; have HB := n0_; clear n0_; (try clear hb); (try clear hb2); (try clear hk); (try clear hi)) | ((with_reducible refine gate_callee (f := 11) rfl ?_); refine goesL_ (some 170) rfl rfl Tryd.func11 (by kernel_rfl) rfl #[.string ((t219 ++ (⟨#[45]⟩ : ByteArray)) ++ t220)] rfl (by (try simp only [List.map_toArray, List.map_cons, List.map_nil]); first | done | rfl | (simp only [List.length_drop, List.length_take]; rfl)) ?_; (with_reducible refine (clock_Parse.calls kj53 ((t219 ++ (⟨#[45]⟩ : ByteArray)) ++ t220) t234 t235 _ ?side1 A64.out).mono ?_); (case side1 => exact Glob.below HG.out (by repeat (first | (with_reducible first | exact HB.out | apply below_alloc | apply pw_below_drewN | apply below_drew1) | exact HB.out))); rintro e w100 ⟨rfl, hb⟩; refine ⟨_, rfl, ?_⟩; have n0_ := Aside0.mk (below_step (by repeat (first | (with_reducible first | exact HB.out | apply below_alloc | apply pw_below_drewN | apply below_drew1) | exact HB.out)) hb); clear HB; have HB := n0_; clear n0_; (try clear hb); (try clear hb2); (try clear hk); (try clear hi)) | (go_at_call 10; (with_reducible refine (gangerlaw07_known.calls kj53  t241 _ ?side1 A98.out).mono ?_); (case side1 => exact Glob.below HG.out (by repeat (first | (with_reducible first | exact HB.out | apply below_alloc | apply pw_below_drewN | apply below_drew1) | exact HB.out))); rintro e w101 ⟨rfl, hb⟩; have n0_ := Aside0.mk (below_step (by repeat (first | (with_reducible first | exact HB.out | apply below_alloc | apply pw_below_drewN | apply below_drew1) | exact HB.out)) hb); clear HB; have HB := n0_; clear n0_; (try clear hb); (try clear hb2); (try clear hk); (try clear hi)))
                                                          go_ret
                                                          exact ⟨by first | rfl | (simp [errW_none, errW_some] <;> rfl) | (simp [*, errW_none, errW_some] <;> rfl), by repeat (first | (with_reducible first | exact HB.out | apply below_alloc | apply pw_below_drewN | apply below_drew1) | exact HB.out)⟩
                                                        · rw [if_neg c97] at H
                                                          exact absurd H (by simp)
                                                      · rw [if_neg c96] at H
                                                        exact absurd H (by simp)
                                              · rw [if_neg c62] at H
                                                exact absurd H (by simp)
                                            · rw [if_neg c61] at H
                                              exact absurd H (by simp)
                                          · rw [if_neg c60] at H
                                            exact absurd H (by simp)
                                        · rw [if_neg c59] at H
                                          exact absurd H (by simp)
                        · rw [if_neg c24] at H
                          exact absurd H (by simp)
                      · rw [if_neg c23] at H
                        exact absurd H (by simp)
                    · rw [if_neg c20] at H
                      exact absurd H (by simp)
                  · rw [if_neg c19] at H
                    exact absurd H (by simp)
                · rw [if_neg c18] at H
                  exact absurd H (by simp)
              · rw [if_neg c17] at H
                exact absurd H (by simp)
            · rw [if_neg c14] at H
              exact absurd H (by simp)
          · rw [if_neg c13] at H
            exact absurd H (by simp)
        · rw [if_neg c12] at H
          exact absurd H (by simp)
      · rw [if_neg c11] at H
        exact absurd H (by simp)
    · rw [if_neg c10] at H
      exact absurd H (by simp)
  · rw [if_neg c9] at H
    exact absurd H (by simp)

/-- THE ONE PURE STATEMENT of gangerlaw07_ClockForms: yours. -/
def gangerlaw07_ClockForms.Pure : Prop := ∀ (a0 : Int) (a1 : Int) (a2 : Int) (a3 : Int), (Lit.int .u16 a0).wf = true → (Lit.int .u16 a1).wf = true → (Lit.int .u16 a2).wf = true → (Lit.int .u16 a3).wf = true → ∃ k, gangerlaw07_ClockForms.f k a0 a1 a2 a3 = some true
theorem gangerlaw07_ClockForms.walk (P : gangerlaw07_ClockForms.Pure) (a0 : Int) (a1 : Int) (a2 : Int) (a3 : Int) (w : World) (hG : Glob w) (w0 : (Lit.int .u16 a0).wf = true) (w1 : (Lit.int .u16 a1).wf = true) (w2 : (Lit.int .u16 a2).wf = true) (w3 : (Lit.int .u16 a3).wf = true) :
    Calls Tryd.prog 6 #[.int .u16 a0, .int .u16 a1, .int .u16 a2, .int .u16 a3] w fun e w' => e = .returned (.bool true) ∧ Below w.heap.size w w' := by
  obtain ⟨k, h⟩ := P a0 a1 a2 a3 w0 w1 w2 w3
  refine (gangerlaw07_ClockForms.calls k a0 a1 a2 a3 true w hG h).mono ?_
  rintro e w' ⟨rfl, hd⟩
  exact ⟨rfl, hd⟩

end Go.Proofs.YtjgfdilikbeofaaDoor.P
