/- cut to what one law reaches -/
import Derived.Test.YtgkedamhicemiaaDoorJyP0
namespace Go.Proofs.YtgkedamhicemiaaDoor.P
open Go.RowKit Go.Proofs.YtgkedamhicemiaaDoorW.PrintWords Go.Proofs.YtgkedamhicemiaaDoorW.PrintLast Go.Proofs.YtgkedamhicemiaaDoorW.PrintMore
attribute [local go_sem] max2_int min2_int max_two min_two max_three min_three max_four min_four   -- for this text's walks alone
set_option linter.unusedVariables false
set_option linter.unusedSimpArgs false
attribute [local go_sem] isSome_setCell
def IsS58 (w0 W : World) (g : Nat) (f0 : Int) (f1 : Int) (f2 : Int) (f3 : ByteArray) (f4 : ByteArray) (f5 : ByteArray) (f6 : ByteArray) (f7 : Int) (f8 : Int) (f9 : List Int) (f10 : Int) (f11 : Bool) (f12 : List (S105)) (f13 : Int) (f14 : Int) (f15 : Bool) (f16 : Bool) (f17 : ByteArray) (f18 : Int) (f19 : Int) (f20 : Int) (f21 : Int) (f22 : Int) (f23 : Int) (f24 : Int) (f25 : Int) : Prop := ∃ A9 c9, ∃ A12 c12, W.heap[g]? = some (.cells #[.int .u32 f0, .int .u32 f1, .int .i64 f2, .string f3, .string f4, .string f5, .string f6, .int .i64 f7, .int .i64 f8, .slice A9 f9.length c9, .int .i64 f10, .bool f11, .slice A12 f12.length c12, .int .i64 f13, .int .i64 f14, .bool f15, .bool f16, .string f17, .int .i64 f18, .int .i64 f19, .int .i64 f20, .int .i64 f21, .int .i64 f22, .int .i64 f23, .int .i64 f24, .int .i64 f25] 58 (0, 0)) ∧ w0.heap.size ≤ g ∧ Kd.C (Kd.int .i64) w0 A9 f9.length f9 ∧ Kd.C k105 w0 A12 f12.length f12
theorem IsS58.grown {w0 W : World} {g : Nat} {f0 : Int} {f1 : Int} {f2 : Int} {f3 : ByteArray} {f4 : ByteArray} {f5 : ByteArray} {f6 : ByteArray} {f7 : Int} {f8 : Int} {f9 : List Int} {f10 : Int} {f11 : Bool} {f12 : List (S105)} {f13 : Int} {f14 : Int} {f15 : Bool} {f16 : Bool} {f17 : ByteArray} {f18 : Int} {f19 : Int} {f20 : Int} {f21 : Int} {f22 : Int} {f23 : Int} {f24 : Int} {f25 : Int} {W1 : World} {row : Option Nat} (h : IsS58 w0 W g f0 f1 f2 f3 f4 f5 f6 f7 f8 f9 f10 f11 f12 f13 f14 f15 f16 f17 f18 f19 f20 f21 f22 f23 f24 f25) (hw : W.grownBy W1 row) (hne : some g ≠ row) : IsS58 w0 W1 g f0 f1 f2 f3 f4 f5 f6 f7 f8 f9 f10 f11 f12 f13 f14 f15 f16 f17 f18 f19 f20 f21 f22 f23 f24 f25 := by
 obtain ⟨A9, c9, A12, c12, hb, hg, hr9, hr12⟩ := h
 exact ⟨A9, c9, A12, c12, blk_grown hb hw hne, hg, hr9, hr12⟩
theorem IsS58.kept {w0 W : World} {g : Nat} {f0 : Int} {f1 : Int} {f2 : Int} {f3 : ByteArray} {f4 : ByteArray} {f5 : ByteArray} {f6 : ByteArray} {f7 : Int} {f8 : Int} {f9 : List Int} {f10 : Int} {f11 : Bool} {f12 : List (S105)} {f13 : Int} {f14 : Int} {f15 : Bool} {f16 : Bool} {f17 : ByteArray} {f18 : Int} {f19 : Int} {f20 : Int} {f21 : Int} {f22 : Int} {f23 : Int} {f24 : Int} {f25 : Int} {W1 : World} {S : Nat → Prop} (h : IsS58 w0 W g f0 f1 f2 f3 f4 f5 f6 f7 f8 f9 f10 f11 f12 f13 f14 f15 f16 f17 f18 f19 f20 f21 f22 f23 f24 f25) (hk : Kept W W1 S) (hne : ¬ S g) : IsS58 w0 W1 g f0 f1 f2 f3 f4 f5 f6 f7 f8 f9 f10 f11 f12 f13 f14 f15 f16 f17 f18 f19 f20 f21 f22 f23 f24 f25 := by
 obtain ⟨A9, c9, A12, c12, hb, hg, hr9, hr12⟩ := h
 exact ⟨A9, c9, A12, c12, blk_kept hb hk hne, hg, hr9, hr12⟩
theorem IsS58.below {w0 W : World} {g : Nat} {f0 : Int} {f1 : Int} {f2 : Int} {f3 : ByteArray} {f4 : ByteArray} {f5 : ByteArray} {f6 : ByteArray} {f7 : Int} {f8 : Int} {f9 : List Int} {f10 : Int} {f11 : Bool} {f12 : List (S105)} {f13 : Int} {f14 : Int} {f15 : Bool} {f16 : Bool} {f17 : ByteArray} {f18 : Int} {f19 : Int} {f20 : Int} {f21 : Int} {f22 : Int} {f23 : Int} {f24 : Int} {f25 : Int} {W1 : World} (h : IsS58 w0 W g f0 f1 f2 f3 f4 f5 f6 f7 f8 f9 f10 f11 f12 f13 f14 f15 f16 f17 f18 f19 f20 f21 f22 f23 f24 f25) (hw : Below W.heap.size W W1) : IsS58 w0 W1 g f0 f1 f2 f3 f4 f5 f6 f7 f8 f9 f10 f11 f12 f13 f14 f15 f16 f17 f18 f19 f20 f21 f22 f23 f24 f25 := h.grown (grown_of_below hw none) (by simp)
theorem IsS58.alloc {w0 W : World} {g : Nat} {f0 : Int} {f1 : Int} {f2 : Int} {f3 : ByteArray} {f4 : ByteArray} {f5 : ByteArray} {f6 : ByteArray} {f7 : Int} {f8 : Int} {f9 : List Int} {f10 : Int} {f11 : Bool} {f12 : List (S105)} {f13 : Int} {f14 : Int} {f15 : Bool} {f16 : Bool} {f17 : ByteArray} {f18 : Int} {f19 : Int} {f20 : Int} {f21 : Int} {f22 : Int} {f23 : Int} {f24 : Int} {f25 : Int} (h : IsS58 w0 W g f0 f1 f2 f3 f4 f5 f6 f7 f8 f9 f10 f11 f12 f13 f14 f15 f16 f17 f18 f19 f20 f21 f22 f23 f24 f25) (o : Obj) : IsS58 w0 (W.alloc o) g f0 f1 f2 f3 f4 f5 f6 f7 f8 f9 f10 f11 f12 f13 f14 f15 f16 f17 f18 f19 f20 f21 f22 f23 f24 f25 := h.below (below_alloc (Below.refl _ _) o)
theorem IsS58.drewN {w0 W : World} {g : Nat} {f0 : Int} {f1 : Int} {f2 : Int} {f3 : ByteArray} {f4 : ByteArray} {f5 : ByteArray} {f6 : ByteArray} {f7 : Int} {f8 : Int} {f9 : List Int} {f10 : Int} {f11 : Bool} {f12 : List (S105)} {f13 : Int} {f14 : Int} {f15 : Bool} {f16 : Bool} {f17 : ByteArray} {f18 : Int} {f19 : Int} {f20 : Int} {f21 : Int} {f22 : Int} {f23 : Int} {f24 : Int} {f25 : Int} (h : IsS58 w0 W g f0 f1 f2 f3 f4 f5 f6 f7 f8 f9 f10 f11 f12 f13 f14 f15 f16 f17 f18 f19 f20 f21 f22 f23 f24 f25) (m : Nat) : IsS58 w0 (W.drewN m) g f0 f1 f2 f3 f4 f5 f6 f7 f8 f9 f10 f11 f12 f13 f14 f15 f16 f17 f18 f19 f20 f21 f22 f23 f24 f25 := h
theorem IsS58.drew {w0 W : World} {g : Nat} {f0 : Int} {f1 : Int} {f2 : Int} {f3 : ByteArray} {f4 : ByteArray} {f5 : ByteArray} {f6 : ByteArray} {f7 : Int} {f8 : Int} {f9 : List Int} {f10 : Int} {f11 : Bool} {f12 : List (S105)} {f13 : Int} {f14 : Int} {f15 : Bool} {f16 : Bool} {f17 : ByteArray} {f18 : Int} {f19 : Int} {f20 : Int} {f21 : Int} {f22 : Int} {f23 : Int} {f24 : Int} {f25 : Int} (h : IsS58 w0 W g f0 f1 f2 f3 f4 f5 f6 f7 f8 f9 f10 f11 f12 f13 f14 f15 f16 f17 f18 f19 f20 f21 f22 f23 f24 f25) : IsS58 w0 W.drew g f0 f1 f2 f3 f4 f5 f6 f7 f8 f9 f10 f11 f12 f13 f14 f15 f16 f17 f18 f19 f20 f21 f22 f23 f24 f25 := h
theorem IsS58.at_ {w0 W : World} {g : Nat} {f0 : Int} {f1 : Int} {f2 : Int} {f3 : ByteArray} {f4 : ByteArray} {f5 : ByteArray} {f6 : ByteArray} {f7 : Int} {f8 : Int} {f9 : List Int} {f10 : Int} {f11 : Bool} {f12 : List (S105)} {f13 : Int} {f14 : Int} {f15 : Bool} {f16 : Bool} {f17 : ByteArray} {f18 : Int} {f19 : Int} {f20 : Int} {f21 : Int} {f22 : Int} {f23 : Int} {f24 : Int} {f25 : Int} {w' : World} {m : Nat} (hq : W.drewN m = w') (h : IsS58 w0 W g f0 f1 f2 f3 f4 f5 f6 f7 f8 f9 f10 f11 f12 f13 f14 f15 f16 f17 f18 f19 f20 f21 f22 f23 f24 f25) : IsS58 w0 w' g f0 f1 f2 f3 f4 f5 f6 f7 f8 f9 f10 f11 f12 f13 f14 f15 f16 f17 f18 f19 f20 f21 f22 f23 f24 f25 := by subst hq; exact IsS58.drewN h m
theorem IsS58.apart {w0 W : World} {g : Nat} {f0 : Int} {f1 : Int} {f2 : Int} {f3 : ByteArray} {f4 : ByteArray} {f5 : ByteArray} {f6 : ByteArray} {f7 : Int} {f8 : Int} {f9 : List Int} {f10 : Int} {f11 : Bool} {f12 : List (S105)} {f13 : Int} {f14 : Int} {f15 : Bool} {f16 : Bool} {f17 : ByteArray} {f18 : Int} {f19 : Int} {f20 : Int} {f21 : Int} {f22 : Int} {f23 : Int} {f24 : Int} {f25 : Int} {α : Type} {d : Kd α} {e : Nat} {base : Nat} {ok : Nat → Prop} {v : Value} {xs : List α} (h : IsS58 w0 W g f0 f1 f2 f3 f4 f5 f6 f7 f8 f9 f10 f11 f12 f13 f14 f15 f16 f17 f18 f19 f20 f21 f22 f23 f24 f25) (ho : d.R e W base ok v xs) (ht : ∀ q, q ∈ e :: d.E → q ≠ 58) : d.R e W base (fun k => ok k ∧ k ≠ g) v xs := by
 obtain ⟨A9, c9, A12, c12, hb, hg, hr9, hr12⟩ := h
 exact Kd.R_types ho hb ht
theorem IsS58.own_ne {w0 W : World} {g : Nat} {f0 : Int} {f1 : Int} {f2 : Int} {f3 : ByteArray} {f4 : ByteArray} {f5 : ByteArray} {f6 : ByteArray} {f7 : Int} {f8 : Int} {f9 : List Int} {f10 : Int} {f11 : Bool} {f12 : List (S105)} {f13 : Int} {f14 : Int} {f15 : Bool} {f16 : Bool} {f17 : ByteArray} {f18 : Int} {f19 : Int} {f20 : Int} {f21 : Int} {f22 : Int} {f23 : Int} {f24 : Int} {f25 : Int} {α : Type} {d : Kd α} {e : Nat} {base : Nat} {ok : Nat → Prop} {v : Value} {xs : List α} (h : IsS58 w0 W g f0 f1 f2 f3 f4 f5 f6 f7 f8 f9 f10 f11 f12 f13 f14 f15 f16 f17 f18 f19 f20 f21 f22 f23 f24 f25) (ho : d.R e W base ok v xs) (ht : e ≠ 58) : some g ≠ v.ownBlock := by
 obtain ⟨A9, c9, A12, c12, hb, hg, hr9, hr12⟩ := h
 exact Kd.R_ne ho hb ht
def slices_Index_int_int.l0 : Nat → List Int → Int → Int → Int → Option (Int)
 | 0, _, _, _, _ => none
 | k + 1, x0, x1, x7, x8 => if x8 < x7 then (if 0 ≤ x8 then (if x8 < (x0.length : Int) then (if x1 = (rd x0 x8) then (some x8) else (slices_Index_int_int.l0 k x0 x1 x7 (wrap64 (x8 + 1)))) else (none)) else (none)) else (some (-1))
def slices_Index_int_int.f (k : Nat) (l0 : List Int) (a1 : Int) : Option (Int) := slices_Index_int_int.l0 k l0 a1 (l0.length : Int) 0
set_option maxHeartbeats 8000000 in
set_option maxRecDepth 100000 in
theorem slices_Index_int_int.calls (k : Nat) (A0 : Option Addr) (c0 : Nat) (l0 : List Int) (a1 : Int) (r : Int) (w : World) (hr0 : Kd.C (Kd.int .i64) w A0 l0.length l0) (hc0 : l0.length ≤ c0) (h : slices_Index_int_int.f k l0 a1 = some r) :
  Calls Tryd.prog 69 #[.slice A0 l0.length c0, .int .i64 a1] w fun e w' => e = .returned (.int .i64 r) ∧ Drawn0 w w' := by
 have HR0 := Aside0.mk hr0
 have HC0 := Aside0.mk hc0
 clear hr0 hc0
 have H : (slices_Index_int_int.l0 k l0 a1 (l0.length : Int) 0) = some r := h
 clear h
 have H' := Aside0.mk H
 clear H
 go_enter Tryd.func69, Tryd.ntmps69
 go_wp2
 go_loopg [8] k (fun kq v8 w' => ∃ (x8_1 : Int), v8 = .int .i64 x8_1 ∧ Aside0 (slices_Index_int_int.l0 kq l0 a1 (l0.length : Int) x8_1 = some r) ∧ Aside0 (kq ≤ k) ∧ Drawn0 w w')
 case atStart => exact ⟨(0), (by first | rfl | (simp; done) | (simp [*]; done)), H', ⟨Nat.le_refl _⟩, by repeat (first | exact Drawn0.refl _ | apply Drawn0.step)⟩
 case round =>
  clear H'
  obtain ⟨x8_1, rfl, HA, HK1, ⟨m1, rfl⟩⟩ := hrel
  cases gk with
  | zero => exact absurd HA.out (by simp [slices_Index_int_int.l0])
  | succ k1 =>
   have H := HA.out
   clear HA
   simp only [slices_Index_int_int.l0] at H
   by_cases c3 : x8_1 < (l0.length : Int)
   ·rw [if_pos c3] at H
    have c3b0 : decide (x8_1 < (l0.length : Int)) = true := decide_eq_true c3
    clear c3
    by_cases c4 : 0 ≤ x8_1
    ·rw [if_pos c4] at H
     have c4b0 : decide (0 ≤ x8_1) = true := decide_eq_true c4
     clear c4
     by_cases c5 : x8_1 < (l0.length : Int)
     ·rw [if_pos c5] at H
      have c5b0 : decide (x8_1 < (l0.length : Int)) = true := decide_eq_true c5
      clear c5
      by_cases c6 : a1 = (rd l0 x8_1)
      ·rw [if_pos c6] at H
       have c6b0 : (a1 == (rd l0 x8_1)) = true := beq_iff_eq.mpr c6
       have c6b1 : (a1 != (rd l0 x8_1)) = false := bne_eq_false_iff_eq.mpr c6
       clear c6
       obtain rfl := Option.some.inj H
       have p232 : 0 ≤ (x8_1 : Int) := of_decide_eq_true (by first | (with_reducible assumption) | assumption)
       have q232 : x8_1 < (l0.length : Int) := of_decide_eq_true (by first | (with_reducible assumption) | assumption)
       obtain ⟨ad232, e232, hx232_0⟩ := Kd.at_int HR0.out x8_1 p232 q232
       cases e232
       replace p232 := eq_true p232
       replace q232 := eq_true q232
       go_wp2
       go_ret
       exact ⟨by first | rfl | (simp; done) | (simp [*]; done), by repeat (first | exact Drawn0.refl _ | apply Drawn0.step)⟩
      ·rw [if_neg c6] at H
       have c6b0 : (a1 == (rd l0 x8_1)) = false := beq_eq_false_iff_ne.mpr c6
       have c6b1 : (a1 != (rd l0 x8_1)) = true := bne_iff_ne.mpr c6
       have H' := Aside0.mk H
       clear H
       have p232 : 0 ≤ (x8_1 : Int) := of_decide_eq_true (by first | (with_reducible assumption) | assumption)
       have q232 : x8_1 < (l0.length : Int) := of_decide_eq_true (by first | (with_reducible assumption) | assumption)
       obtain ⟨ad232, e232, hx232_0⟩ := Kd.at_int HR0.out x8_1 p232 q232
       cases e232
       replace p232 := eq_true p232
       replace q232 := eq_true q232
       go_wp2
       go_roundg k1
       case measure => have := HK1.out; omega
       case rel => exact ⟨(wrap64 (x8_1 + 1)), (by first | rfl | (simp; done) | (simp [*]; done)), H', ⟨by have := HK1.out; omega⟩, by repeat (first | exact Drawn0.refl _ | apply Drawn0.step)⟩
     ·rw [if_neg c5] at H
      exact absurd H (by simp)
    ·rw [if_neg c4] at H
     exact absurd H (by simp)
   ·rw [if_neg c3] at H
    have c3b0 : decide (x8_1 < (l0.length : Int)) = false := decide_eq_false c3
    clear c3
    obtain rfl := Option.some.inj H
    go_wp2
    go_ret
    exact ⟨by first | rfl | (simp; done) | (simp [*]; done), by repeat (first | exact Drawn0.refl _ | apply Drawn0.step)⟩
def slices_Contains_int_int.f (k : Nat) (l0 : List Int) (a1 : Int) : Option (Bool) := (slices_Index_int_int.f k l0 a1).bind fun t233 => (some (decide (t233 ≥ 0)))
set_option maxHeartbeats 8000000 in
set_option maxRecDepth 100000 in
theorem slices_Contains_int_int.calls (k : Nat) (A0 : Option Addr) (c0 : Nat) (l0 : List Int) (a1 : Int) (r : Bool) (w : World) (hr0 : Kd.C (Kd.int .i64) w A0 l0.length l0) (hc0 : l0.length ≤ c0) (h : slices_Contains_int_int.f k l0 a1 = some r) :
  Calls Tryd.prog 43 #[.slice A0 l0.length c0, .int .i64 a1] w fun e w' => e = .returned (.bool r) ∧ Drawn0 w w' := by
 have HR0 := Aside0.mk hr0
 have HC0 := Aside0.mk hc0
 clear hr0 hc0
 have H : ((slices_Index_int_int.f k l0 a1).bind fun t233 => (some (decide (t233 ≥ 0)))) = some r := h
 clear h
 replace H := Option.bind_eq_some_iff.mp H
 obtain ⟨t233, A30, H⟩ := H
 replace H : (some (decide (t233 ≥ 0))) = some r := H
 have A3 := Aside0.mk A30
 clear A30
 obtain rfl := Option.some.inj H
 go_enter Tryd.func43, Tryd.ntmps43
 go_wp2_with (first | ((with_reducible refine gate_callee (f := 69) rfl ?_); refine goesL_ (some 7) rfl rfl Tryd.func69 (by kernel_rfl) rfl #[.slice A0 l0.length c0, .int .i64 a1] rfl (by (try simp only [List.map_toArray, List.map_cons, List.map_nil]); first | done | rfl | (simp only [List.length_drop, List.length_take]; rfl)) ?_; (with_reducible refine (slices_Index_int_int.calls k _ _ l0 a1 t233 _ ?side1 ?side2 A3.out).mono ?_); (case side1 => repeat (first | exact HR0.out | (with_reducible refine Kd.C_alloc ?_ _) | (with_reducible refine Kd.C_drewN ?_ _) | (with_reducible refine Kd.C_drew ?_))); (case side2 => exact HC0.out); rintro e w' ⟨rfl, ⟨nd, rfl⟩⟩; refine ⟨_, rfl, ?_⟩))
 go_ret
 exact ⟨by first | rfl | (simp; done) | (simp [*]; done), by repeat (first | exact Drawn0.refl _ | apply Drawn0.step)⟩
-- NOT PRINTED: function 37 (jobs_Table_goes)
-- NOT PRINTED: function 38 (jobs_ran)
-- NOT PRINTED: function 13 (jobs_Table_End)
-- NOT PRINTED: function 14 (jobs_Table_Len)
-- NOT PRINTED: function 40 (jobs_Table_Start_1)
-- NOT PRINTED: function 16 (jobs_Table_Start)
-- NOT PRINTED: function 17 (jobs_Table_Suspend)
-- NOT PRINTED: function 18 (jobs_Table_Resume)
-- NOT PRINTED: function 19 (jobs_Table_Get)
-- NOT PRINTED: function 15 (gangerlaw13_known)
-- NOT PRINTED: function 3 (gangerlaw13_JobsAdmits)
-- NOT PRINTED: function 20 (jobs_Table_Requeue)
-- NOT PRINTED: function 4 (gangerlaw13_JobsRuns)
-- NOT PRINTED: function 27 (jobs_Table_Hold)
-- NOT PRINTED: function 28 (jobs_Table_Release)
-- NOT PRINTED: function 29 (jobs_Table_Never)
-- NOT PRINTED: function 25 (gangerlaw13_calls)
-- NOT PRINTED: function 23 (gangerlaw13_step)
-- NOT PRINTED: function 21 (gangerlaw13_table)
end Go.Proofs.YtgkedamhicemiaaDoor.P
