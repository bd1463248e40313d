/- The machine's side of the laws of this seat: each function's plain form and its contract, written by a program of this session out of Lean's print of the loaded functions; no condition beyond what each statement says. -/
import Derived.Test.YtfccdngejfnmkaaDoorP0
import Derived.Test.YtfccdngejfnmkaaDoorP6
import Derived.Test.YtfccdngejfnmkaaDoorP7
namespace Go.Proofs.YtfccdngejfnmkaaDoor.P
open Go.RowKit Go.Proofs.YtfccdngejfnmkaaDoorW.PrintWords Go.Proofs.YtfccdngejfnmkaaDoorW.PrintLast Go.Proofs.YtfccdngejfnmkaaDoorW.PrintMore
attribute [local go_sem] max2_int min2_int max_two min_two max_three min_three max_four min_four   -- for this text's walks alone
set_option linter.unusedVariables false
set_option linter.unusedSimpArgs false

attribute [local go_sem] isSome_setCell
/-! ### gangerlaw11_ShareOnly: function 9 -/
mutual
def gangerlaw11_ShareOnly.j0 : Nat → Int → Int → Int → List (S37) → List Int → Int → List Int → Int → Int → Option (Bool)
  | 0, _, _, _, _, _, _, _, _, _ => none
  | k + 1, x0, x1, x2, x7, x8, x9, x10, x11, x12 => if x9 = 0 then (if x11 = 0 then (if (x8.length : Int) = 1 then (if 0 < (x8.length : Int) then (if (rd x8 0) = 65536 then (if (x10.length : Int) = 1 then (if 0 < (x10.length : Int) then (gangerlaw11_ShareOnly.j1 k x0 x1 x2 x7 ((rd x10 0) != x12)) else (none)) else (gangerlaw11_ShareOnly.j1 k x0 x1 x2 x7 true)) else (gangerlaw11_ShareOnly.j1 k x0 x1 x2 x7 true)) else (none)) else (gangerlaw11_ShareOnly.j1 k x0 x1 x2 x7 true)) else (gangerlaw11_ShareOnly.j1 k x0 x1 x2 x7 true)) else (gangerlaw11_ShareOnly.j1 k x0 x1 x2 x7 true)
def gangerlaw11_ShareOnly.j1 : Nat → Int → Int → Int → List (S37) → Bool → Option (Bool)
  | 0, _, _, _, _, _ => none
  | k + 1, x0, x1, x2, x7, x64 => if x64 = true then (none) else (if x7.length < 3518437208883 then ((some (x7 ++ [(⟨(⟨#[99]⟩ : ByteArray), (⟨#[114]⟩ : ByteArray), wrap64 (1 + (wrap64 (x2)))⟩ : S37)] : List (S37))).bind fun y602 => ((share_Norms.f k y602).bind fun bt605 => ((share_Parts.f k y602 (([wrap64 (x0), wrap64 (x1)] : List Int))).bind fun bt612 => (if bt605.2 = 0 then (if bt612.2 = 0 then (if (bt605.1.length : Int) = 2 then (if 1 < (bt605.1.length : Int) then (if (rd bt605.1 1) = 65536 then (gangerlaw11_ShareOnly.j2 k x0 x1 bt612.1 ((bt612.1.length : Int) != 2)) else (gangerlaw11_ShareOnly.j2 k x0 x1 bt612.1 true)) else (none)) else (gangerlaw11_ShareOnly.j2 k x0 x1 bt612.1 true)) else (gangerlaw11_ShareOnly.j2 k x0 x1 bt612.1 true)) else (gangerlaw11_ShareOnly.j2 k x0 x1 bt612.1 true))))) else (none))
def gangerlaw11_ShareOnly.j2 : Nat → Int → Int → List Int → Bool → Option (Bool)
  | 0, _, _, _, _ => none
  | k + 1, x0, x1, x13, x108 => if x108 = true then (none) else (if (wrap64 ((wrap64 (x0)) + (wrap64 (x1)))) = 0 then (if 0 < (x13.length : Int) then (if (rd x13 0) = 0 then (if 1 < (x13.length : Int) then (if (rd x13 1) = 0 then ((gangerlaw11_known.f k).bind fun t619 => (some t619)) else (none)) else (none)) else (none)) else (none)) else (if 0 < (x13.length : Int) then (if (rd x13 0) = 65536 then (if 1 < (x13.length : Int) then (if (rd x13 1) = (wrap64 (Int.tdiv (wrap64 ((wrap64 (x1)) * 65536)) (wrap64 ((wrap64 (x0)) + (wrap64 (x1)))))) then ((gangerlaw11_known.f k).bind fun t622 => (some t622)) else (none)) else (none)) else (none)) else (none)))
end
def gangerlaw11_ShareOnly.f (k : Nat) (a0 : Int) (a1 : Int) (a2 : Int) : Option (Bool) := (some (([(⟨(⟨#[114]⟩ : ByteArray), (⟨#[]⟩ : ByteArray), wrap64 (1 + (wrap64 (a2)))⟩ : S37)] : List (S37)) : List (S37))).bind fun y586 => ((share_Norms.f k y586).bind fun bt589 => ((share_Factors.f k y586 (([wrap64 (a0)] : List Int))).bind fun bt596 => (if a0 > 0 then (gangerlaw11_ShareOnly.j0 k a0 a1 a2 y586 bt589.1 bt589.2 bt596.1 bt596.2 32768) else (gangerlaw11_ShareOnly.j0 k a0 a1 a2 y586 bt589.1 bt589.2 bt596.1 bt596.2 65536))))
theorem gangerlaw11_ShareOnly.mono_l : ∀ k, (∀ y0 y1 y2 y3 y4 y5 y6 y7 y8, LeO (gangerlaw11_ShareOnly.j0 k y0 y1 y2 y3 y4 y5 y6 y7 y8) (gangerlaw11_ShareOnly.j0 (k + 1) y0 y1 y2 y3 y4 y5 y6 y7 y8)) ∧ (∀ y0 y1 y2 y3 y4, LeO (gangerlaw11_ShareOnly.j1 k y0 y1 y2 y3 y4) (gangerlaw11_ShareOnly.j1 (k + 1) y0 y1 y2 y3 y4)) ∧ (∀ y0 y1 y2 y3, LeO (gangerlaw11_ShareOnly.j2 k y0 y1 y2 y3) (gangerlaw11_ShareOnly.j2 (k + 1) y0 y1 y2 y3))
  | 0 => ⟨fun _ _ _ _ _ _ _ _ _ r h => by simp [gangerlaw11_ShareOnly.j0] at h, fun _ _ _ _ _ r h => by simp [gangerlaw11_ShareOnly.j1] at h, fun _ _ _ _ r h => by simp [gangerlaw11_ShareOnly.j2] at h⟩
  | k + 1 => by
    obtain ⟨ih0, ih1, ih2⟩ := gangerlaw11_ShareOnly.mono_l k
    refine ⟨?_, ?_, ?_⟩
    · intro y0 y1 y2 y3 y4 y5 y6 y7 y8
      unfold gangerlaw11_ShareOnly.j0
      repeat' first
      | (with_reducible exact ih0 _ _ _ _ _ _ _ _ _)
      | (with_reducible exact ih1 _ _ _ _ _)
      | (with_reducible exact ih2 _ _ _ _)
      | (with_reducible exact gangerlaw11_known.mono _)
      | (with_reducible exact share_Factors.mono _ _ _)
      | (with_reducible exact share_Norms.mono _ _)
      | (with_reducible exact share_Parts.mono _ _ _)
      | (with_reducible exact LeO.refl _)
      | (with_reducible exact LeO.none _)
      | (with_reducible refine LeO.ite ?_ ?_)
      | (with_reducible refine LeO.bind ?_ (fun _ => ?_))
      | exact ih0 _ _ _ _ _ _ _ _ _
      | exact ih1 _ _ _ _ _
      | exact ih2 _ _ _ _
      | exact gangerlaw11_known.mono _
      | exact share_Factors.mono _ _ _
      | exact share_Norms.mono _ _
      | exact share_Parts.mono _ _ _
      | exact LeO.none _
      | refine LeO.ite ?_ ?_
      | refine LeO.bind ?_ (fun _ => ?_)
    · intro y0 y1 y2 y3 y4
      unfold gangerlaw11_ShareOnly.j1
      repeat' first
      | (with_reducible exact ih0 _ _ _ _ _ _ _ _ _)
      | (with_reducible exact ih1 _ _ _ _ _)
      | (with_reducible exact ih2 _ _ _ _)
      | (with_reducible exact gangerlaw11_known.mono _)
      | (with_reducible exact share_Factors.mono _ _ _)
      | (with_reducible exact share_Norms.mono _ _)
      | (with_reducible exact share_Parts.mono _ _ _)
      | (with_reducible exact LeO.refl _)
      | (with_reducible exact LeO.none _)
      | (with_reducible refine LeO.ite ?_ ?_)
      | (with_reducible refine LeO.bind ?_ (fun _ => ?_))
      | exact ih0 _ _ _ _ _ _ _ _ _
      | exact ih1 _ _ _ _ _
      | exact ih2 _ _ _ _
      | exact gangerlaw11_known.mono _
      | exact share_Factors.mono _ _ _
      | exact share_Norms.mono _ _
      | exact share_Parts.mono _ _ _
      | exact LeO.none _
      | refine LeO.ite ?_ ?_
      | refine LeO.bind ?_ (fun _ => ?_)
    · intro y0 y1 y2 y3
      unfold gangerlaw11_ShareOnly.j2
      repeat' first
      | (with_reducible exact ih0 _ _ _ _ _ _ _ _ _)
      | (with_reducible exact ih1 _ _ _ _ _)
      | (with_reducible exact ih2 _ _ _ _)
      | (with_reducible exact gangerlaw11_known.mono _)
      | (with_reducible exact share_Factors.mono _ _ _)
      | (with_reducible exact share_Norms.mono _ _)
      | (with_reducible exact share_Parts.mono _ _ _)
      | (with_reducible exact LeO.refl _)
      | (with_reducible exact LeO.none _)
      | (with_reducible refine LeO.ite ?_ ?_)
      | (with_reducible refine LeO.bind ?_ (fun _ => ?_))
      | exact ih0 _ _ _ _ _ _ _ _ _
      | exact ih1 _ _ _ _ _
      | exact ih2 _ _ _ _
      | exact gangerlaw11_known.mono _
      | exact share_Factors.mono _ _ _
      | exact share_Norms.mono _ _
      | exact share_Parts.mono _ _ _
      | exact LeO.none _
      | refine LeO.ite ?_ ?_
      | refine LeO.bind ?_ (fun _ => ?_)
theorem gangerlaw11_ShareOnly.mono : ∀ a0 a1 a2 k, LeO (gangerlaw11_ShareOnly.f k a0 a1 a2) (gangerlaw11_ShareOnly.f (k + 1) a0 a1 a2) := by
  intro a0 a1 a2 k
  obtain ⟨ih0, ih1, ih2⟩ := gangerlaw11_ShareOnly.mono_l k
  unfold gangerlaw11_ShareOnly.f
  repeat' first
      | (with_reducible exact ih0 _ _ _ _ _ _ _ _ _)
      | (with_reducible exact ih1 _ _ _ _ _)
      | (with_reducible exact ih2 _ _ _ _)
      | (with_reducible exact gangerlaw11_known.mono _)
      | (with_reducible exact share_Factors.mono _ _ _)
      | (with_reducible exact share_Norms.mono _ _)
      | (with_reducible exact share_Parts.mono _ _ _)
      | (with_reducible exact LeO.refl _)
      | (with_reducible exact LeO.none _)
      | (with_reducible refine LeO.ite ?_ ?_)
      | (with_reducible refine LeO.bind ?_ (fun _ => ?_))
      | exact ih0 _ _ _ _ _ _ _ _ _
      | exact ih1 _ _ _ _ _
      | exact ih2 _ _ _ _
      | exact gangerlaw11_known.mono _
      | exact share_Factors.mono _ _ _
      | exact share_Norms.mono _ _
      | exact share_Parts.mono _ _ _
      | exact LeO.none _
      | refine LeO.ite ?_ ?_
      | refine LeO.bind ?_ (fun _ => ?_)
def gangerlaw11_ShareOnly.T17 : Bool × List (List Nat × List Nat) := (true, [([], []), ([0], [0]), ([1], [1]), ([2], [2]), ([3], [3]), ([4], [4]), ([5, 4], [4, 5]), ([6, 4], [4, 6]), ([4], [4]), ([8, 4], [4, 8]), ([9, 4], [4, 9]), ([4], [4]), ([10, 11, 4], [4, 10, 11]), ([7, 12, 4], [4, 7, 12]), ([4, 13], [4, 13]), ([14, 4], [14]), ([15, 15], [15]), ([15, 16], [15, 16]), ([17, 16, 0, 1, 2, 3, 4, 5, 6, 7, 8, 9, 10, 11, 12, 13, 14, 15, 16, 17], [17])])
def gangerlaw11_ShareOnly.B17 : List Nat := [0, 1, 3, 7, 15, 31, 63, 127, 31, 287, 799, 31, 3871, 8191, 16383, 32767, 65535, 131071, 262143]
theorem gangerlaw11_ShareOnly.tab17 : rtab .any (opsOf Tryd.f9 17) = gangerlaw11_ShareOnly.T17 := by kernel_rfl
theorem gangerlaw11_ShareOnly.bits17 : waitsOk gangerlaw11_ShareOnly.T17.2 gangerlaw11_ShareOnly.B17 = true := by kernel_rfl
set_option maxHeartbeats 8000000 in
set_option maxRecDepth 100000 in
theorem gangerlaw11_ShareOnly.calls (k : Nat) (a0 : Int) (a1 : Int) (a2 : Int) (r : Bool) (w : World) (hG : Glob w) (h : gangerlaw11_ShareOnly.f k a0 a1 a2 = some r) :
    Calls Tryd.prog 9 #[.int .u32 a0, .int .u32 a1, .int .u16 a2] w fun e w' => e = .returned (.bool r) ∧ Below w.heap.size w w' := by
  have hu37 := Tryd.underlying37
  have HG := Aside0.mk hG
  clear hG
  have HB := Aside0.mk (Below.refl w.heap.size w)
  have H : ((some (([(⟨(⟨#[114]⟩ : ByteArray), (⟨#[]⟩ : ByteArray), wrap64 (1 + (wrap64 (a2)))⟩ : S37)] : List (S37)) : List (S37))).bind fun y586 => ((share_Norms.f k y586).bind fun bt589 => ((share_Factors.f k y586 (([wrap64 (a0)] : List Int))).bind fun bt596 => (if a0 > 0 then (gangerlaw11_ShareOnly.j0 k a0 a1 a2 y586 bt589.1 bt589.2 bt596.1 bt596.2 32768) else (gangerlaw11_ShareOnly.j0 k a0 a1 a2 y586 bt589.1 bt589.2 bt596.1 bt596.2 65536))))) = some r := h
  clear h
  obtain ⟨y586, hy586⟩ : ∃ y_ : List (S37), y_ = (([(⟨(⟨#[114]⟩ : ByteArray), (⟨#[]⟩ : ByteArray), wrap64 (1 + (wrap64 (a2)))⟩ : S37)] : List (S37))) := ⟨_, rfl⟩
  replace H : ((share_Norms.f k y586).bind fun bt589 => ((share_Factors.f k y586 (([wrap64 (a0)] : List Int))).bind fun bt596 => (if a0 > 0 then (gangerlaw11_ShareOnly.j0 k a0 a1 a2 y586 bt589.1 bt589.2 bt596.1 bt596.2 32768) else (gangerlaw11_ShareOnly.j0 k a0 a1 a2 y586 bt589.1 bt589.2 bt596.1 bt596.2 65536)))) = some r := by first | (rw [hy586]; with_reducible exact H) | (have H2_ := (Option.bind_some _ _).symm.trans H; rw [hy586]; with_reducible exact H2_) | (have H2_ := (Option.bind_some _ _).symm.trans H; with_reducible exact H2_) | with_reducible exact H | (rw [hy586]; exact H) | exact H
  have Ny586 := Aside0.mk hy586
  clear hy586
  replace H := Option.bind_eq_some_iff.mp H
  obtain ⟨⟨t589, t590⟩, A40, H⟩ := H
  replace H : ((share_Factors.f k y586 (([wrap64 (a0)] : List Int))).bind fun bt596 => (if a0 > 0 then (gangerlaw11_ShareOnly.j0 k a0 a1 a2 y586 t589 t590 bt596.1 bt596.2 32768) else (gangerlaw11_ShareOnly.j0 k a0 a1 a2 y586 t589 t590 bt596.1 bt596.2 65536))) = some r := H
  have A4 := Aside0.mk A40
  clear A40
  obtain ⟨y593, hy593⟩ : ∃ y_ : List Int, y_ = (([wrap64 (a0)] : List Int)) := ⟨_, rfl⟩
  replace H : ((share_Factors.f k y586 y593).bind fun bt596 => (if a0 > 0 then (gangerlaw11_ShareOnly.j0 k a0 a1 a2 y586 t589 t590 bt596.1 bt596.2 32768) else (gangerlaw11_ShareOnly.j0 k a0 a1 a2 y586 t589 t590 bt596.1 bt596.2 65536))) = some r := by first | (rw [hy593]; with_reducible exact H) | (have H2_ := (Option.bind_some _ _).symm.trans H; rw [hy593]; with_reducible exact H2_) | (have H2_ := (Option.bind_some _ _).symm.trans H; with_reducible exact H2_) | with_reducible exact H | (rw [hy593]; exact H) | exact H
  have Ny593 := Aside0.mk hy593
  clear hy593
  replace H := Option.bind_eq_some_iff.mp H
  obtain ⟨⟨t596, t597⟩, A50, H⟩ := H
  replace H : (if a0 > 0 then (gangerlaw11_ShareOnly.j0 k a0 a1 a2 y586 t589 t590 t596 t597 32768) else (gangerlaw11_ShareOnly.j0 k a0 a1 a2 y586 t589 t590 t596 t597 65536)) = some r := H
  have A5 := Aside0.mk A50
  clear A50
  have HC6 := Aside0.mk H
  clear H
  go_enter Tryd.func9, Tryd.ntmps9
  go_upto_if 35 with (first | ((with_reducible refine gate_dst (N := 20) rfl ?_); (try (refine gate_guard (by rfl) ?_; dsimp only)); refine Kd.R_lit k37 _ 37 ?hg (N := 20) ?hd (xs := ([(⟨(⟨#[114]⟩ : ByteArray), (⟨#[]⟩ : ByteArray), wrap64 (1 + (wrap64 (a2)))⟩ : S37)] : List (S37))) (inner := [.string (⟨#[114]⟩ : ByteArray), .string (⟨#[]⟩ : ByteArray), .int .i64 (wrap64 (1 + (wrap64 (a2))))]) (ok := fun _ => True) (okp := fun _ => True) ?hr ?hp (fun _ hk => hk) trivial (Below.refl _ _) (Nat.le_refl _) (by simp) ?_; (case hd => rfl); (case hg => rfl); (case hr => first | (go_simp; done) | (go_simp; rfl)); (case hp => exact (Reps.c3 (show Kd.M k37 _ _ _ (⟨(⟨#[114]⟩ : ByteArray), (⟨#[]⟩ : ByteArray), wrap64 (1 + (wrap64 (a2)))⟩ : S37) [.string (⟨#[114]⟩ : ByteArray), .string (⟨#[]⟩ : ByteArray), .int .i64 (wrap64 (1 + (wrap64 (a2))))] from (k37_mkM _ _ _ (⟨(⟨#[114]⟩ : ByteArray), (⟨#[]⟩ : ByteArray), wrap64 (1 + (wrap64 (a2)))⟩ : S37) )) (Reps.none _ _))); intro v587 w7 ho8 hb hg_ hnew_; clear hg_ hnew_; (first | rw [← Ny586.out] at ho8 | (simp only [Int.reduceToNat] at ho8; rw [← Ny586.out] at ho8)); have n0_ := Aside0.mk (Kd.R_lower ho8 (below_size (by repeat (first | (with_reducible first | exact HB.out | apply below_alloc | apply pw_below_drewN | apply below_drew1) | exact HB.out)))); have n1_ := Aside0.mk (below_step (by repeat (first | (with_reducible first | exact HB.out | apply below_alloc | apply pw_below_drewN | apply below_drew1) | exact HB.out)) hb); clear HB; have HO588 := n0_; have HB := n1_; clear n0_ n1_; clear hb ho8; obtain ⟨Ao9, co9, eo9⟩ := Kd.R_slice HO588.out; subst eo9) | ((with_reducible refine gate_callee (f := 16) rfl ?_); refine goesL_ (some 23) rfl rfl Tryd.func16 (by kernel_rfl) rfl #[.slice Ao9 y586.length co9] rfl (by (try simp only [List.map_toArray, List.map_cons, List.map_nil]); first | done | rfl | (simp only [List.length_drop, List.length_take]; rfl)) ?_; (with_reducible refine (share_Norms.calls k _ _ y586 t589 t590 _ ?side1 ?side2 ?side3 A4.out).mono ?_); (case side1 => exact Glob.below HG.out (by repeat (first | (with_reducible first | exact HB.out | apply below_alloc | apply pw_below_drewN | apply below_drew1) | exact HB.out))); (case side2 => repeat (first | exact (Kd.R_reads' HO588.out).2.2 | (with_reducible refine Kd.C_alloc ?_ _) | (with_reducible refine Kd.C_drewN ?_ _) | (with_reducible refine Kd.C_drew ?_))); (case side3 => exact (Kd.R_reads' HO588.out).2.1); rintro e w10 ⟨v591, rfl, ho0, hb⟩; refine ⟨_, rfl, ?_⟩; have n0_ := Aside0.mk (Kd.R_below (by (with_reducible repeat (first | apply Kd.R_alloc | apply Kd.R_drewN | apply Kd.R_drew)); exact HO588.out) hb); have n1_ := Aside0.mk (Kd.R_lower ho0 (below_size (by repeat (first | (with_reducible first | exact HB.out | apply below_alloc | apply pw_below_drewN | apply below_drew1) | exact HB.out)))); have n2_ := Aside0.mk (below_step (by repeat (first | (with_reducible first | exact HB.out | apply below_alloc | apply pw_below_drewN | apply below_drew1) | exact HB.out)) hb); clear HO588; clear HB; have HO588 := n0_; have HO592 := n1_; have HB := n2_; clear n0_ n1_ n2_; (try clear hb); (try clear hb2); (try clear hk); (try clear hi); (try clear ho0)) | ((with_reducible refine gate_dst (N := 30) rfl ?_); (try (refine gate_guard (by rfl) ?_; dsimp only)); refine Kd.R_lit (Kd.int .i64) _ 3 ?hg (N := 30) ?hd (xs := ([wrap64 (a0)] : List Int)) (inner := [.int .i64 (wrap64 (a0))]) (ok := fun _ => True) (okp := fun _ => True) ?hr ?hp (fun _ hk => hk) trivial (Below.refl _ _) (Nat.le_refl _) (by simp) ?_; (case hd => rfl); (case hg => rfl); (case hr => first | (go_simp; done) | (go_simp; rfl)); (case hp => exact (Reps.one (show Kd.M (Kd.int .i64) _ _ _ (wrap64 (a0)) [.int .i64 (wrap64 (a0))] from rfl) (Reps.none _ _))); intro v594 w11 ho12 hb hg_ hnew_; clear hg_ hnew_; (first | rw [← Ny593.out] at ho12 | (simp only [Int.reduceToNat] at ho12; rw [← Ny593.out] at ho12)); have n0_ := Aside0.mk (Kd.R_below (by (with_reducible repeat (first | apply Kd.R_alloc | apply Kd.R_drewN | apply Kd.R_drew)); exact HO588.out) hb); have n1_ := Aside0.mk (Kd.R_elder' (by (with_reducible repeat (first | apply Kd.R_alloc | apply Kd.R_drewN | apply Kd.R_drew)); exact HO592.out) (Kd.R_base ho12) hb); have n2_ := Aside0.mk (Kd.R_lower (Kd.R_new' ho12 (Kd.R_lt (by (with_reducible repeat (first | apply Kd.R_alloc | apply Kd.R_drewN | apply Kd.R_drew)); exact HO592.out))) (below_size (by repeat (first | (with_reducible first | exact HB.out | apply below_alloc | apply pw_below_drewN | apply below_drew1) | exact HB.out)))); have n3_ := Aside0.mk (below_step (by repeat (first | (with_reducible first | exact HB.out | apply below_alloc | apply pw_below_drewN | apply below_drew1) | exact HB.out)) hb); clear HO588; clear HO592; clear HB; have HO588 := n0_; have HO592 := n1_; have HO595 := n2_; have HB := n3_; clear n0_ n1_ n2_ n3_; clear hb ho12; obtain ⟨Ao13, co13, eo13⟩ := Kd.R_slice HO595.out; subst eo13) | ((with_reducible refine gate_callee (f := 20) rfl ?_); refine goesL_ (some 31) rfl rfl Tryd.func20 (by kernel_rfl) rfl #[.slice Ao9 y586.length co9, .slice Ao13 y593.length co13] rfl (by (try simp only [List.map_toArray, List.map_cons, List.map_nil]); first | done | rfl | (simp only [List.length_drop, List.length_take]; rfl)) ?_; (with_reducible refine (share_Factors.calls k _ _ y586 _ _ y593 t596 t597 _ ?side1 ?side2 ?side3 ?side4 ?side5 A5.out).mono ?_); (case side1 => exact Glob.below HG.out (by repeat (first | (with_reducible first | exact HB.out | apply below_alloc | apply pw_below_drewN | apply below_drew1) | exact HB.out))); (case side2 => repeat (first | exact (Kd.R_reads' HO588.out).2.2 | (with_reducible refine Kd.C_alloc ?_ _) | (with_reducible refine Kd.C_drewN ?_ _) | (with_reducible refine Kd.C_drew ?_))); (case side3 => exact (Kd.R_reads' HO588.out).2.1); (case side4 => repeat (first | exact (Kd.R_reads' HO595.out).2.2 | (with_reducible refine Kd.C_alloc ?_ _) | (with_reducible refine Kd.C_drewN ?_ _) | (with_reducible refine Kd.C_drew ?_))); (case side5 => exact (Kd.R_reads' HO595.out).2.1); rintro e w14 ⟨v598, rfl, ho0, hb⟩; refine ⟨_, rfl, ?_⟩; have n0_ := Aside0.mk (Kd.R_below (by (with_reducible repeat (first | apply Kd.R_alloc | apply Kd.R_drewN | apply Kd.R_drew)); exact HO588.out) hb); have n1_ := Aside0.mk (Kd.R_elder' (by (with_reducible repeat (first | apply Kd.R_alloc | apply Kd.R_drewN | apply Kd.R_drew)); exact HO592.out) (Kd.R_base ho0) hb); have n2_ := Aside0.mk (Kd.R_elder' (by (with_reducible repeat (first | apply Kd.R_alloc | apply Kd.R_drewN | apply Kd.R_drew)); exact HO595.out) (Kd.R_base ho0) hb); have n3_ := Aside0.mk (Kd.R_lower (Kd.R_new' (Kd.R_new' ho0 (Kd.R_lt (by (with_reducible repeat (first | apply Kd.R_alloc | apply Kd.R_drewN | apply Kd.R_drew)); exact HO592.out))) (Kd.R_lt (by (with_reducible repeat (first | apply Kd.R_alloc | apply Kd.R_drewN | apply Kd.R_drew)); exact HO595.out))) (below_size (by repeat (first | (with_reducible first | exact HB.out | apply below_alloc | apply pw_below_drewN | apply below_drew1) | exact HB.out)))); have n4_ := Aside0.mk (below_step (by repeat (first | (with_reducible first | exact HB.out | apply below_alloc | apply pw_below_drewN | apply below_drew1) | exact HB.out)) hb); clear HO588; clear HO592; clear HO595; clear HB; have HO588 := n0_; have HO592 := n1_; have HO595 := n2_; have HO599 := n3_; have HB := n4_; clear n0_ n1_ n2_ n3_ n4_; (try clear hb); (try clear hb2); (try clear hk); (try clear hi); (try clear ho0)))
  (try simp only [Act.put, List.setIfInBounds_toArray, List.set_cons_zero, List.set_cons_succ])
  go_cut [12] (fun v12 wc => ∃ (kq : Nat) (x12_5 : Int), v12 = .int .i64 x12_5 ∧ Aside0 (gangerlaw11_ShareOnly.j0 kq a0 a1 a2 y586 t589 t590 t596 t597 x12_5 = some r) ∧ Aside0 (kq ≤ k) ∧ Aside0 (Kd.R k37 37 wc w.heap.size (fun _ => True) (.slice Ao9 y586.length co9) y586) ∧ Aside0 (Kd.R (Kd.int .i64) 3 wc w.heap.size (fun k_ => some k_ ≠ (v598 : Value).ownBlock) v591 t589) ∧ Aside0 (Kd.R (Kd.int .i64) 3 wc w.heap.size (fun k_ => some k_ ≠ (v591 : Value).ownBlock) v598 t596) ∧ Aside0 (Below w.heap.size w wc))
  case first =>
    have H := HC6.out
    clear HC6
    by_cases c15 : a0 > 0
    · rw [if_pos c15] at H
      have c15b0 : decide (0 < a0) = true := decide_eq_true c15
      clear c15
      (first | rw [c15b0] | (simp only [i64_w, i32_w]; rw [c15b0]) | skip)
      have H' := Aside0.mk H
      clear H
      go_wp2
      go_meet
      case rel => exact ⟨_, (32768), (by first | rfl | (simp; done) | (simp [*]; done)), H', ⟨by first | omega | exact Nat.le_refl _⟩, ⟨by (with_reducible repeat (first | apply Kd.R_alloc | apply Kd.R_drewN | apply Kd.R_drew)); exact HO588.out⟩, ⟨by (with_reducible repeat (first | apply Kd.R_alloc | apply Kd.R_drewN | apply Kd.R_drew)); exact Kd.R_mono HO592.out (fun _ hk => hk.2)⟩, ⟨by (with_reducible repeat (first | apply Kd.R_alloc | apply Kd.R_drewN | apply Kd.R_drew)); exact Kd.R_mono HO599.out (fun _ hk => hk.1.2)⟩, ⟨by repeat (first | (with_reducible first | exact HB.out | apply below_alloc | apply pw_below_drewN | apply below_drew1) | exact HB.out)⟩⟩
    · rw [if_neg c15] at H
      have c15b0 : decide (0 < a0) = false := decide_eq_false c15
      clear c15
      (first | rw [c15b0] | (simp only [i64_w, i32_w]; rw [c15b0]) | skip)
      have H' := Aside0.mk H
      clear H
      go_wp2
      go_meet
      case rel => exact ⟨_, (65536), (by first | rfl | (simp; done) | (simp [*]; done)), H', ⟨by first | omega | exact Nat.le_refl _⟩, ⟨by (with_reducible repeat (first | apply Kd.R_alloc | apply Kd.R_drewN | apply Kd.R_drew)); exact HO588.out⟩, ⟨by (with_reducible repeat (first | apply Kd.R_alloc | apply Kd.R_drewN | apply Kd.R_drew)); exact Kd.R_mono HO592.out (fun _ hk => hk.2)⟩, ⟨by (with_reducible repeat (first | apply Kd.R_alloc | apply Kd.R_drewN | apply Kd.R_drew)); exact Kd.R_mono HO599.out (fun _ hk => hk.1.2)⟩, ⟨by repeat (first | (with_reducible first | exact HB.out | apply below_alloc | apply pw_below_drewN | apply below_drew1) | exact HB.out)⟩⟩
  case rest =>
    clear HC6
    try clear c1
    try clear c2
    try clear p2
    try clear c3
    try clear p6
    try clear c9
    try clear c15
    try clear c15b0
    obtain ⟨kq, x12_5, rfl, HA, HJ5, HO_7, HO_8, HO_10, HB⟩ := hcut
    cases kq with
    | zero => exact absurd HA.out (by simp [gangerlaw11_ShareOnly.j0])
    | succ kj5 =>
      have H := HA.out
      clear HA
      simp only [gangerlaw11_ShareOnly.j0] at H
      have HC16 := Aside0.mk H
      clear H
      go_upto_region 7 with (fail)
      go_cut [64] (fun v64 wc => ∃ (kq : Nat) (x64_15 : Bool), v64 = .bool x64_15 ∧ Aside0 (gangerlaw11_ShareOnly.j1 kq a0 a1 a2 y586 x64_15 = some r) ∧ Aside0 (kq ≤ kj5) ∧ Aside0 (Kd.R k37 37 wc w.heap.size (fun _ => True) (.slice Ao9 y586.length co9) y586) ∧ Aside0 (Below w.heap.size w wc))
      case first =>
        have H := HC16.out
        clear HC16
        by_cases c17 : t590 = 0
        · rw [if_pos c17] at H
          have c17b0 : (t590 == 0) = true := beq_iff_eq.mpr c17
          have c17b1 : (t590 != 0) = false := bne_eq_false_iff_eq.mpr c17
          clear c17
          (first | rw [c17b0] | (simp only [i64_w, i32_w]; rw [c17b0]) | skip)
          by_cases c18 : t597 = 0
          · rw [if_pos c18] at H
            have c18b0 : (t597 == 0) = true := beq_iff_eq.mpr c18
            have c18b1 : (t597 != 0) = false := bne_eq_false_iff_eq.mpr c18
            clear c18
            by_cases c19 : (t589.length : Int) = 1
            · rw [if_pos c19] at H
              have c19b0 : ((t589.length : Int) == 1) = true := beq_iff_eq.mpr c19
              have c19b1 : ((t589.length : Int) != 1) = false := bne_eq_false_iff_eq.mpr c19
              clear c19
              by_cases c20 : 0 < (t589.length : Int)
              · rw [if_pos c20] at H
                have c20b0 : decide (0 < (t589.length : Int)) = true := decide_eq_true c20
                have c20b1 : decide (0 < t589.length) = true := decide_eq_true (by omega)
                clear c20
                by_cases c21 : (rd t589 0) = 65536
                · rw [if_pos c21] at H
                  have c21b0 : ((rd t589 0) == 65536) = true := beq_iff_eq.mpr c21
                  have c21b1 : ((rd t589 0) != 65536) = false := bne_eq_false_iff_eq.mpr c21
                  clear c21
                  by_cases c22 : (t596.length : Int) = 1
                  · rw [if_pos c22] at H
                    have c22b0 : ((t596.length : Int) == 1) = true := beq_iff_eq.mpr c22
                    have c22b1 : ((t596.length : Int) != 1) = false := bne_eq_false_iff_eq.mpr c22
                    clear c22
                    by_cases c23 : 0 < (t596.length : Int)
                    · rw [if_pos c23] at H
                      have c23b0 : decide (0 < (t596.length : Int)) = true := decide_eq_true c23
                      have c23b1 : decide (0 < t596.length) = true := decide_eq_true (by omega)
                      clear c23
                      have H' := Aside0.mk H
                      clear H
                      obtain ⟨Ao24, co24, eo24⟩ := Kd.R_slice HO_8.out
                      subst eo24
                      have p600 : 0 ≤ (0 : Int) := (by omega)
                      have q600 : 0 < (t589.length : Int) := of_decide_eq_true (by first | (with_reducible assumption) | assumption)
                      obtain ⟨ad600, e600, hx600_0⟩ := Kd.at_int (Kd.R_reads' HO_8.out).2.2 0 p600 q600
                      cases e600
                      have qi600 : (0 < t589.length) = True := eq_true (by omega)
                      (try rw [show ((0 : Int)).toNat = 0 from rfl] at hx600_0)
                      (try rw [Addr.add_zero'] at hx600_0)
                      replace p600 := eq_true p600
                      replace q600 := eq_true q600
                      obtain ⟨Ao25, co25, eo25⟩ := Kd.R_slice HO_10.out
                      subst eo25
                      have p601 : 0 ≤ (0 : Int) := (by omega)
                      have q601 : 0 < (t596.length : Int) := of_decide_eq_true (by first | (with_reducible assumption) | assumption)
                      obtain ⟨ad601, e601, hx601_0⟩ := Kd.at_int (Kd.R_reads' HO_10.out).2.2 0 p601 q601
                      cases e601
                      have qi601 : (0 < t596.length) = True := eq_true (by omega)
                      (try rw [show ((0 : Int)).toNat = 0 from rfl] at hx601_0)
                      (try rw [Addr.add_zero'] at hx601_0)
                      replace p601 := eq_true p601
                      replace q601 := eq_true q601
                      go_wp2
                      go_meet
                      case rel => exact ⟨_, (((rd t596 0) != x12_5)), (by first | rfl | (simp; done) | (simp [*]; done)), H', ⟨by have := HJ5.out; first | omega | exact Nat.le_refl _⟩, ⟨by (with_reducible repeat (first | apply Kd.R_alloc | apply Kd.R_drewN | apply Kd.R_drew)); exact HO_7.out⟩, ⟨by repeat (first | (with_reducible first | exact HB.out | apply below_alloc | apply pw_below_drewN | apply below_drew1) | exact HB.out)⟩⟩
                    · rw [if_neg c23] at H
                      exact absurd H (by simp)
                  · rw [if_neg c22] at H
                    have c22b0 : ((t596.length : Int) == 1) = false := beq_eq_false_iff_ne.mpr c22
                    have c22b1 : ((t596.length : Int) != 1) = true := bne_iff_ne.mpr c22
                    have H' := Aside0.mk H
                    clear H
                    obtain ⟨Ao26, co26, eo26⟩ := Kd.R_slice HO_8.out
                    subst eo26
                    have p600 : 0 ≤ (0 : Int) := (by omega)
                    have q600 : 0 < (t589.length : Int) := of_decide_eq_true (by first | (with_reducible assumption) | assumption)
                    obtain ⟨ad600, e600, hx600_0⟩ := Kd.at_int (Kd.R_reads' HO_8.out).2.2 0 p600 q600
                    cases e600
                    have qi600 : (0 < t589.length) = True := eq_true (by omega)
                    (try rw [show ((0 : Int)).toNat = 0 from rfl] at hx600_0)
                    (try rw [Addr.add_zero'] at hx600_0)
                    replace p600 := eq_true p600
                    replace q600 := eq_true q600
                    obtain ⟨Ao27, co27, eo27⟩ := Kd.R_slice HO_10.out
                    subst eo27
                    go_wp2
                    go_meet
                    case rel => exact ⟨_, (true), (by first | rfl | (simp; done) | (simp [*]; done)), H', ⟨by have := HJ5.out; first | omega | exact Nat.le_refl _⟩, ⟨by (with_reducible repeat (first | apply Kd.R_alloc | apply Kd.R_drewN | apply Kd.R_drew)); exact HO_7.out⟩, ⟨by repeat (first | (with_reducible first | exact HB.out | apply below_alloc | apply pw_below_drewN | apply below_drew1) | exact HB.out)⟩⟩
                · rw [if_neg c21] at H
                  have c21b0 : ((rd t589 0) == 65536) = false := beq_eq_false_iff_ne.mpr c21
                  have c21b1 : ((rd t589 0) != 65536) = true := bne_iff_ne.mpr c21
                  have H' := Aside0.mk H
                  clear H
                  obtain ⟨Ao28, co28, eo28⟩ := Kd.R_slice HO_8.out
                  subst eo28
                  have p600 : 0 ≤ (0 : Int) := (by omega)
                  have q600 : 0 < (t589.length : Int) := of_decide_eq_true (by first | (with_reducible assumption) | assumption)
                  obtain ⟨ad600, e600, hx600_0⟩ := Kd.at_int (Kd.R_reads' HO_8.out).2.2 0 p600 q600
                  cases e600
                  have qi600 : (0 < t589.length) = True := eq_true (by omega)
                  (try rw [show ((0 : Int)).toNat = 0 from rfl] at hx600_0)
                  (try rw [Addr.add_zero'] at hx600_0)
                  replace p600 := eq_true p600
                  replace q600 := eq_true q600
                  go_wp2
                  go_meet
                  case rel => exact ⟨_, (true), (by first | rfl | (simp; done) | (simp [*]; done)), H', ⟨by have := HJ5.out; first | omega | exact Nat.le_refl _⟩, ⟨by (with_reducible repeat (first | apply Kd.R_alloc | apply Kd.R_drewN | apply Kd.R_drew)); exact HO_7.out⟩, ⟨by repeat (first | (with_reducible first | exact HB.out | apply below_alloc | apply pw_below_drewN | apply below_drew1) | exact HB.out)⟩⟩
              · rw [if_neg c20] at H
                exact absurd H (by simp)
            · rw [if_neg c19] at H
              have c19b0 : ((t589.length : Int) == 1) = false := beq_eq_false_iff_ne.mpr c19
              have c19b1 : ((t589.length : Int) != 1) = true := bne_iff_ne.mpr c19
              have H' := Aside0.mk H
              clear H
              obtain ⟨Ao29, co29, eo29⟩ := Kd.R_slice HO_8.out
              subst eo29
              go_wp2
              go_meet
              case rel => exact ⟨_, (true), (by first | rfl | (simp; done) | (simp [*]; done)), H', ⟨by have := HJ5.out; first | omega | exact Nat.le_refl _⟩, ⟨by (with_reducible repeat (first | apply Kd.R_alloc | apply Kd.R_drewN | apply Kd.R_drew)); exact HO_7.out⟩, ⟨by repeat (first | (with_reducible first | exact HB.out | apply below_alloc | apply pw_below_drewN | apply below_drew1) | exact HB.out)⟩⟩
          · rw [if_neg c18] at H
            have c18b0 : (t597 == 0) = false := beq_eq_false_iff_ne.mpr c18
            have c18b1 : (t597 != 0) = true := bne_iff_ne.mpr c18
            have H' := Aside0.mk H
            clear H
            go_wp2
            go_meet
            case rel => exact ⟨_, (true), (by first | rfl | (simp; done) | (simp [*]; done)), H', ⟨by have := HJ5.out; first | omega | exact Nat.le_refl _⟩, ⟨by (with_reducible repeat (first | apply Kd.R_alloc | apply Kd.R_drewN | apply Kd.R_drew)); exact HO_7.out⟩, ⟨by repeat (first | (with_reducible first | exact HB.out | apply below_alloc | apply pw_below_drewN | apply below_drew1) | exact HB.out)⟩⟩
        · rw [if_neg c17] at H
          have c17b0 : (t590 == 0) = false := beq_eq_false_iff_ne.mpr c17
          have c17b1 : (t590 != 0) = true := bne_iff_ne.mpr c17
          (first | rw [c17b0] | (simp only [i64_w, i32_w]; rw [c17b0]) | skip)
          have H' := Aside0.mk H
          clear H
          go_wp2
          go_meet
          case rel => exact ⟨_, (true), (by first | rfl | (simp; done) | (simp [*]; done)), H', ⟨by have := HJ5.out; first | omega | exact Nat.le_refl _⟩, ⟨by (with_reducible repeat (first | apply Kd.R_alloc | apply Kd.R_drewN | apply Kd.R_drew)); exact HO_7.out⟩, ⟨by repeat (first | (with_reducible first | exact HB.out | apply below_alloc | apply pw_below_drewN | apply below_drew1) | exact HB.out)⟩⟩
      case rest =>
        clear HC16
        try clear c1
        try clear c2
        try clear p2
        try clear c3
        try clear p6
        try clear q6
        try clear hx6
        try clear qi6
        try clear c9
        try clear c15
        try clear c15b0
        try clear c16
        try clear c17
        try clear c17b0
        try clear c17b1
        try clear c18
        try clear c18b0
        try clear c18b1
        try clear c19
        try clear c19b0
        try clear c19b1
        try clear c20
        try clear c20b0
        try clear c20b1
        try clear c21
        try clear c21b0
        try clear c21b1
        try clear c22
        try clear c22b0
        try clear c22b1
        try clear c23
        try clear c23b0
        try clear c23b1
        try clear hx600_0
        try clear hx601_0
        try clear p2
        try clear p6
        try clear p600
        try clear p601
        try clear q600
        try clear q601
        obtain ⟨kq, x64_15, rfl, HA, HJ15, HO_7, HB⟩ := hcut
        cases kq with
        | zero => exact absurd HA.out (by simp [gangerlaw11_ShareOnly.j1])
        | succ kj15 =>
          have H := HA.out
          clear HA
          simp only [gangerlaw11_ShareOnly.j1] at H
          by_cases c30 : x64_15 = true
          · subst c30
            have H1 : (none) = some r := by rw [if_pos rfl] at H; exact H
            clear H
            have H := H1
            clear H1
            exact absurd H (by simp)
          · replace c30 := Bool.eq_false_iff.mpr c30
            subst c30
            have H1 : (if y586.length < 3518437208883 then ((some (y586 ++ [(⟨(⟨#[99]⟩ : ByteArray), (⟨#[114]⟩ : ByteArray), wrap64 (1 + (wrap64 (a2)))⟩ : S37)] : List (S37))).bind fun y602 => ((share_Norms.f kj15 y602).bind fun bt605 => ((share_Parts.f kj15 y602 (([wrap64 (a0), wrap64 (a1)] : List Int))).bind fun bt612 => (if bt605.2 = 0 then (if bt612.2 = 0 then (if (bt605.1.length : Int) = 2 then (if 1 < (bt605.1.length : Int) then (if (rd bt605.1 1) = 65536 then (gangerlaw11_ShareOnly.j2 kj15 a0 a1 bt612.1 ((bt612.1.length : Int) != 2)) else (gangerlaw11_ShareOnly.j2 kj15 a0 a1 bt612.1 true)) else (none)) else (gangerlaw11_ShareOnly.j2 kj15 a0 a1 bt612.1 true)) else (gangerlaw11_ShareOnly.j2 kj15 a0 a1 bt612.1 true)) else (gangerlaw11_ShareOnly.j2 kj15 a0 a1 bt612.1 true))))) else (none)) = some r := by rw [if_neg (show ¬ (false = true) by decide)] at H; exact H
            clear H
            have H := H1
            clear H1
            by_cases c31 : y586.length < 3518437208883
            · rw [if_pos c31] at H
              have LMc31 := Aside0.mk c31
              clear c31
              obtain ⟨y602, hy602⟩ : ∃ y_ : List (S37), y_ = (y586 ++ [(⟨(⟨#[99]⟩ : ByteArray), (⟨#[114]⟩ : ByteArray), wrap64 (1 + (wrap64 (a2)))⟩ : S37)]) := ⟨_, rfl⟩
              replace H : ((share_Norms.f kj15 y602).bind fun bt605 => ((share_Parts.f kj15 y602 (([wrap64 (a0), wrap64 (a1)] : List Int))).bind fun bt612 => (if bt605.2 = 0 then (if bt612.2 = 0 then (if (bt605.1.length : Int) = 2 then (if 1 < (bt605.1.length : Int) then (if (rd bt605.1 1) = 65536 then (gangerlaw11_ShareOnly.j2 kj15 a0 a1 bt612.1 ((bt612.1.length : Int) != 2)) else (gangerlaw11_ShareOnly.j2 kj15 a0 a1 bt612.1 true)) else (none)) else (gangerlaw11_ShareOnly.j2 kj15 a0 a1 bt612.1 true)) else (gangerlaw11_ShareOnly.j2 kj15 a0 a1 bt612.1 true)) else (gangerlaw11_ShareOnly.j2 kj15 a0 a1 bt612.1 true)))) = some r := by first | (rw [hy602]; with_reducible exact H) | (have H2_ := (Option.bind_some _ _).symm.trans H; rw [hy602]; with_reducible exact H2_) | (have H2_ := (Option.bind_some _ _).symm.trans H; with_reducible exact H2_) | with_reducible exact H | (rw [hy602]; exact H) | exact H
              have Ny602 := Aside0.mk hy602
              clear hy602
              replace H := Option.bind_eq_some_iff.mp H
              obtain ⟨⟨t605, t606⟩, A320, H⟩ := H
              replace H : ((share_Parts.f kj15 y602 (([wrap64 (a0), wrap64 (a1)] : List Int))).bind fun bt612 => (if t606 = 0 then (if bt612.2 = 0 then (if (t605.length : Int) = 2 then (if 1 < (t605.length : Int) then (if (rd t605 1) = 65536 then (gangerlaw11_ShareOnly.j2 kj15 a0 a1 bt612.1 ((bt612.1.length : Int) != 2)) else (gangerlaw11_ShareOnly.j2 kj15 a0 a1 bt612.1 true)) else (none)) else (gangerlaw11_ShareOnly.j2 kj15 a0 a1 bt612.1 true)) else (gangerlaw11_ShareOnly.j2 kj15 a0 a1 bt612.1 true)) else (gangerlaw11_ShareOnly.j2 kj15 a0 a1 bt612.1 true))) = some r := H
              have A32 := Aside0.mk A320
              clear A320
              obtain ⟨y609, hy609⟩ : ∃ y_ : List Int, y_ = (([wrap64 (a0), wrap64 (a1)] : List Int)) := ⟨_, rfl⟩
              replace H : ((share_Parts.f kj15 y602 y609).bind fun bt612 => (if t606 = 0 then (if bt612.2 = 0 then (if (t605.length : Int) = 2 then (if 1 < (t605.length : Int) then (if (rd t605 1) = 65536 then (gangerlaw11_ShareOnly.j2 kj15 a0 a1 bt612.1 ((bt612.1.length : Int) != 2)) else (gangerlaw11_ShareOnly.j2 kj15 a0 a1 bt612.1 true)) else (none)) else (gangerlaw11_ShareOnly.j2 kj15 a0 a1 bt612.1 true)) else (gangerlaw11_ShareOnly.j2 kj15 a0 a1 bt612.1 true)) else (gangerlaw11_ShareOnly.j2 kj15 a0 a1 bt612.1 true))) = some r := by first | (rw [hy609]; with_reducible exact H) | (have H2_ := (Option.bind_some _ _).symm.trans H; rw [hy609]; with_reducible exact H2_) | (have H2_ := (Option.bind_some _ _).symm.trans H; with_reducible exact H2_) | with_reducible exact H | (rw [hy609]; exact H) | exact H
              have Ny609 := Aside0.mk hy609
              clear hy609
              replace H := Option.bind_eq_some_iff.mp H
              obtain ⟨⟨t612, t613⟩, A330, H⟩ := H
              replace H : (if t606 = 0 then (if t613 = 0 then (if (t605.length : Int) = 2 then (if 1 < (t605.length : Int) then (if (rd t605 1) = 65536 then (gangerlaw11_ShareOnly.j2 kj15 a0 a1 t612 ((t612.length : Int) != 2)) else (gangerlaw11_ShareOnly.j2 kj15 a0 a1 t612 true)) else (none)) else (gangerlaw11_ShareOnly.j2 kj15 a0 a1 t612 true)) else (gangerlaw11_ShareOnly.j2 kj15 a0 a1 t612 true)) else (gangerlaw11_ShareOnly.j2 kj15 a0 a1 t612 true)) = some r := H
              have A33 := Aside0.mk A330
              clear A330
              have HC34 := Aside0.mk H
              clear H
              go_upto_region 12 with (first | ((with_reducible refine gate_builtin (b := .append) (xs := #[.tmp 65, .tmp 70]) rfl ?_); (try (refine gate_guard (by rfl) ?_; dsimp only)); at_builtin; refine Kd.R_append k37 (w0 := w) w.heap.size rfl (.tmp 65) (.tmp 70) 22 37 (.agg #[(.string ⟨#[]⟩), (.string ⟨#[]⟩), (.int .i64 0)]) 40 rfl Tryd.underlying22 info37 rfl (by decide) (by omega) (.slice Ao9 y586.length co9) y586 (⟨(⟨#[99]⟩ : ByteArray), (⟨#[114]⟩ : ByteArray), wrap64 (1 + (wrap64 (a2)))⟩ : S37) [.string (⟨#[99]⟩ : ByteArray), .string (⟨#[114]⟩ : ByteArray), .int .i64 (wrap64 (1 + (wrap64 (a2))))] (fun _ => True) (fun _ => False) rfl rfl ?aP (fun _ hk => hk.elim) ?aF ?aO ?aB ?aS ?aL ?_; (case aP => exact k37_mkM _ _ _ (⟨(⟨#[99]⟩ : ByteArray), (⟨#[114]⟩ : ByteArray), wrap64 (1 + (wrap64 (a2)))⟩ : S37)); (case aB => exact (by repeat (first | (with_reducible first | exact HB.out | apply below_alloc | apply pw_below_drewN | apply below_drew1) | exact HB.out))); (case aF => exact (fun _ _ => trivial)); (case aO => exact (by (with_reducible repeat (first | apply Kd.R_alloc | apply Kd.R_drewN | apply Kd.R_drew)); exact HO_7.out)); (case aS => exact (below_size (by repeat (first | (with_reducible first | exact HB.out | apply below_alloc | apply pw_below_drewN | apply below_drew1) | exact HB.out)))); (case aL => have := LMc31.out; omega); intro v603 w35 ho hb hg hat; rw [← Ny602.out] at ho; have n0_ := Aside0.mk (hb); have n1_ := Aside0.mk (ho); clear HB; clear HO_7; have HB := n0_; have HO604 := n1_; clear n0_ n1_; clear ho hb hg hat; obtain ⟨Ao36, co36, eo36⟩ := Kd.R_slice HO604.out; subst eo36) | ((with_reducible refine gate_callee (f := 16) rfl ?_); refine goesL_ (some 74) rfl rfl Tryd.func16 (by kernel_rfl) rfl #[.slice Ao36 y602.length co36] rfl (by (try simp only [List.map_toArray, List.map_cons, List.map_nil]); first | done | rfl | (simp only [List.length_drop, List.length_take]; rfl)) ?_; (with_reducible refine (share_Norms.calls kj15 _ _ y602 t605 t606 _ ?side1 ?side2 ?side3 A32.out).mono ?_); (case side1 => exact Glob.below HG.out (by repeat (first | (with_reducible first | exact HB.out | apply below_alloc | apply pw_below_drewN | apply below_drew1) | exact HB.out))); (case side2 => repeat (first | exact (Kd.R_reads' HO604.out).2.2 | (with_reducible refine Kd.C_alloc ?_ _) | (with_reducible refine Kd.C_drewN ?_ _) | (with_reducible refine Kd.C_drew ?_))); (case side3 => exact (Kd.R_reads' HO604.out).2.1); rintro e w37 ⟨v607, rfl, ho0, hb⟩; refine ⟨_, rfl, ?_⟩; have n0_ := Aside0.mk (Kd.R_below (by (with_reducible repeat (first | apply Kd.R_alloc | apply Kd.R_drewN | apply Kd.R_drew)); exact HO604.out) hb); have n1_ := Aside0.mk (Kd.R_lower ho0 (below_size (by repeat (first | (with_reducible first | exact HB.out | apply below_alloc | apply pw_below_drewN | apply below_drew1) | exact HB.out)))); have n2_ := Aside0.mk (below_step (by repeat (first | (with_reducible first | exact HB.out | apply below_alloc | apply pw_below_drewN | apply below_drew1) | exact HB.out)) hb); clear HO604; clear HB; have HO604 := n0_; have HO608 := n1_; have HB := n2_; clear n0_ n1_ n2_; (try clear hb); (try clear hb2); (try clear hk); (try clear hi); (try clear ho0)) | ((with_reducible refine gate_dst (N := 83) rfl ?_); (try (refine gate_guard (by rfl) ?_; dsimp only)); refine Kd.R_lit (Kd.int .i64) _ 3 ?hg (N := 83) ?hd (xs := ([wrap64 (a0), wrap64 (a1)] : List Int)) (inner := [.int .i64 (wrap64 (a0)), .int .i64 (wrap64 (a1))]) (ok := fun _ => True) (okp := fun _ => True) ?hr ?hp (fun _ hk => hk) trivial (Below.refl _ _) (Nat.le_refl _) (by simp) ?_; (case hd => rfl); (case hg => rfl); (case hr => first | (go_simp; done) | (go_simp; rfl)); (case hp => exact (Reps.one (show Kd.M (Kd.int .i64) _ _ _ (wrap64 (a0)) [.int .i64 (wrap64 (a0))] from rfl) (Reps.one (show Kd.M (Kd.int .i64) _ _ _ (wrap64 (a1)) [.int .i64 (wrap64 (a1))] from rfl) (Reps.none _ _)))); intro v610 w38 ho39 hb hg_ hnew_; clear hg_ hnew_; (first | rw [← Ny609.out] at ho39 | (simp only [Int.reduceToNat] at ho39; rw [← Ny609.out] at ho39)); have n0_ := Aside0.mk (Kd.R_below (by (with_reducible repeat (first | apply Kd.R_alloc | apply Kd.R_drewN | apply Kd.R_drew)); exact HO604.out) hb); have n1_ := Aside0.mk (Kd.R_elder' (by (with_reducible repeat (first | apply Kd.R_alloc | apply Kd.R_drewN | apply Kd.R_drew)); exact HO608.out) (Kd.R_base ho39) hb); have n2_ := Aside0.mk (Kd.R_lower (Kd.R_new' ho39 (Kd.R_lt (by (with_reducible repeat (first | apply Kd.R_alloc | apply Kd.R_drewN | apply Kd.R_drew)); exact HO608.out))) (below_size (by repeat (first | (with_reducible first | exact HB.out | apply below_alloc | apply pw_below_drewN | apply below_drew1) | exact HB.out)))); have n3_ := Aside0.mk (below_step (by repeat (first | (with_reducible first | exact HB.out | apply below_alloc | apply pw_below_drewN | apply below_drew1) | exact HB.out)) hb); clear HO604; clear HO608; clear HB; have HO604 := n0_; have HO608 := n1_; have HO611 := n2_; have HB := n3_; clear n0_ n1_ n2_ n3_; clear hb ho39; obtain ⟨Ao40, co40, eo40⟩ := Kd.R_slice HO611.out; subst eo40) | ((with_reducible refine gate_callee (f := 18) rfl ?_); refine goesL_ (some 84) rfl rfl Tryd.func18 (by kernel_rfl) rfl #[.slice Ao36 y602.length co36, .slice Ao40 y609.length co40] rfl (by (try simp only [List.map_toArray, List.map_cons, List.map_nil]); first | done | rfl | (simp only [List.length_drop, List.length_take]; rfl)) ?_; (with_reducible refine (share_Parts.calls kj15 _ _ y602 _ _ y609 t612 t613 _ ?side1 ?side2 ?side3 ?side4 ?side5 A33.out).mono ?_); (case side1 => exact Glob.below HG.out (by repeat (first | (with_reducible first | exact HB.out | apply below_alloc | apply pw_below_drewN | apply below_drew1) | exact HB.out))); (case side2 => repeat (first | exact (Kd.R_reads' HO604.out).2.2 | (with_reducible refine Kd.C_alloc ?_ _) | (with_reducible refine Kd.C_drewN ?_ _) | (with_reducible refine Kd.C_drew ?_))); (case side3 => exact (Kd.R_reads' HO604.out).2.1); (case side4 => repeat (first | exact (Kd.R_reads' HO611.out).2.2 | (with_reducible refine Kd.C_alloc ?_ _) | (with_reducible refine Kd.C_drewN ?_ _) | (with_reducible refine Kd.C_drew ?_))); (case side5 => exact (Kd.R_reads' HO611.out).2.1); rintro e w41 ⟨v614, rfl, ho0, hb⟩; refine ⟨_, rfl, ?_⟩; have n0_ := Aside0.mk (Kd.R_below (by (with_reducible repeat (first | apply Kd.R_alloc | apply Kd.R_drewN | apply Kd.R_drew)); exact HO604.out) hb); have n1_ := Aside0.mk (Kd.R_elder' (by (with_reducible repeat (first | apply Kd.R_alloc | apply Kd.R_drewN | apply Kd.R_drew)); exact HO608.out) (Kd.R_base ho0) hb); have n2_ := Aside0.mk (Kd.R_elder' (by (with_reducible repeat (first | apply Kd.R_alloc | apply Kd.R_drewN | apply Kd.R_drew)); exact HO611.out) (Kd.R_base ho0) hb); have n3_ := Aside0.mk (Kd.R_lower (Kd.R_new' (Kd.R_new' ho0 (Kd.R_lt (by (with_reducible repeat (first | apply Kd.R_alloc | apply Kd.R_drewN | apply Kd.R_drew)); exact HO608.out))) (Kd.R_lt (by (with_reducible repeat (first | apply Kd.R_alloc | apply Kd.R_drewN | apply Kd.R_drew)); exact HO611.out))) (below_size (by repeat (first | (with_reducible first | exact HB.out | apply below_alloc | apply pw_below_drewN | apply below_drew1) | exact HB.out)))); have n4_ := Aside0.mk (below_step (by repeat (first | (with_reducible first | exact HB.out | apply below_alloc | apply pw_below_drewN | apply below_drew1) | exact HB.out)) hb); clear HO604; clear HO608; clear HO611; clear HB; have HO604 := n0_; have HO608 := n1_; have HO611 := n2_; have HO615 := n3_; have HB := n4_; clear n0_ n1_ n2_ n3_ n4_; (try clear hb); (try clear hb2); (try clear hk); (try clear hi); (try clear ho0)))
              (try simp only [Act.put, List.setIfInBounds_toArray, List.set_cons_zero, List.set_cons_succ])
              go_cut [108] (fun v108 wc => ∃ (kq : Nat) (x108_33 : Bool), v108 = .bool x108_33 ∧ Aside0 (gangerlaw11_ShareOnly.j2 kq a0 a1 t612 x108_33 = some r) ∧ Aside0 (kq ≤ kj15) ∧ Aside0 (Kd.R (Kd.int .i64) 3 wc w.heap.size (fun _ => True) v614 t612) ∧ Aside0 (Below w.heap.size w wc))
              case first =>
                have H := HC34.out
                clear HC34
                by_cases c42 : t606 = 0
                · rw [if_pos c42] at H
                  have c42b0 : (t606 == 0) = true := beq_iff_eq.mpr c42
                  have c42b1 : (t606 != 0) = false := bne_eq_false_iff_eq.mpr c42
                  clear c42
                  (first | rw [c42b0] | (simp only [i64_w, i32_w]; rw [c42b0]) | skip)
                  by_cases c43 : t613 = 0
                  · rw [if_pos c43] at H
                    have c43b0 : (t613 == 0) = true := beq_iff_eq.mpr c43
                    have c43b1 : (t613 != 0) = false := bne_eq_false_iff_eq.mpr c43
                    clear c43
                    by_cases c44 : (t605.length : Int) = 2
                    · rw [if_pos c44] at H
                      have c44b0 : ((t605.length : Int) == 2) = true := beq_iff_eq.mpr c44
                      have c44b1 : ((t605.length : Int) != 2) = false := bne_eq_false_iff_eq.mpr c44
                      clear c44
                      by_cases c45 : 1 < (t605.length : Int)
                      · rw [if_pos c45] at H
                        have c45b0 : decide (1 < (t605.length : Int)) = true := decide_eq_true c45
                        have c45b1 : decide (1 < t605.length) = true := decide_eq_true (by omega)
                        clear c45
                        by_cases c46 : (rd t605 1) = 65536
                        · rw [if_pos c46] at H
                          have c46b0 : ((rd t605 1) == 65536) = true := beq_iff_eq.mpr c46
                          have c46b1 : ((rd t605 1) != 65536) = false := bne_eq_false_iff_eq.mpr c46
                          clear c46
                          have H' := Aside0.mk H
                          clear H
                          obtain ⟨Ao47, co47, eo47⟩ := Kd.R_slice HO608.out
                          subst eo47
                          have p616 : 0 ≤ (1 : Int) := (by omega)
                          have q616 : 1 < (t605.length : Int) := of_decide_eq_true (by first | (with_reducible assumption) | assumption)
                          obtain ⟨ad616, e616, hx616_0⟩ := Kd.at_int (Kd.R_reads' HO608.out).2.2 1 p616 q616
                          cases e616
                          (try simp only [show (1 : Int).toNat = 1 from rfl, Nat.reduceMul, Nat.reduceEqDiff, Go.Addr.add, ↓reduceIte] at hx616_0)
                          have qi616 : (1 < t605.length) = True := eq_true (by omega)
                          (try rw [show ((1 : Int)).toNat = 1 from rfl] at hx616_0)
                          replace p616 := eq_true p616
                          replace q616 := eq_true q616
                          obtain ⟨Ao48, co48, eo48⟩ := Kd.R_slice HO615.out
                          subst eo48
                          go_wp2
                          go_meet
                          case rel => exact ⟨_, (((t612.length : Int) != 2)), (by first | rfl | (simp; done) | (simp [*]; done)), H', ⟨by have := HJ5.out; have := HJ15.out; first | omega | exact Nat.le_refl _⟩, ⟨by (with_reducible repeat (first | apply Kd.R_alloc | apply Kd.R_drewN | apply Kd.R_drew)); exact Kd.R_mono HO615.out (fun _ hk => trivial)⟩, ⟨by repeat (first | (with_reducible first | exact HB.out | apply below_alloc | apply pw_below_drewN | apply below_drew1) | exact HB.out)⟩⟩
                        · rw [if_neg c46] at H
                          have c46b0 : ((rd t605 1) == 65536) = false := beq_eq_false_iff_ne.mpr c46
                          have c46b1 : ((rd t605 1) != 65536) = true := bne_iff_ne.mpr c46
                          have H' := Aside0.mk H
                          clear H
                          obtain ⟨Ao49, co49, eo49⟩ := Kd.R_slice HO608.out
                          subst eo49
                          have p616 : 0 ≤ (1 : Int) := (by omega)
                          have q616 : 1 < (t605.length : Int) := of_decide_eq_true (by first | (with_reducible assumption) | assumption)
                          obtain ⟨ad616, e616, hx616_0⟩ := Kd.at_int (Kd.R_reads' HO608.out).2.2 1 p616 q616
                          cases e616
                          (try simp only [show (1 : Int).toNat = 1 from rfl, Nat.reduceMul, Nat.reduceEqDiff, Go.Addr.add, ↓reduceIte] at hx616_0)
                          have qi616 : (1 < t605.length) = True := eq_true (by omega)
                          (try rw [show ((1 : Int)).toNat = 1 from rfl] at hx616_0)
                          replace p616 := eq_true p616
                          replace q616 := eq_true q616
                          go_wp2
                          go_meet
                          case rel => exact ⟨_, (true), (by first | rfl | (simp; done) | (simp [*]; done)), H', ⟨by have := HJ5.out; have := HJ15.out; first | omega | exact Nat.le_refl _⟩, ⟨by (with_reducible repeat (first | apply Kd.R_alloc | apply Kd.R_drewN | apply Kd.R_drew)); exact Kd.R_mono HO615.out (fun _ hk => trivial)⟩, ⟨by repeat (first | (with_reducible first | exact HB.out | apply below_alloc | apply pw_below_drewN | apply below_drew1) | exact HB.out)⟩⟩
                      · rw [if_neg c45] at H
                        exact absurd H (by simp)
                    · rw [if_neg c44] at H
                      have c44b0 : ((t605.length : Int) == 2) = false := beq_eq_false_iff_ne.mpr c44
                      have c44b1 : ((t605.length : Int) != 2) = true := bne_iff_ne.mpr c44
                      have H' := Aside0.mk H
                      clear H
                      obtain ⟨Ao50, co50, eo50⟩ := Kd.R_slice HO608.out
                      subst eo50
                      go_wp2
                      go_meet
                      case rel => exact ⟨_, (true), (by first | rfl | (simp; done) | (simp [*]; done)), H', ⟨by have := HJ5.out; have := HJ15.out; first | omega | exact Nat.le_refl _⟩, ⟨by (with_reducible repeat (first | apply Kd.R_alloc | apply Kd.R_drewN | apply Kd.R_drew)); exact Kd.R_mono HO615.out (fun _ hk => trivial)⟩, ⟨by repeat (first | (with_reducible first | exact HB.out | apply below_alloc | apply pw_below_drewN | apply below_drew1) | exact HB.out)⟩⟩
                  · rw [if_neg c43] at H
                    have c43b0 : (t613 == 0) = false := beq_eq_false_iff_ne.mpr c43
                    have c43b1 : (t613 != 0) = true := bne_iff_ne.mpr c43
                    have H' := Aside0.mk H
                    clear H
                    go_wp2
                    go_meet
                    case rel => exact ⟨_, (true), (by first | rfl | (simp; done) | (simp [*]; done)), H', ⟨by have := HJ5.out; have := HJ15.out; first | omega | exact Nat.le_refl _⟩, ⟨by (with_reducible repeat (first | apply Kd.R_alloc | apply Kd.R_drewN | apply Kd.R_drew)); exact Kd.R_mono HO615.out (fun _ hk => trivial)⟩, ⟨by repeat (first | (with_reducible first | exact HB.out | apply below_alloc | apply pw_below_drewN | apply below_drew1) | exact HB.out)⟩⟩
                · rw [if_neg c42] at H
                  have c42b0 : (t606 == 0) = false := beq_eq_false_iff_ne.mpr c42
                  have c42b1 : (t606 != 0) = true := bne_iff_ne.mpr c42
                  (first | rw [c42b0] | (simp only [i64_w, i32_w]; rw [c42b0]) | skip)
                  have H' := Aside0.mk H
                  clear H
                  go_wp2
                  go_meet
                  case rel => exact ⟨_, (true), (by first | rfl | (simp; done) | (simp [*]; done)), H', ⟨by have := HJ5.out; have := HJ15.out; first | omega | exact Nat.le_refl _⟩, ⟨by (with_reducible repeat (first | apply Kd.R_alloc | apply Kd.R_drewN | apply Kd.R_drew)); exact Kd.R_mono HO615.out (fun _ hk => trivial)⟩, ⟨by repeat (first | (with_reducible first | exact HB.out | apply below_alloc | apply pw_below_drewN | apply below_drew1) | exact HB.out)⟩⟩
              case rest =>
                clear HC34
                try clear c1
                try clear c2
                try clear p2
                try clear c3
                try clear c4
                try clear p6
                try clear q6
                try clear hx6
                try clear qi6
                try clear c9
                try clear c15
                try clear c15b0
                try clear c16
                try clear c17
                try clear c17b0
                try clear c17b1
                try clear c18
                try clear c18b0
                try clear c18b1
                try clear c19
                try clear c19b0
                try clear c19b1
                try clear c20
                try clear c20b0
                try clear c20b1
                try clear c21
                try clear c21b0
                try clear c21b1
                try clear c22
                try clear c22b0
                try clear c22b1
                try clear c23
                try clear c23b0
                try clear c23b1
                try clear c30
                try clear c31
                try clear c42
                try clear c42b0
                try clear c42b1
                try clear c43
                try clear c43b0
                try clear c43b1
                try clear c44
                try clear c44b0
                try clear c44b1
                try clear c45
                try clear c45b0
                try clear c45b1
                try clear c46
                try clear c46b0
                try clear c46b1
                try clear hx600_0
                try clear hx601_0
                try clear hx616_0
                try clear p2
                try clear p6
                try clear p600
                try clear p601
                try clear p616
                try clear q6
                try clear q600
                try clear q601
                try clear q616
                obtain ⟨kq, x108_33, rfl, HA, HJ33, HO_13, HB⟩ := hcut
                cases kq with
                | zero => exact absurd HA.out (by simp [gangerlaw11_ShareOnly.j2])
                | succ kj33 =>
                  have H := HA.out
                  clear HA
                  simp only [gangerlaw11_ShareOnly.j2] at H
                  by_cases c51 : x108_33 = true
                  · subst c51
                    have H1 : (none) = some r := by rw [if_pos rfl] at H; exact H
                    clear H
                    have H := H1
                    clear H1
                    exact absurd H (by simp)
                  · replace c51 := Bool.eq_false_iff.mpr c51
                    subst c51
                    have H1 : (if (wrap64 ((wrap64 (a0)) + (wrap64 (a1)))) = 0 then (if 0 < (t612.length : Int) then (if (rd t612 0) = 0 then (if 1 < (t612.length : Int) then (if (rd t612 1) = 0 then ((gangerlaw11_known.f kj33).bind fun t619 => (some t619)) else (none)) else (none)) else (none)) else (none)) else (if 0 < (t612.length : Int) then (if (rd t612 0) = 65536 then (if 1 < (t612.length : Int) then (if (rd t612 1) = (wrap64 (Int.tdiv (wrap64 ((wrap64 (a1)) * 65536)) (wrap64 ((wrap64 (a0)) + (wrap64 (a1)))))) then ((gangerlaw11_known.f kj33).bind fun t622 => (some t622)) else (none)) else (none)) else (none)) else (none))) = some r := by rw [if_neg (show ¬ (false = true) by decide)] at H; exact H
                    clear H
                    have H := H1
                    clear H1
                    by_cases c52 : (wrap64 ((wrap64 (a0)) + (wrap64 (a1)))) = 0
                    · rw [if_pos c52] at H
                      have c52b0 : ((wrap64 ((wrap64 (a0)) + (wrap64 (a1)))) == 0) = true := beq_iff_eq.mpr c52
                      have c52b1 : ((wrap64 ((wrap64 (a0)) + (wrap64 (a1)))) != 0) = false := bne_eq_false_iff_eq.mpr c52
                      clear c52
                      by_cases c53 : 0 < (t612.length : Int)
                      · rw [if_pos c53] at H
                        have c53b0 : decide (0 < (t612.length : Int)) = true := decide_eq_true c53
                        have c53b1 : decide (0 < t612.length) = true := decide_eq_true (by omega)
                        clear c53
                        by_cases c54 : (rd t612 0) = 0
                        · rw [if_pos c54] at H
                          have c54b0 : ((rd t612 0) == 0) = true := beq_iff_eq.mpr c54
                          have c54b1 : ((rd t612 0) != 0) = false := bne_eq_false_iff_eq.mpr c54
                          clear c54
                          by_cases c55 : 1 < (t612.length : Int)
                          · rw [if_pos c55] at H
                            have c55b0 : decide (1 < (t612.length : Int)) = true := decide_eq_true c55
                            have c55b1 : decide (1 < t612.length) = true := decide_eq_true (by omega)
                            clear c55
                            by_cases c56 : (rd t612 1) = 0
                            · rw [if_pos c56] at H
                              have c56b0 : ((rd t612 1) == 0) = true := beq_iff_eq.mpr c56
                              have c56b1 : ((rd t612 1) != 0) = false := bne_eq_false_iff_eq.mpr c56
                              clear c56
                              replace H := Option.bind_eq_some_iff.mp H
                              obtain ⟨t619, A570, H⟩ := H
                              replace H : (some t619) = some r := H
                              have A57 := Aside0.mk A570
                              clear A570
                              obtain rfl := Option.some.inj H
                              obtain ⟨Ao58, co58, eo58⟩ := Kd.R_slice HO_13.out
                              subst eo58
                              have p617 : 0 ≤ (0 : Int) := (by omega)
                              have q617 : 0 < (t612.length : Int) := of_decide_eq_true (by first | (with_reducible assumption) | assumption)
                              obtain ⟨ad617, e617, hx617_0⟩ := Kd.at_int (Kd.R_reads' HO_13.out).2.2 0 p617 q617
                              cases e617
                              have qi617 : (0 < t612.length) = True := eq_true (by omega)
                              (try rw [show ((0 : Int)).toNat = 0 from rfl] at hx617_0)
                              (try rw [Addr.add_zero'] at hx617_0)
                              replace p617 := eq_true p617
                              replace q617 := eq_true q617
                              have p618 : 0 ≤ (1 : Int) := (by omega)
                              have q618 : 1 < (t612.length : Int) := of_decide_eq_true (by first | (with_reducible assumption) | assumption)
                              obtain ⟨ad618, e618, hx618_0⟩ := Kd.at_int (Kd.R_reads' HO_13.out).2.2 1 p618 q618
                              obtain rfl : ad617 = ad618 := (by injection e618)
                              (try simp only [show (1 : Int).toNat = 1 from rfl, Nat.reduceMul, Nat.reduceEqDiff, Go.Addr.add, ↓reduceIte] at hx618_0)
                              have qi618 : (1 < t612.length) = True := eq_true (by omega)
                              (try rw [show ((1 : Int)).toNat = 1 from rfl] at hx618_0)
                              replace p618 := eq_true p618
                              replace q618 := eq_true q618
                              go_wp2_with (first | (go_at_call 11; (with_reducible refine (gangerlaw11_known.calls kj33  t619 _ ?side1 A57.out).mono ?_); (case side1 => exact Glob.below HG.out (by repeat (first | (with_reducible first | exact HB.out | apply below_alloc | apply pw_below_drewN | apply below_drew1) | exact HB.out))); rintro e w59 ⟨rfl, hb⟩; have n0_ := Aside0.mk (Kd.R_below (by (with_reducible repeat (first | apply Kd.R_alloc | apply Kd.R_drewN | apply Kd.R_drew)); exact HO_13.out) hb); have n1_ := Aside0.mk (below_step (by repeat (first | (with_reducible first | exact HB.out | apply below_alloc | apply pw_below_drewN | apply below_drew1) | exact HB.out)) hb); clear HO_13; clear HB; have HO_13 := n0_; have HB := n1_; clear n0_ n1_; (try clear hb); (try clear hb2); (try clear hk); (try clear hi)))
                              go_ret
                              exact ⟨by first | rfl | (simp [errW_none, errW_some] <;> rfl) | (simp [*, errW_none, errW_some] <;> rfl), by repeat (first | (with_reducible first | exact HB.out | apply below_alloc | apply pw_below_drewN | apply below_drew1) | exact HB.out)⟩
                            · rw [if_neg c56] at H
                              exact absurd H (by simp)
                          · rw [if_neg c55] at H
                            exact absurd H (by simp)
                        · rw [if_neg c54] at H
                          exact absurd H (by simp)
                      · rw [if_neg c53] at H
                        exact absurd H (by simp)
                    · rw [if_neg c52] at H
                      have c52b0 : ((wrap64 ((wrap64 (a0)) + (wrap64 (a1)))) == 0) = false := beq_eq_false_iff_ne.mpr c52
                      have c52b1 : ((wrap64 ((wrap64 (a0)) + (wrap64 (a1)))) != 0) = true := bne_iff_ne.mpr c52
                      by_cases c60 : 0 < (t612.length : Int)
                      · rw [if_pos c60] at H
                        have c60b0 : decide (0 < (t612.length : Int)) = true := decide_eq_true c60
                        have c60b1 : decide (0 < t612.length) = true := decide_eq_true (by omega)
                        clear c60
                        by_cases c61 : (rd t612 0) = 65536
                        · rw [if_pos c61] at H
                          have c61b0 : ((rd t612 0) == 65536) = true := beq_iff_eq.mpr c61
                          have c61b1 : ((rd t612 0) != 65536) = false := bne_eq_false_iff_eq.mpr c61
                          clear c61
                          by_cases c62 : 1 < (t612.length : Int)
                          · rw [if_pos c62] at H
                            have c62b0 : decide (1 < (t612.length : Int)) = true := decide_eq_true c62
                            have c62b1 : decide (1 < t612.length) = true := decide_eq_true (by omega)
                            clear c62
                            by_cases c63 : (rd t612 1) = (wrap64 (Int.tdiv (wrap64 ((wrap64 (a1)) * 65536)) (wrap64 ((wrap64 (a0)) + (wrap64 (a1))))))
                            · rw [if_pos c63] at H
                              have c63b0 : ((rd t612 1) == (wrap64 (Int.tdiv (wrap64 ((wrap64 (a1)) * 65536)) (wrap64 ((wrap64 (a0)) + (wrap64 (a1))))))) = true := beq_iff_eq.mpr c63
                              have c63b1 : ((rd t612 1) != (wrap64 (Int.tdiv (wrap64 ((wrap64 (a1)) * 65536)) (wrap64 ((wrap64 (a0)) + (wrap64 (a1))))))) = false := bne_eq_false_iff_eq.mpr c63
                              clear c63
                              replace H := Option.bind_eq_some_iff.mp H
                              obtain ⟨t622, A640, H⟩ := H
                              replace H : (some t622) = some r := H
                              have A64 := Aside0.mk A640
                              clear A640
                              obtain rfl := Option.some.inj H
                              try go_wp2
                              have n0_ := Aside0.mk (Kd.R_drew HO_13.out)
                              have n1_ := Aside0.mk (below_drew1 HB.out)
                              clear HO_13
                              clear HB
                              have HO_13 := n0_
                              have HB := n1_
                              clear n0_ n1_
                              obtain ⟨Ao66, co66, eo66⟩ := Kd.R_slice HO_13.out
                              (first | subst eo66 | (injection eo66 with f1_ f2_ f3_; have f4_ := f1_.symm; have f5_ := f3_.symm; clear f1_ f2_ f3_; subst f4_; subst f5_))
                              have p620 : 0 ≤ (0 : Int) := (by omega)
                              have q620 : 0 < (t612.length : Int) := of_decide_eq_true (by first | (with_reducible assumption) | assumption)
                              obtain ⟨ad620, e620, hx620_0⟩ := Kd.at_int (Kd.R_reads' HO_13.out).2.2 0 p620 q620
                              cases e620
                              have qi620 : (0 < t612.length) = True := eq_true (by omega)
                              (try rw [show ((0 : Int)).toNat = 0 from rfl] at hx620_0)
                              (try rw [Addr.add_zero'] at hx620_0)
                              replace p620 := eq_true p620
                              replace q620 := eq_true q620
                              have p621 : 0 ≤ (1 : Int) := (by omega)
                              have q621 : 1 < (t612.length : Int) := of_decide_eq_true (by first | (with_reducible assumption) | assumption)
                              obtain ⟨ad621, e621, hx621_0⟩ := Kd.at_int (Kd.R_reads' HO_13.out).2.2 1 p621 q621
                              obtain rfl : ad620 = ad621 := (by injection e621)
                              (try simp only [show (1 : Int).toNat = 1 from rfl, Nat.reduceMul, Nat.reduceEqDiff, Go.Addr.add, ↓reduceIte] at hx621_0)
                              have qi621 : (1 < t612.length) = True := eq_true (by omega)
                              (try rw [show ((1 : Int)).toNat = 1 from rfl] at hx621_0)
                              replace p621 := eq_true p621
                              replace q621 := eq_true q621
                              refine start_ (n := 19) (S := fun w' => w'.cell? ad620 = some (.int .i64 (rd t612 0)) ∧ w'.cell? ⟨ad620.block, ad620.off + 1, none⟩ = some (.int .i64 (rd t612 1))) (ds := []) #[false, false, false, false, false, false, false, false, false, false, false, false, false, false, false, false, false, false, false] (by kernel_rfl) rfl rfl ⟨hx620_0, hx621_0⟩ (fun hHeld => ?_); refine with_tabW gangerlaw11_ShareOnly.tab17 gangerlaw11_ShareOnly.bits17 (fun HT_ HW_ => ?_)
                              generalize wc.drew = w65 at HO_13 HB hx620_0 hx621_0 hHeld ⊢
                              refine pure_ (i := 0) (N := some 129) (v := ?_) (a' := ?_) #[true, false, false, false, false, false, false, false, false, false, false, false, false, false, false, false, false, false, false] rfl rfl (any_of HT_.out (by kernel_rfl)) (fun _ _ _ h => h) (Or.inl ⟨by rfl, ?_⟩) ?_ ?_
                              rotate_left
                              · intro w'
                                go_simp
                                with_reducible rfl
                              rotate_left
                              · simp only [Act.put, List.setIfInBounds_toArray, List.set_cons_zero, List.set_cons_succ, i64_w, i32_w]
                                rfl
                              refine pure_ (i := 1) (N := some 130) (v := ?_) (a' := ?_) #[true, true, false, false, false, false, false, false, false, false, false, false, false, false, false, false, false, false, false] rfl rfl (any_of HT_.out (by kernel_rfl)) (fun _ _ _ h => h) (Or.inl ⟨by rfl, ?_⟩) ?_ ?_
                              rotate_left
                              · intro w'
                                go_simp
                                with_reducible rfl
                              rotate_left
                              · simp only [Act.put, List.setIfInBounds_toArray, List.set_cons_zero, List.set_cons_succ, i64_w, i32_w]
                                rfl
                              refine take_ (i := 2) (N := some 131) (v := ?_) (a' := ?_) #[true, true, true, false, false, false, false, false, false, false, false, false, false, false, false, false, false, false, false] rfl rfl (take_ofW HT_.out HW_.out (by kernel_rfl)) (fun _ _ _ h => h) (Or.inl ⟨by rfl, ?_⟩) hHeld ?_ ?_
                              rotate_left
                              · rintro w' ⟨s0, s1⟩
                                go_simp
                                with_reducible rfl
                              rotate_left
                              · simp only [Act.put, List.setIfInBounds_toArray, List.set_cons_zero, List.set_cons_succ, i64_w, i32_w]
                                rfl
                              refine pure_ (i := 3) (N := some 132) (v := ?_) (a' := ?_) #[true, true, true, true, false, false, false, false, false, false, false, false, false, false, false, false, false, false, false] rfl rfl (any_of HT_.out (by kernel_rfl)) (fun _ _ _ h => h) (Or.inl ⟨by rfl, ?_⟩) ?_ ?_
                              rotate_left
                              · intro w'
                                go_simp
                                with_reducible rfl
                              rotate_left
                              · simp only [Act.put, List.setIfInBounds_toArray, List.set_cons_zero, List.set_cons_succ, i64_w, i32_w]
                                rfl
                              refine pure_ (i := 4) (N := some 133) (v := ?_) (a' := ?_) #[true, true, true, true, true, false, false, false, false, false, false, false, false, false, false, false, false, false, false] rfl rfl (any_of HT_.out (by kernel_rfl)) (fun _ _ _ h => h) (Or.inl ⟨by rfl, ?_⟩) ?_ ?_
                              rotate_left
                              · intro w'
                                go_simp
                                with_reducible rfl
                              rotate_left
                              · simp only [Act.put, List.setIfInBounds_toArray, List.set_cons_zero, List.set_cons_succ, i64_w, i32_w]
                                rfl
                              refine pure_ (i := 5) (N := some 134) (v := ?_) (a' := ?_) #[true, true, true, true, true, true, false, false, false, false, false, false, false, false, false, false, false, false, false] rfl rfl (any_of HT_.out (by kernel_rfl)) (fun _ _ _ h => h) (Or.inl ⟨by rfl, ?_⟩) ?_ ?_
                              rotate_left
                              · intro w'
                                go_simp
                                with_reducible rfl
                              rotate_left
                              · simp only [Act.put, List.setIfInBounds_toArray, List.set_cons_zero, List.set_cons_succ, i64_w, i32_w]
                                rfl
                              refine pure_ (i := 6) (N := some 135) (v := ?_) (a' := ?_) #[true, true, true, true, true, true, true, false, false, false, false, false, false, false, false, false, false, false, false] rfl rfl (any_of HT_.out (by kernel_rfl)) (fun _ _ _ h => h) (Or.inl ⟨by rfl, ?_⟩) ?_ ?_
                              rotate_left
                              · intro w'
                                go_simp
                                with_reducible rfl
                              rotate_left
                              · simp only [Act.put, List.setIfInBounds_toArray, List.set_cons_zero, List.set_cons_succ, i64_w, i32_w]
                                rfl
                              refine pure_ (i := 8) (N := some 137) (v := ?_) (a' := ?_) #[true, true, true, true, true, true, true, false, true, false, false, false, false, false, false, false, false, false, false] rfl rfl (any_of HT_.out (by kernel_rfl)) (fun _ _ _ h => h) (Or.inl ⟨by rfl, ?_⟩) ?_ ?_
                              rotate_left
                              · intro w'
                                go_simp
                                with_reducible rfl
                              rotate_left
                              · simp only [Act.put, List.setIfInBounds_toArray, List.set_cons_zero, List.set_cons_succ, i64_w, i32_w]
                                rfl
                              refine pure_ (i := 9) (N := some 138) (v := ?_) (a' := ?_) #[true, true, true, true, true, true, true, false, true, true, false, false, false, false, false, false, false, false, false] rfl rfl (any_of HT_.out (by kernel_rfl)) (fun _ _ _ h => h) (Or.inl ⟨by rfl, ?_⟩) ?_ ?_
                              rotate_left
                              · intro w'
                                go_simp
                                with_reducible rfl
                              rotate_left
                              · simp only [Act.put, List.setIfInBounds_toArray, List.set_cons_zero, List.set_cons_succ, i64_w, i32_w]
                                rfl
                              refine pure_ (i := 10) (N := some 139) (v := ?_) (a' := ?_) #[true, true, true, true, true, true, true, false, true, true, true, false, false, false, false, false, false, false, false] rfl rfl (any_of HT_.out (by kernel_rfl)) (fun _ _ _ h => h) (Or.inl ⟨by rfl, ?_⟩) ?_ ?_
                              rotate_left
                              · intro w'
                                go_simp
                                with_reducible rfl
                              rotate_left
                              · simp only [Act.put, List.setIfInBounds_toArray, List.set_cons_zero, List.set_cons_succ, i64_w, i32_w]
                                rfl
                              refine pure_ (i := 11) (N := some 140) (v := ?_) (a' := ?_) #[true, true, true, true, true, true, true, false, true, true, true, true, false, false, false, false, false, false, false] rfl rfl (any_of HT_.out (by kernel_rfl)) (fun _ _ _ h => h) (Or.inl ⟨by rfl, ?_⟩) ?_ ?_
                              rotate_left
                              · intro w'
                                go_simp
                                with_reducible rfl
                              rotate_left
                              · simp only [Act.put, List.setIfInBounds_toArray, List.set_cons_zero, List.set_cons_succ, i64_w, i32_w]
                                rfl
                              refine pure_ (i := 12) (N := some 141) (v := ?_) (a' := ?_) #[true, true, true, true, true, true, true, false, true, true, true, true, true, false, false, false, false, false, false] rfl rfl (any_of HT_.out (by kernel_rfl)) (fun _ _ _ h => h) (Or.inl ⟨by rfl, ?_⟩) ?_ ?_
                              rotate_left
                              · intro w'
                                go_simp
                                with_reducible rfl
                              rotate_left
                              · simp only [Act.put, List.setIfInBounds_toArray, List.set_cons_zero, List.set_cons_succ, i64_w, i32_w]
                                rfl
                              refine take_ (i := 7) (N := some 136) (v := ?_) (a' := ?_) #[true, true, true, true, true, true, true, true, true, true, true, true, true, false, false, false, false, false, false] rfl rfl (take_ofW HT_.out HW_.out (by kernel_rfl)) (fun _ _ _ h => h) (Or.inl ⟨by rfl, ?_⟩) hHeld ?_ ?_
                              rotate_left
                              · rintro w' ⟨s0, s1⟩
                                go_simp
                                with_reducible rfl
                              rotate_left
                              · simp only [Act.put, List.setIfInBounds_toArray, List.set_cons_zero, List.set_cons_succ, i64_w, i32_w]
                                rfl
                              refine pure_ (i := 13) (N := some 142) (v := ?_) (a' := ?_) #[true, true, true, true, true, true, true, true, true, true, true, true, true, true, false, false, false, false, false] rfl rfl (any_of HT_.out (by kernel_rfl)) (fun _ _ _ h => h) (Or.inl ⟨by rfl, ?_⟩) ?_ ?_
                              rotate_left
                              · intro w'
                                go_simp
                                with_reducible rfl
                              rotate_left
                              · simp only [Act.put, List.setIfInBounds_toArray, List.set_cons_zero, List.set_cons_succ, i64_w, i32_w]
                                rfl
                              refine pure_ (i := 14) (N := some 143) (v := ?_) (a' := ?_) #[true, true, true, true, true, true, true, true, true, true, true, true, true, true, true, false, false, false, false] rfl rfl (any_of HT_.out (by kernel_rfl)) (fun _ _ _ h => h) (Or.inl ⟨by rfl, ?_⟩) ?_ ?_
                              rotate_left
                              · intro w'
                                go_simp
                                with_reducible rfl
                              rotate_left
                              · simp only [Act.put, List.setIfInBounds_toArray, List.set_cons_zero, List.set_cons_succ, i64_w, i32_w]
                                rfl
                              refine pure_ (i := 15) (N := some 144) (v := ?_) (a' := ?_) #[true, true, true, true, true, true, true, true, true, true, true, true, true, true, true, true, false, false, false] rfl rfl (any_of HT_.out (by kernel_rfl)) (fun _ _ _ h => h) (Or.inl ⟨by rfl, ?_⟩) ?_ ?_
                              rotate_left
                              · intro w'
                                go_simp
                                with_reducible rfl
                              rotate_left
                              · simp only [Act.put, List.setIfInBounds_toArray, List.set_cons_zero, List.set_cons_succ, i64_w, i32_w]
                                rfl
                              refine one_ (i := 16) (N := some 145) #[true, true, true, true, true, true, true, true, true, true, true, true, true, true, true, true, true, false, false] rfl rfl (one_of HT_.out (by kernel_rfl)) (by decide) (fun K hK => ?_)
                              refine goes_ Tryd.func11 (by kernel_rfl) rfl #[] (by rfl) rfl rfl (by (try simp only [List.map_toArray, List.map_cons, List.map_nil]); first | done | rfl | (simp only [List.length_drop, List.length_take]; rfl)) ?_
                              with_reducible refine (gangerlaw11_known.calls kj33  t622 _ ?side1 A64.out).mono ?_
                              (case side1 => exact Glob.below HG.out (by repeat (first | (with_reducible first | exact HB.out | apply below_alloc | apply pw_below_drewN | apply below_drew1) | exact HB.out)))
                              rintro e w67 ⟨rfl, hb⟩
                              have HS0_ := (hb.cell (World.block_lt_of_cell? _ _ (hHeld.1))).trans (hHeld.1)
                              have HS1_ := (hb.cell (World.block_lt_of_cell? _ _ (hHeld.2))).trans (hHeld.2)
                              refine ⟨_, rfl, ?_⟩
                              have n0_ := Aside0.mk (Kd.R_below (by (with_reducible repeat (first | apply Kd.R_alloc | apply Kd.R_drewN | apply Kd.R_drew)); exact HO_13.out) hb)
                              have n1_ := Aside0.mk (below_step (by repeat (first | (with_reducible first | exact HB.out | apply below_alloc | apply pw_below_drewN | apply below_drew1) | exact HB.out)) hb)
                              clear HO_13
                              clear HB
                              have HO_13 := n0_
                              have HB := n1_
                              clear n0_ n1_
                              (try clear hb)
                              (try clear hb2)
                              (try clear hk)
                              (try clear hi)
                              refine hK.out _ _ ⟨HS0_, HS1_⟩ (fun hHeld => ?_)
                              clear hK K
                              refine norm_ (a' := ?_) ?_ ?_
                              rotate_left
                              · show Act.put _ (some 145) _ = _
                                simp only [Act.put, List.setIfInBounds_toArray, List.set_cons_zero, List.set_cons_succ, i64_w, i32_w]
                                rfl
                              refine pure_ (i := 17) (N := some 146) (v := ?_) (a' := ?_) #[true, true, true, true, true, true, true, true, true, true, true, true, true, true, true, true, true, true, false] rfl rfl (any_of HT_.out (by kernel_rfl)) (fun _ _ _ h => h) (Or.inl ⟨by rfl, ?_⟩) ?_ ?_
                              rotate_left
                              · intro w'
                                go_simp
                                with_reducible rfl
                              rotate_left
                              · simp only [Act.put, List.setIfInBounds_toArray, List.set_cons_zero, List.set_cons_succ, i64_w, i32_w]
                                rfl
                              refine pure_ (i := 18) (N := some 6) (v := ?_) (a' := ?_) #[true, true, true, true, true, true, true, true, true, true, true, true, true, true, true, true, true, true, true] rfl rfl (any_of HT_.out (by kernel_rfl)) (fun _ _ _ h => h) (Or.inl ⟨by rfl, ?_⟩) ?_ ?_
                              rotate_left
                              · intro w'
                                go_simp
                                with_reducible rfl
                              rotate_left
                              · simp only [Act.put, List.setIfInBounds_toArray, List.set_cons_zero, List.set_cons_succ, i64_w, i32_w]
                                rfl
                              refine done_ (done_of HT_.out (by kernel_rfl)) ?_
                              try go_wp2
                              go_ret
                              exact ⟨by first | rfl | (simp [errW_none, errW_some] <;> rfl) | (simp [*, errW_none, errW_some] <;> rfl), by repeat (first | (with_reducible first | exact HB.out | apply below_alloc | apply pw_below_drewN | apply below_drew1) | exact HB.out)⟩
                            · rw [if_neg c63] at H
                              have c63b0 : ((rd t612 1) == (wrap64 (Int.tdiv (wrap64 ((wrap64 (a1)) * 65536)) (wrap64 ((wrap64 (a0)) + (wrap64 (a1))))))) = false := beq_eq_false_iff_ne.mpr c63
                              have c63b1 : ((rd t612 1) != (wrap64 (Int.tdiv (wrap64 ((wrap64 (a1)) * 65536)) (wrap64 ((wrap64 (a0)) + (wrap64 (a1))))))) = true := bne_iff_ne.mpr c63
                              exact absurd H (by simp)
                          · rw [if_neg c62] at H
                            exact absurd H (by simp)
                        · rw [if_neg c61] at H
                          have c61b0 : ((rd t612 0) == 65536) = false := beq_eq_false_iff_ne.mpr c61
                          have c61b1 : ((rd t612 0) != 65536) = true := bne_iff_ne.mpr c61
                          exact absurd H (by simp)
                      · rw [if_neg c60] at H
                        exact absurd H (by simp)
            · rw [if_neg c31] at H
              exact absurd H (by simp)

/-- THE ONE PURE STATEMENT of gangerlaw11_ShareOnly: yours. -/
def gangerlaw11_ShareOnly.Pure : Prop := ∀ (a0 : Int) (a1 : Int) (a2 : Int), (Lit.int .u32 a0).wf = true → (Lit.int .u32 a1).wf = true → (Lit.int .u16 a2).wf = true → ∃ k, gangerlaw11_ShareOnly.f k a0 a1 a2 = some true
theorem gangerlaw11_ShareOnly.walk (P : gangerlaw11_ShareOnly.Pure) (a0 : Int) (a1 : Int) (a2 : Int) (w : World) (hG : Glob w) (w0 : (Lit.int .u32 a0).wf = true) (w1 : (Lit.int .u32 a1).wf = true) (w2 : (Lit.int .u16 a2).wf = true) :
    Calls Tryd.prog 9 #[.int .u32 a0, .int .u32 a1, .int .u16 a2] w fun e w' => e = .returned (.bool true) ∧ Below w.heap.size w w' := by
  obtain ⟨k, h⟩ := P a0 a1 a2 w0 w1 w2
  refine (gangerlaw11_ShareOnly.calls k a0 a1 a2 true w hG h).mono ?_
  rintro e w' ⟨rfl, hd⟩
  exact ⟨rfl, hd⟩

end Go.Proofs.YtfccdngejfnmkaaDoor.P
