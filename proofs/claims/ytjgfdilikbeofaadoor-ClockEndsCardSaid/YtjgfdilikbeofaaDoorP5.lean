/- The machine's side of the laws of this seat: each function's plain form and its contract, written by a program of this session out of Lean's print of the loaded functions; no condition beyond what each statement says. -/
import Derived.Test.YtjgfdilikbeofaaDoorP0
import Derived.Test.YtjgfdilikbeofaaDoorP3
namespace Go.Proofs.YtjgfdilikbeofaaDoor.P
open Go.RowKit Go.Proofs.YtjgfdilikbeofaaDoorW.PrintWords Go.Proofs.YtjgfdilikbeofaaDoorW.PrintLast Go.Proofs.YtjgfdilikbeofaaDoorW.PrintMore
attribute [local go_sem] max2_int min2_int max_two min_two max_three min_three max_four min_four   -- for this text's walks alone
set_option linter.unusedVariables false
set_option linter.unusedSimpArgs false

attribute [local go_sem] isSome_setCell
/-! ### gangerref06_Digits: function 17 -/
def gangerref06_Digits.f : Nat → Int → Option (ByteArray)
  | 0, _ => none
  | k + 1, a0 => if a0 < 10 then (some (strOfNums (([(wrap64 (48 + a0)) % 256] : List Int)))) else ((gangerref06_Digits.f k (wrap64 (Int.tdiv a0 10))).bind fun t189 => ((some (([(wrap64 (48 + (Int.tmod a0 10))) % 256] : List Int) : List Int)).bind fun y190 => (if t189.size + (strOfNums y190).size ≤ 9223372036854775807 then (some (t189 ++ (strOfNums y190))) else (none))))
theorem gangerref06_Digits.mono_l : ∀ k, (∀ y0, LeO (gangerref06_Digits.f k y0) (gangerref06_Digits.f (k + 1) y0))
  | 0 => fun _ r h => by simp [gangerref06_Digits.f] at h
  | k + 1 => by
    have ih0 := gangerref06_Digits.mono_l k
    · intro y0
      unfold gangerref06_Digits.f
      repeat' first
      | (with_reducible exact ih0 _)
      | (with_reducible exact LeO.refl _)
      | (with_reducible exact LeO.none _)
      | (with_reducible refine LeO.ite ?_ ?_)
      | (with_reducible refine LeO.bind ?_ (fun _ => ?_))
      | exact ih0 _
      | exact LeO.none _
      | refine LeO.ite ?_ ?_
      | refine LeO.bind ?_ (fun _ => ?_)
theorem gangerref06_Digits.mono : ∀ a0 k, LeO (gangerref06_Digits.f k a0) (gangerref06_Digits.f (k + 1) a0) := by
  intro a0 k
  have ih0 := gangerref06_Digits.mono_l k
  exact ih0 a0
def gangerref06_Digits.T3 : Bool × List (List Nat × List Nat) := (true, [([], []), ([0], [0]), ([1], [1]), ([], []), ([3], [3]), ([4], [4]), ([5], [5]), ([6], [6]), ([7], [7]), ([2, 8], [2, 8]), ([9, 2, 0, 1, 2, 3, 4, 5, 6, 7, 8, 9], [9])])
def gangerref06_Digits.B3 : List Nat := [0, 1, 3, 0, 8, 24, 56, 120, 248, 511, 1023]
theorem gangerref06_Digits.tab3 : rtab .any (opsOf Tryd.f17 3) = gangerref06_Digits.T3 := by kernel_rfl
theorem gangerref06_Digits.bits3 : waitsOk gangerref06_Digits.T3.2 gangerref06_Digits.B3 = true := by kernel_rfl
set_option maxHeartbeats 8000000 in
set_option maxRecDepth 100000 in
theorem gangerref06_Digits.calls (k : Nat) : ∀ (a0 : Int) (r : ByteArray) (w : World) (h : gangerref06_Digits.f k a0 = some r),
    Calls Tryd.prog 17 #[.int .i64 a0] w fun e w' => e = .returned (.string r) ∧ Below w.heap.size w w' := by
  induction k using Nat.strongRecOn with
  | _ k ih =>
  intro a0 r w h
  cases k with
  | zero => exact absurd h (by simp [gangerref06_Digits.f])
  | succ k =>
  simp only [gangerref06_Digits.f] at h
  have HB := Aside0.mk (Below.refl w.heap.size w)
  have H : (if a0 < 10 then (some (strOfNums (([(wrap64 (48 + a0)) % 256] : List Int)))) else ((gangerref06_Digits.f k (wrap64 (Int.tdiv a0 10))).bind fun t189 => ((some (([(wrap64 (48 + (Int.tmod a0 10))) % 256] : List Int) : List Int)).bind fun y190 => (if t189.size + (strOfNums y190).size ≤ 9223372036854775807 then (some (t189 ++ (strOfNums y190))) else (none))))) = some r := h
  clear h
  by_cases c2 : a0 < 10
  · rw [if_pos c2] at H
    have c2b0 : decide (a0 < 10) = true := decide_eq_true c2
    clear c2
    obtain ⟨y186, hy186⟩ : ∃ y_ : List Int, y_ = (([(wrap64 (48 + a0)) % 256] : List Int)) := ⟨_, rfl⟩
    replace H : (some (strOfNums y186)) = some r := by first | (rw [hy186]; with_reducible exact H) | (have H2_ := (Option.bind_some _ _).symm.trans H; rw [hy186]; with_reducible exact H2_) | (have H2_ := (Option.bind_some _ _).symm.trans H; with_reducible exact H2_) | with_reducible exact H | (rw [hy186]; exact H) | exact H
    have Ny186 := Aside0.mk hy186
    clear hy186
    obtain rfl := Option.some.inj H
    go_enter Tryd.func17, Tryd.ntmps17
    go_wp2_with (first | ((with_reducible refine gate_dst (N := 8) rfl ?_); refine Kd.R_lit (Kd.int .u8) _ 5 ?hg (N := 8) ?hd (xs := ([(wrap64 (48 + a0)) % 256] : List Int)) (inner := [.int .u8 ((wrap64 (48 + a0)) % 256)]) (ok := fun _ => True) (okp := fun _ => True) ?hr ?hp (fun _ hk => hk) trivial (Below.refl _ _) (Nat.le_refl _) (by simp) ?_; (case hd => rfl); (case hg => rfl); (case hr => first | (go_simp; done) | (go_simp; rfl)); (case hp => exact (Reps.one (show Kd.M (Kd.int .u8) _ _ _ ((wrap64 (48 + a0)) % 256) [.int .u8 ((wrap64 (48 + a0)) % 256)] from rfl) (Reps.none _ _))); intro v187 w3 ho4 hb hg_ hnew_; clear hg_ hnew_; (first | rw [← Ny186.out] at ho4 | (simp only [Int.reduceToNat] at ho4; rw [← Ny186.out] at ho4)); have n0_ := Aside0.mk (Kd.R_lower ho4 (below_size (by repeat (first | (with_reducible first | exact HB.out | apply below_alloc | apply pw_below_drewN | apply below_drew1) | exact HB.out)))); have n1_ := Aside0.mk (below_step (by repeat (first | (with_reducible first | exact HB.out | apply below_alloc | apply pw_below_drewN | apply below_drew1) | exact HB.out)) hb); clear HB; have HO188 := n0_; have HB := n1_; clear n0_ n1_; clear hb ho4; have hcv5 := own_string (P := Tryd.prog) Tryd.underlying52 Tryd.underlying5 Tryd.underlying9 (Kd.own_of_R HO188.out)))
    go_ret
    exact ⟨by first | rfl | (simp [errW_none, errW_some] <;> rfl) | (simp [*, errW_none, errW_some] <;> rfl), by repeat (first | (with_reducible first | exact HB.out | apply below_alloc | apply pw_below_drewN | apply below_drew1) | exact HB.out)⟩
  · rw [if_neg c2] at H
    have c2b0 : decide (a0 < 10) = false := decide_eq_false c2
    clear c2
    replace H := Option.bind_eq_some_iff.mp H
    obtain ⟨t189, A60, H⟩ := H
    replace H : ((some (([(wrap64 (48 + (Int.tmod a0 10))) % 256] : List Int) : List Int)).bind fun y190 => (if t189.size + (strOfNums y190).size ≤ 9223372036854775807 then (some (t189 ++ (strOfNums y190))) else (none))) = some r := H
    have A6 := Aside0.mk A60
    clear A60
    obtain ⟨y190, hy190⟩ : ∃ y_ : List Int, y_ = (([(wrap64 (48 + (Int.tmod a0 10))) % 256] : List Int)) := ⟨_, rfl⟩
    replace H : (if t189.size + (strOfNums y190).size ≤ 9223372036854775807 then (some (t189 ++ (strOfNums y190))) else (none)) = some r := by first | (rw [hy190]; with_reducible exact H) | (have H2_ := (Option.bind_some _ _).symm.trans H; rw [hy190]; with_reducible exact H2_) | (have H2_ := (Option.bind_some _ _).symm.trans H; with_reducible exact H2_) | with_reducible exact H | (rw [hy190]; exact H) | exact H
    have Ny190 := Aside0.mk hy190
    clear hy190
    by_cases c7 : t189.size + (strOfNums y190).size ≤ 9223372036854775807
    · rw [if_pos c7] at H
      have c7b0 := eq_true c7
      have c7b1 : decide (t189.size + (strOfNums y190).size ≤ 9223372036854775807) = true := decide_eq_true c7
      try have c7b2 : (9223372036854775807 < t189.size + (strOfNums y190).size) = False := eq_false (Nat.not_lt.2 c7)
      try (have c7b3 := c7b2; simp only [ByteArray.size_append, size_lit1] at c7b3)
      obtain rfl := Option.some.inj H
      go_enter Tryd.func17, Tryd.ntmps17
      try go_wp2
      have n0_ := Aside0.mk (below_drew1 HB.out)
      clear HB
      have HB := n0_
      clear n0_
      refine start_ (n := 11) (S := fun w' => True) (ds := []) #[false, false, false, false, false, false, false, false, false, false, false] (by kernel_rfl) rfl rfl trivial (fun hHeld => ?_); refine with_tabW gangerref06_Digits.tab3 gangerref06_Digits.bits3 (fun HT_ HW_ => ?_)
      generalize w.drew = w8 at HB hHeld ⊢
      refine pure_ (i := 0) (N := some 10) (v := ?_) (a' := ?_) #[true, false, false, false, false, false, false, false, false, false, false] rfl rfl (any_of HT_.out (by kernel_rfl)) (fun _ _ _ h => h) (Or.inl ⟨by rfl, ?_⟩) ?_ ?_
      rotate_left
      · intro w'
        go_simp
        with_reducible rfl
      rotate_left
      · simp only [Act.put, List.setIfInBounds_toArray, List.set_cons_zero, List.set_cons_succ, i64_w, i32_w]
        rfl
      refine pure_ (i := 1) (N := some 11) (v := ?_) (a' := ?_) #[true, true, false, false, false, false, false, false, false, false, false] rfl rfl (any_of HT_.out (by kernel_rfl)) (fun _ _ _ h => h) (Or.inl ⟨by rfl, ?_⟩) ?_ ?_
      rotate_left
      · intro w'
        go_simp
        with_reducible rfl
      rotate_left
      · simp only [Act.put, List.setIfInBounds_toArray, List.set_cons_zero, List.set_cons_succ, i64_w, i32_w]
        rfl
      refine pure_ (i := 3) (N := some 13) (v := ?_) (a' := ?_) #[true, true, false, true, false, false, false, false, false, false, false] rfl rfl (any_of HT_.out (by kernel_rfl)) (fun _ _ _ h => h) (Or.inl ⟨by rfl, ?_⟩) ?_ ?_
      rotate_left
      · intro w'
        go_simp
        with_reducible rfl
      rotate_left
      · simp only [Act.put, List.setIfInBounds_toArray, List.set_cons_zero, List.set_cons_succ, i64_w, i32_w]
        rfl
      refine pure_ (i := 4) (N := some 14) (v := ?_) (a' := ?_) #[true, true, false, true, true, false, false, false, false, false, false] rfl rfl (any_of HT_.out (by kernel_rfl)) (fun _ _ _ h => h) (Or.inl ⟨by rfl, ?_⟩) ?_ ?_
      rotate_left
      · intro w'
        go_simp
        with_reducible rfl
      rotate_left
      · simp only [Act.put, List.setIfInBounds_toArray, List.set_cons_zero, List.set_cons_succ, i64_w, i32_w]
        rfl
      refine pure_ (i := 5) (N := some 15) (v := ?_) (a' := ?_) #[true, true, false, true, true, true, false, false, false, false, false] rfl rfl (any_of HT_.out (by kernel_rfl)) (fun _ _ _ h => h) (Or.inl ⟨by rfl, ?_⟩) ?_ ?_
      rotate_left
      · intro w'
        go_simp
        with_reducible rfl
      rotate_left
      · simp only [Act.put, List.setIfInBounds_toArray, List.set_cons_zero, List.set_cons_succ, i64_w, i32_w]
        rfl
      refine pure_ (i := 6) (N := some 16) (v := ?_) (a' := ?_) #[true, true, false, true, true, true, true, false, false, false, false] rfl rfl (any_of HT_.out (by kernel_rfl)) (fun _ _ _ h => h) (Or.inl ⟨by rfl, ?_⟩) ?_ ?_
      rotate_left
      · intro w'
        go_simp
        with_reducible rfl
      rotate_left
      · simp only [Act.put, List.setIfInBounds_toArray, List.set_cons_zero, List.set_cons_succ, i64_w, i32_w]
        rfl
      refine join_ (σ := Value) 2 #[true, true, true, true, true, true, true, true, true, false, false] (fun s_ => [(12, .string t189), (17, s_), (18, .string (strOfNums y190))]) (fun s_ w' => (Kd.R (Kd.int .u8) 5 w' w.heap.size (fun _ => True) s_ y190) ∧ (Below w.heap.size w w')) ?_ ?_
      rotate_left
      · intro hCont
        refine two_ (i := 2) (j := 7) (Ni := some 12) (Nj := some 17) #[true, true, true, true, true, true, true, false, false, false, false] #[true, true, false, true, true, true, true, true, false, false, false] rfl rfl rfl rfl (two_of HT_.out (by kernel_rfl)) (by decide) (by decide) (fun K hK => ?_) (fun K hK => ?_)
        · skip
          refine goes_ Tryd.func17 (by kernel_rfl) rfl #[.int .i64 (wrap64 (Int.tdiv a0 10))] (by rfl) rfl rfl (by (try simp only [List.map_toArray, List.map_cons, List.map_nil]); first | done | rfl | (simp only [List.length_drop, List.length_take]; rfl)) ?_
          with_reducible refine (ih k (by omega) (wrap64 (Int.tdiv a0 10)) t189 _ A6.out).mono ?_
          rintro e w9 ⟨rfl, hb⟩
          refine ⟨_, rfl, ?_⟩
          have n0_ := Aside0.mk (below_step (by repeat (first | (with_reducible first | exact HB.out | apply below_alloc | apply pw_below_drewN | apply below_drew1) | exact HB.out)) hb)
          clear HB
          have HB := n0_
          clear n0_
          (try clear hb)
          (try clear hb2)
          (try clear hk)
          (try clear hi)
          refine hK.out _ _ trivial (fun hHeld => ?_)
          clear hK K
          refine norm_ (a' := ?_) ?_ ?_
          rotate_left
          · show Act.put _ (some 12) _ = _
            simp only [Act.put, List.setIfInBounds_toArray, List.set_cons_zero, List.set_cons_succ, i64_w, i32_w]
            rfl
          refine one_ (i := 7) (N := some 17) #[true, true, true, true, true, true, true, true, false, false, false] rfl rfl (one_of HT_.out (by kernel_rfl)) (by decide) (fun K hK => ?_)
          refine Kd.R_lit_step (Kd.int .u8) _ 5 ?hg (N := 17) ?hd (xs := ([(wrap64 (48 + (Int.tmod a0 10))) % 256] : List Int)) (inner := [.int .u8 ((wrap64 (48 + (Int.tmod a0 10))) % 256)]) (ok := fun _ => True) (okp := fun _ => True) ?hr ?hp (fun _ hk => hk) trivial (Below.refl _ _) (Nat.le_refl _) (by simp) ?_; (case hd => rfl); (case hg => rfl); (case hr => first | (go_simp; done) | (go_simp; rfl)); (case hp => exact (Reps.one (show Kd.M (Kd.int .u8) _ _ _ ((wrap64 (48 + (Int.tmod a0 10))) % 256) [.int .u8 ((wrap64 (48 + (Int.tmod a0 10))) % 256)] from rfl) (Reps.none _ _)))
          intro v191 w10 ho11 hb hg_ hnew_
          clear hg_ hnew_
          (first | rw [← Ny190.out] at ho11 | (simp only [Int.reduceToNat] at ho11; rw [← Ny190.out] at ho11))
          have n0_ := Aside0.mk (Kd.R_lower ho11 (below_size (by repeat (first | (with_reducible first | exact HB.out | apply below_alloc | apply pw_below_drewN | apply below_drew1) | exact HB.out))))
          have n1_ := Aside0.mk (below_step (by repeat (first | (with_reducible first | exact HB.out | apply below_alloc | apply pw_below_drewN | apply below_drew1) | exact HB.out)) hb)
          clear HB
          have HO192 := n0_
          have HB := n1_
          clear n0_ n1_
          clear hb ho11
          refine hK.out _ _ trivial (fun hHeld => ?_)
          clear hK K
          refine norm_ (a' := ?_) ?_ ?_
          rotate_left
          · show Act.put _ (some 17) _ = _
            simp only [Act.put, List.setIfInBounds_toArray, List.set_cons_zero, List.set_cons_succ, i64_w, i32_w]
            rfl
          refine one_ (i := 8) (N := some 18) #[true, true, true, true, true, true, true, true, true, false, false] rfl rfl (one_of HT_.out (by kernel_rfl)) (by decide) (fun K hK => ?_)
          have hcv12 := own_string (P := Tryd.prog) Tryd.underlying52 Tryd.underlying5 Tryd.underlying9 (Kd.own_of_R HO192.out)
          refine value_ (w1 := ?_) (v := ?_) (by rfl) rfl ?_ ?_
          rotate_left 2
          · go_simp
            constructor
            · rfl
            · rfl
          clear hcv12
          refine hK.out _ _ trivial (fun hHeld => ?_)
          clear hK K
          refine norm_ (a' := ?_) ?_ ?_
          rotate_left
          · show Act.put _ (some 18) _ = _
            simp only [Act.put, List.setIfInBounds_toArray, List.set_cons_zero, List.set_cons_succ, i64_w, i32_w]
            rfl
          exact norm_ (by simp only [putAll, Act.put, List.setIfInBounds_toArray, List.set_cons_zero, List.set_cons_succ]) (hCont (v191) _ ⟨(by (with_reducible repeat (first | apply Kd.R_alloc | apply Kd.R_drewN | apply Kd.R_drew)); exact HO192.out), (by repeat (first | (with_reducible first | exact HB.out | apply below_alloc | apply pw_below_drewN | apply below_drew1) | exact HB.out))⟩)
        · skip
          refine Kd.R_lit_step (Kd.int .u8) _ 5 ?hg (N := 17) ?hd (xs := ([(wrap64 (48 + (Int.tmod a0 10))) % 256] : List Int)) (inner := [.int .u8 ((wrap64 (48 + (Int.tmod a0 10))) % 256)]) (ok := fun _ => True) (okp := fun _ => True) ?hr ?hp (fun _ hk => hk) trivial (Below.refl _ _) (Nat.le_refl _) (by simp) ?_; (case hd => rfl); (case hg => rfl); (case hr => first | (go_simp; done) | (go_simp; rfl)); (case hp => exact (Reps.one (show Kd.M (Kd.int .u8) _ _ _ ((wrap64 (48 + (Int.tmod a0 10))) % 256) [.int .u8 ((wrap64 (48 + (Int.tmod a0 10))) % 256)] from rfl) (Reps.none _ _)))
          intro v191 w9 ho10 hb hg_ hnew_
          clear hg_ hnew_
          (first | rw [← Ny190.out] at ho10 | (simp only [Int.reduceToNat] at ho10; rw [← Ny190.out] at ho10))
          have n0_ := Aside0.mk (Kd.R_lower ho10 (below_size (by repeat (first | (with_reducible first | exact HB.out | apply below_alloc | apply pw_below_drewN | apply below_drew1) | exact HB.out))))
          have n1_ := Aside0.mk (below_step (by repeat (first | (with_reducible first | exact HB.out | apply below_alloc | apply pw_below_drewN | apply below_drew1) | exact HB.out)) hb)
          clear HB
          have HO192 := n0_
          have HB := n1_
          clear n0_ n1_
          clear hb ho10
          refine hK.out _ _ trivial (fun hHeld => ?_)
          clear hK K
          refine norm_ (a' := ?_) ?_ ?_
          rotate_left
          · show Act.put _ (some 17) _ = _
            simp only [Act.put, List.setIfInBounds_toArray, List.set_cons_zero, List.set_cons_succ, i64_w, i32_w]
            rfl
          refine two_ (i := 2) (j := 8) (Ni := some 12) (Nj := some 18) #[true, true, true, true, true, true, true, true, false, false, false] #[true, true, false, true, true, true, true, true, true, false, false] rfl rfl rfl rfl (two_of HT_.out (by kernel_rfl)) (by decide) (by decide) (fun K hK => ?_) (fun K hK => ?_)
          · skip
            refine goes_ Tryd.func17 (by kernel_rfl) rfl #[.int .i64 (wrap64 (Int.tdiv a0 10))] (by rfl) rfl rfl (by (try simp only [List.map_toArray, List.map_cons, List.map_nil]); first | done | rfl | (simp only [List.length_drop, List.length_take]; rfl)) ?_
            with_reducible refine (ih k (by omega) (wrap64 (Int.tdiv a0 10)) t189 _ A6.out).mono ?_
            rintro e w11 ⟨rfl, hb⟩
            refine ⟨_, rfl, ?_⟩
            have n0_ := Aside0.mk (Kd.R_below (by (with_reducible repeat (first | apply Kd.R_alloc | apply Kd.R_drewN | apply Kd.R_drew)); exact HO192.out) hb)
            have n1_ := Aside0.mk (below_step (by repeat (first | (with_reducible first | exact HB.out | apply below_alloc | apply pw_below_drewN | apply below_drew1) | exact HB.out)) hb)
            clear HO192
            clear HB
            have HO192 := n0_
            have HB := n1_
            clear n0_ n1_
            (try clear hb)
            (try clear hb2)
            (try clear hk)
            (try clear hi)
            refine hK.out _ _ trivial (fun hHeld => ?_)
            clear hK K
            refine norm_ (a' := ?_) ?_ ?_
            rotate_left
            · show Act.put _ (some 12) _ = _
              simp only [Act.put, List.setIfInBounds_toArray, List.set_cons_zero, List.set_cons_succ, i64_w, i32_w]
              rfl
            refine one_ (i := 8) (N := some 18) #[true, true, true, true, true, true, true, true, true, false, false] rfl rfl (one_of HT_.out (by kernel_rfl)) (by decide) (fun K hK => ?_)
            have hcv12 := own_string (P := Tryd.prog) Tryd.underlying52 Tryd.underlying5 Tryd.underlying9 (Kd.own_of_R HO192.out)
            refine value_ (w1 := ?_) (v := ?_) (by rfl) rfl ?_ ?_
            rotate_left 2
            · go_simp
              constructor
              · rfl
              · rfl
            clear hcv12
            refine hK.out _ _ trivial (fun hHeld => ?_)
            clear hK K
            refine norm_ (a' := ?_) ?_ ?_
            rotate_left
            · show Act.put _ (some 18) _ = _
              simp only [Act.put, List.setIfInBounds_toArray, List.set_cons_zero, List.set_cons_succ, i64_w, i32_w]
              rfl
            exact norm_ (by simp only [putAll, Act.put, List.setIfInBounds_toArray, List.set_cons_zero, List.set_cons_succ]) (hCont (v191) _ ⟨(by (with_reducible repeat (first | apply Kd.R_alloc | apply Kd.R_drewN | apply Kd.R_drew)); exact HO192.out), (by repeat (first | (with_reducible first | exact HB.out | apply below_alloc | apply pw_below_drewN | apply below_drew1) | exact HB.out))⟩)
          · skip
            have hcv11 := own_string (P := Tryd.prog) Tryd.underlying52 Tryd.underlying5 Tryd.underlying9 (Kd.own_of_R HO192.out)
            refine value_ (w1 := ?_) (v := ?_) (by rfl) rfl ?_ ?_
            rotate_left 2
            · go_simp
              constructor
              · rfl
              · rfl
            clear hcv11
            refine hK.out _ _ trivial (fun hHeld => ?_)
            clear hK K
            refine norm_ (a' := ?_) ?_ ?_
            rotate_left
            · show Act.put _ (some 18) _ = _
              simp only [Act.put, List.setIfInBounds_toArray, List.set_cons_zero, List.set_cons_succ, i64_w, i32_w]
              rfl
            refine one_ (i := 2) (N := some 12) #[true, true, true, true, true, true, true, true, true, false, false] rfl rfl (one_of HT_.out (by kernel_rfl)) (by decide) (fun K hK => ?_)
            refine goes_ Tryd.func17 (by kernel_rfl) rfl #[.int .i64 (wrap64 (Int.tdiv a0 10))] (by rfl) rfl rfl (by (try simp only [List.map_toArray, List.map_cons, List.map_nil]); first | done | rfl | (simp only [List.length_drop, List.length_take]; rfl)) ?_
            with_reducible refine (ih k (by omega) (wrap64 (Int.tdiv a0 10)) t189 _ A6.out).mono ?_
            rintro e w12 ⟨rfl, hb⟩
            refine ⟨_, rfl, ?_⟩
            have n0_ := Aside0.mk (Kd.R_below (by (with_reducible repeat (first | apply Kd.R_alloc | apply Kd.R_drewN | apply Kd.R_drew)); exact HO192.out) hb)
            have n1_ := Aside0.mk (below_step (by repeat (first | (with_reducible first | exact HB.out | apply below_alloc | apply pw_below_drewN | apply below_drew1) | exact HB.out)) hb)
            clear HO192
            clear HB
            have HO192 := n0_
            have HB := n1_
            clear n0_ n1_
            (try clear hb)
            (try clear hb2)
            (try clear hk)
            (try clear hi)
            refine hK.out _ _ trivial (fun hHeld => ?_)
            clear hK K
            refine norm_ (a' := ?_) ?_ ?_
            rotate_left
            · show Act.put _ (some 12) _ = _
              simp only [Act.put, List.setIfInBounds_toArray, List.set_cons_zero, List.set_cons_succ, i64_w, i32_w]
              rfl
            exact norm_ (by simp only [putAll, Act.put, List.setIfInBounds_toArray, List.set_cons_zero, List.set_cons_succ]) (hCont (v191) _ ⟨(by (with_reducible repeat (first | apply Kd.R_alloc | apply Kd.R_drewN | apply Kd.R_drew)); exact HO192.out), (by repeat (first | (with_reducible first | exact HB.out | apply below_alloc | apply pw_below_drewN | apply below_drew1) | exact HB.out))⟩)
      rintro v191 w13 ⟨h0_, h1_⟩
      have n0_ : Aside0 (Kd.R (Kd.int .u8) 5 w13 w.heap.size (fun _ => True) v191 y190) := ⟨h0_⟩
      have n1_ : Aside0 (Below w.heap.size w w13) := ⟨h1_⟩
      clear HB
      clear h0_ h1_
      have HO192 := n0_
      have HB := n1_
      clear n0_ n1_
      have hHeld := trivial
      refine norm_ (a' := ?_) ?_ ?_
      rotate_left
      · simp only [putAll, Act.put, List.setIfInBounds_toArray, List.set_cons_zero, List.set_cons_succ]
        rfl
      refine pure_ (i := 9) (N := some 19) (v := ?_) (a' := ?_) #[true, true, true, true, true, true, true, true, true, true, false] rfl rfl (any_of HT_.out (by kernel_rfl)) (fun _ _ _ h => h) (Or.inl ⟨by rfl, ?_⟩) ?_ ?_
      rotate_left
      · intro w'
        go_simp
        with_reducible rfl
      rotate_left
      · simp only [Act.put, List.setIfInBounds_toArray, List.set_cons_zero, List.set_cons_succ, i64_w, i32_w]
        rfl
      refine pure_ (i := 10) (N := some 2) (v := ?_) (a' := ?_) #[true, true, true, true, true, true, true, true, true, true, true] rfl rfl (any_of HT_.out (by kernel_rfl)) (fun _ _ _ h => h) (Or.inl ⟨by rfl, ?_⟩) ?_ ?_
      rotate_left
      · intro w'
        go_simp
        with_reducible rfl
      rotate_left
      · simp only [Act.put, List.setIfInBounds_toArray, List.set_cons_zero, List.set_cons_succ, i64_w, i32_w]
        rfl
      refine done_ (done_of HT_.out (by kernel_rfl)) ?_
      try go_wp2
      go_ret
      exact ⟨by first | rfl | (simp [errW_none, errW_some] <;> rfl) | (simp [*, errW_none, errW_some] <;> rfl), by repeat (first | (with_reducible first | exact HB.out | apply below_alloc | apply pw_below_drewN | apply below_drew1) | exact HB.out)⟩
    · rw [if_neg c7] at H
      exact absurd H (by simp)

/-! ### gangerref07_two: function 26 -/
def gangerref07_two.f (k : Nat) (a0 : Int) : Option (ByteArray) := if a0 < 10 then ((gangerref06_Digits.f k a0).bind fun t193 => (if 1 + t193.size ≤ 9223372036854775807 then (some ((⟨#[48]⟩ : ByteArray) ++ t193)) else (none))) else ((gangerref06_Digits.f k a0).bind fun t194 => (some t194))
theorem gangerref07_two.mono : ∀ a0 k, LeO (gangerref07_two.f k a0) (gangerref07_two.f (k + 1) a0) := by
  intro a0 k
  unfold gangerref07_two.f
  repeat' first
      | (with_reducible exact gangerref06_Digits.mono _ _)
      | (with_reducible exact LeO.refl _)
      | (with_reducible exact LeO.none _)
      | (with_reducible refine LeO.ite ?_ ?_)
      | (with_reducible refine LeO.bind ?_ (fun _ => ?_))
      | exact gangerref06_Digits.mono _ _
      | exact LeO.none _
      | refine LeO.ite ?_ ?_
      | refine LeO.bind ?_ (fun _ => ?_)
set_option maxHeartbeats 8000000 in
set_option maxRecDepth 100000 in
theorem gangerref07_two.calls (k : Nat) (a0 : Int) (r : ByteArray) (w : World) (h : gangerref07_two.f k a0 = some r) :
    Calls Tryd.prog 26 #[.int .i64 a0] w fun e w' => e = .returned (.string r) ∧ Below w.heap.size w w' := by
  have HB := Aside0.mk (Below.refl w.heap.size w)
  have H : (if a0 < 10 then ((gangerref06_Digits.f k a0).bind fun t193 => (if 1 + t193.size ≤ 9223372036854775807 then (some ((⟨#[48]⟩ : ByteArray) ++ t193)) else (none))) else ((gangerref06_Digits.f k a0).bind fun t194 => (some t194))) = some r := h
  clear h
  by_cases c2 : a0 < 10
  · rw [if_pos c2] at H
    have c2b0 : decide (a0 < 10) = true := decide_eq_true c2
    clear c2
    replace H := Option.bind_eq_some_iff.mp H
    obtain ⟨t193, A30, H⟩ := H
    replace H : (if 1 + t193.size ≤ 9223372036854775807 then (some ((⟨#[48]⟩ : ByteArray) ++ t193)) else (none)) = some r := H
    have A3 := Aside0.mk A30
    clear A30
    by_cases c4 : 1 + t193.size ≤ 9223372036854775807
    · rw [if_pos c4] at H
      have c4b0 := eq_true c4
      have c4b1 : decide (1 + t193.size ≤ 9223372036854775807) = true := decide_eq_true c4
      try have c4b2 : (9223372036854775807 < 1 + t193.size) = False := eq_false (Nat.not_lt.2 c4)
      try (have c4b3 := c4b2; simp only [ByteArray.size_append, size_lit1] at c4b3)
      obtain rfl := Option.some.inj H
      go_enter Tryd.func26, Tryd.ntmps26
      go_wp2_with (first | ((with_reducible refine gate_callee (f := 17) rfl ?_); refine goesL_ (some 6) rfl rfl Tryd.func17 (by kernel_rfl) rfl #[.int .i64 a0] rfl (by (try simp only [List.map_toArray, List.map_cons, List.map_nil]); first | done | rfl | (simp only [List.length_drop, List.length_take]; rfl)) ?_; (with_reducible refine (gangerref06_Digits.calls k a0 t193 _ A3.out).mono ?_); rintro e w5 ⟨rfl, hb⟩; refine ⟨_, rfl, ?_⟩; have n0_ := Aside0.mk (below_step (by repeat (first | (with_reducible first | exact HB.out | apply below_alloc | apply pw_below_drewN | apply below_drew1) | exact HB.out)) hb); clear HB; have HB := n0_; clear n0_; (try clear hb); (try clear hb2); (try clear hk); (try clear hi)))
      go_ret
      exact ⟨by first | rfl | (simp [errW_none, errW_some] <;> rfl) | (simp [*, errW_none, errW_some] <;> rfl), by repeat (first | (with_reducible first | exact HB.out | apply below_alloc | apply pw_below_drewN | apply below_drew1) | exact HB.out)⟩
    · rw [if_neg c4] at H
      exact absurd H (by simp)
  · rw [if_neg c2] at H
    have c2b0 : decide (a0 < 10) = false := decide_eq_false c2
    clear c2
    replace H := Option.bind_eq_some_iff.mp H
    obtain ⟨t194, A60, H⟩ := H
    replace H : (some t194) = some r := H
    have A6 := Aside0.mk A60
    clear A60
    obtain rfl := Option.some.inj H
    go_enter Tryd.func26, Tryd.ntmps26
    go_wp2_with (first | ((with_reducible refine gate_callee (f := 17) rfl ?_); refine goesL_ (some 9) rfl rfl Tryd.func17 (by kernel_rfl) rfl #[.int .i64 a0] rfl (by (try simp only [List.map_toArray, List.map_cons, List.map_nil]); first | done | rfl | (simp only [List.length_drop, List.length_take]; rfl)) ?_; (with_reducible refine (gangerref06_Digits.calls k a0 t194 _ A6.out).mono ?_); rintro e w7 ⟨rfl, hb⟩; refine ⟨_, rfl, ?_⟩; have n0_ := Aside0.mk (below_step (by repeat (first | (with_reducible first | exact HB.out | apply below_alloc | apply pw_below_drewN | apply below_drew1) | exact HB.out)) hb); clear HB; have HB := n0_; clear n0_; (try clear hb); (try clear hb2); (try clear hk); (try clear hi)))
    go_ret
    exact ⟨by first | rfl | (simp [errW_none, errW_some] <;> rfl) | (simp [*, errW_none, errW_some] <;> rfl), by repeat (first | (with_reducible first | exact HB.out | apply below_alloc | apply pw_below_drewN | apply below_drew1) | exact HB.out)⟩

/-! ### gangerref07_Print: function 14 -/
def gangerref07_Print.j0 : Nat → Int → Bool → Option (ByteArray × Int)
  | 0, _, _ => none
  | k + 1, x0, x14 => if x14 = true then (some ((⟨#[]⟩ : ByteArray), 2)) else ((gangerref07_two.f k (wrap64 ((wrap64 (Int.tdiv (wrap64 (Int.tdiv (wrap64 (x0 - (Int.tmod x0 60))) 60)) 60)) - (wrap64 ((wrap64 (Int.tdiv (wrap64 (Int.tdiv (wrap64 (Int.tdiv (wrap64 (x0 - (Int.tmod x0 60))) 60)) 60)) 24)) * 24))))).bind fun t195 => (if t195.size + 1 ≤ 9223372036854775807 then ((gangerref07_two.f k (wrap64 ((wrap64 (Int.tdiv (wrap64 (x0 - (Int.tmod x0 60))) 60)) - (wrap64 ((wrap64 (Int.tdiv (wrap64 (Int.tdiv (wrap64 (x0 - (Int.tmod x0 60))) 60)) 60)) * 60))))).bind fun t196 => (if (t195 ++ (⟨#[58]⟩ : ByteArray)).size + t196.size ≤ 9223372036854775807 then (if ((t195 ++ (⟨#[58]⟩ : ByteArray)) ++ t196).size + 1 ≤ 9223372036854775807 then ((gangerref07_two.f k (Int.tmod x0 60)).bind fun t197 => (if (((t195 ++ (⟨#[58]⟩ : ByteArray)) ++ t196) ++ (⟨#[58]⟩ : ByteArray)).size + t197.size ≤ 9223372036854775807 then (if (wrap64 (Int.tdiv (wrap64 (Int.tdiv (wrap64 (Int.tdiv (wrap64 (x0 - (Int.tmod x0 60))) 60)) 60)) 24)) > 0 then ((gangerref06_Digits.f k (wrap64 (Int.tdiv (wrap64 (Int.tdiv (wrap64 (Int.tdiv (wrap64 (x0 - (Int.tmod x0 60))) 60)) 60)) 24))).bind fun t198 => (if t198.size + 1 ≤ 9223372036854775807 then (if (t198 ++ (⟨#[45]⟩ : ByteArray)).size + ((((t195 ++ (⟨#[58]⟩ : ByteArray)) ++ t196) ++ (⟨#[58]⟩ : ByteArray)) ++ t197).size ≤ 9223372036854775807 then (some ((t198 ++ (⟨#[45]⟩ : ByteArray)) ++ ((((t195 ++ (⟨#[58]⟩ : ByteArray)) ++ t196) ++ (⟨#[58]⟩ : ByteArray)) ++ t197), 0)) else (none)) else (none))) else (some ((((t195 ++ (⟨#[58]⟩ : ByteArray)) ++ t196) ++ (⟨#[58]⟩ : ByteArray)) ++ t197, 0))) else (none))) else (none)) else (none))) else (none)))
def gangerref07_Print.f (k : Nat) (a0 : Int) : Option (ByteArray × Int) := if a0 < 1 then (gangerref07_Print.j0 k a0 true) else (gangerref07_Print.j0 k a0 (decide (a0 > 1073741824)))
theorem gangerref07_Print.mono_l : ∀ k, (∀ y0 y1, LeO (gangerref07_Print.j0 k y0 y1) (gangerref07_Print.j0 (k + 1) y0 y1))
  | 0 => fun _ _ r h => by simp [gangerref07_Print.j0] at h
  | k + 1 => by
    have ih0 := gangerref07_Print.mono_l k
    · intro y0 y1
      unfold gangerref07_Print.j0
      repeat' first
      | (with_reducible exact ih0 _ _)
      | (with_reducible exact gangerref06_Digits.mono _ _)
      | (with_reducible exact gangerref07_two.mono _ _)
      | (with_reducible exact LeO.refl _)
      | (with_reducible exact LeO.none _)
      | (with_reducible refine LeO.ite ?_ ?_)
      | (with_reducible refine LeO.bind ?_ (fun _ => ?_))
      | exact ih0 _ _
      | exact gangerref06_Digits.mono _ _
      | exact gangerref07_two.mono _ _
      | exact LeO.none _
      | refine LeO.ite ?_ ?_
      | refine LeO.bind ?_ (fun _ => ?_)
theorem gangerref07_Print.mono : ∀ a0 k, LeO (gangerref07_Print.f k a0) (gangerref07_Print.f (k + 1) a0) := by
  intro a0 k
  have ih0 := gangerref07_Print.mono_l k
  unfold gangerref07_Print.f
  repeat' first
      | (with_reducible exact ih0 _ _)
      | (with_reducible exact gangerref06_Digits.mono _ _)
      | (with_reducible exact gangerref07_two.mono _ _)
      | (with_reducible exact LeO.refl _)
      | (with_reducible exact LeO.none _)
      | (with_reducible refine LeO.ite ?_ ?_)
      | (with_reducible refine LeO.bind ?_ (fun _ => ?_))
      | exact ih0 _ _
      | exact gangerref06_Digits.mono _ _
      | exact gangerref07_two.mono _ _
      | exact LeO.none _
      | refine LeO.ite ?_ ?_
      | refine LeO.bind ?_ (fun _ => ?_)
set_option maxHeartbeats 8000000 in
set_option maxRecDepth 100000 in
theorem gangerref07_Print.calls (k : Nat) (a0 : Int) (r1 : ByteArray) (r2 : Int) (w : World) (h : gangerref07_Print.f k a0 = some (r1, r2)) :
    Calls Tryd.prog 14 #[.int .i64 a0] w fun e w' => e = .returned (.tuple #[.string r1, .int .i64 r2]) ∧ Below w.heap.size w w' := by
  have HB := Aside0.mk (Below.refl w.heap.size w)
  have H : (if a0 < 1 then (gangerref07_Print.j0 k a0 true) else (gangerref07_Print.j0 k a0 (decide (a0 > 1073741824)))) = some (r1, r2) := h
  clear h
  have HC2 := Aside0.mk H
  clear H
  go_enter Tryd.func14, Tryd.ntmps14
  go_upto_region 1 with (fail)
  go_cut [14] (fun v14 wc => ∃ (kq : Nat) (x14_1 : Bool), v14 = .bool x14_1 ∧ Aside0 (gangerref07_Print.j0 kq a0 x14_1 = some (r1, r2)) ∧ Aside0 (kq ≤ k) ∧ Aside0 (Below w.heap.size w wc))
  case first =>
    have H := HC2.out
    clear HC2
    by_cases c3 : a0 < 1
    · rw [if_pos c3] at H
      have c3b0 : decide (a0 < 1) = true := decide_eq_true c3
      clear c3
      (first | rw [c3b0] | (simp only [i64_w, i32_w]; rw [c3b0]) | skip)
      have H' := Aside0.mk H
      clear H
      go_wp2
      go_meet
      case rel => exact ⟨_, (true), (by first | rfl | (simp; done) | (simp [*]; done)), H', ⟨by first | omega | exact Nat.le_refl _⟩, ⟨by repeat (first | (with_reducible first | exact HB.out | apply below_alloc | apply pw_below_drewN | apply below_drew1) | exact HB.out)⟩⟩
    · rw [if_neg c3] at H
      have c3b0 : decide (a0 < 1) = false := decide_eq_false c3
      clear c3
      (first | rw [c3b0] | (simp only [i64_w, i32_w]; rw [c3b0]) | skip)
      have H' := Aside0.mk H
      clear H
      go_wp2
      go_meet
      case rel => exact ⟨_, (decide (a0 > 1073741824)), (by first | rfl | (simp; done) | (simp [*]; done)), H', ⟨by first | omega | exact Nat.le_refl _⟩, ⟨by repeat (first | (with_reducible first | exact HB.out | apply below_alloc | apply pw_below_drewN | apply below_drew1) | exact HB.out)⟩⟩
  case rest =>
    clear HC2
    try clear c1
    try clear p2
    try clear c3
    try clear c3b0
    obtain ⟨kq, x14_1, rfl, HA, HJ1, HB⟩ := hcut
    cases kq with
    | zero => exact absurd HA.out (by simp [gangerref07_Print.j0])
    | succ kj1 =>
      have H := HA.out
      clear HA
      simp only [gangerref07_Print.j0] at H
      by_cases c4 : x14_1 = true
      · subst c4
        have H1 : (some ((⟨#[]⟩ : ByteArray), 2)) = some (r1, r2) := by rw [if_pos rfl] at H; exact H
        clear H
        have H := H1
        clear H1
        simp only [Option.some.injEq, Prod.mk.injEq] at H
        obtain ⟨rfl, rfl⟩ := H
        go_wp2
        go_ret2
        exact ⟨by first | rfl | (simp [errW_none, errW_some] <;> rfl) | (simp [*, errW_none, errW_some] <;> rfl), by repeat (first | (with_reducible first | exact HB.out | apply below_alloc | apply pw_below_drewN | apply below_drew1) | exact HB.out)⟩
      · replace c4 := Bool.eq_false_iff.mpr c4
        subst c4
        have H1 : ((gangerref07_two.f kj1 (wrap64 ((wrap64 (Int.tdiv (wrap64 (Int.tdiv (wrap64 (a0 - (Int.tmod a0 60))) 60)) 60)) - (wrap64 ((wrap64 (Int.tdiv (wrap64 (Int.tdiv (wrap64 (Int.tdiv (wrap64 (a0 - (Int.tmod a0 60))) 60)) 60)) 24)) * 24))))).bind fun t195 => (if t195.size + 1 ≤ 9223372036854775807 then ((gangerref07_two.f kj1 (wrap64 ((wrap64 (Int.tdiv (wrap64 (a0 - (Int.tmod a0 60))) 60)) - (wrap64 ((wrap64 (Int.tdiv (wrap64 (Int.tdiv (wrap64 (a0 - (Int.tmod a0 60))) 60)) 60)) * 60))))).bind fun t196 => (if (t195 ++ (⟨#[58]⟩ : ByteArray)).size + t196.size ≤ 9223372036854775807 then (if ((t195 ++ (⟨#[58]⟩ : ByteArray)) ++ t196).size + 1 ≤ 9223372036854775807 then ((gangerref07_two.f kj1 (Int.tmod a0 60)).bind fun t197 => (if (((t195 ++ (⟨#[58]⟩ : ByteArray)) ++ t196) ++ (⟨#[58]⟩ : ByteArray)).size + t197.size ≤ 9223372036854775807 then (if (wrap64 (Int.tdiv (wrap64 (Int.tdiv (wrap64 (Int.tdiv (wrap64 (a0 - (Int.tmod a0 60))) 60)) 60)) 24)) > 0 then ((gangerref06_Digits.f kj1 (wrap64 (Int.tdiv (wrap64 (Int.tdiv (wrap64 (Int.tdiv (wrap64 (a0 - (Int.tmod a0 60))) 60)) 60)) 24))).bind fun t198 => (if t198.size + 1 ≤ 9223372036854775807 then (if (t198 ++ (⟨#[45]⟩ : ByteArray)).size + ((((t195 ++ (⟨#[58]⟩ : ByteArray)) ++ t196) ++ (⟨#[58]⟩ : ByteArray)) ++ t197).size ≤ 9223372036854775807 then (some ((t198 ++ (⟨#[45]⟩ : ByteArray)) ++ ((((t195 ++ (⟨#[58]⟩ : ByteArray)) ++ t196) ++ (⟨#[58]⟩ : ByteArray)) ++ t197), 0)) else (none)) else (none))) else (some ((((t195 ++ (⟨#[58]⟩ : ByteArray)) ++ t196) ++ (⟨#[58]⟩ : ByteArray)) ++ t197, 0))) else (none))) else (none)) else (none))) else (none))) = some (r1, r2) := by rw [if_neg (show ¬ (false = true) by decide)] at H; exact H
        clear H
        have H := H1
        clear H1
        replace H := Option.bind_eq_some_iff.mp H
        obtain ⟨t195, A50, H⟩ := H
        replace H : (if t195.size + 1 ≤ 9223372036854775807 then ((gangerref07_two.f kj1 (wrap64 ((wrap64 (Int.tdiv (wrap64 (a0 - (Int.tmod a0 60))) 60)) - (wrap64 ((wrap64 (Int.tdiv (wrap64 (Int.tdiv (wrap64 (a0 - (Int.tmod a0 60))) 60)) 60)) * 60))))).bind fun t196 => (if (t195 ++ (⟨#[58]⟩ : ByteArray)).size + t196.size ≤ 9223372036854775807 then (if ((t195 ++ (⟨#[58]⟩ : ByteArray)) ++ t196).size + 1 ≤ 9223372036854775807 then ((gangerref07_two.f kj1 (Int.tmod a0 60)).bind fun t197 => (if (((t195 ++ (⟨#[58]⟩ : ByteArray)) ++ t196) ++ (⟨#[58]⟩ : ByteArray)).size + t197.size ≤ 9223372036854775807 then (if (wrap64 (Int.tdiv (wrap64 (Int.tdiv (wrap64 (Int.tdiv (wrap64 (a0 - (Int.tmod a0 60))) 60)) 60)) 24)) > 0 then ((gangerref06_Digits.f kj1 (wrap64 (Int.tdiv (wrap64 (Int.tdiv (wrap64 (Int.tdiv (wrap64 (a0 - (Int.tmod a0 60))) 60)) 60)) 24))).bind fun t198 => (if t198.size + 1 ≤ 9223372036854775807 then (if (t198 ++ (⟨#[45]⟩ : ByteArray)).size + ((((t195 ++ (⟨#[58]⟩ : ByteArray)) ++ t196) ++ (⟨#[58]⟩ : ByteArray)) ++ t197).size ≤ 9223372036854775807 then (some ((t198 ++ (⟨#[45]⟩ : ByteArray)) ++ ((((t195 ++ (⟨#[58]⟩ : ByteArray)) ++ t196) ++ (⟨#[58]⟩ : ByteArray)) ++ t197), 0)) else (none)) else (none))) else (some ((((t195 ++ (⟨#[58]⟩ : ByteArray)) ++ t196) ++ (⟨#[58]⟩ : ByteArray)) ++ t197, 0))) else (none))) else (none)) else (none))) else (none)) = some (r1, r2) := H
        have A5 := Aside0.mk A50
        clear A50
        by_cases c6 : t195.size + 1 ≤ 9223372036854775807
        · rw [if_pos c6] at H
          have c6b0 := eq_true c6
          have c6b1 : decide (t195.size + 1 ≤ 9223372036854775807) = true := decide_eq_true c6
          try have c6b2 : (9223372036854775807 < t195.size + 1) = False := eq_false (Nat.not_lt.2 c6)
          try (have c6b3 := c6b2; simp only [ByteArray.size_append, size_lit1] at c6b3)
          replace H := Option.bind_eq_some_iff.mp H
          obtain ⟨t196, A70, H⟩ := H
          replace H : (if (t195 ++ (⟨#[58]⟩ : ByteArray)).size + t196.size ≤ 9223372036854775807 then (if ((t195 ++ (⟨#[58]⟩ : ByteArray)) ++ t196).size + 1 ≤ 9223372036854775807 then ((gangerref07_two.f kj1 (Int.tmod a0 60)).bind fun t197 => (if (((t195 ++ (⟨#[58]⟩ : ByteArray)) ++ t196) ++ (⟨#[58]⟩ : ByteArray)).size + t197.size ≤ 9223372036854775807 then (if (wrap64 (Int.tdiv (wrap64 (Int.tdiv (wrap64 (Int.tdiv (wrap64 (a0 - (Int.tmod a0 60))) 60)) 60)) 24)) > 0 then ((gangerref06_Digits.f kj1 (wrap64 (Int.tdiv (wrap64 (Int.tdiv (wrap64 (Int.tdiv (wrap64 (a0 - (Int.tmod a0 60))) 60)) 60)) 24))).bind fun t198 => (if t198.size + 1 ≤ 9223372036854775807 then (if (t198 ++ (⟨#[45]⟩ : ByteArray)).size + ((((t195 ++ (⟨#[58]⟩ : ByteArray)) ++ t196) ++ (⟨#[58]⟩ : ByteArray)) ++ t197).size ≤ 9223372036854775807 then (some ((t198 ++ (⟨#[45]⟩ : ByteArray)) ++ ((((t195 ++ (⟨#[58]⟩ : ByteArray)) ++ t196) ++ (⟨#[58]⟩ : ByteArray)) ++ t197), 0)) else (none)) else (none))) else (some ((((t195 ++ (⟨#[58]⟩ : ByteArray)) ++ t196) ++ (⟨#[58]⟩ : ByteArray)) ++ t197, 0))) else (none))) else (none)) else (none)) = some (r1, r2) := H
          have A7 := Aside0.mk A70
          clear A70
          by_cases c8 : (t195 ++ (⟨#[58]⟩ : ByteArray)).size + t196.size ≤ 9223372036854775807
          · rw [if_pos c8] at H
            have c8b0 := eq_true c8
            have c8b1 : decide ((t195 ++ (⟨#[58]⟩ : ByteArray)).size + t196.size ≤ 9223372036854775807) = true := decide_eq_true c8
            try have c8b2 : (9223372036854775807 < (t195 ++ (⟨#[58]⟩ : ByteArray)).size + t196.size) = False := eq_false (Nat.not_lt.2 c8)
            try (have c8b3 := c8b2; simp only [ByteArray.size_append, size_lit1] at c8b3)
            by_cases c9 : ((t195 ++ (⟨#[58]⟩ : ByteArray)) ++ t196).size + 1 ≤ 9223372036854775807
            · rw [if_pos c9] at H
              have c9b0 := eq_true c9
              have c9b1 : decide (((t195 ++ (⟨#[58]⟩ : ByteArray)) ++ t196).size + 1 ≤ 9223372036854775807) = true := decide_eq_true c9
              try have c9b2 : (9223372036854775807 < ((t195 ++ (⟨#[58]⟩ : ByteArray)) ++ t196).size + 1) = False := eq_false (Nat.not_lt.2 c9)
              try (have c9b3 := c9b2; simp only [ByteArray.size_append, size_lit1] at c9b3)
              replace H := Option.bind_eq_some_iff.mp H
              obtain ⟨t197, A100, H⟩ := H
              replace H : (if (((t195 ++ (⟨#[58]⟩ : ByteArray)) ++ t196) ++ (⟨#[58]⟩ : ByteArray)).size + t197.size ≤ 9223372036854775807 then (if (wrap64 (Int.tdiv (wrap64 (Int.tdiv (wrap64 (Int.tdiv (wrap64 (a0 - (Int.tmod a0 60))) 60)) 60)) 24)) > 0 then ((gangerref06_Digits.f kj1 (wrap64 (Int.tdiv (wrap64 (Int.tdiv (wrap64 (Int.tdiv (wrap64 (a0 - (Int.tmod a0 60))) 60)) 60)) 24))).bind fun t198 => (if t198.size + 1 ≤ 9223372036854775807 then (if (t198 ++ (⟨#[45]⟩ : ByteArray)).size + ((((t195 ++ (⟨#[58]⟩ : ByteArray)) ++ t196) ++ (⟨#[58]⟩ : ByteArray)) ++ t197).size ≤ 9223372036854775807 then (some ((t198 ++ (⟨#[45]⟩ : ByteArray)) ++ ((((t195 ++ (⟨#[58]⟩ : ByteArray)) ++ t196) ++ (⟨#[58]⟩ : ByteArray)) ++ t197), 0)) else (none)) else (none))) else (some ((((t195 ++ (⟨#[58]⟩ : ByteArray)) ++ t196) ++ (⟨#[58]⟩ : ByteArray)) ++ t197, 0))) else (none)) = some (r1, r2) := H
              have A10 := Aside0.mk A100
              clear A100
              by_cases c11 : (((t195 ++ (⟨#[58]⟩ : ByteArray)) ++ t196) ++ (⟨#[58]⟩ : ByteArray)).size + t197.size ≤ 9223372036854775807
              · rw [if_pos c11] at H
                have c11b0 := eq_true c11
                have c11b1 : decide ((((t195 ++ (⟨#[58]⟩ : ByteArray)) ++ t196) ++ (⟨#[58]⟩ : ByteArray)).size + t197.size ≤ 9223372036854775807) = true := decide_eq_true c11
                try have c11b2 : (9223372036854775807 < (((t195 ++ (⟨#[58]⟩ : ByteArray)) ++ t196) ++ (⟨#[58]⟩ : ByteArray)).size + t197.size) = False := eq_false (Nat.not_lt.2 c11)
                try (have c11b3 := c11b2; simp only [ByteArray.size_append, size_lit1] at c11b3)
                by_cases c12 : (wrap64 (Int.tdiv (wrap64 (Int.tdiv (wrap64 (Int.tdiv (wrap64 (a0 - (Int.tmod a0 60))) 60)) 60)) 24)) > 0
                · rw [if_pos c12] at H
                  have c12b0 : decide (0 < (wrap64 (Int.tdiv (wrap64 (Int.tdiv (wrap64 (Int.tdiv (wrap64 (a0 - (Int.tmod a0 60))) 60)) 60)) 24))) = true := decide_eq_true c12
                  clear c12
                  replace H := Option.bind_eq_some_iff.mp H
                  obtain ⟨t198, A130, H⟩ := H
                  replace H : (if t198.size + 1 ≤ 9223372036854775807 then (if (t198 ++ (⟨#[45]⟩ : ByteArray)).size + ((((t195 ++ (⟨#[58]⟩ : ByteArray)) ++ t196) ++ (⟨#[58]⟩ : ByteArray)) ++ t197).size ≤ 9223372036854775807 then (some ((t198 ++ (⟨#[45]⟩ : ByteArray)) ++ ((((t195 ++ (⟨#[58]⟩ : ByteArray)) ++ t196) ++ (⟨#[58]⟩ : ByteArray)) ++ t197), 0)) else (none)) else (none)) = some (r1, r2) := H
                  have A13 := Aside0.mk A130
                  clear A130
                  by_cases c14 : t198.size + 1 ≤ 9223372036854775807
                  · rw [if_pos c14] at H
                    have c14b0 := eq_true c14
                    have c14b1 : decide (t198.size + 1 ≤ 9223372036854775807) = true := decide_eq_true c14
                    try have c14b2 : (9223372036854775807 < t198.size + 1) = False := eq_false (Nat.not_lt.2 c14)
                    try (have c14b3 := c14b2; simp only [ByteArray.size_append, size_lit1] at c14b3)
                    by_cases c15 : (t198 ++ (⟨#[45]⟩ : ByteArray)).size + ((((t195 ++ (⟨#[58]⟩ : ByteArray)) ++ t196) ++ (⟨#[58]⟩ : ByteArray)) ++ t197).size ≤ 9223372036854775807
                    · rw [if_pos c15] at H
                      have c15b0 := eq_true c15
                      have c15b1 : decide ((t198 ++ (⟨#[45]⟩ : ByteArray)).size + ((((t195 ++ (⟨#[58]⟩ : ByteArray)) ++ t196) ++ (⟨#[58]⟩ : ByteArray)) ++ t197).size ≤ 9223372036854775807) = true := decide_eq_true c15
                      try have c15b2 : (9223372036854775807 < (t198 ++ (⟨#[45]⟩ : ByteArray)).size + ((((t195 ++ (⟨#[58]⟩ : ByteArray)) ++ t196) ++ (⟨#[58]⟩ : ByteArray)) ++ t197).size) = False := eq_false (Nat.not_lt.2 c15)
                      try (have c15b3 := c15b2; simp only [ByteArray.size_append, size_lit1] at c15b3)
                      simp only [Option.some.injEq, Prod.mk.injEq] at H
                      obtain ⟨rfl, rfl⟩ := H
                      go_wp2_with (first | ((with_reducible refine gate_callee (f := 26) rfl ?_); refine goesL_ (some 34) rfl rfl Tryd.func26 (by kernel_rfl) rfl #[.int .i64 (wrap64 ((wrap64 (Int.tdiv (wrap64 (Int.tdiv (wrap64 (a0 - (Int.tmod a0 60))) 60)) 60)) - (wrap64 ((wrap64 (Int.tdiv (wrap64 (Int.tdiv (wrap64 (Int.tdiv (wrap64 (a0 - (Int.tmod a0 60))) 60)) 60)) 24)) * 24))))] rfl (by (try simp only [List.map_toArray, List.map_cons, List.map_nil]); first | done | rfl | (simp only [List.length_drop, List.length_take]; rfl)) ?_; (with_reducible refine (gangerref07_two.calls kj1 (wrap64 ((wrap64 (Int.tdiv (wrap64 (Int.tdiv (wrap64 (a0 - (Int.tmod a0 60))) 60)) 60)) - (wrap64 ((wrap64 (Int.tdiv (wrap64 (Int.tdiv (wrap64 (Int.tdiv (wrap64 (a0 - (Int.tmod a0 60))) 60)) 60)) 24)) * 24)))) t195 _ A5.out).mono ?_); rintro e w16 ⟨rfl, hb⟩; refine ⟨_, rfl, ?_⟩; have n0_ := Aside0.mk (below_step (by repeat (first | (with_reducible first | exact HB.out | apply below_alloc | apply pw_below_drewN | apply below_drew1) | exact HB.out)) hb); clear HB; have HB := n0_; clear n0_; (try clear hb); (try clear hb2); (try clear hk); (try clear hi)) | ((with_reducible refine gate_callee (f := 26) rfl ?_); refine goesL_ (some 37) rfl rfl Tryd.func26 (by kernel_rfl) rfl #[.int .i64 (wrap64 ((wrap64 (Int.tdiv (wrap64 (a0 - (Int.tmod a0 60))) 60)) - (wrap64 ((wrap64 (Int.tdiv (wrap64 (Int.tdiv (wrap64 (a0 - (Int.tmod a0 60))) 60)) 60)) * 60))))] rfl (by (try simp only [List.map_toArray, List.map_cons, List.map_nil]); first | done | rfl | (simp only [List.length_drop, List.length_take]; rfl)) ?_; (with_reducible refine (gangerref07_two.calls kj1 (wrap64 ((wrap64 (Int.tdiv (wrap64 (a0 - (Int.tmod a0 60))) 60)) - (wrap64 ((wrap64 (Int.tdiv (wrap64 (Int.tdiv (wrap64 (a0 - (Int.tmod a0 60))) 60)) 60)) * 60)))) t196 _ A7.out).mono ?_); rintro e w17 ⟨rfl, hb⟩; refine ⟨_, rfl, ?_⟩; have n0_ := Aside0.mk (below_step (by repeat (first | (with_reducible first | exact HB.out | apply below_alloc | apply pw_below_drewN | apply below_drew1) | exact HB.out)) hb); clear HB; have HB := n0_; clear n0_; (try clear hb); (try clear hb2); (try clear hk); (try clear hi)) | ((with_reducible refine gate_callee (f := 26) rfl ?_); refine goesL_ (some 41) rfl rfl Tryd.func26 (by kernel_rfl) rfl #[.int .i64 (Int.tmod a0 60)] rfl (by (try simp only [List.map_toArray, List.map_cons, List.map_nil]); first | done | rfl | (simp only [List.length_drop, List.length_take]; rfl)) ?_; (with_reducible refine (gangerref07_two.calls kj1 (Int.tmod a0 60) t197 _ A10.out).mono ?_); rintro e w18 ⟨rfl, hb⟩; refine ⟨_, rfl, ?_⟩; have n0_ := Aside0.mk (below_step (by repeat (first | (with_reducible first | exact HB.out | apply below_alloc | apply pw_below_drewN | apply below_drew1) | exact HB.out)) hb); clear HB; have HB := n0_; clear n0_; (try clear hb); (try clear hb2); (try clear hk); (try clear hi)) | ((with_reducible refine gate_callee (f := 17) rfl ?_); refine goesL_ (some 46) rfl rfl Tryd.func17 (by kernel_rfl) rfl #[.int .i64 (wrap64 (Int.tdiv (wrap64 (Int.tdiv (wrap64 (Int.tdiv (wrap64 (a0 - (Int.tmod a0 60))) 60)) 60)) 24))] rfl (by (try simp only [List.map_toArray, List.map_cons, List.map_nil]); first | done | rfl | (simp only [List.length_drop, List.length_take]; rfl)) ?_; (with_reducible refine (gangerref06_Digits.calls kj1 (wrap64 (Int.tdiv (wrap64 (Int.tdiv (wrap64 (Int.tdiv (wrap64 (a0 - (Int.tmod a0 60))) 60)) 60)) 24)) t198 _ A13.out).mono ?_); rintro e w19 ⟨rfl, hb⟩; refine ⟨_, rfl, ?_⟩; have n0_ := Aside0.mk (below_step (by repeat (first | (with_reducible first | exact HB.out | apply below_alloc | apply pw_below_drewN | apply below_drew1) | exact HB.out)) hb); clear HB; have HB := n0_; clear n0_; (try clear hb); (try clear hb2); (try clear hk); (try clear hi)))
                      go_ret2
                      exact ⟨by first | rfl | (simp [errW_none, errW_some] <;> rfl) | (simp [*, errW_none, errW_some] <;> rfl), by repeat (first | (with_reducible first | exact HB.out | apply below_alloc | apply pw_below_drewN | apply below_drew1) | exact HB.out)⟩
                    · rw [if_neg c15] at H
                      exact absurd H (by simp)
                  · rw [if_neg c14] at H
                    exact absurd H (by simp)
                · rw [if_neg c12] at H
                  have c12b0 : decide (0 < (wrap64 (Int.tdiv (wrap64 (Int.tdiv (wrap64 (Int.tdiv (wrap64 (a0 - (Int.tmod a0 60))) 60)) 60)) 24))) = false := decide_eq_false c12
                  clear c12
                  simp only [Option.some.injEq, Prod.mk.injEq] at H
                  obtain ⟨rfl, rfl⟩ := H
                  go_wp2_with (first | ((with_reducible refine gate_callee (f := 26) rfl ?_); refine goesL_ (some 34) rfl rfl Tryd.func26 (by kernel_rfl) rfl #[.int .i64 (wrap64 ((wrap64 (Int.tdiv (wrap64 (Int.tdiv (wrap64 (a0 - (Int.tmod a0 60))) 60)) 60)) - (wrap64 ((wrap64 (Int.tdiv (wrap64 (Int.tdiv (wrap64 (Int.tdiv (wrap64 (a0 - (Int.tmod a0 60))) 60)) 60)) 24)) * 24))))] rfl (by (try simp only [List.map_toArray, List.map_cons, List.map_nil]); first | done | rfl | (simp only [List.length_drop, List.length_take]; rfl)) ?_; (with_reducible refine (gangerref07_two.calls kj1 (wrap64 ((wrap64 (Int.tdiv (wrap64 (Int.tdiv (wrap64 (a0 - (Int.tmod a0 60))) 60)) 60)) - (wrap64 ((wrap64 (Int.tdiv (wrap64 (Int.tdiv (wrap64 (Int.tdiv (wrap64 (a0 - (Int.tmod a0 60))) 60)) 60)) 24)) * 24)))) t195 _ A5.out).mono ?_); rintro e w20 ⟨rfl, hb⟩; refine ⟨_, rfl, ?_⟩; have n0_ := Aside0.mk (below_step (by repeat (first | (with_reducible first | exact HB.out | apply below_alloc | apply pw_below_drewN | apply below_drew1) | exact HB.out)) hb); clear HB; have HB := n0_; clear n0_; (try clear hb); (try clear hb2); (try clear hk); (try clear hi)) | ((with_reducible refine gate_callee (f := 26) rfl ?_); refine goesL_ (some 37) rfl rfl Tryd.func26 (by kernel_rfl) rfl #[.int .i64 (wrap64 ((wrap64 (Int.tdiv (wrap64 (a0 - (Int.tmod a0 60))) 60)) - (wrap64 ((wrap64 (Int.tdiv (wrap64 (Int.tdiv (wrap64 (a0 - (Int.tmod a0 60))) 60)) 60)) * 60))))] rfl (by (try simp only [List.map_toArray, List.map_cons, List.map_nil]); first | done | rfl | (simp only [List.length_drop, List.length_take]; rfl)) ?_; (with_reducible refine (gangerref07_two.calls kj1 (wrap64 ((wrap64 (Int.tdiv (wrap64 (a0 - (Int.tmod a0 60))) 60)) - (wrap64 ((wrap64 (Int.tdiv (wrap64 (Int.tdiv (wrap64 (a0 - (Int.tmod a0 60))) 60)) 60)) * 60)))) t196 _ A7.out).mono ?_); rintro e w21 ⟨rfl, hb⟩; refine ⟨_, rfl, ?_⟩; have n0_ := Aside0.mk (below_step (by repeat (first | (with_reducible first | exact HB.out | apply below_alloc | apply pw_below_drewN | apply below_drew1) | exact HB.out)) hb); clear HB; have HB := n0_; clear n0_; (try clear hb); (try clear hb2); (try clear hk); (try clear hi)) | ((with_reducible refine gate_callee (f := 26) rfl ?_); refine goesL_ (some 41) rfl rfl Tryd.func26 (by kernel_rfl) rfl #[.int .i64 (Int.tmod a0 60)] rfl (by (try simp only [List.map_toArray, List.map_cons, List.map_nil]); first | done | rfl | (simp only [List.length_drop, List.length_take]; rfl)) ?_; (with_reducible refine (gangerref07_two.calls kj1 (Int.tmod a0 60) t197 _ A10.out).mono ?_); rintro e w22 ⟨rfl, hb⟩; refine ⟨_, rfl, ?_⟩; have n0_ := Aside0.mk (below_step (by repeat (first | (with_reducible first | exact HB.out | apply below_alloc | apply pw_below_drewN | apply below_drew1) | exact HB.out)) hb); clear HB; have HB := n0_; clear n0_; (try clear hb); (try clear hb2); (try clear hk); (try clear hi)))
                  go_ret2
                  exact ⟨by first | rfl | (simp [errW_none, errW_some] <;> rfl) | (simp [*, errW_none, errW_some] <;> rfl), by repeat (first | (with_reducible first | exact HB.out | apply below_alloc | apply pw_below_drewN | apply below_drew1) | exact HB.out)⟩
              · rw [if_neg c11] at H
                exact absurd H (by simp)
            · rw [if_neg c9] at H
              exact absurd H (by simp)
          · rw [if_neg c8] at H
            exact absurd H (by simp)
        · rw [if_neg c6] at H
          exact absurd H (by simp)

/-! ### gangerref07_Minutes: function 16 -/
def gangerref07_Minutes.f (a0 : Int) : Option (Int) := if a0 < 0 then (some 0) else (if (wrap64 ((wrap64 (Int.tdiv a0 60)) * 60)) = a0 then (some (wrap64 (Int.tdiv a0 60))) else (some (wrap64 ((wrap64 (Int.tdiv a0 60)) + 1))))
set_option maxHeartbeats 8000000 in
set_option maxRecDepth 100000 in
theorem gangerref07_Minutes.calls (a0 : Int) (r : Int) (w : World) (h : gangerref07_Minutes.f a0 = some r) :
    Calls Tryd.prog 16 #[.int .i64 a0] w fun e w' => e = .returned (.int .i64 r) ∧ Drawn0 w w' := by
  have H : (if a0 < 0 then (some 0) else (if (wrap64 ((wrap64 (Int.tdiv a0 60)) * 60)) = a0 then (some (wrap64 (Int.tdiv a0 60))) else (some (wrap64 ((wrap64 (Int.tdiv a0 60)) + 1))))) = some r := h
  clear h
  by_cases c2 : a0 < 0
  · rw [if_pos c2] at H
    have c2b0 : decide (a0 < 0) = true := decide_eq_true c2
    clear c2
    obtain rfl := Option.some.inj H
    go_enter Tryd.func16, Tryd.ntmps16
    go_wp2
    go_ret
    exact ⟨by first | rfl | (simp; done) | (simp [*]; done), by repeat (first | exact Drawn0.refl _ | apply Drawn0.step)⟩
  · rw [if_neg c2] at H
    have c2b0 : decide (a0 < 0) = false := decide_eq_false c2
    clear c2
    by_cases c3 : (wrap64 ((wrap64 (Int.tdiv a0 60)) * 60)) = a0
    · rw [if_pos c3] at H
      have c3b0 : ((wrap64 ((wrap64 (Int.tdiv a0 60)) * 60)) == a0) = true := beq_iff_eq.mpr c3
      have c3b1 : ((wrap64 ((wrap64 (Int.tdiv a0 60)) * 60)) != a0) = false := bne_eq_false_iff_eq.mpr c3
      clear c3
      obtain rfl := Option.some.inj H
      go_enter Tryd.func16, Tryd.ntmps16
      go_wp2
      go_ret
      exact ⟨by first | rfl | (simp; done) | (simp [*]; done), by repeat (first | exact Drawn0.refl _ | apply Drawn0.step)⟩
    · rw [if_neg c3] at H
      have c3b0 : ((wrap64 ((wrap64 (Int.tdiv a0 60)) * 60)) == a0) = false := beq_eq_false_iff_ne.mpr c3
      have c3b1 : ((wrap64 ((wrap64 (Int.tdiv a0 60)) * 60)) != a0) = true := bne_iff_ne.mpr c3
      obtain rfl := Option.some.inj H
      go_enter Tryd.func16, Tryd.ntmps16
      go_wp2
      go_ret
      exact ⟨by first | rfl | (simp; done) | (simp [*]; done), by repeat (first | exact Drawn0.refl _ | apply Drawn0.step)⟩

/-! ### gangerlaw07_ClockPrints: function 4 -/
def gangerlaw07_ClockPrints.f (k : Nat) (a0 : Int) : Option (Bool) := (clock_Print.f k a0).bind fun bt199 => ((gangerref07_Print.f k a0).bind fun bt201 => (if bt199.1.toList = bt201.1.toList then (if bt199.2 = bt201.2 then ((clock_Minutes.f a0).bind fun t203 => ((gangerref07_Minutes.f a0).bind fun t204 => (if t203 = t204 then ((gangerlaw07_known.f k).bind fun t205 => (some t205)) else (none)))) else (none)) else (none)))
theorem gangerlaw07_ClockPrints.mono : ∀ a0 k, LeO (gangerlaw07_ClockPrints.f k a0) (gangerlaw07_ClockPrints.f (k + 1) a0) := by
  intro a0 k
  unfold gangerlaw07_ClockPrints.f
  repeat' first
      | (with_reducible exact clock_Print.mono _ _)
      | (with_reducible exact gangerlaw07_known.mono _)
      | (with_reducible exact gangerref07_Print.mono _ _)
      | (with_reducible exact LeO.refl _)
      | (with_reducible exact LeO.none _)
      | (with_reducible refine LeO.ite ?_ ?_)
      | (with_reducible refine LeO.bind ?_ (fun _ => ?_))
      | exact clock_Print.mono _ _
      | exact gangerlaw07_known.mono _
      | exact gangerref07_Print.mono _ _
      | exact LeO.none _
      | refine LeO.ite ?_ ?_
      | refine LeO.bind ?_ (fun _ => ?_)
set_option maxHeartbeats 8000000 in
set_option maxRecDepth 100000 in
theorem gangerlaw07_ClockPrints.calls (k : Nat) (a0 : Int) (r : Bool) (w : World) (hG : Glob w) (h : gangerlaw07_ClockPrints.f k a0 = some r) :
    Calls Tryd.prog 4 #[.int .i64 a0] w fun e w' => e = .returned (.bool r) ∧ Below w.heap.size w w' := by
  have HG := Aside0.mk hG
  clear hG
  have HB := Aside0.mk (Below.refl w.heap.size w)
  have H : ((clock_Print.f k a0).bind fun bt199 => ((gangerref07_Print.f k a0).bind fun bt201 => (if bt199.1.toList = bt201.1.toList then (if bt199.2 = bt201.2 then ((clock_Minutes.f a0).bind fun t203 => ((gangerref07_Minutes.f a0).bind fun t204 => (if t203 = t204 then ((gangerlaw07_known.f k).bind fun t205 => (some t205)) else (none)))) else (none)) else (none)))) = some r := h
  clear h
  replace H := Option.bind_eq_some_iff.mp H
  obtain ⟨⟨t199, t200⟩, A20, H⟩ := H
  replace H : ((gangerref07_Print.f k a0).bind fun bt201 => (if t199.toList = bt201.1.toList then (if t200 = bt201.2 then ((clock_Minutes.f a0).bind fun t203 => ((gangerref07_Minutes.f a0).bind fun t204 => (if t203 = t204 then ((gangerlaw07_known.f k).bind fun t205 => (some t205)) else (none)))) else (none)) else (none))) = some r := H
  have A2 := Aside0.mk A20
  clear A20
  replace H := Option.bind_eq_some_iff.mp H
  obtain ⟨⟨t201, t202⟩, A30, H⟩ := H
  replace H : (if t199.toList = t201.toList then (if t200 = t202 then ((clock_Minutes.f a0).bind fun t203 => ((gangerref07_Minutes.f a0).bind fun t204 => (if t203 = t204 then ((gangerlaw07_known.f k).bind fun t205 => (some t205)) else (none)))) else (none)) else (none)) = some r := H
  have A3 := Aside0.mk A30
  clear A30
  by_cases c4 : t199.toList = t201.toList
  · rw [if_pos c4] at H
    have c4b0 : (t199.toList == t201.toList) = true := beq_iff_eq.mpr c4
    have c4b1 : (t199.toList != t201.toList) = false := bne_eq_false_iff_eq.mpr c4
    clear c4
    by_cases c5 : t200 = t202
    · rw [if_pos c5] at H
      have c5b0 : (t200 == t202) = true := beq_iff_eq.mpr c5
      have c5b1 : (t200 != t202) = false := bne_eq_false_iff_eq.mpr c5
      clear c5
      replace H := Option.bind_eq_some_iff.mp H
      obtain ⟨t203, A60, H⟩ := H
      replace H : ((gangerref07_Minutes.f a0).bind fun t204 => (if t203 = t204 then ((gangerlaw07_known.f k).bind fun t205 => (some t205)) else (none))) = some r := H
      have A6 := Aside0.mk A60
      clear A60
      replace H := Option.bind_eq_some_iff.mp H
      obtain ⟨t204, A70, H⟩ := H
      replace H : (if t203 = t204 then ((gangerlaw07_known.f k).bind fun t205 => (some t205)) else (none)) = some r := H
      have A7 := Aside0.mk A70
      clear A70
      by_cases c8 : t203 = t204
      · rw [if_pos c8] at H
        have c8b0 : (t203 == t204) = true := beq_iff_eq.mpr c8
        have c8b1 : (t203 != t204) = false := bne_eq_false_iff_eq.mpr c8
        clear c8
        replace H := Option.bind_eq_some_iff.mp H
        obtain ⟨t205, A90, H⟩ := H
        replace H : (some t205) = some r := H
        have A9 := Aside0.mk A90
        clear A90
        obtain rfl := Option.some.inj H
        go_enter Tryd.func4, Tryd.ntmps4
        go_wp2_with (first | ((with_reducible refine gate_callee (f := 13) rfl ?_); refine goesL_ (some 9) rfl rfl Tryd.func13 (by kernel_rfl) rfl #[.int .i64 a0] rfl (by (try simp only [List.map_toArray, List.map_cons, List.map_nil]); first | done | rfl | (simp only [List.length_drop, List.length_take]; rfl)) ?_; (with_reducible refine (clock_Print.calls k a0 t199 t200 _ ?side1 A2.out).mono ?_); (case side1 => exact Glob.below HG.out (by repeat (first | (with_reducible first | exact HB.out | apply below_alloc | apply pw_below_drewN | apply below_drew1) | exact HB.out))); rintro e w10 ⟨rfl, hb⟩; refine ⟨_, rfl, ?_⟩; have n0_ := Aside0.mk (below_step (by repeat (first | (with_reducible first | exact HB.out | apply below_alloc | apply pw_below_drewN | apply below_drew1) | exact HB.out)) hb); clear HB; have HB := n0_; clear n0_; (try clear hb); (try clear hb2); (try clear hk); (try clear hi)) | ((with_reducible refine gate_callee (f := 14) rfl ?_); refine goesL_ (some 14) rfl rfl Tryd.func14 (by kernel_rfl) rfl #[.int .i64 a0] rfl (by (try simp only [List.map_toArray, List.map_cons, List.map_nil]); first | done | rfl | (simp only [List.length_drop, List.length_take]; rfl)) ?_; (with_reducible refine (gangerref07_Print.calls k a0 t201 t202 _ A3.out).mono ?_); rintro e w11 ⟨rfl, hb⟩; refine ⟨_, rfl, ?_⟩; have n0_ := Aside0.mk (below_step (by repeat (first | (with_reducible first | exact HB.out | apply below_alloc | apply pw_below_drewN | apply below_drew1) | exact HB.out)) hb); clear HB; have HB := n0_; clear n0_; (try clear hb); (try clear hb2); (try clear hk); (try clear hi)) | (go_at_call 15; (with_reducible refine (clock_Minutes.calls a0 t203 _ A6.out).mono ?_); rintro e w' ⟨rfl, ⟨nd, rfl⟩⟩) | (go_at_call 16; (with_reducible refine (gangerref07_Minutes.calls a0 t204 _ A7.out).mono ?_); rintro e w' ⟨rfl, ⟨nd, rfl⟩⟩) | (go_at_call 10; (with_reducible refine (gangerlaw07_known.calls k  t205 _ ?side1 A9.out).mono ?_); (case side1 => exact Glob.below HG.out (by repeat (first | (with_reducible first | exact HB.out | apply below_alloc | apply pw_below_drewN | apply below_drew1) | exact HB.out))); rintro e w12 ⟨rfl, hb⟩; have n0_ := Aside0.mk (below_step (by repeat (first | (with_reducible first | exact HB.out | apply below_alloc | apply pw_below_drewN | apply below_drew1) | exact HB.out)) hb); clear HB; have HB := n0_; clear n0_; (try clear hb); (try clear hb2); (try clear hk); (try clear hi)))
        go_ret
        exact ⟨by first | rfl | (simp [errW_none, errW_some] <;> rfl) | (simp [*, errW_none, errW_some] <;> rfl), by repeat (first | (with_reducible first | exact HB.out | apply below_alloc | apply pw_below_drewN | apply below_drew1) | exact HB.out)⟩
      · rw [if_neg c8] at H
        exact absurd H (by simp)
    · rw [if_neg c5] at H
      exact absurd H (by simp)
  · rw [if_neg c4] at H
    exact absurd H (by simp)

/-- THE ONE PURE STATEMENT of gangerlaw07_ClockPrints: yours. -/
def gangerlaw07_ClockPrints.Pure : Prop := ∀ (a0 : Int), (Lit.int .i64 a0).wf = true → ∃ k, gangerlaw07_ClockPrints.f k a0 = some true
theorem gangerlaw07_ClockPrints.walk (P : gangerlaw07_ClockPrints.Pure) (a0 : Int) (w : World) (hG : Glob w) (w0 : (Lit.int .i64 a0).wf = true) :
    Calls Tryd.prog 4 #[.int .i64 a0] w fun e w' => e = .returned (.bool true) ∧ Below w.heap.size w w' := by
  obtain ⟨k, h⟩ := P a0 w0
  refine (gangerlaw07_ClockPrints.calls k a0 true w hG h).mono ?_
  rintro e w' ⟨rfl, hd⟩
  exact ⟨rfl, hd⟩

end Go.Proofs.YtjgfdilikbeofaaDoor.P
