/- cut to what one law reaches -/
import Derived.Test.YtgkedamhicemiaaDoorJyJ1
namespace Go.Proofs.YtgkedamhicemiaaDoor.P
open Go.RowKit Go.Proofs.YtgkedamhicemiaaDoorW.PrintWords Go.Proofs.YtgkedamhicemiaaDoorW.PrintLast Go.Proofs.YtgkedamhicemiaaDoorW.PrintMore
attribute [local go_sem] max2_int min2_int max_two min_two max_three min_three max_four min_four
set_option linter.unusedVariables false
set_option linter.unusedSimpArgs false
attribute [local go_sem] isSome_setCell
section
variable {W : World} {B t : Nat} {M : Nat → Prop} {h : Cf} {A9 : Option Addr} {c9 : Nat} {A10 : Option Addr} {c10 : Nat} {A11 : Option Addr} {c11 : Nat} {Aj : Option Addr} {cj : Nat} {P : List S85} {Q : List S87} {A : List S89} {L : List S58}
set_option maxHeartbeats 4000000 in
set_option maxRecDepth 100000 in
theorem goes_ran (id now to_ : Int) (timed : Bool) (Af : Option Addr) (cf : Nat) (from_ : List Int) (h0 : 0 ≤ id) (h1 : id ≤ 4294967295) (c : Tab W B M t h A9 c9 A10 c10 A11 c11 Aj cj P Q A L)
    (hf : Kd.C (Kd.int .i64) W Af from_.length from_) (hcf : from_.length ≤ cf) (hct : ∀ x, slices_Contains_int_int.f 9 from_ x = some (decide (x ∈ from_))) :
    Calls Tryd.prog 37 #[.pointer (some ⟨t, 0, none⟩), .int .u32 id, .int .i64 now, .bool timed, .agg #[.slice Af from_.length cf, .int .i64 to_, .func (.func 38) #[] #[]]] W fun e w' => e = .returned (.int .i64 (goesP (fun x => ranP now x) timed id now to_ from_ L).1) ∧ Tab w' B M t h A9 c9 A10 c10 A11 c11 Aj cj P Q A (goesP (fun x => ranP now x) timed id now to_ from_ L).2 ∧ KeepM M W w' := by
  have hu83 := Tryd.underlying83
  have hu58 := Tryd.underlying58
  have hu99 := Tryd.underlying99
  have hnq := run_neq_func
  have hnn := run_neq_nilf
  have C := Aside0.mk c
  have HF := Aside0.mk hf
  clear c hf
  by_cases hid : id = 0 ∨ (L.length : Int) < id
  · have hG : goesP (fun x => ranP now x) timed id now to_ from_ L = (4, L) := by rw [goesP, if_pos hid]
    rw [hG]
    clear hG
    go_enter Tryd.func37, Tryd.ntmps37
    go_wp2_with (first | ((with_reducible refine gate_dst (N := 9) rfl ?_); refine box_event ?hg (N := 9) ?hd (cs := #[.slice Af from_.length cf, .int .i64 to_, .func (.func 38) #[] #[]]) (t := 99) ?hr ?_; (case hd => rfl); (case hg => rfl); (case hr => first | (go_simp; done) | (go_simp; rfl)); intro gb hg w1 hbox hb; have CN := Aside0.mk (Tab.below C.out hb); clear C; have C := CN; clear CN; have HB2 := Aside0.mk hb; have KX := Aside0.mk hbox; clear hb hg hbox; skip) | (go_at_call 36; refine (at_none id h0 h1 hid (by (with_reducible repeat (first | apply Tab.drewN | apply Tab.drew)); exact C.out)).mono ?_; rintro e w2 ⟨rfl, rfl⟩))
    go_ret
    exact ⟨rfl, C.out, KeepM.of HB2.out⟩
  · have k1 : 1 ≤ id := by omega
    have k2 : id ≤ (L.length : Int) := by omega
    obtain ⟨n, hn⟩ : ∃ n : Nat, (n : Int) = id - 1 := ⟨(id - 1).toNat, by omega⟩
    have i1 : n < L.length := by omega
    have HN := Aside0.mk hn
    obtain ⟨g, eA, hMg⟩ := Tab.row C.out (by omega)
    subst eA
    have HS : Aside0 (L.set n (rd_T58 L (n : Int)) = L) := ⟨set_rd L n i1⟩
    have CN := Aside0.mk (Tab.self C.out n i1)
    clear C
    have C := CN
    clear CN
    have hG : goesP (fun x => ranP now x) timed id now to_ from_ L = if timed = true ∧ lateB (rd_T58 L (n : Int)) now = true then (2, L) else if decide ((rd_T58 L (n : Int)).f5 ∈ from_) = true then (0, L.set n { (fun x => ranP now x) (rd_T58 L (n : Int)) with f5 := to_ }) else (130, L) := by
      rw [goesP, if_neg hid, ← hn, Int.toNat_natCast]
    rw [hG]
    clear hG hn
    generalize rd_T58 L (n : Int) = j at C HS ⊢
    have k2s : id ≤ ((L.set n j).length : Int) := by simpa using k2
    cases timed with
    | false =>
      rw [if_neg (by simp)]
      generalize hRR : (ite (decide (j.f5 ∈ from_) = true) _ _) = R
      have HR := Aside0.mk hRR
      clear hRR
      go_enter Tryd.func37, Tryd.ntmps37
      go_wp2_with (first | ((with_reducible refine gate_dst (N := 9) rfl ?_); refine box_event ?hg (N := 9) ?hd (cs := #[.slice Af from_.length cf, .int .i64 to_, .func (.func 38) #[] #[]]) (t := 99) ?hr ?_; (case hd => rfl); (case hg => rfl); (case hr => first | (go_simp; done) | (go_simp; rfl)); intro gb hg w1 hbox hb; have CN := Aside0.mk (Tab.below C.out hb); clear C; have C := CN; clear CN; have HB2 := Aside0.mk hb; have KX := Aside0.mk hbox; clear hb hg hbox; obtain ⟨⟨q0, q1, q2, q3, q6, q7, q18, q19, q20, q21, q22, q23, q24, q25⟩, hfr⟩ := Tab.jobs C.out i1) | (go_at_call 36; refine (at_some n id HN.out k1 h1 k2s (by (with_reducible repeat (first | apply Tab.drewN | apply Tab.drew)); exact C.out)).mono ?_; rintro e w2 ⟨rfl, rfl⟩))
      have n_ := Aside0.mk (blk_drew KX.out)
      clear KX
      have KX := n_
      clear n_
      have n_ := Aside0.mk (Tab.drew C.out)
      clear C
      have C := n_
      clear n_
      have n_ := Aside0.mk (below_drew1 HB2.out)
      clear HB2
      have HB2 := n_
      clear n_
      refine start_ (n := 9) (S := fun w' => w'.cell? ⟨gb, 0, none⟩ = some (.slice Af from_.length cf) ∧ w'.cell? ⟨g, n * 26 + 19, none⟩ = some (.int .i64 j.f5)) (ds := []) #[false, false, false, false, false, false, false, false, false] (by kernel_rfl) rfl rfl ⟨(blk_cell KX.out 0).trans rfl, q19⟩ (fun hHeld => ?_)
      generalize w2.drew = w3 at KX C HB2 hHeld ⊢
      refine pure_ (i := 0) (N := some 28) (v := ?_) (a' := ?_) #[true, false, false, false, false, false, false, false, false] rfl rfl (by kernel_rfl) (fun _ _ _ h => h) (Or.inl ⟨by rfl, ?_⟩) ?_ ?_
      rotate_left
      · intro w'
        go_simp
        with_reducible rfl
      rotate_left
      · simp only [Act.put, List.setIfInBounds_toArray, List.set_cons_zero, List.set_cons_succ, i64_w, i32_w]
        rfl
      refine pure_ (i := 2) (N := some 30) (v := ?_) (a' := ?_) #[true, false, true, false, false, false, false, false, false] rfl rfl (by kernel_rfl) (fun _ _ _ h => h) (Or.inl ⟨by rfl, ?_⟩) ?_ ?_
      rotate_left
      · intro w'
        go_simp
        with_reducible rfl
      rotate_left
      · simp only [Act.put, List.setIfInBounds_toArray, List.set_cons_zero, List.set_cons_succ, i64_w, i32_w]
        rfl
      refine take_ (i := 1) (N := some 29) (v := ?_) (a' := ?_) #[true, true, true, false, false, false, false, false, false] rfl rfl (by kernel_rfl) (fun _ _ _ h => h) (Or.inl ⟨by rfl, ?_⟩) hHeld ?_ ?_
      rotate_left
      · rintro w' ⟨s0, s1⟩
        go_simp
        with_reducible rfl
      rotate_left
      · simp only [Act.put, List.setIfInBounds_toArray, List.set_cons_zero, List.set_cons_succ, i64_w, i32_w]
        rfl
      refine pure_ (i := 3) (N := some 31) (v := ?_) (a' := ?_) #[true, true, true, true, false, false, false, false, false] rfl rfl (by kernel_rfl) (fun _ _ _ h => h) (Or.inl ⟨by rfl, ?_⟩) ?_ ?_
      rotate_left
      · intro w'
        go_simp
        with_reducible rfl
      rotate_left
      · simp only [Act.put, List.setIfInBounds_toArray, List.set_cons_zero, List.set_cons_succ, i64_w, i32_w]
        rfl
      refine pure_ (i := 4) (N := some 32) (v := ?_) (a' := ?_) #[true, true, true, true, true, false, false, false, false] rfl rfl (by kernel_rfl) (fun _ _ _ h => h) (Or.inl ⟨by rfl, ?_⟩) ?_ ?_
      rotate_left
      · intro w'
        go_simp
        with_reducible rfl
      rotate_left
      · simp only [Act.put, List.setIfInBounds_toArray, List.set_cons_zero, List.set_cons_succ, i64_w, i32_w]
        rfl
      refine take_ (i := 5) (N := some 33) (v := ?_) (a' := ?_) #[true, true, true, true, true, true, false, false, false] rfl rfl (by kernel_rfl) (fun _ _ _ h => h) (Or.inl ⟨by rfl, ?_⟩) hHeld ?_ ?_
      rotate_left
      · rintro w' ⟨s0, s1⟩
        go_simp
        with_reducible rfl
      rotate_left
      · simp only [Act.put, List.setIfInBounds_toArray, List.set_cons_zero, List.set_cons_succ, i64_w, i32_w]
        rfl
      refine one_ (i := 6) (N := some 34) #[true, true, true, true, true, true, true, false, false] rfl rfl (by kernel_rfl) (by decide) (fun K hK => ?_)
      refine goes_ Tryd.func43 (by kernel_rfl) rfl #[.slice Af from_.length cf, .int .i64 j.f5] (by rfl) rfl rfl (by (try simp only [List.map_toArray, List.map_cons, List.map_nil]); first | done | rfl) ?_
      refine (slices_Contains_int_int.calls 9 Af cf from_ j.f5 _ _ (Kd.C_below HF.out HB2.out) hcf (hct j.f5)).mono ?_
      rintro e w4 ⟨rfl, hd⟩
      refine ⟨_, rfl, ?_⟩
      have hb := hd.below
      clear hd
      have n_ := Aside0.mk (Tab.below C.out hb)
      clear C
      have C := n_
      clear n_
      have n_ := Aside0.mk (blk_below KX.out hb)
      clear KX
      have KX := n_
      clear n_
      have n_ := Aside0.mk (below_step HB2.out hb)
      clear HB2
      have HB2 := n_
      clear n_ hb
      obtain ⟨⟨q0, q1, q2, q3, q6, q7, q18, q19, q20, q21, q22, q23, q24, q25⟩, hfr⟩ := Tab.jobs C.out i1
      refine hK.out _ _ ⟨(blk_cell KX.out 0).trans rfl, q19⟩ (fun hHeld => ?_)
      clear hK K
      refine norm_ (a' := ?_) ?_ ?_
      rotate_left
      · show Act.put _ (some 34) _ = _
        simp only [Act.put, List.setIfInBounds_toArray, List.set_cons_zero, List.set_cons_succ, i64_w, i32_w]
        rfl
      refine pure_ (i := 7) (N := some 35) (v := ?_) (a' := ?_) #[true, true, true, true, true, true, true, true, false] rfl rfl (by kernel_rfl) (fun _ _ _ h => h) (Or.inl ⟨by rfl, ?_⟩) ?_ ?_
      rotate_left
      · intro w'
        go_simp
        with_reducible rfl
      rotate_left
      · simp only [Act.put, List.setIfInBounds_toArray, List.set_cons_zero, List.set_cons_succ, i64_w, i32_w]
        rfl
      refine pure_ (i := 8) (N := some 27) (v := ?_) (a' := ?_) #[true, true, true, true, true, true, true, true, true] rfl rfl (by kernel_rfl) (fun _ _ _ h => h) (Or.inl ⟨by rfl, ?_⟩) ?_ ?_
      rotate_left
      · intro w'
        go_simp
        with_reducible rfl
      rotate_left
      · simp only [Act.put, List.setIfInBounds_toArray, List.set_cons_zero, List.set_cons_succ, i64_w, i32_w]
        rfl
      refine done_ (by kernel_rfl) ?_
      have kx0 : w4.cell? ⟨gb, 0, none⟩ = some (.slice Af from_.length cf) := (blk_cell KX.out 0).trans rfl
      have kx1 : w4.cell? ⟨gb, 1, none⟩ = some (.int .i64 to_) := (blk_cell KX.out 1).trans rfl
      have kx2 : w4.cell? ⟨gb, 2, none⟩ = some (.func (.func 38) #[] #[]) := (blk_cell KX.out 2).trans rfl
      cases hmem : decide (j.f5 ∈ from_) with
      | false =>
        have hr := HR.out
        clear HR
        rw [hmem, if_neg (by simp)] at hr
        subst hr
        go_wp2
        go_ret
        exact ⟨rfl, by have z := C.out; rw [HS.out] at z; exact z, KeepM.of HB2.out⟩
      | true =>
        have hr := HR.out
        clear HR
        rw [hmem, if_pos rfl] at hr
        have NEb : gb ≠ g := Tab.ne C.out KX.out (by decide)
        by_cases hrn : j.f5 = 3
        · have hr2 : (0, L.set n { { j with f9 := wrap64 (j.f9 + wrap64 (now - j.f7)) } with f5 := to_ }) = R := by rw [← hr]; simp [ranP, hrn]
          clear hr
          subst hr2
          go_wp2_with fail
          go_at_call 38
          refine (ran_at g (n * 26) now _ _ _ _ q19 q21 q23 (hfr 23)).mono ?_
          rintro e w5 ⟨rfl, rfl⟩
          rw [if_pos hrn]
          have KN := Aside0.mk (blk_drew (blk_far KX.out (p := ⟨g, n * 26 + 23, none⟩) NEb (.int .i64 (wrap64 (j.f9 + wrap64 (now - j.f7))))))
          have CN := Aside0.mk (Tab.drew (Tab.set23 C.out i1 (wrap64 (j.f9 + wrap64 (now - j.f7)))))
          have HK := Aside0.mk (KeepM.drew (KeepM.set (KeepM.of (M := M) HB2.out) hMg (n * 26 + 23) (.int .i64 (wrap64 (j.f9 + wrap64 (now - j.f7))))))
          clear C KX
          have C := CN
          have KX := KN
          clear CN KN
          have kx1 := (blk_cell KX.out 1).trans rfl
          obtain ⟨⟨q0, q1, q2, q3, q6, q7, q18, q19, q20, q21, q22, q23, q24, q25⟩, hfr⟩ := Tab.jobs C.out i1
          go_wp2_with fail
          go_ret
          have z := Tab.set19 C.out i1 to_
          exact ⟨rfl, z, KeepM.set HK.out hMg _ _⟩
        · have hr2 : (0, L.set n { (j) with f5 := to_ }) = R := by rw [← hr]; simp [ranP, hrn]
          clear hr
          subst hr2
          go_wp2_with fail
          go_at_call 38
          refine (ran_at g (n * 26) now _ _ _ _ q19 q21 q23 (hfr 23)).mono ?_
          rintro e w5 ⟨rfl, rfl⟩
          rw [if_neg hrn]
          have KN := Aside0.mk KX.out
          have CN := Aside0.mk C.out
          have HK := Aside0.mk (KeepM.of (M := M) HB2.out)
          clear C KX
          have C := CN
          have KX := KN
          clear CN KN
          have kx1 := (blk_cell KX.out 1).trans rfl
          obtain ⟨⟨q0, q1, q2, q3, q6, q7, q18, q19, q20, q21, q22, q23, q24, q25⟩, hfr⟩ := Tab.jobs C.out i1
          go_wp2_with fail
          go_ret
          have z := Tab.set19 C.out i1 to_
          exact ⟨rfl, z, KeepM.set HK.out hMg _ _⟩
    | true =>
      cases hlt : lateB j now with
      | true =>
        have HL := Aside0.mk hlt
        clear hlt
        rw [if_pos ⟨rfl, rfl⟩]
        go_enter Tryd.func37, Tryd.ntmps37
        go_wp2_with (first | ((with_reducible refine gate_dst (N := 9) rfl ?_); refine box_event ?hg (N := 9) ?hd (cs := #[.slice Af from_.length cf, .int .i64 to_, .func (.func 38) #[] #[]]) (t := 99) ?hr ?_; (case hd => rfl); (case hg => rfl); (case hr => first | (go_simp; done) | (go_simp; rfl)); intro gb hg w1 hbox hb; have CN := Aside0.mk (Tab.below C.out hb); clear C; have C := CN; clear CN; have HB2 := Aside0.mk hb; have KX := Aside0.mk hbox; clear hb hg hbox; obtain ⟨⟨q0, q1, q2, q3, q6, q7, q18, q19, q20, q21, q22, q23, q24, q25⟩, hfr⟩ := Tab.jobs C.out i1) | (go_at_call 36; refine (at_some n id HN.out k1 h1 k2s (by (with_reducible repeat (first | apply Tab.drewN | apply Tab.drew)); exact C.out)).mono ?_; rintro e w2 ⟨rfl, rfl⟩) | (go_at_call 42; refine (late_at g (n * 26) now _ _ _ q20 q21 true HL.out).mono ?_; rintro e w3 ⟨rfl, hb⟩; have n_ := Aside0.mk (Tab.below C.out hb); clear C; have C := n_; clear n_; have n_ := Aside0.mk (blk_below KX.out hb); clear KX; have KX := n_; clear n_; have n_ := Aside0.mk (below_step HB2.out hb); clear HB2; have HB2 := n_; clear n_ hb; obtain ⟨⟨q0, q1, q2, q3, q6, q7, q18, q19, q20, q21, q22, q23, q24, q25⟩, hfr⟩ := Tab.jobs C.out i1))
        go_ret
        exact ⟨rfl, by have z := C.out; rw [HS.out] at z; exact z, KeepM.of HB2.out⟩
      | false =>
        have HL := Aside0.mk hlt
        clear hlt
        rw [if_neg (by simp)]
        generalize hRR : (ite (decide (j.f5 ∈ from_) = true) _ _) = R
        have HR := Aside0.mk hRR
        clear hRR
        go_enter Tryd.func37, Tryd.ntmps37
        go_wp2_with (first | ((with_reducible refine gate_dst (N := 9) rfl ?_); refine box_event ?hg (N := 9) ?hd (cs := #[.slice Af from_.length cf, .int .i64 to_, .func (.func 38) #[] #[]]) (t := 99) ?hr ?_; (case hd => rfl); (case hg => rfl); (case hr => first | (go_simp; done) | (go_simp; rfl)); intro gb hg w1 hbox hb; have CN := Aside0.mk (Tab.below C.out hb); clear C; have C := CN; clear CN; have HB2 := Aside0.mk hb; have KX := Aside0.mk hbox; clear hb hg hbox; obtain ⟨⟨q0, q1, q2, q3, q6, q7, q18, q19, q20, q21, q22, q23, q24, q25⟩, hfr⟩ := Tab.jobs C.out i1) | (go_at_call 36; refine (at_some n id HN.out k1 h1 k2s (by (with_reducible repeat (first | apply Tab.drewN | apply Tab.drew)); exact C.out)).mono ?_; rintro e w2 ⟨rfl, rfl⟩) | (go_at_call 42; refine (late_at g (n * 26) now _ _ _ q20 q21 false HL.out).mono ?_; rintro e w3 ⟨rfl, hb⟩; have n_ := Aside0.mk (Tab.below C.out hb); clear C; have C := n_; clear n_; have n_ := Aside0.mk (blk_below KX.out hb); clear KX; have KX := n_; clear n_; have n_ := Aside0.mk (below_step HB2.out hb); clear HB2; have HB2 := n_; clear n_ hb; obtain ⟨⟨q0, q1, q2, q3, q6, q7, q18, q19, q20, q21, q22, q23, q24, q25⟩, hfr⟩ := Tab.jobs C.out i1))
        have n_ := Aside0.mk (blk_drew KX.out)
        clear KX
        have KX := n_
        clear n_
        have n_ := Aside0.mk (Tab.drew C.out)
        clear C
        have C := n_
        clear n_
        have n_ := Aside0.mk (below_drew1 HB2.out)
        clear HB2
        have HB2 := n_
        clear n_
        refine start_ (n := 9) (S := fun w' => w'.cell? ⟨gb, 0, none⟩ = some (.slice Af from_.length cf) ∧ w'.cell? ⟨g, n * 26 + 19, none⟩ = some (.int .i64 j.f5)) (ds := []) #[false, false, false, false, false, false, false, false, false] (by kernel_rfl) rfl rfl ⟨(blk_cell KX.out 0).trans rfl, q19⟩ (fun hHeld => ?_)
        generalize w3.drew = w4 at KX C HB2 hHeld ⊢
        refine pure_ (i := 0) (N := some 28) (v := ?_) (a' := ?_) #[true, false, false, false, false, false, false, false, false] rfl rfl (by kernel_rfl) (fun _ _ _ h => h) (Or.inl ⟨by rfl, ?_⟩) ?_ ?_
        rotate_left
        · intro w'
          go_simp
          with_reducible rfl
        rotate_left
        · simp only [Act.put, List.setIfInBounds_toArray, List.set_cons_zero, List.set_cons_succ, i64_w, i32_w]
          rfl
        refine pure_ (i := 2) (N := some 30) (v := ?_) (a' := ?_) #[true, false, true, false, false, false, false, false, false] rfl rfl (by kernel_rfl) (fun _ _ _ h => h) (Or.inl ⟨by rfl, ?_⟩) ?_ ?_
        rotate_left
        · intro w'
          go_simp
          with_reducible rfl
        rotate_left
        · simp only [Act.put, List.setIfInBounds_toArray, List.set_cons_zero, List.set_cons_succ, i64_w, i32_w]
          rfl
        refine take_ (i := 1) (N := some 29) (v := ?_) (a' := ?_) #[true, true, true, false, false, false, false, false, false] rfl rfl (by kernel_rfl) (fun _ _ _ h => h) (Or.inl ⟨by rfl, ?_⟩) hHeld ?_ ?_
        rotate_left
        · rintro w' ⟨s0, s1⟩
          go_simp
          with_reducible rfl
        rotate_left
        · simp only [Act.put, List.setIfInBounds_toArray, List.set_cons_zero, List.set_cons_succ, i64_w, i32_w]
          rfl
        refine pure_ (i := 3) (N := some 31) (v := ?_) (a' := ?_) #[true, true, true, true, false, false, false, false, false] rfl rfl (by kernel_rfl) (fun _ _ _ h => h) (Or.inl ⟨by rfl, ?_⟩) ?_ ?_
        rotate_left
        · intro w'
          go_simp
          with_reducible rfl
        rotate_left
        · simp only [Act.put, List.setIfInBounds_toArray, List.set_cons_zero, List.set_cons_succ, i64_w, i32_w]
          rfl
        refine pure_ (i := 4) (N := some 32) (v := ?_) (a' := ?_) #[true, true, true, true, true, false, false, false, false] rfl rfl (by kernel_rfl) (fun _ _ _ h => h) (Or.inl ⟨by rfl, ?_⟩) ?_ ?_
        rotate_left
        · intro w'
          go_simp
          with_reducible rfl
        rotate_left
        · simp only [Act.put, List.setIfInBounds_toArray, List.set_cons_zero, List.set_cons_succ, i64_w, i32_w]
          rfl
        refine take_ (i := 5) (N := some 33) (v := ?_) (a' := ?_) #[true, true, true, true, true, true, false, false, false] rfl rfl (by kernel_rfl) (fun _ _ _ h => h) (Or.inl ⟨by rfl, ?_⟩) hHeld ?_ ?_
        rotate_left
        · rintro w' ⟨s0, s1⟩
          go_simp
          with_reducible rfl
        rotate_left
        · simp only [Act.put, List.setIfInBounds_toArray, List.set_cons_zero, List.set_cons_succ, i64_w, i32_w]
          rfl
        refine one_ (i := 6) (N := some 34) #[true, true, true, true, true, true, true, false, false] rfl rfl (by kernel_rfl) (by decide) (fun K hK => ?_)
        refine goes_ Tryd.func43 (by kernel_rfl) rfl #[.slice Af from_.length cf, .int .i64 j.f5] (by rfl) rfl rfl (by (try simp only [List.map_toArray, List.map_cons, List.map_nil]); first | done | rfl) ?_
        refine (slices_Contains_int_int.calls 9 Af cf from_ j.f5 _ _ (Kd.C_below HF.out HB2.out) hcf (hct j.f5)).mono ?_
        rintro e w5 ⟨rfl, hd⟩
        refine ⟨_, rfl, ?_⟩
        have hb := hd.below
        clear hd
        have n_ := Aside0.mk (Tab.below C.out hb)
        clear C
        have C := n_
        clear n_
        have n_ := Aside0.mk (blk_below KX.out hb)
        clear KX
        have KX := n_
        clear n_
        have n_ := Aside0.mk (below_step HB2.out hb)
        clear HB2
        have HB2 := n_
        clear n_ hb
        obtain ⟨⟨q0, q1, q2, q3, q6, q7, q18, q19, q20, q21, q22, q23, q24, q25⟩, hfr⟩ := Tab.jobs C.out i1
        refine hK.out _ _ ⟨(blk_cell KX.out 0).trans rfl, q19⟩ (fun hHeld => ?_)
        clear hK K
        refine norm_ (a' := ?_) ?_ ?_
        rotate_left
        · show Act.put _ (some 34) _ = _
          simp only [Act.put, List.setIfInBounds_toArray, List.set_cons_zero, List.set_cons_succ, i64_w, i32_w]
          rfl
        refine pure_ (i := 7) (N := some 35) (v := ?_) (a' := ?_) #[true, true, true, true, true, true, true, true, false] rfl rfl (by kernel_rfl) (fun _ _ _ h => h) (Or.inl ⟨by rfl, ?_⟩) ?_ ?_
        rotate_left
        · intro w'
          go_simp
          with_reducible rfl
        rotate_left
        · simp only [Act.put, List.setIfInBounds_toArray, List.set_cons_zero, List.set_cons_succ, i64_w, i32_w]
          rfl
        refine pure_ (i := 8) (N := some 27) (v := ?_) (a' := ?_) #[true, true, true, true, true, true, true, true, true] rfl rfl (by kernel_rfl) (fun _ _ _ h => h) (Or.inl ⟨by rfl, ?_⟩) ?_ ?_
        rotate_left
        · intro w'
          go_simp
          with_reducible rfl
        rotate_left
        · simp only [Act.put, List.setIfInBounds_toArray, List.set_cons_zero, List.set_cons_succ, i64_w, i32_w]
          rfl
        refine done_ (by kernel_rfl) ?_
        have kx0 : w5.cell? ⟨gb, 0, none⟩ = some (.slice Af from_.length cf) := (blk_cell KX.out 0).trans rfl
        have kx1 : w5.cell? ⟨gb, 1, none⟩ = some (.int .i64 to_) := (blk_cell KX.out 1).trans rfl
        have kx2 : w5.cell? ⟨gb, 2, none⟩ = some (.func (.func 38) #[] #[]) := (blk_cell KX.out 2).trans rfl
        cases hmem : decide (j.f5 ∈ from_) with
        | false =>
          have hr := HR.out
          clear HR
          rw [hmem, if_neg (by simp)] at hr
          subst hr
          go_wp2
          go_ret
          exact ⟨rfl, by have z := C.out; rw [HS.out] at z; exact z, KeepM.of HB2.out⟩
        | true =>
          have hr := HR.out
          clear HR
          rw [hmem, if_pos rfl] at hr
          have NEb : gb ≠ g := Tab.ne C.out KX.out (by decide)
          by_cases hrn : j.f5 = 3
          · have hr2 : (0, L.set n { { j with f9 := wrap64 (j.f9 + wrap64 (now - j.f7)) } with f5 := to_ }) = R := by rw [← hr]; simp [ranP, hrn]
            clear hr
            subst hr2
            go_wp2_with fail
            go_at_call 38
            refine (ran_at g (n * 26) now _ _ _ _ q19 q21 q23 (hfr 23)).mono ?_
            rintro e w6 ⟨rfl, rfl⟩
            rw [if_pos hrn]
            have KN := Aside0.mk (blk_drew (blk_far KX.out (p := ⟨g, n * 26 + 23, none⟩) NEb (.int .i64 (wrap64 (j.f9 + wrap64 (now - j.f7))))))
            have CN := Aside0.mk (Tab.drew (Tab.set23 C.out i1 (wrap64 (j.f9 + wrap64 (now - j.f7)))))
            have HK := Aside0.mk (KeepM.drew (KeepM.set (KeepM.of (M := M) HB2.out) hMg (n * 26 + 23) (.int .i64 (wrap64 (j.f9 + wrap64 (now - j.f7))))))
            clear C KX
            have C := CN
            have KX := KN
            clear CN KN
            have kx1 := (blk_cell KX.out 1).trans rfl
            obtain ⟨⟨q0, q1, q2, q3, q6, q7, q18, q19, q20, q21, q22, q23, q24, q25⟩, hfr⟩ := Tab.jobs C.out i1
            go_wp2_with fail
            go_ret
            have z := Tab.set19 C.out i1 to_
            exact ⟨rfl, z, KeepM.set HK.out hMg _ _⟩
          · have hr2 : (0, L.set n { (j) with f5 := to_ }) = R := by rw [← hr]; simp [ranP, hrn]
            clear hr
            subst hr2
            go_wp2_with fail
            go_at_call 38
            refine (ran_at g (n * 26) now _ _ _ _ q19 q21 q23 (hfr 23)).mono ?_
            rintro e w6 ⟨rfl, rfl⟩
            rw [if_neg hrn]
            have KN := Aside0.mk KX.out
            have CN := Aside0.mk C.out
            have HK := Aside0.mk (KeepM.of (M := M) HB2.out)
            clear C KX
            have C := CN
            have KX := KN
            clear CN KN
            have kx1 := (blk_cell KX.out 1).trans rfl
            obtain ⟨⟨q0, q1, q2, q3, q6, q7, q18, q19, q20, q21, q22, q23, q24, q25⟩, hfr⟩ := Tab.jobs C.out i1
            go_wp2_with fail
            go_ret
            have z := Tab.set19 C.out i1 to_
            exact ⟨rfl, z, KeepM.set HK.out hMg _ _⟩
end
end Go.Proofs.YtgkedamhicemiaaDoor.P
