/- The machine's side of the laws of this seat: each function's plain form and its contract, written by a program of this session out of Lean's print of the loaded functions; no condition beyond what each statement says. -/
import Derived.Test.YtpkococfmohmiaaDoorP0
import Derived.Test.YtpkococfmohmiaaDoorP1
namespace Go.Proofs.YtpkococfmohmiaaDoor.P
open Go.RowKit Go.Proofs.YtpkococfmohmiaaDoorW.PrintWords Go.Proofs.YtpkococfmohmiaaDoorW.PrintLast Go.Proofs.YtpkococfmohmiaaDoorW.PrintMore
attribute [local go_sem] max2_int min2_int max_two min_two max_three min_three max_four min_four   -- for this text's walks alone
set_option linter.unusedVariables false
set_option linter.unusedSimpArgs false

attribute [local go_sem] isSome_setCell
/-! ### indexes_Parse: function 11 -/
/-- the reader's block -/
abbrev rb (v : Value) (x : S53) (p d n : Int) : Obj := .cells #[v, .int .i64 x.f0, .int .i64 x.f1, .int .i64 x.f2, .int .i64 x.f3, .bool x.f4, .int .i64 p, .int .i64 d, .int .i64 n] 55 (0, 0)
def numN (x : S53) (p n : Int) : S53 := if p = 0 then { x with f1 := n, f2 := n, f3 := 1 } else if p = 1 then { x with f2 := n } else { x with f3 := n }
theorem keepBut_drew {w w1 : World} {g : Nat} {row : Option Nat} (h : KeepBut w w1 g row) : KeepBut w w1.drew g row := h
set_option maxHeartbeats 8000000 in
set_option maxRecDepth 1000000 in
theorem number_calls (b : Nat) (v : Value) (x : S53) (p d n : Int) (w : World) (h : w.heap[b]? = some (rb v x p d n)) :
    Calls Tryd.prog 22 #[.pointer (some ⟨b, 0, none⟩)] w fun e w' => (d = 0 → e = .returned (.bool false) ∧ w' = w) ∧ (d ≠ 0 → e = .returned (.bool true) ∧ w'.heap[b]? = some (rb v (numN x p n) p 0 0) ∧ KeepBut w w' b none ∧ ∀ base w0, base ≤ b → Below base w0 w → Below base w0 w') := by
  have hc : ∀ j u, (#[v, .int .i64 x.f0, .int .i64 x.f1, .int .i64 x.f2, .int .i64 x.f3, .bool x.f4, .int .i64 p, .int .i64 d, .int .i64 n] : Array Value)[j]? = some u → w.cell? ⟨b, j, none⟩ = some u := by
    intro j u hu
    simp only [World.cell?, h, rb]
    exact hu
  have hf : ∀ j, w.frozen? ⟨b, j, none⟩ = false := by intro j; simp [World.frozen?, h, rb]
  have h1 := hc 1 _ rfl
  have h2 := hc 2 _ rfl
  have h3 := hc 3 _ rfl
  have h4 := hc 4 _ rfl
  have h6 := hc 6 _ rfl
  have h7 := hc 7 _ rfl
  have h8 := hc 8 _ rfl
  have f2 := hf 2
  have f3 := hf 3
  have f4 := hf 4
  have f7 := hf 7
  have f8 := hf 8
  have H := Aside0.mk h
  clear hc hf h
  by_cases hd : d = 0
  · subst hd
    go_enter Tryd.func22, Tryd.ntmps22
    go_wp2
    go_ret
    exact ⟨fun _ => ⟨rfl, rfl⟩, fun h => absurd rfl h⟩
  · have hdb : (d == 0) = false := beq_eq_false_iff_ne.mpr hd
    by_cases hp0 : p = 0
    · subst hp0
      go_enter Tryd.func22, Tryd.ntmps22
      go_wp2
      go_region
      go_wp2
      go_ret
      refine ⟨fun h => absurd h hd, fun _ => ⟨rfl, ?_, ?_, ?_⟩⟩
      · have e := blk_drew (blk_set (blk_set (blk_set (blk_set (blk_set (H.out) 2 (.int .i64 n)) 3 (.int .i64 n)) 4 (.int .i64 1)) 8 (.int .i64 0)) 7 (.int .i64 0))
        simp only [List.setIfInBounds_toArray, List.set_cons_succ, List.set_cons_zero] at e
        simp only [numN, if_true]
        exact e
      · exact keepBut_drew (KeepBut.set_ (KeepBut.set_ (KeepBut.set_ (KeepBut.set_ (KeepBut.set_ (KeepBut.refl w b none) 2 (.int .i64 n)) 3 (.int .i64 n)) 4 (.int .i64 1)) 8 (.int .i64 0)) 7 (.int .i64 0))
      · intro base w0 hb hB
        exact below_drew (Below.setCell (Below.setCell (Below.setCell (Below.setCell (Below.setCell hB (p := ⟨b, _, none⟩) hb _) (p := ⟨b, _, none⟩) hb _) (p := ⟨b, _, none⟩) hb _) (p := ⟨b, _, none⟩) hb _) (p := ⟨b, _, none⟩) hb _)
    · have hp0b : (p == 0) = false := beq_eq_false_iff_ne.mpr hp0
      by_cases hp1 : p = 1
      · subst hp1
        go_enter Tryd.func22, Tryd.ntmps22
        go_wp2
        go_ret
        refine ⟨fun h => absurd h hd, fun _ => ⟨rfl, ?_, ?_, ?_⟩⟩
        · have e := blk_set (blk_set (blk_set (H.out) 3 (.int .i64 n)) 8 (.int .i64 0)) 7 (.int .i64 0)
          simp only [List.setIfInBounds_toArray, List.set_cons_succ, List.set_cons_zero] at e
          simp only [numN, if_neg hp0, if_true]
          exact e
        · exact KeepBut.set_ (KeepBut.set_ (KeepBut.set_ (KeepBut.refl w b none) 3 (.int .i64 n)) 8 (.int .i64 0)) 7 (.int .i64 0)
        · intro base w0 hb hB
          exact Below.setCell (Below.setCell (Below.setCell hB (p := ⟨b, _, none⟩) hb _) (p := ⟨b, _, none⟩) hb _) (p := ⟨b, _, none⟩) hb _
      · have hp1b : (p == 1) = false := beq_eq_false_iff_ne.mpr hp1
        go_enter Tryd.func22, Tryd.ntmps22
        go_wp2
        go_ret
        refine ⟨fun h => absurd h hd, fun _ => ⟨rfl, ?_, ?_, ?_⟩⟩
        · have e := blk_set (blk_set (blk_set (H.out) 4 (.int .i64 n)) 8 (.int .i64 0)) 7 (.int .i64 0)
          simp only [List.setIfInBounds_toArray, List.set_cons_succ, List.set_cons_zero] at e
          simp only [numN, if_neg hp0, if_neg hp1]
          exact e
        · exact KeepBut.set_ (KeepBut.set_ (KeepBut.set_ (KeepBut.refl w b none) 4 (.int .i64 n)) 8 (.int .i64 0)) 7 (.int .i64 0)
        · intro base w0 hb hB
          exact Below.setCell (Below.setCell (Below.setCell hB (p := ⟨b, _, none⟩) hb _) (p := ⟨b, _, none⟩) hb _) (p := ⟨b, _, none⟩) hb _

/-- a walk over a string stays where it stands -/
def Keeps (w w' : World) : Prop := ∀ (k : Nat) (s : ByteArray) (pos : Nat), w.heap[k]? = some (Obj.stringIter s pos) → w'.heap[k]? = some (Obj.stringIter s pos)
theorem Keeps.refl (w : World) : Keeps w w := fun _ _ _ h => h
theorem Keeps.trans {w w1 w2 : World} (h : Keeps w w1) (k : Keeps w1 w2) : Keeps w w2 := fun i s pos e => k i s pos (h i s pos e)
theorem Keeps.set {w w1 : World} (h : Keeps w w1) (p : Addr) (u : Value) : Keeps w (w1.setCell p u) := by
  intro i s pos e
  have e1 := h i s pos e
  simp only [World.setCell, Array.getElem?_modify]
  split
  · rw [e1]; rfl
  · exact e1
theorem Keeps.drew {w w1 : World} (h : Keeps w w1) : Keeps w w1.drew := h
theorem Keeps.keep {w w1 : World} {b : Nat} {cs : Array Value} {t : TypeId} {fr : Nat × Nat} (hb : w.heap[b]? = some (.cells cs t fr)) (h : KeepBut w w1 b none) : Keeps w w1 := by
  intro i s pos e
  have hne : i ≠ b := by intro q; subst q; rw [hb] at e; cases e
  exact (h.2 i (blk_lt e) hne (by simp)).trans e
theorem Keeps.grown {w w1 : World} {row : Option Nat} (hg : w.grownBy w1 row) (hr : ∀ k, row = some k → ∃ cs t, w.heap[k]? = some (.cells cs t (0, 0))) : Keeps w w1 := by
  intro i s pos e
  refine (hg.block i (blk_lt e) ?_).trans e
  intro q
  obtain ⟨cs, t, hc⟩ := hr i q.symm
  rw [hc] at e; cases e
/-- the reader as it lies: its block, and its items' row -/
def Rdr (W : World) (base b : Nat) (l : List S53) (x : S53) (p d n : Int) : Prop := ∃ v, W.heap[b]? = some (rb v x p d n) ∧ k53.R 53 W base (fun k => k ≠ b) v l ∧ base ≤ b
def signF (l : List S53) (x : S53) (p d n c at_ : Int) : Option (Bool × List S53 × S53 × Int × Int × Int) :=
  if d = 0 then some (false, l, x, p, d, n)
  else if c = 45 ∧ p = 0 ∧ x.f4 = false then some (true, l, numN x p n, 1, 0, 0)
  else if c = 58 ∧ p = 1 then some (true, l, numN x p n, 2, 0, 0)
  else if (c = 44 ∨ c = 37) ∧ x.f4 = false then (if l.length < 1000000000 then some (true, l ++ [numN x p n], ⟨if c = 37 then at_ else wrap64 (at_ + 1), 0, 0, 0, decide (c = 37)⟩, 0, 0, 0) else none)
  else some (false, l, numN x p n, p, 0, 0)
theorem alloc_drew (w : World) (o : Obj) : (w.alloc o).drew = w.drew.alloc o := rfl
theorem info53 : (Tryd.prog.info? 53).map (fun i => (i.zero, i.size, i.bytes)) = some (some (.agg #[.int .i64 0, .int .i64 0, .int .i64 0, .int .i64 0, .bool false]), 5, 40) := by kernel_rfl
theorem Kd.own_typed_R {α : Type} {d : Kd α} {e : Nat} {w : World} {base : Nat} {ok : Nat → Prop} {v : Value} {xs : List α} (h : d.R e w base ok v xs) : ∀ k, v.ownBlock = some k → ∃ cells, w.heap[k]? = some (.cells cells e (0, 0)) := by
  obtain ⟨_, inner, ho, _⟩ := h
  exact own_typed ho
theorem numN_f4 (x : S53) (p n : Int) : (numN x p n).f4 = x.f4 := by unfold numN; split; · rfl
                                                                     split <;> rfl
set_option maxHeartbeats 8000000 in
set_option maxRecDepth 1000000 in
theorem sign_calls (base b : Nat) (l : List S53) (x : S53) (p d n c at_ : Int) (w0 w : World) (hB : Below base w0 w) (hI : Rdr w base b l x p d n) (r : Bool) (l' : List S53) (x' : S53) (p' d' n' : Int) (h : signF l x p d n c at_ = some (r, l', x', p', d', n')) :
    Calls Tryd.prog 21 #[.pointer (some ⟨b, 0, none⟩), .int .i32 c, .int .i64 at_] w fun e w' => e = .returned (.bool r) ∧ Below base w0 w' ∧ Keeps w w' ∧ (r = true → Rdr w' base b l' x' p' d' n') := by
  obtain ⟨v, hblk, hR, hbb⟩ := hI
  have hN := Aside0.mk (number_calls b v x p d n w hblk)
  have hc2 : w.cell? ⟨b, 2 + 4, none⟩ = some (.int .i64 p) := by rw [blk_cell hblk]; rfl
  have HR := Aside0.mk hR
  have HB := Aside0.mk hB
  clear hR hB
  unfold signF at h
  by_cases hd : d = 0
  · rw [if_pos hd] at h
    simp only [Option.some.injEq, Prod.mk.injEq] at h
    obtain ⟨rfl, rfl, rfl, rfl, rfl, rfl⟩ := h
    go_enter Tryd.func21, Tryd.ntmps21
    go_wp2_with (first | (go_at_call 22; (with_reducible refine hN.out.mono ?_); rintro e w1 ⟨h1, h2⟩; obtain ⟨rfl, rfl⟩ := h1 hd))
    go_ret
    exact ⟨rfl, HB.out, Keeps.refl _, fun h => by cases h⟩
  · rw [if_neg hd] at h
    have hw1 : ∀ w1 : World, w1.heap[b]? = some (rb v (numN x p n) p 0 0) → KeepBut w w1 b none → (w1.cell? ⟨b, 5, none⟩ = some (.bool x.f4)) ∧ w1.frozen? ⟨b, 6, none⟩ = false ∧ w1.cell? ⟨b, 6, none⟩ = some (.int .i64 p) := by
      intro w1 h1 _
      refine ⟨?_, blk_frozen h1 6, ?_⟩
      · rw [blk_cell h1, ← numN_f4 x p n]; rfl
      · rw [blk_cell h1]; rfl
    by_cases c1 : c = 45 ∧ p = 0 ∧ x.f4 = false
    · rw [if_pos c1] at h
      simp only [Option.some.injEq, Prod.mk.injEq] at h
      obtain ⟨rfl, rfl, rfl, rfl, rfl, rfl⟩ := h
      obtain ⟨rfl, rfl, hm⟩ := c1
      go_enter Tryd.func21, Tryd.ntmps21
      go_wp2_with (first | (go_at_call 22; (with_reducible refine hN.out.mono ?_); rintro e w1 ⟨_, h2⟩; obtain ⟨rfl, h3, h4, h5⟩ := h2 hd; have HB1 := Aside0.mk (h5 _ _ hbb HB.out); obtain ⟨g1, g2, g3⟩ := hw1 w1 h3 h4; rw [hm] at g1; have H3 := Aside0.mk h3; have H4 := Aside0.mk h4; clear h2 h3 h4 h5))
      go_ret
      refine ⟨rfl, ?_, (Keeps.keep hblk H4.out).set _ _, fun _ => ⟨v, ?_, ?_, hbb⟩⟩
      · exact Below.setCell HB1.out (p := ⟨b, _, none⟩) hbb _
      · exact blk_set H3.out 6 (.int .i64 1)
      · exact Kd.R_keep HR.out (KeepBut.set_ H4.out 6 _) (fun k hk => hk)
    · rw [if_neg c1] at h
      by_cases c2 : c = 58 ∧ p = 1
      · rw [if_pos c2] at h
        simp only [Option.some.injEq, Prod.mk.injEq] at h
        obtain ⟨rfl, rfl, rfl, rfl, rfl, rfl⟩ := h
        obtain ⟨rfl, rfl⟩ := c2
        go_enter Tryd.func21, Tryd.ntmps21
        go_wp2_with (first | (go_at_call 22; (with_reducible refine hN.out.mono ?_); rintro e w1 ⟨_, h2⟩; obtain ⟨rfl, h3, h4, h5⟩ := h2 hd; have HB1 := Aside0.mk (h5 _ _ hbb HB.out); obtain ⟨g1, g2, g3⟩ := hw1 w1 h3 h4; have H3 := Aside0.mk h3; have H4 := Aside0.mk h4; clear h2 h3 h4 h5))
        go_ret
        refine ⟨rfl, ?_, (Keeps.keep hblk H4.out).set _ _, fun _ => ⟨v, ?_, ?_, hbb⟩⟩
        · exact Below.setCell HB1.out (p := ⟨b, _, none⟩) hbb _
        · exact blk_set H3.out 6 (.int .i64 2)
        · exact Kd.R_keep HR.out (KeepBut.set_ H4.out 6 _) (fun k hk => hk)
      · rw [if_neg c2] at h
        by_cases c3 : (c = 44 ∨ c = 37) ∧ x.f4 = false
        · rw [if_pos c3] at h
          by_cases hl : l.length < 1000000000
          case neg => rw [if_neg hl] at h; cases h
          rw [if_pos hl] at h
          simp only [Option.some.injEq, Prod.mk.injEq] at h
          obtain ⟨rfl, rfl, rfl, rfl, rfl, rfl⟩ := h
          obtain ⟨hc, hm⟩ := c3
          rw [hm] at hw1
          have hf4 : (numN x p n).f4 = false := (numN_f4 x p n).trans hm
          have hcells : ∀ w1 : World, w1.heap[b]? = some (rb v (numN x p n) p 0 0) → ∀ j u, (#[v, .int .i64 (numN x p n).f0, .int .i64 (numN x p n).f1, .int .i64 (numN x p n).f2, .int .i64 (numN x p n).f3, .bool false] : Array Value)[j]? = some u → w1.cell? ⟨b, j, none⟩ = some u := by
            intro w1 h1 j u hu
            rw [blk_cell h1]
            simp only [rb, hf4]
            rcases j with _ | _ | _ | _ | _ | _ | j
            all_goals first | exact hu | (exfalso; simp at hu)
          have k45 : (c == 45) = false := by rcases hc with rfl | rfl <;> rfl
          have k58 : (c == 58) = false := by rcases hc with rfl | rfl <;> rfl
          rcases hc with rfl | rfl
          · go_enter Tryd.func21, Tryd.ntmps21
            go_wp2_with (first | (go_at_call 22; (with_reducible refine hN.out.mono ?_); rintro e w1 ⟨_, h2⟩; obtain ⟨rfl, h3, h4, h5⟩ := h2 hd; have HB1 := Aside0.mk (h5 _ _ hbb HB.out); obtain ⟨g1, g2, g3⟩ := hw1 w1 h3 h4; have d0 := hcells w1 h3 0 _ rfl; have da : ∀ o, (w1.alloc o).cell? ⟨b, 0, none⟩ = some v := fun o => (blk_cell (blk_alloc h3 o) 0).trans rfl; have d1 := hcells w1 h3 1 _ rfl; have d2 := hcells w1 h3 2 _ rfl; have d3 := hcells w1 h3 3 _ rfl; have d4 := hcells w1 h3 4 _ rfl; have d5 := hcells w1 h3 5 _ rfl; have H3 := Aside0.mk h3; have H4 := Aside0.mk h4; clear h2 h3 h4 h5))
            go_region_law (rw [alloc_drew]; refine Kd.R_append_step k53 (w0 := w0) base ?hw (.tmp 63) (.tmp 68) 51 53 (.agg #[.int .i64 0, .int .i64 0, .int .i64 0, .int .i64 0, .bool false]) 40 ?ho Tryd.underlying51 info53 rfl (by decide) (by omega) v l (numN x p n) [.int .i64 (numN x p n).f0, .int .i64 (numN x p n).f1, .int .i64 (numN x p n).f2, .int .i64 (numN x p n).f3, .bool false] (fun k => k ≠ b) (fun _ => False) ?hs ?hx ?hp (fun _ hk => hk.elim) ?aF ?aO ?aB ?aS ?aL ?_; (case hw => rfl); (case ho => rfl); (case hs => rfl); (case hx => rfl); (case hp => (have e := k53_mkM w1.drew base (fun _ => False) (numN x p n); rw [hf4] at e; exact e)); (case aF => exact fun k hk => by have := blk_lt H3.out; intro e; subst e; exact absurd hk (by simp only [World.drew]; omega)); (case aO => exact (by (with_reducible repeat (first | apply Kd.R_alloc | apply Kd.R_drewN | apply Kd.R_drew)); exact Kd.R_keep HR.out H4.out (fun k hk => hk))); (case aB => exact (by repeat (first | (with_reducible first | exact HB1.out | apply below_alloc | apply pw_below_drewN | apply below_drew1 | apply below_drew) | exact HB1.out))); (case aS => have := blk_lt H3.out; simp only [World.drew]; omega); (case aL => omega); intro v1 w2 ho hb hg hat; obtain ⟨A1, c1_, rfl⟩ := Kd.R_slice ho; have hlen : (l ++ [numN x p n]).length = l.length + 1 := List.length_append; rw [hlen] at ho; have hb2 := blk_grown (show w1.drew.heap[b]? = some (rb v (numN x p n) p 0 0) from H3.out) hg (fun e => absurd rfl (HR.out.1 b e.symm)); have u0 : w2.cell? ⟨b, 0, none⟩ = some (v) := (blk_cell hb2 0).trans rfl; have z0 := blk_frozen hb2 0; have u1 : w2.cell? ⟨b, 1, none⟩ = some (.int .i64 (numN x p n).f0) := (blk_cell hb2 1).trans rfl; have z1 := blk_frozen hb2 1; have u2 : w2.cell? ⟨b, 2, none⟩ = some (.int .i64 (numN x p n).f1) := (blk_cell hb2 2).trans rfl; have z2 := blk_frozen hb2 2; have u3 : w2.cell? ⟨b, 3, none⟩ = some (.int .i64 (numN x p n).f2) := (blk_cell hb2 3).trans rfl; have z3 := blk_frozen hb2 3; have u4 : w2.cell? ⟨b, 4, none⟩ = some (.int .i64 (numN x p n).f3) := (blk_cell hb2 4).trans rfl; have z4 := blk_frozen hb2 4; have u5 : w2.cell? ⟨b, 5, none⟩ = some (.bool (numN x p n).f4) := (blk_cell hb2 5).trans rfl; have z5 := blk_frozen hb2 5; have u6 : w2.cell? ⟨b, 6, none⟩ = some (.int .i64 p) := (blk_cell hb2 6).trans rfl; have z6 := blk_frozen hb2 6; have HO2 := Aside0.mk ho; have HBB := Aside0.mk hb; have HG2 := Aside0.mk (Keeps.trans (Keeps.drew (Keeps.keep hblk H4.out)) (Keeps.grown hg (fun k hk => by obtain ⟨cells, hc⟩ := Kd.own_typed_R (Kd.R_keep HR.out H4.out (fun k hk => hk)) k hk; exact ⟨cells, 53, hc⟩))); have HAT := Aside0.mk hat; have HB2 := Aside0.mk hb2; clear ho hb hg hat hb2 da d0 d1 d2 d3 d4 d5 g1 g2 g3)
            go_wp2
            all_goals go_ret
            all_goals (refine ⟨rfl, ?_, ?_, ⟨.slice A1 (l.length + 1) c1_, ?_, ?_, hbb⟩⟩)
            all_goals first
              | (with_reducible exact (((((((HBB.out).setCell (p := ⟨b, _, none⟩) hbb _).setCell (p := ⟨b, _, none⟩) hbb _).setCell (p := ⟨b, _, none⟩) hbb _).setCell (p := ⟨b, _, none⟩) hbb _).setCell (p := ⟨b, _, none⟩) hbb _).setCell (p := ⟨b, _, none⟩) hbb _).setCell (p := ⟨b, _, none⟩) hbb _)
              | (with_reducible exact (((((((HG2.out).set _ _).set _ _).set _ _).set _ _).set _ _).set _ _).set _ _)
              | (with_reducible exact Kd.R_keep HO2.out (KeepBut.set_ (KeepBut.set_ (KeepBut.set_ (KeepBut.set_ (KeepBut.set_ (KeepBut.set_ (KeepBut.set_ (KeepBut.refl w2 b none) 0 (.slice A1 (l.length + 1) c1_)) 1 (.int .i64 (wrap64 (at_ + 1)))) 2 (.int .i64 0)) 3 (.int .i64 0)) 4 (.int .i64 0)) 5 (.bool false)) 6 (.int .i64 0)) (fun k hk => hk))
              | (have e := blk_set (blk_set (blk_set (blk_set (blk_set (blk_set (blk_set (HB2.out) 0 (.slice A1 (l.length + 1) c1_)) 1 (.int .i64 (wrap64 (at_ + 1)))) 2 (.int .i64 0)) 3 (.int .i64 0)) 4 (.int .i64 0)) 5 (.bool false)) 6 (.int .i64 0); simp only [List.setIfInBounds_toArray, List.set_cons_succ, List.set_cons_zero] at e; exact e)
          · go_enter Tryd.func21, Tryd.ntmps21
            go_wp2_with (first | (go_at_call 22; (with_reducible refine hN.out.mono ?_); rintro e w1 ⟨_, h2⟩; obtain ⟨rfl, h3, h4, h5⟩ := h2 hd; have HB1 := Aside0.mk (h5 _ _ hbb HB.out); obtain ⟨g1, g2, g3⟩ := hw1 w1 h3 h4; have d0 := hcells w1 h3 0 _ rfl; have da : ∀ o, (w1.alloc o).cell? ⟨b, 0, none⟩ = some v := fun o => (blk_cell (blk_alloc h3 o) 0).trans rfl; have d1 := hcells w1 h3 1 _ rfl; have d2 := hcells w1 h3 2 _ rfl; have d3 := hcells w1 h3 3 _ rfl; have d4 := hcells w1 h3 4 _ rfl; have d5 := hcells w1 h3 5 _ rfl; have H3 := Aside0.mk h3; have H4 := Aside0.mk h4; clear h2 h3 h4 h5))
            go_region_law (rw [alloc_drew]; refine Kd.R_append_step k53 (w0 := w0) base ?hw (.tmp 63) (.tmp 68) 51 53 (.agg #[.int .i64 0, .int .i64 0, .int .i64 0, .int .i64 0, .bool false]) 40 ?ho Tryd.underlying51 info53 rfl (by decide) (by omega) v l (numN x p n) [.int .i64 (numN x p n).f0, .int .i64 (numN x p n).f1, .int .i64 (numN x p n).f2, .int .i64 (numN x p n).f3, .bool false] (fun k => k ≠ b) (fun _ => False) ?hs ?hx ?hp (fun _ hk => hk.elim) ?aF ?aO ?aB ?aS ?aL ?_; (case hw => rfl); (case ho => rfl); (case hs => rfl); (case hx => rfl); (case hp => (have e := k53_mkM w1.drew base (fun _ => False) (numN x p n); rw [hf4] at e; exact e)); (case aF => exact fun k hk => by have := blk_lt H3.out; intro e; subst e; exact absurd hk (by simp only [World.drew]; omega)); (case aO => exact (by (with_reducible repeat (first | apply Kd.R_alloc | apply Kd.R_drewN | apply Kd.R_drew)); exact Kd.R_keep HR.out H4.out (fun k hk => hk))); (case aB => exact (by repeat (first | (with_reducible first | exact HB1.out | apply below_alloc | apply pw_below_drewN | apply below_drew1 | apply below_drew) | exact HB1.out))); (case aS => have := blk_lt H3.out; simp only [World.drew]; omega); (case aL => omega); intro v1 w2 ho hb hg hat; obtain ⟨A1, c1_, rfl⟩ := Kd.R_slice ho; have hlen : (l ++ [numN x p n]).length = l.length + 1 := List.length_append; rw [hlen] at ho; have hb2 := blk_grown (show w1.drew.heap[b]? = some (rb v (numN x p n) p 0 0) from H3.out) hg (fun e => absurd rfl (HR.out.1 b e.symm)); have u0 : w2.cell? ⟨b, 0, none⟩ = some (v) := (blk_cell hb2 0).trans rfl; have z0 := blk_frozen hb2 0; have u1 : w2.cell? ⟨b, 1, none⟩ = some (.int .i64 (numN x p n).f0) := (blk_cell hb2 1).trans rfl; have z1 := blk_frozen hb2 1; have u2 : w2.cell? ⟨b, 2, none⟩ = some (.int .i64 (numN x p n).f1) := (blk_cell hb2 2).trans rfl; have z2 := blk_frozen hb2 2; have u3 : w2.cell? ⟨b, 3, none⟩ = some (.int .i64 (numN x p n).f2) := (blk_cell hb2 3).trans rfl; have z3 := blk_frozen hb2 3; have u4 : w2.cell? ⟨b, 4, none⟩ = some (.int .i64 (numN x p n).f3) := (blk_cell hb2 4).trans rfl; have z4 := blk_frozen hb2 4; have u5 : w2.cell? ⟨b, 5, none⟩ = some (.bool (numN x p n).f4) := (blk_cell hb2 5).trans rfl; have z5 := blk_frozen hb2 5; have u6 : w2.cell? ⟨b, 6, none⟩ = some (.int .i64 p) := (blk_cell hb2 6).trans rfl; have z6 := blk_frozen hb2 6; have HO2 := Aside0.mk ho; have HBB := Aside0.mk hb; have HG2 := Aside0.mk (Keeps.trans (Keeps.drew (Keeps.keep hblk H4.out)) (Keeps.grown hg (fun k hk => by obtain ⟨cells, hc⟩ := Kd.own_typed_R (Kd.R_keep HR.out H4.out (fun k hk => hk)) k hk; exact ⟨cells, 53, hc⟩))); have HAT := Aside0.mk hat; have HB2 := Aside0.mk hb2; clear ho hb hg hat hb2 da d0 d1 d2 d3 d4 d5 g1 g2 g3)
            go_wp2
            all_goals go_ret
            all_goals (refine ⟨rfl, ?_, ?_, ⟨.slice A1 (l.length + 1) c1_, ?_, ?_, hbb⟩⟩)
            all_goals first
              | (with_reducible exact ((((((((HBB.out).setCell (p := ⟨b, _, none⟩) hbb _).setCell (p := ⟨b, _, none⟩) hbb _).setCell (p := ⟨b, _, none⟩) hbb _).setCell (p := ⟨b, _, none⟩) hbb _).setCell (p := ⟨b, _, none⟩) hbb _).setCell (p := ⟨b, _, none⟩) hbb _).setCell (p := ⟨b, _, none⟩) hbb _).setCell (p := ⟨b, _, none⟩) hbb _)
              | (with_reducible exact ((((((((HG2.out).set _ _).set _ _).set _ _).set _ _).set _ _).set _ _).set _ _).set _ _)
              | (with_reducible exact Kd.R_keep HO2.out (KeepBut.set_ (KeepBut.set_ (KeepBut.set_ (KeepBut.set_ (KeepBut.set_ (KeepBut.set_ (KeepBut.set_ (KeepBut.set_ (KeepBut.refl w2 b none) 0 (.slice A1 (l.length + 1) c1_)) 1 (.int .i64 (wrap64 (at_ + 1)))) 2 (.int .i64 0)) 3 (.int .i64 0)) 4 (.int .i64 0)) 5 (.bool true)) 6 (.int .i64 0)) 1 (.int .i64 at_)) (fun k hk => hk))
              | (have e := blk_set (blk_set (blk_set (blk_set (blk_set (blk_set (blk_set (blk_set (HB2.out) 0 (.slice A1 (l.length + 1) c1_)) 1 (.int .i64 (wrap64 (at_ + 1)))) 2 (.int .i64 0)) 3 (.int .i64 0)) 4 (.int .i64 0)) 5 (.bool true)) 6 (.int .i64 0)) 1 (.int .i64 at_); simp only [List.setIfInBounds_toArray, List.set_cons_succ, List.set_cons_zero] at e; exact e)
        · rw [if_neg c3] at h
          simp only [Option.some.injEq, Prod.mk.injEq] at h
          obtain ⟨rfl, rfl, rfl, rfl, rfl, rfl⟩ := h
          obtain ⟨y, hy⟩ : ∃ y, x.f4 = y := ⟨_, rfl⟩
          rw [hy] at hw1 c1 c3
          cases y with
          | true =>
            go_enter Tryd.func21, Tryd.ntmps21
            go_wp2_with (first | (go_at_call 22; (with_reducible refine hN.out.mono ?_); rintro e w1 ⟨_, h2⟩; obtain ⟨rfl, h3, h4, h5⟩ := h2 hd; have HB1 := Aside0.mk (h5 _ _ hbb HB.out); obtain ⟨g1, g2, g3⟩ := hw1 w1 h3 h4; have H3 := Aside0.mk h3; have H4 := Aside0.mk h4; clear h2 h3 h4 h5))
            all_goals go_ret
            all_goals exact ⟨rfl, HB1.out, Keeps.keep hblk H4.out, fun h => by cases h⟩
          | false =>
            have k1 : (c == 44) = false := beq_eq_false_iff_ne.mpr (fun e => c3 ⟨Or.inl e, rfl⟩)
            have k2 : (c == 37) = false := beq_eq_false_iff_ne.mpr (fun e => c3 ⟨Or.inr e, rfl⟩)
            by_cases c4 : c = 45
            · have k3 : (p == 0) = false := beq_eq_false_iff_ne.mpr (fun e => c1 ⟨c4, e, rfl⟩)
              subst c4
              go_enter Tryd.func21, Tryd.ntmps21
              go_wp2_with (first | (go_at_call 22; (with_reducible refine hN.out.mono ?_); rintro e w1 ⟨_, h2⟩; obtain ⟨rfl, h3, h4, h5⟩ := h2 hd; have HB1 := Aside0.mk (h5 _ _ hbb HB.out); obtain ⟨g1, g2, g3⟩ := hw1 w1 h3 h4; have H3 := Aside0.mk h3; have H4 := Aside0.mk h4; clear h2 h3 h4 h5))
              all_goals go_ret
              all_goals exact ⟨rfl, HB1.out, Keeps.keep hblk H4.out, fun h => by cases h⟩
            · have k3 : (c == 45) = false := beq_eq_false_iff_ne.mpr c4
              by_cases c5 : c = 58
              · have k4 : (p == 1) = false := beq_eq_false_iff_ne.mpr (fun e => c2 ⟨c5, e⟩)
                subst c5
                go_enter Tryd.func21, Tryd.ntmps21
                go_wp2_with (first | (go_at_call 22; (with_reducible refine hN.out.mono ?_); rintro e w1 ⟨_, h2⟩; obtain ⟨rfl, h3, h4, h5⟩ := h2 hd; have HB1 := Aside0.mk (h5 _ _ hbb HB.out); obtain ⟨g1, g2, g3⟩ := hw1 w1 h3 h4; have H3 := Aside0.mk h3; have H4 := Aside0.mk h4; clear h2 h3 h4 h5))
                all_goals go_ret
                all_goals exact ⟨rfl, HB1.out, Keeps.keep hblk H4.out, fun h => by cases h⟩
              · have k4 : (c == 58) = false := beq_eq_false_iff_ne.mpr c5
                go_enter Tryd.func21, Tryd.ntmps21
                go_wp2_with (first | (go_at_call 22; (with_reducible refine hN.out.mono ?_); rintro e w1 ⟨_, h2⟩; obtain ⟨rfl, h3, h4, h5⟩ := h2 hd; have HB1 := Aside0.mk (h5 _ _ hbb HB.out); obtain ⟨g1, g2, g3⟩ := hw1 w1 h3 h4; have H3 := Aside0.mk h3; have H4 := Aside0.mk h4; clear h2 h3 h4 h5))
                all_goals go_ret
                all_goals exact ⟨rfl, HB1.out, Keeps.keep hblk H4.out, fun h => by cases h⟩
/-- the marks -/
def marks (p : Nat → Bool) : Array Value := ((List.range 1001).map fun j => Value.bool (p j)).toArray
theorem marks_size (p : Nat → Bool) : (marks p).size = 1001 := by simp [marks]
theorem marks_get (p : Nat → Bool) (j : Nat) (h : j < 1001) : (marks p)[j]? = some (.bool (p j)) := by simp [marks, h]
theorem marks_set (p : Nat → Bool) (j : Nat) : (marks p).setIfInBounds j (.bool true) = marks (fun i => p i || i == j) := by
  apply Array.ext_getElem?
  intro i
  rw [Array.getElem?_setIfInBounds]
  by_cases h : i < 1001
  · rw [marks_get _ i h, marks_get _ i h, marks_size]
    by_cases e : j = i
    · subst e; simp [h]
    · have e' : (i == j) = false := beq_eq_false_iff_ne.mpr (fun q => e q.symm)
      simp [e, e']
  · rw [Array.getElem?_eq_none (by rw [marks_size]; omega), Array.getElem?_eq_none (by rw [marks_size]; omega)]
    by_cases e : j = i
    · subst e; simp [marks_size, h]
    · simp [e]
theorem zero70 : Tryd.t70.zero = some (.agg (marks fun _ => false)) := by kernel_rfl
theorem zrun (w : World) : (zeroValue 70).run Tryd.prog w = .ok (.agg (marks fun _ => false)) w := by
  simp [zeroValue, zero70]
theorem run_index70 (cs : Array Value) (j : Nat) (u : Value) (h : cs[j]? = some u) (hs : cs.size = 1001) (w : World) : (Instr.index 70 (.agg cs) (.int .i64 (j : Int))).run Tryd.prog w = .ok u w := by
  have hj : j < cs.size := (Array.getElem?_eq_some_iff.1 h).1
  unfold Instr.index
  have h1 : (j : Int) < 1001 := by omega
  have h0 : (0 : Int) ≤ (j : Int) := by omega
  simp [asIntOf, asInt, part, h0, h1, h, hs, Result.andThen]
  intro h2
  omega
theorem range_snoc_t (p : Nat → Bool) (j : Nat) (h : p j = true) : ((List.range (j + 1)).filter p).map (fun j : Nat => (j : Int)) = ((List.range j).filter p).map (fun j : Nat => (j : Int)) ++ [(j : Int)] := by
  rw [List.range_succ, List.filter_append]; simp [h]
theorem range_snoc_f (p : Nat → Bool) (j : Nat) (h : p j = false) : ((List.range (j + 1)).filter p).map (fun j : Nat => (j : Int)) = ((List.range j).filter p).map (fun j : Nat => (j : Int)) := by
  rw [List.range_succ, List.filter_append]; simp [h]
theorem range_len (p : Nat → Bool) (j : Nat) : (((List.range j).filter p).map (fun j : Nat => (j : Int))).length ≤ j := by
  rw [List.length_map]
  have := List.length_filter_le p (List.range j)
  simpa using this
theorem step_eq (p : Nat → Bool) (j nn : Nat) (y1 y2 y3 : Int) (h3 : 1 ≤ y3) (h1 : y1 ≤ (nn : Int)) (h2 : (nn : Int) ≤ y2) (hm : ((nn : Int) - y1) % y3 = 0) :
    ((p j || (decide (y1 ≤ (j : Int)) && decide ((j : Int) ≤ y2) && decide (((j : Int) - y1) % y3 = 0) && decide ((j : Int) < (nn : Int)))) || j == nn) = (p j || (decide (y1 ≤ (j : Int)) && decide ((j : Int) ≤ y2) && decide (((j : Int) - y1) % y3 = 0) && decide ((j : Int) < (nn : Int) + y3))) := by
  by_cases e : j = nn
  · subst e
    have h4 : (j : Int) < (j : Int) + y3 := by omega
    simp [h1, h2, hm, h4]
  · have e' : (j == nn) = false := beq_eq_false_iff_ne.mpr e
    rw [e', Bool.or_false]
    by_cases hj : ((j : Int) - y1) % y3 = 0
    · have key : (j : Int) < (nn : Int) + y3 ↔ (j : Int) < (nn : Int) := by
        constructor
        · intro h
          rcases Int.lt_or_le (j : Int) (nn : Int) with h' | h'
          · exact h'
          · exfalso
            have hd : ((j : Int) - (nn : Int)) % y3 = 0 := by
              have := Int.sub_emod ((j : Int) - y1) ((nn : Int) - y1) y3
              rw [hj, hm] at this
              rw [show (j : Int) - (nn : Int) = ((j : Int) - y1) - ((nn : Int) - y1) by omega, this]; simp
            rw [Int.emod_eq_of_lt (by omega) (by omega)] at hd
            omega
        · intro h; omega
      rw [decide_eq_decide.mpr key]
    · simp [hj]
def runP (x : S53) (p : Nat → Bool) : Nat → Bool := fun j => p j || (decide (x.f1 ≤ (j : Int)) && decide ((j : Int) ≤ x.f2) && decide (((j : Int) - x.f1) % x.f3 = 0))
def sayF : List S53 → (Nat → Bool) → Int → Option (List Int × Int × Int × Int)
  | [], p, m => some (((List.range 1001).filter p).map (fun j : Nat => (j : Int)), m, 0, 0)
  | x :: r, p, m => (indexes_item_wrong.f x.f0 x.f1 x.f2 x.f3 x.f4).bind fun b => if b = true then some ([], 0, x.f0, 2) else if x.f4 = true then sayF r p x.f1 else if (0 ≤ x.f1 ∧ x.f1 ≤ 1000) ∧ x.f2 ≤ 1000 ∧ 1 ≤ x.f3 ∧ x.f3 ≤ 1000 then sayF r (runP x p) m else none
set_option maxHeartbeats 8000000 in
set_option maxRecDepth 1000000 in
theorem say_calls (A : Option Addr) (c : Nat) (l : List S53) (r1 : List Int) (r2 r3 r4 : Int) (w : World) (hr : Kd.C k53 w A l.length l) (hc : l.length ≤ c) (hN : l.length < 1000000000) (h : sayF l (fun _ => false) 0 = some (r1, r2, r3, r4)) :
    Calls Tryd.prog 23 #[.slice A l.length c] w fun e w' => ∃ v0_ : Value, e = .returned (.tuple #[.agg #[v0_, .int .i64 r2], .int .i64 r3, .int .i64 r4]) ∧ Kd.R (Kd.int .i64) 3 w' w.heap.size (fun _ => True) v0_ r1 ∧ Below w.heap.size w w' := by
  have hz := zrun
  have HR := Aside0.mk hr
  clear hr
  have H := Aside0.mk h
  clear h
  obtain ⟨Z, hZ⟩ : ∃ Z, Z = marks (fun _ => false) := ⟨_, rfl⟩
  rw [← hZ] at hz
  have HZ := Aside0.mk hZ
  clear hZ
  have hu25 := Tryd.underlying25
  have hu53 := Tryd.underlying53
  have hu70 := Tryd.underlying70
  go_enter Tryd.func23, Tryd.ntmps23
  go_wp2_with (fail)
  clear hz
  go_loopg [15] (l.length + 1) (fun gk s15 wr => ∃ (i : Nat) (p : Nat → Bool) (m : Int), s15 = .int .i64 i ∧ i ≤ l.length ∧ l.length + 1 = i + gk ∧ wr.heap[w.heap.size]? = some (.cells #[.slice none 0 0, .int .i64 0] 25 (0, 0)) ∧ wr.heap[w.heap.size + 1]? = some (.cells (marks p) 70 (0, 0)) ∧ wr.heap[w.heap.size + 1 + 1]? = some (.cells #[.slice none 0 0, .int .i64 m] 25 (0, 0)) ∧ Aside0 (sayF (l.drop i) p m = some (r1, r2, r3, r4)) ∧ Aside0 (Below w.heap.size w wr))
  case atStart =>
    refine ⟨0, fun _ => false, 0, rfl, Nat.zero_le _, by omega, ?_, ?_, ?_, ⟨H.out⟩, ⟨by repeat (first | exact Below.refl _ _ | apply below_alloc)⟩⟩
    · exact blk_alloc (blk_alloc (blk_new _ _) _) _
    · have e := blk_alloc (blk_new (w.alloc (Obj.cells #[Value.slice none 0 0, Value.int IntKind.i64 0] 25)) (Obj.cells Z 70)) (Obj.cells #[Value.slice none 0 0, Value.int IntKind.i64 0] 25)
      rw [HZ.out] at e
      rw [HZ.out]
      simpa using e
    · have e := blk_new ((w.alloc (Obj.cells #[Value.slice none 0 0, Value.int IntKind.i64 0] 25)).alloc (Obj.cells Z 70)) (Obj.cells #[Value.slice none 0 0, Value.int IntKind.i64 0] 25)
      simpa using e
  case round =>
    obtain ⟨i, p, m, rfl, hi, hgk, hb2, hbm, hba, HI, HB⟩ := hrel
    obtain ⟨gq, rfl⟩ : ∃ m, gk = m + 1 := ⟨gk - 1, by omega⟩
    have hwi : wrap64 ((i : Int) + 1) = ((i + 1 : Nat) : Int) := by unfold wrap64; omega
    by_cases hlt : i < l.length
    · have hlt' : (i : Int) < (l.length : Int) := by omega
      have hC : Kd.C k53 wr A l.length l := Kd.C_below HR.out HB.out
      obtain ⟨ad, rfl, e0, e1, e2, e3, e4⟩ := at_T53 hC i (by omega) (by omega)
      simp only [Int.toNat_natCast] at e0 e1 e2 e3 e4
      have hps : l.drop i = rd_T53 l i :: l.drop (i + 1) := by
        rw [List.drop_eq_getElem_cons hlt]; simp [rd_T53, List.getD, List.getElem?_eq_getElem hlt]
      have hI := HI.out
      rw [hps, sayF] at hI
      obtain ⟨bw, hw1, hI2⟩ := Option.bind_eq_some_iff.mp hI
      have HW := Aside0.mk hw1
      clear hw1 hI hC
      generalize rd_T53 l i = x at *
      obtain ⟨y0, y1, y2, y3, y4⟩ := x
      dsimp only at e0 e1 e2 e3 e4 HW hI2
      have hltb : w.heap.size + 1 + 1 < wr.heap.size := blk_lt hba
      cases bw with
      | true =>
        simp only [if_true, Option.some.injEq, Prod.mk.injEq] at hI2
        obtain ⟨rfl, rfl, rfl, rfl⟩ := hI2
        go_wp2_with (first | (go_at_call 31; (with_reducible refine (indexes_item_wrong.calls y0 y1 y2 y3 y4 _ _ HW.out).mono ?_); rintro e w2 ⟨rfl, hbw⟩; have B2 := Aside0.mk (blk_below (blk_alloc hb2 _) hbw); have BM := Aside0.mk (blk_below (blk_alloc hbm _) hbw); have BA := Aside0.mk (blk_below (blk_alloc hba _) hbw); have BI := Aside0.mk (blk_below (blk_new wr _) hbw); have HB2 := Aside0.mk (below_step (below_alloc HB.out _) hbw); clear hbw; have i0 : w2.cell? ⟨wr.heap.size, 0, none⟩ = some (.int .i64 y0) := (blk_cell BI.out 0).trans rfl; have i1 : w2.cell? ⟨wr.heap.size, 1, none⟩ = some (.int .i64 y1) := (blk_cell BI.out 1).trans rfl; have i4 : w2.cell? ⟨wr.heap.size, 4, none⟩ = some (.bool y4) := (blk_cell BI.out 4).trans rfl; have a1 : w2.cell? ⟨w.heap.size + 1 + 1, 1, none⟩ = some (.int .i64 m) := (blk_cell BA.out 1).trans rfl; have fa1 := blk_frozen BA.out 1; have c20 : w2.cell? ⟨w.heap.size, 0, none⟩ = some (.slice none 0 0) := (blk_cell B2.out 0).trans rfl; have c21 : w2.cell? ⟨w.heap.size, 1, none⟩ = some (.int .i64 0) := (blk_cell B2.out 1).trans rfl; have f20 := blk_frozen B2.out 0; have f21 := blk_frozen B2.out 1))
        go_region
        go_wp2
        refine bodyPost_ret (results_ctt rfl _ _ w.heap.size 25 #[.slice none 0 0, .int .i64 0] (0, 0) _ rfl (by refine blk_drew ?_; refine blk_put (cs := #[.slice none 0 0, .int .i64 0]) ?_ 1 _ rfl; refine blk_put (cs := #[.slice none 0 0, .int .i64 0]) ?_ 0 _ rfl; exact B2.out) Tryd.underlying25 rfl (by kernel_rfl)) rfl ?_
        exact ⟨_, rfl, Kd.R_nil _ _ _ _ _, below_drew ((HB2.out.setCell (p := ⟨w.heap.size, 0, none⟩) (Nat.le_refl _) _).setCell (p := ⟨w.heap.size, 1, none⟩) (Nat.le_refl _) _)⟩
      | false =>
        simp only [Bool.false_eq_true, if_false] at hI2
        by_cases hm : y4 = true
        · rw [if_pos hm] at hI2
          subst hm
          have HI3 := Aside0.mk hI2
          clear hI2
          go_wp2_with (first | (go_at_call 31; (with_reducible refine (indexes_item_wrong.calls y0 y1 y2 y3 true _ _ HW.out).mono ?_); rintro e w2 ⟨rfl, hbw⟩; have B2 := Aside0.mk (blk_below (blk_alloc hb2 _) hbw); have BM := Aside0.mk (blk_below (blk_alloc hbm _) hbw); have BA := Aside0.mk (blk_below (blk_alloc hba _) hbw); have BI := Aside0.mk (blk_below (blk_new wr _) hbw); have HB2 := Aside0.mk (below_step (below_alloc HB.out _) hbw); clear hbw; have i0 : w2.cell? ⟨wr.heap.size, 0, none⟩ = some (.int .i64 y0) := (blk_cell BI.out 0).trans rfl; have i1 : w2.cell? ⟨wr.heap.size, 1, none⟩ = some (.int .i64 y1) := (blk_cell BI.out 1).trans rfl; have i4 : w2.cell? ⟨wr.heap.size, 4, none⟩ = some (.bool true) := (blk_cell BI.out 4).trans rfl; have a1 : w2.cell? ⟨w.heap.size + 1 + 1, 1, none⟩ = some (.int .i64 m) := (blk_cell BA.out 1).trans rfl; have fa1 := blk_frozen BA.out 1; have c20 : w2.cell? ⟨w.heap.size, 0, none⟩ = some (.slice none 0 0) := (blk_cell B2.out 0).trans rfl; have c21 : w2.cell? ⟨w.heap.size, 1, none⟩ = some (.int .i64 0) := (blk_cell B2.out 1).trans rfl; have f20 := blk_frozen B2.out 0; have f21 := blk_frozen B2.out 1))
          go_roundg gq
          case measure => exact Nat.lt_succ_self _
          case rel =>
            refine ⟨i + 1, p, y1, by first | rfl | (push_cast; rfl) | rw [hwi], by omega, by omega, ?_, ?_, ?_, HI3, ⟨?_⟩⟩
            · exact blk_far B2.out (p := ⟨w.heap.size + 1 + 1, 1, none⟩) (by show w.heap.size ≠ w.heap.size + 1 + 1; omega) _
            · exact blk_far BM.out (p := ⟨w.heap.size + 1 + 1, 1, none⟩) (by show w.heap.size + 1 ≠ w.heap.size + 1 + 1; omega) _
            · exact blk_set BA.out 1 _
            · exact HB2.out.setCell (p := ⟨w.heap.size + 1 + 1, 1, none⟩) (by show w.heap.size ≤ w.heap.size + 1 + 1; omega) _
        · rw [if_neg hm] at hI2
          have hm' : y4 = false := by simpa using hm
          subst hm'
          by_cases hg : (0 ≤ y1 ∧ y1 ≤ 1000) ∧ y2 ≤ 1000 ∧ 1 ≤ y3 ∧ y3 ≤ 1000
          case neg => rw [if_neg hg] at hI2; cases hI2
          rw [if_pos hg] at hI2
          have HI3 := Aside0.mk hI2
          clear hI2
          go_wp2_with (first | (go_at_call 31; (with_reducible refine (indexes_item_wrong.calls y0 y1 y2 y3 false _ _ HW.out).mono ?_); rintro e w2 ⟨rfl, hbw⟩; have B2 := Aside0.mk (blk_below (blk_alloc hb2 _) hbw); have BM := Aside0.mk (blk_below (blk_alloc hbm _) hbw); have BA := Aside0.mk (blk_below (blk_alloc hba _) hbw); have BI := Aside0.mk (blk_below (blk_new wr _) hbw); have HB2 := Aside0.mk (below_step (below_alloc HB.out _) hbw); clear hbw; have i0 : w2.cell? ⟨wr.heap.size, 0, none⟩ = some (.int .i64 y0) := (blk_cell BI.out 0).trans rfl; have i1 : w2.cell? ⟨wr.heap.size, 1, none⟩ = some (.int .i64 y1) := (blk_cell BI.out 1).trans rfl; have i4 : w2.cell? ⟨wr.heap.size, 4, none⟩ = some (.bool false) := (blk_cell BI.out 4).trans rfl; have a1 : w2.cell? ⟨w.heap.size + 1 + 1, 1, none⟩ = some (.int .i64 m) := (blk_cell BA.out 1).trans rfl; have fa1 := blk_frozen BA.out 1; have c20 : w2.cell? ⟨w.heap.size, 0, none⟩ = some (.slice none 0 0) := (blk_cell B2.out 0).trans rfl; have c21 : w2.cell? ⟨w.heap.size, 1, none⟩ = some (.int .i64 0) := (blk_cell B2.out 1).trans rfl; have f20 := blk_frozen B2.out 0; have f21 := blk_frozen B2.out 1))
          go_loopg [9] 2001 (fun gj s9 wv => ∃ (n : Int) (q : Nat → Bool), s9 = .int .i64 n ∧ y1 ≤ n ∧ n ≤ 2000 ∧ (n - y1) % y3 = 0 ∧ 2001 ≤ n + gj ∧ (∀ j, q j = (p j || (decide (y1 ≤ (j : Int)) && decide ((j : Int) ≤ y2) && decide (((j : Int) - y1) % y3 = 0) && decide ((j : Int) < n)))) ∧ wv.heap[w.heap.size]? = some (.cells #[.slice none 0 0, .int .i64 0] 25 (0, 0)) ∧ wv.heap[w.heap.size + 1]? = some (.cells (marks q) 70 (0, 0)) ∧ wv.heap[w.heap.size + 1 + 1]? = some (.cells #[.slice none 0 0, .int .i64 m] 25 (0, 0)) ∧ wv.heap[wr.heap.size]? = some (.cells #[.int .i64 y0, .int .i64 y1, .int .i64 y2, .int .i64 y3, .bool false] 53 (0, 0)) ∧ Aside0 (Below w.heap.size w wv))
          case atStart =>
            refine ⟨y1, p, rfl, Int.le_refl _, by omega, by simp, by omega, fun j => ?_, B2.out, BM.out, BA.out, BI.out, HB2⟩
            by_cases hj : y1 ≤ (j : Int)
            · have : ¬ (j : Int) < y1 := by omega
              simp [this]
            · simp [hj]
          case round =>
            obtain ⟨n, q, rfl, hn1, hn2, hn3, hn4, hq, g2, gm, ga, gi, HBv⟩ := hrel
            have v2 := (blk_cell gi 2).trans (show _ = some (Value.int .i64 y2) from rfl)
            have v3 := (blk_cell gi 3).trans (show _ = some (Value.int .i64 y3) from rfl)
            by_cases hle : n ≤ y2
            · obtain ⟨gk, rfl⟩ : ∃ z, gk = z + 1 := ⟨gk - 1, by omega⟩
              obtain ⟨nn, rfl⟩ : ∃ z : Nat, n = z := ⟨n.toNat, by omega⟩
              have h1001 : nn < 1001 := by omega
              have vm := (blk_cell gm nn).trans (marks_get q nn h1001)
              have fm := blk_frozen gm nn
              have hn0 : (0 : Int) ≤ (nn : Int) := by omega
              have hn1001 : (nn : Int) < 1001 := by omega
              go_wp2
              go_roundg gk
              case measure => exact Nat.lt_succ_self _
              case rel =>
                refine ⟨(nn : Int) + y3, fun j => q j || j == nn, rfl, by omega, by omega, ?_, by omega, fun j => ?_, ?_, ?_, ?_, ?_, ⟨?_⟩⟩
                · rw [show (nn : Int) + y3 - y1 = (nn - y1) + y3 by omega, Int.add_emod_right]; exact hn3
                · show (q j || j == nn) = _
                  rw [hq j]
                  exact step_eq p j nn y1 y2 y3 (by omega) hn1 hle hn3
                · exact blk_far g2 (p := ⟨w.heap.size + 1, nn, none⟩) (by show w.heap.size ≠ w.heap.size + 1; omega) _
                · rw [← marks_set]
                  exact blk_set gm nn _
                · exact blk_far ga (p := ⟨w.heap.size + 1, nn, none⟩) (by show w.heap.size + 1 + 1 ≠ w.heap.size + 1; omega) _
                · exact blk_far gi (p := ⟨w.heap.size + 1, nn, none⟩) (by show _ ≠ w.heap.size + 1; omega) _
                · exact HBv.out.setCell (p := ⟨w.heap.size + 1, nn, none⟩) (by show w.heap.size ≤ w.heap.size + 1; omega) _
            · go_wp2
              go_roundg gq
              case measure => exact Nat.lt_succ_self _
              case rel =>
                have hqq : q = runP ⟨y0, y1, y2, y3, false⟩ p := by
                  funext j
                  rw [hq j, runP]
                  by_cases hj : (j : Int) ≤ y2
                  · have : (j : Int) < n := by omega
                    simp [this]
                  · simp [hj]
                rw [hqq] at gm
                exact ⟨i + 1, runP ⟨y0, y1, y2, y3, false⟩ p, m, by first | rfl | (push_cast; rfl) | rw [hwi], by omega, by omega, g2, gm, ga, HI3, HBv⟩
    · obtain rfl : i = l.length := by omega
      have hI := HI.out
      rw [List.drop_length, sayF] at hI
      simp only [Option.some.injEq, Prod.mk.injEq] at hI
      obtain ⟨hr1, rfl, rfl, rfl⟩ := hI
      have hload : (loadVar 70 ⟨w.heap.size + 1, 0, none⟩).run Tryd.prog wr = .ok (.agg (marks p)) wr := run_loadVar_row _ _ 70 70 (marks p) (0, 0) _ hbm Tryd.underlying70 rfl (by rw [marks_size]; kernel_rfl)
      have hload2 : (Instr.loadAt 70 (.pointer (some ⟨w.heap.size + 1, 0, none⟩))).run Tryd.prog wr = .ok (.agg (marks p)) wr := by
        simp only [Instr.loadAt, Instr.sureAddr, Sem.run_bind, Sem.run_pure, Result.andThen]
        exact hload
      clear hu70
      go_wp2
      refine wp_load_row 70 (.tmp 5) rfl (w.heap.size + 1) rfl 70 (marks p) (0, 0) _ hbm Tryd.underlying70 rfl (by rw [marks_size]; kernel_rfl) ?_
      have hR0 : Aside0 (Kd.R (Kd.int .i64) 3 wr w.heap.size (fun k => k ≠ w.heap.size + 1 + 1 ∧ k ≠ w.heap.size) (.slice none 0 0) (((List.range 0).filter p).map (fun j : Nat => (j : Int)))) := ⟨Kd.R_nil _ _ _ _ _⟩
      clear hbm hload hload2 HI
      go_wp2
      go_loopg [43] 1002 (fun gj s43 wv => ∃ (j : Nat) (v : Value), s43 = .int .i64 j ∧ j ≤ 1001 ∧ 1002 = j + gj ∧ wv.heap[w.heap.size]? = some (.cells #[.slice none 0 0, .int .i64 0] 25 (0, 0)) ∧ wv.heap[w.heap.size + 1 + 1]? = some (.cells #[v, .int .i64 m] 25 (0, 0)) ∧ Aside0 (Kd.R (Kd.int .i64) 3 wv w.heap.size (fun k => k ≠ w.heap.size + 1 + 1 ∧ k ≠ w.heap.size) v (((List.range j).filter p).map (fun j : Nat => (j : Int)))) ∧ Aside0 (Below w.heap.size w wv))
      case atStart => exact ⟨0, _, rfl, Nat.zero_le _, rfl, hb2, hba, hR0, HB⟩
      case round =>
        obtain ⟨j, v, rfl, hj, hgj, hb2, hba, HR2, HB⟩ := hrel
        obtain ⟨gk, rfl⟩ : ∃ m, gk = m + 1 := ⟨gk - 1, by omega⟩
        have a0 : wr.cell? ⟨w.heap.size + 1 + 1, 0, none⟩ = some v := (blk_cell hba 0).trans rfl
        by_cases hj2 : j < 1001
        · have hj3 : (j : Int) < 1001 := by omega
          have hmk := marks_get p j hj2
          cases hp : p j with
          | true =>
            rw [hp] at hmk
            have hix := run_index70 _ _ _ hmk (marks_size p) wr
            have hlen := range_len p j
            have hsn := range_snoc_t p j hp
            obtain ⟨xs, hxs⟩ : ∃ xs, xs = ((List.range j).filter p).map (fun j : Nat => (j : Int)) := ⟨_, rfl⟩
            rw [← hxs] at HR2 hlen hsn
            clear hxs
            have hl1 : (xs ++ [(j : Int)]).length = xs.length + 1 := List.length_append
            go_wp2_with (first | ((with_reducible refine gate_builtin (b := .append) (xs := #[.tmp 49, .tmp 51]) rfl ?_); at_builtin; refine Kd.R_append (Kd.int .i64) (w0 := w) w.heap.size rfl (.tmp 49) (.tmp 51) 23 3 (.int .i64 0) 8 rfl Tryd.underlying23 info3 rfl (by decide) (by omega) v xs (j : Int) [.int .i64 (j : Int)] (fun k => k ≠ w.heap.size + 1 + 1 ∧ k ≠ w.heap.size) (fun _ => False) rfl rfl ?aP (fun _ hk => hk.elim) ?aF ?aO ?aB ?aS ?aL ?_; (case aP => exact rfl); (case aB => exact HB.out); (case aF => exact fun k hk => by have e1 := blk_lt hb2; have e2 := blk_lt hba; exact ⟨fun e => by omega, fun e => by omega⟩); (case aO => exact HR2.out); (case aS => have e1 := blk_lt hb2; omega); (case aL => omega); intro v1 w3 ho hb hg hat; obtain ⟨A1, c1_, rfl⟩ := Kd.R_slice ho; rw [hl1] at ho; have k2 := Aside0.mk (blk_grown hb2 hg (fun e => absurd rfl (HR2.out.1 _ e.symm).2)); have ka := Aside0.mk (blk_grown hba hg (fun e => absurd rfl (HR2.out.1 _ e.symm).1)); have q0 : w3.cell? ⟨w.heap.size + 1 + 1, 0, none⟩ = some v := (blk_cell ka.out 0).trans rfl; have qf := blk_frozen ka.out 0; have HO3 := Aside0.mk ho; have HB3 := Aside0.mk hb; clear ho hb hg hat))
            go_roundg gk
            case measure => exact Nat.lt_succ_self _
            case rel =>
              refine ⟨j + 1, .slice A1 (xs.length + 1) c1_, by first | rfl | (push_cast; rfl), by omega, by omega, ?_, ?_, ⟨?_⟩, ⟨?_⟩⟩
              case refine_1 => exact blk_far k2.out (p := ⟨w.heap.size + 1 + 1, 0, none⟩) (by show w.heap.size ≠ w.heap.size + 1 + 1; omega) _
              case refine_2 => exact blk_set ka.out 0 _
              case refine_3 =>
                rw [hsn]
                exact Kd.R_far HO3.out (p := ⟨w.heap.size + 1 + 1, 0, none⟩) (fun k hk => hk.1) _
              case refine_4 => exact HB3.out.setCell (p := ⟨w.heap.size + 1 + 1, 0, none⟩) (by show w.heap.size ≤ w.heap.size + 1 + 1; omega) _
          | false =>
            rw [hp] at hmk
            have hix := run_index70 _ _ _ hmk (marks_size p) wr
            have hsn := range_snoc_f p j hp
            go_wp2
            go_roundg gk
            case measure => exact Nat.lt_succ_self _
            case rel => exact ⟨j + 1, v, by first | rfl | (push_cast; rfl), by omega, by omega, hb2, hba, ⟨by rw [hsn]; exact HR2.out⟩, HB⟩
        · obtain rfl : j = 1001 := by omega
          have hj3 : ¬ ((1001 : Nat) : Int) < 1001 := by omega
          obtain ⟨A1, c1_, rfl⟩ := Kd.R_slice HR2.out
          have a1 : wr.cell? ⟨w.heap.size + 1 + 1, 1, none⟩ = some (.int .i64 m) := (blk_cell hba 1).trans rfl
          have c20 : wr.cell? ⟨w.heap.size, 0, none⟩ = some (.slice none 0 0) := (blk_cell hb2 0).trans rfl
          have c21 : wr.cell? ⟨w.heap.size, 1, none⟩ = some (.int .i64 0) := (blk_cell hb2 1).trans rfl
          have f20 := blk_frozen hb2 0
          have f21 := blk_frozen hb2 1
          rw [hr1] at HR2 a0 hba
          go_wp2
          refine bodyPost_ret (results_ctt rfl _ _ w.heap.size 25 #[.slice A1 r1.length c1_, .int .i64 m] (0, 0) _ rfl (by refine blk_put (cs := #[.slice A1 r1.length c1_, .int .i64 0]) ?_ 1 _ rfl; refine blk_put (cs := #[.slice none 0 0, .int .i64 0]) ?_ 0 _ rfl; exact hb2) Tryd.underlying25 rfl (by kernel_rfl)) rfl ?_
          exact ⟨_, rfl, Kd.R_mono (Kd.R_far (Kd.R_far HR2.out (p := ⟨w.heap.size, 0, none⟩) (fun k hk => hk.2) _) (p := ⟨w.heap.size, 1, none⟩) (fun k hk => hk.2) _) (fun _ _ => trivial), (HB.out.setCell (p := ⟨w.heap.size, 0, none⟩) (Nat.le_refl _) _).setCell (p := ⟨w.heap.size, 1, none⟩) (Nat.le_refl _) _⟩
set_option maxHeartbeats 8000000 in
set_option maxRecDepth 1000000 in
theorem digit_bad (b : Nat) (v : Value) (x : S53) (p d n c : Int) (hc1 : 48 ≤ c) (hc2 : c ≤ 57) (w : World) (h : w.heap[b]? = some (rb v x p d n)) (hq : d = 4 ∨ (0 < d ∧ n = 0)) :
    Calls Tryd.prog 20 #[.pointer (some ⟨b, 0, none⟩), .int .i32 c] w fun e w' => e = .returned (.bool false) ∧ w' = w := by
  have h7 : w.cell? ⟨b, 7, none⟩ = some (.int .i64 d) := (blk_cell h 7).trans rfl
  have h8 : w.cell? ⟨b, 8, none⟩ = some (.int .i64 n) := (blk_cell h 8).trans rfl
  have f7 := blk_frozen h 7
  have f8 := blk_frozen h 8
  have H := Aside0.mk h
  clear h
  have e1 : IntKind.i32.wrap (c - 48) = c - 48 := by rw [IntKind.wrap_i32]; omega
  have e2 : wrap64 (c - 48) = c - 48 := by unfold wrap64; omega
  have e3 : wrap32 (c - 48) = c - 48 := by unfold wrap32; omega
  rcases hq with rfl | ⟨hd, rfl⟩
  · go_enter Tryd.func20, Tryd.ntmps20
    go_wp2
    go_ret
    exact ⟨rfl, rfl⟩
  · by_cases hd4 : d = 4
    · subst hd4
      go_enter Tryd.func20, Tryd.ntmps20
      go_wp2
      go_ret
      exact ⟨rfl, rfl⟩
    · have hdb : (d == 4) = false := beq_eq_false_iff_ne.mpr hd4
      go_enter Tryd.func20, Tryd.ntmps20
      go_wp2
      go_ret
      exact ⟨rfl, rfl⟩
set_option maxHeartbeats 8000000 in
set_option maxRecDepth 1000000 in
theorem digit_ok (b : Nat) (v : Value) (x : S53) (p d n c : Int) (hc1 : 48 ≤ c) (hc2 : c ≤ 57) (base : Nat) (w0 w : World) (hb : base ≤ b) (hB : Below base w0 w) (h : w.heap[b]? = some (rb v x p d n)) (hq : ¬ (d = 4 ∨ (0 < d ∧ n = 0))) :
    Calls Tryd.prog 20 #[.pointer (some ⟨b, 0, none⟩), .int .i32 c] w fun e w' => e = .returned (.bool true) ∧ w'.heap[b]? = some (rb v x p (wrap64 (d + 1)) (wrap64 (wrap64 (10 * n) + (c - 48)))) ∧ KeepBut w w' b none ∧ Below base w0 w' := by
  have h7 : w.cell? ⟨b, 7, none⟩ = some (.int .i64 d) := (blk_cell h 7).trans rfl
  have h8 : w.cell? ⟨b, 8, none⟩ = some (.int .i64 n) := (blk_cell h 8).trans rfl
  have f7 := blk_frozen h 7
  have f8 := blk_frozen h 8
  have H := Aside0.mk h
  clear h
  have e1 : IntKind.i32.wrap (c - 48) = c - 48 := by rw [IntKind.wrap_i32]; omega
  have e2 : wrap64 (c - 48) = c - 48 := by unfold wrap64; omega
  have e3 : wrap32 (c - 48) = c - 48 := by unfold wrap32; omega
  have HB := Aside0.mk hB
  clear hB
  have hd4 : ¬ d = 4 := fun e => hq (Or.inl e)
  have hdb : (d == 4) = false := beq_eq_false_iff_ne.mpr hd4
  by_cases hd0 : 0 < d
  · have hn : ¬ n = 0 := fun e => hq (Or.inr ⟨hd0, e⟩)
    have hnb : (n == 0) = false := beq_eq_false_iff_ne.mpr hn
    clear hq
    go_enter Tryd.func20, Tryd.ntmps20
    go_wp2
    go_ret
    refine ⟨rfl, ?_, ?_, ?_⟩
    · have e := blk_set (blk_set H.out 8 (.int .i64 (wrap64 (wrap64 (10 * n) + (c - 48))))) 7 (.int .i64 (wrap64 (d + 1)))
      simp only [List.setIfInBounds_toArray, List.set_cons_succ, List.set_cons_zero] at e
      exact e
    · exact KeepBut.set_ (KeepBut.set_ (KeepBut.refl w b none) 8 _) 7 _
    · exact Below.setCell (Below.setCell HB.out (p := ⟨b, _, none⟩) hb _) (p := ⟨b, _, none⟩) hb _
  · clear hq
    go_enter Tryd.func20, Tryd.ntmps20
    go_wp2
    go_ret
    refine ⟨rfl, ?_, ?_, ?_⟩
    · have e := blk_set (blk_set H.out 8 (.int .i64 (wrap64 (wrap64 (10 * n) + (c - 48))))) 7 (.int .i64 (wrap64 (d + 1)))
      simp only [List.setIfInBounds_toArray, List.set_cons_succ, List.set_cons_zero] at e
      exact e
    · exact KeepBut.set_ (KeepBut.set_ (KeepBut.refl w b none) 8 _) 7 _
    · exact Below.setCell (Below.setCell HB.out (p := ⟨b, _, none⟩) hb _) (p := ⟨b, _, none⟩) hb _
/-- a text, sign by sign -/
def prs : Nat → ByteArray → Nat → List S53 → S53 → Int → Int → Int → Option (List Int × Int × Int × Int)
  | 0, _, _, _, _, _, _, _ => none
  | k + 1, s, pos, l, x, p, d, n => if h : pos < s.size then
      (if 48 ≤ (s[pos]'h).toNat ∧ (s[pos]'h).toNat ≤ 57 then
        (if d = 4 ∨ (0 < d ∧ n = 0) then some ([], 0, (pos : Int), 60) else prs k s (pos + 1) l x p (wrap64 (d + 1)) (wrap64 (wrap64 (10 * n) + (((s[pos]'h).toNat : Int) - 48))))
      else if 128 ≤ (s[pos]'h).toNat then some ([], 0, (pos : Int), 60)
      else (signF l x p d n ((s[pos]'h).toNat : Int) (pos : Int)).bind fun o => if o.1 = true then prs k s (pos + 1) o.2.1 o.2.2.1 o.2.2.2.1 o.2.2.2.2.1 o.2.2.2.2.2 else some ([], 0, (pos : Int), 60))
    else if d = 0 then some ([], 0, (s.size : Int), 60)
    else if l.length < 1000000 then sayF (l ++ [numN x p n]) (fun _ => false) 0 else none
def indexes_Parse.f (s : ByteArray) : Option (List Int × Int × Int × Int) := prs (s.size + 1) s 0 [] ⟨0, 0, 0, 0, false⟩ 0 0 0
theorem R_iterAt {α : Type} {d : Kd α} {e : Nat} {w : World} {base : Nat} {ok : Nat → Prop} {v : Value} {xs : List α} (h : d.R e w base ok v xs) {k : Nat} {s0 : ByteArray} {p0 : Nat} (hk : w.heap[k]? = some (Obj.stringIter s0 p0)) (s : ByteArray) (q : Nat) : d.R e (w.iterAt k s q) base ok v xs := by
  refine Kd.R_mono (Kd.R_step (Kd.R_bound h) (fun i hi _ => ?_)) (fun i hi => hi.1)
  obtain ⟨_, _, _, _, _, cells, hc⟩ := hi
  refine Lib.iterAt_other w k i s q ?_
  intro e2
  subst e2
  rw [hk] at hc; cases hc
theorem Rdr.iterAt {W : World} {base b : Nat} {l : List S53} {x : S53} {p d n : Int} (h : Rdr W base b l x p d n) {k : Nat} {s0 : ByteArray} {p0 : Nat} (hk : W.heap[k]? = some (Obj.stringIter s0 p0)) (s : ByteArray) (q : Nat) : Rdr (W.iterAt k s q) base b l x p d n := by
  obtain ⟨v, h1, h2, h3⟩ := h
  refine ⟨v, ?_, R_iterAt h2 hk s q, h3⟩
  refine (Lib.iterAt_other W k b s q ?_).trans h1
  intro e2
  subst e2
  rw [hk] at h1; cases h1
theorem below_up {w w' : World} {o : Obj} (h : Below (w.heap.size + 1) (w.alloc o) w') : Below w.heap.size w w' :=
  ⟨h.os, h.tape, h.output, Nat.le_trans (by show w.heap.size ≤ (w.heap.push o).size; simp) h.size, fun k hk => (h.block k (by omega)).trans (Below.heap_alloc w o k hk)⟩
theorem below_then {B : Nat} {w0 w3 w4 : World} (h : Below B w0 w3) (k : Below w3.heap.size w3 w4) (hB : B ≤ w3.heap.size) : Below B w0 w4 :=
  ⟨k.os.trans h.os, k.tape.trans h.tape, k.output.trans h.output, Nat.le_trans h.size k.size, fun i hi => (k.block i (by omega)).trans (h.block i hi)⟩
theorem signF_high (l : List S53) (x : S53) (p d n c at_ : Int) (h : 128 ≤ c) : ∃ l' x' p' d' n', signF l x p d n c at_ = some (false, l', x', p', d', n') := by
  unfold signF
  by_cases hd : d = 0
  · rw [if_pos hd]; exact ⟨_, _, _, _, _, rfl⟩
  · rw [if_neg hd, if_neg (by omega), if_neg (by omega), if_neg (by omega)]; exact ⟨_, _, _, _, _, rfl⟩
set_option maxHeartbeats 8000000 in
set_option maxRecDepth 1000000 in
theorem indexes_Parse.calls (a0 : ByteArray) (r1 : List Int) (r2 r3 r4 : Int) (w : World) (h : indexes_Parse.f a0 = some (r1, r2, r3, r4)) :
    Calls Tryd.prog 11 #[.string a0] w fun e w' => ∃ v0_ : Value, e = .returned (.tuple #[.agg #[v0_, .int .i64 r2], .int .i64 r3, .int .i64 r4]) ∧ Kd.R (Kd.int .i64) 3 w' w.heap.size (fun _ => True) v0_ r1 ∧ Below w.heap.size w w' := by
  have H := Aside0.mk h
  clear h
  have hu25 := Tryd.underlying25
  go_enter Tryd.func11, Tryd.ntmps11
  go_wp2
  go_loopg [] (a0.size + 1) (fun gk wr => ∃ (pos : Nat) (l : List S53) (x : S53) (p d n : Int), wr.heap[w.heap.size]? = some (.cells #[.slice none 0 0, .int .i64 0] 25 (0, 0)) ∧ Rdr wr (w.heap.size + 1) (w.heap.size + 1) l x p d n ∧ wr.heap[w.heap.size + 1 + 1]? = some (Obj.stringIter a0 pos) ∧ pos ≤ a0.size ∧ a0.size + 1 = pos + gk ∧ Aside0 (prs gk a0 pos l x p d n = some (r1, r2, r3, r4)) ∧ Aside0 (Below (w.heap.size + 1) (w.alloc (.cells #[.slice none 0 0, .int .i64 0] 25)) wr))
  case atStart =>
    have e1 := blk_new w (Obj.cells #[Value.slice none 0 0, Value.int IntKind.i64 0] 25)
    have e2 := blk_new (w.alloc (Obj.cells #[Value.slice none 0 0, Value.int IntKind.i64 0] 25)) (rb (.slice none 0 0) ⟨0, 0, 0, 0, false⟩ 0 0 0)
    have e3 := World.iter_heap ((w.alloc (Obj.cells #[Value.slice none 0 0, Value.int IntKind.i64 0] 25)).alloc (rb (.slice none 0 0) ⟨0, 0, 0, 0, false⟩ 0 0 0)) a0 0
    have hs : (w.alloc (Obj.cells #[Value.slice none 0 0, Value.int IntKind.i64 0] 25)).heap.size = w.heap.size + 1 := by
      show (w.heap.push _).size = w.heap.size + 1
      rw [Array.size_push]
    have e5 := below_alloc (below_alloc (Below.refl (w.alloc (Obj.cells #[Value.slice none 0 0, Value.int IntKind.i64 0] 25)).heap.size (w.alloc (Obj.cells #[Value.slice none 0 0, Value.int IntKind.i64 0] 25))) (rb (.slice none 0 0) ⟨0, 0, 0, 0, false⟩ 0 0 0)) (.stringIter a0 0)
    rw [hs] at e2 e5
    refine ⟨0, [], ⟨0, 0, 0, 0, false⟩, 0, 0, 0, blk_alloc (blk_alloc e1 _) _, ⟨.slice none 0 0, ?_, Kd.R_nil _ _ _ _ _, Nat.le_refl _⟩, ?_, Nat.zero_le _, by omega, ⟨H.out⟩, ⟨e5⟩⟩
    · exact blk_alloc e2 (.stringIter a0 0)
    · simpa using e3
  case round =>
    obtain ⟨pos, l, x, p, d, n, hb2, hI, hit, hp, hk, HD, HB⟩ := hrel
    obtain ⟨k, rfl⟩ : ∃ k, gk = k + 1 := ⟨gk - 1, by omega⟩
    have hkb : w.heap.size + 1 + 1 < wr.heap.size := blk_lt hit
    have hNI := hI.iterAt hit a0 (pos + 1)
    have hNit := Lib.iterAt_heap wr (w.heap.size + 1 + 1) a0 pos (pos + 1) hit
    have hN2 := (Lib.iterAt_other wr (w.heap.size + 1 + 1) w.heap.size a0 (pos + 1) (by omega)).trans hb2
    have hNB := Lib.below_iterAt HB.out (k := w.heap.size + 1 + 1) (by omega) a0 (pos + 1)
    by_cases hlt : pos < a0.size
    · have hD := HD.out
      rw [prs, dif_pos hlt] at hD
      by_cases hdig : 48 ≤ (a0[pos]'hlt).toNat ∧ (a0[pos]'hlt).toNat ≤ 57
      · rw [if_pos hdig] at hD
        have hnx : ∀ ty, (Instr.next (.pointer (some ⟨w.heap.size + 1 + 1, 0, none⟩)) true ty).run Tryd.prog wr = _ := fun ty => Lib.run_next_ascii_at wr (w.heap.size + 1 + 1) a0 pos ty hit hlt (by omega)
        obtain ⟨c, hc⟩ : ∃ c : Nat, (a0[pos]'hlt).toNat = c := ⟨_, rfl⟩
        rw [hc] at hD hdig hnx
        clear hc
        have hc1 : (48 : Int) ≤ (c : Int) := by omega
        have hc2 : (c : Int) ≤ 57 := by omega
        obtain ⟨v, hblk, hR, hbb⟩ := hNI
        by_cases hq : d = 4 ∨ (0 < d ∧ n = 0)
        · rw [if_pos hq] at hD
          simp only [Option.some.injEq, Prod.mk.injEq] at hD
          obtain ⟨rfl, rfl, rfl, rfl⟩ := hD
          have HC := Aside0.mk (digit_bad (w.heap.size + 1) v x p d n c hc1 hc2 _ hblk hq)
          have KB0 := Aside0.mk hNB
          have K20 := Aside0.mk hN2
          clear hq hNB hN2 HB hI hb2 hblk hR hNit
          go_wp2_with (first | (go_at_call 20; (with_reducible refine HC.out.mono ?_); rintro e w2 ⟨rfl, rfl⟩; have K2 := K20; have KB := KB0; have c20 : (wr.iterAt (w.heap.size + 1 + 1) a0 (pos + 1)).cell? ⟨w.heap.size, 0, none⟩ = some (.slice none 0 0) := (blk_cell K2.out 0).trans rfl; have c21 : (wr.iterAt (w.heap.size + 1 + 1) a0 (pos + 1)).cell? ⟨w.heap.size, 1, none⟩ = some (.int .i64 0) := (blk_cell K2.out 1).trans rfl; have f20 := blk_frozen K2.out 0; have f21 := blk_frozen K2.out 1))
          refine bodyPost_ret (results_ctt rfl _ _ w.heap.size 25 #[.slice none 0 0, .int .i64 0] (0, 0) _ rfl (by refine blk_put (cs := #[.slice none 0 0, .int .i64 0]) ?_ 1 _ rfl; refine blk_put (cs := #[.slice none 0 0, .int .i64 0]) ?_ 0 _ rfl; exact K2.out) Tryd.underlying25 rfl (by kernel_rfl)) rfl ?_
          exact ⟨_, rfl, Kd.R_nil _ _ _ _ _, ((below_up KB.out).setCell (p := ⟨w.heap.size, 0, none⟩) (Nat.le_refl _) _).setCell (p := ⟨w.heap.size, 1, none⟩) (Nat.le_refl _) _⟩
        · rw [if_neg hq] at hD
          have HD2 := Aside0.mk hD
          have HC := Aside0.mk (digit_ok (w.heap.size + 1) v x p d n c hc1 hc2 (w.heap.size + 1) _ _ (Nat.le_refl _) hNB hblk hq)
          have hRa := Aside0.mk hR
          have hka := Aside0.mk hNit
          have h2a := Aside0.mk hN2
          have hba := Aside0.mk hblk
          clear hq hNB hN2 HB hI hb2 hblk hR hNit hD
          go_wp2_with (first | (go_at_call 20; (with_reducible refine HC.out.mono ?_); rintro e w2 ⟨rfl, g1, g2, g3⟩; have G1 := Aside0.mk g1; have G2 := Aside0.mk g2; have G3 := Aside0.mk g3; clear g1 g2 g3))
          go_roundg k
          case measure => exact Nat.lt_succ_self _
          case rel =>
            refine ⟨pos + 1, l, x, p, _, _, ?_, ⟨v, G1.out, Kd.R_keep hRa.out G2.out (fun k hk => hk), Nat.le_refl _⟩, ?_, by omega, by omega, HD2, G3⟩
            · exact (G2.out.2 _ (blk_lt h2a.out) (by omega) (by simp)).trans h2a.out
            · exact (G2.out.2 _ (blk_lt hka.out) (by omega) (by simp)).trans hka.out
      · rw [if_neg hdig] at hD
        by_cases h128 : 128 ≤ (a0[pos]'hlt).toNat
        · rw [if_pos h128] at hD
          simp only [Option.some.injEq, Prod.mk.injEq] at hD
          obtain ⟨rfl, rfl, rfl, rfl⟩ := hD
          have hnx : ∀ ty, (Instr.next (.pointer (some ⟨w.heap.size + 1 + 1, 0, none⟩)) true ty).run Tryd.prog wr = _ := fun ty => Lib.run_next_any_at wr (w.heap.size + 1 + 1) a0 pos ty hit hlt
          have hh := decode_high a0 pos hlt (by omega)
          obtain ⟨q, hq⟩ : ∃ q : Nat, pos + (Utf8.decode a0 pos).2 = q := ⟨_, rfl⟩
          obtain ⟨c, hc⟩ : ∃ c : Nat, (Utf8.decode a0 pos).1 = c := ⟨_, rfl⟩
          rw [hq, hc] at hnx
          rw [hc] at hh
          clear hq hc
          have hMI := hI.iterAt hit a0 q
          have hMB := Lib.below_iterAt HB.out (k := w.heap.size + 1 + 1) (by omega) a0 q
          have hc0 : (128 : Int) ≤ (c : Int) := by omega
          obtain ⟨l', x', p', d', n', hS⟩ := signF_high l x p d n (c : Int) (pos : Int) hc0
          have HC := Aside0.mk (sign_calls (w.heap.size + 1) (w.heap.size + 1) l x p d n (c : Int) (pos : Int) _ _ hMB hMI _ _ _ _ _ _ hS)
          have k1 : ¬ (c : Int) ≤ 57 := by omega
          have k2 : (48 : Int) ≤ (c : Int) := by omega
          clear hMI hMB hS hNI hNit hN2 hNB hI HB hb2 hh hdig h128
          go_wp2_with (first | (go_at_call 21; (with_reducible refine HC.out.mono ?_); rintro e w2 ⟨rfl, g1, _, _⟩; have KB := Aside0.mk g1; have K2 := Aside0.mk ((g1.block w.heap.size (Nat.lt_succ_self _)).trans (blk_new w _)); clear g1; have c20 : w2.cell? ⟨w.heap.size, 0, none⟩ = some (.slice none 0 0) := (blk_cell K2.out 0).trans rfl; have c21 : w2.cell? ⟨w.heap.size, 1, none⟩ = some (.int .i64 0) := (blk_cell K2.out 1).trans rfl; have f20 := blk_frozen K2.out 0; have f21 := blk_frozen K2.out 1))
          refine bodyPost_ret (results_ctt rfl _ _ w.heap.size 25 #[.slice none 0 0, .int .i64 0] (0, 0) _ rfl (by refine blk_put (cs := #[.slice none 0 0, .int .i64 0]) ?_ 1 _ rfl; refine blk_put (cs := #[.slice none 0 0, .int .i64 0]) ?_ 0 _ rfl; exact K2.out) Tryd.underlying25 rfl (by kernel_rfl)) rfl ?_
          exact ⟨_, rfl, Kd.R_nil _ _ _ _ _, ((below_up KB.out).setCell (p := ⟨w.heap.size, 0, none⟩) (Nat.le_refl _) _).setCell (p := ⟨w.heap.size, 1, none⟩) (Nat.le_refl _) _⟩
        · rw [if_neg h128] at hD
          have hnx : ∀ ty, (Instr.next (.pointer (some ⟨w.heap.size + 1 + 1, 0, none⟩)) true ty).run Tryd.prog wr = _ := fun ty => Lib.run_next_ascii_at wr (w.heap.size + 1 + 1) a0 pos ty hit hlt (by omega)
          obtain ⟨c, hc⟩ : ∃ c : Nat, (a0[pos]'hlt).toNat = c := ⟨_, rfl⟩
          rw [hc] at hD hdig hnx h128
          clear hc
          obtain ⟨⟨ok, l', x', p', d', n'⟩, hS, hD⟩ := Option.bind_eq_some_iff.mp hD
          have HC := Aside0.mk (sign_calls (w.heap.size + 1) (w.heap.size + 1) l x p d n (c : Int) (pos : Int) _ _ hNB hNI _ _ _ _ _ _ hS)
          have hka := Aside0.mk hNit
          have hcd : (c : Int) < 48 ∨ 57 < (c : Int) := by omega
          clear hNI hNit hN2 hNB hI HB hb2 hS hdig h128
          cases ok with
          | false =>
            simp only [Bool.false_eq_true, if_false, Option.some.injEq, Prod.mk.injEq] at hD
            obtain ⟨rfl, rfl, rfl, rfl⟩ := hD
            rcases hcd with hcd | hcd
            · have k1 : ¬ (48 : Int) ≤ (c : Int) := by omega
              go_wp2_with (first | (go_at_call 21; (with_reducible refine HC.out.mono ?_); rintro e w2 ⟨rfl, g1, _, _⟩; have KB := Aside0.mk g1; have K2 := Aside0.mk ((g1.block w.heap.size (Nat.lt_succ_self _)).trans (blk_new w _)); clear g1; have c20 : w2.cell? ⟨w.heap.size, 0, none⟩ = some (.slice none 0 0) := (blk_cell K2.out 0).trans rfl; have c21 : w2.cell? ⟨w.heap.size, 1, none⟩ = some (.int .i64 0) := (blk_cell K2.out 1).trans rfl; have f20 := blk_frozen K2.out 0; have f21 := blk_frozen K2.out 1))
              refine bodyPost_ret (results_ctt rfl _ _ w.heap.size 25 #[.slice none 0 0, .int .i64 0] (0, 0) _ rfl (by refine blk_put (cs := #[.slice none 0 0, .int .i64 0]) ?_ 1 _ rfl; refine blk_put (cs := #[.slice none 0 0, .int .i64 0]) ?_ 0 _ rfl; exact K2.out) Tryd.underlying25 rfl (by kernel_rfl)) rfl ?_
              exact ⟨_, rfl, Kd.R_nil _ _ _ _ _, ((below_up KB.out).setCell (p := ⟨w.heap.size, 0, none⟩) (Nat.le_refl _) _).setCell (p := ⟨w.heap.size, 1, none⟩) (Nat.le_refl _) _⟩
            · have k1 : (48 : Int) ≤ (c : Int) := by omega
              have k2 : ¬ (c : Int) ≤ 57 := by omega
              go_wp2_with (first | (go_at_call 21; (with_reducible refine HC.out.mono ?_); rintro e w2 ⟨rfl, g1, _, _⟩; have KB := Aside0.mk g1; have K2 := Aside0.mk ((g1.block w.heap.size (Nat.lt_succ_self _)).trans (blk_new w _)); clear g1; have c20 : w2.cell? ⟨w.heap.size, 0, none⟩ = some (.slice none 0 0) := (blk_cell K2.out 0).trans rfl; have c21 : w2.cell? ⟨w.heap.size, 1, none⟩ = some (.int .i64 0) := (blk_cell K2.out 1).trans rfl; have f20 := blk_frozen K2.out 0; have f21 := blk_frozen K2.out 1))
              refine bodyPost_ret (results_ctt rfl _ _ w.heap.size 25 #[.slice none 0 0, .int .i64 0] (0, 0) _ rfl (by refine blk_put (cs := #[.slice none 0 0, .int .i64 0]) ?_ 1 _ rfl; refine blk_put (cs := #[.slice none 0 0, .int .i64 0]) ?_ 0 _ rfl; exact K2.out) Tryd.underlying25 rfl (by kernel_rfl)) rfl ?_
              exact ⟨_, rfl, Kd.R_nil _ _ _ _ _, ((below_up KB.out).setCell (p := ⟨w.heap.size, 0, none⟩) (Nat.le_refl _) _).setCell (p := ⟨w.heap.size, 1, none⟩) (Nat.le_refl _) _⟩
          | true =>
            simp only [if_true] at hD
            have HD2 := Aside0.mk hD
            clear hD
            rcases hcd with hcd | hcd
            · have k1 : ¬ (48 : Int) ≤ (c : Int) := by omega
              go_wp2_with (first | (go_at_call 21; (with_reducible refine HC.out.mono ?_); rintro e w2 ⟨rfl, g1, g2, g3⟩; have KB := Aside0.mk g1; have KI := Aside0.mk (g3 rfl); have KK := Aside0.mk (g2 _ _ _ hka.out); clear g1 g2 g3))
              go_roundg k
              case measure => exact Nat.lt_succ_self _
              case rel => exact ⟨pos + 1, l', x', p', d', n', (KB.out.block w.heap.size (Nat.lt_succ_self _)).trans (blk_new w _), KI.out, KK.out, by omega, by omega, HD2, KB⟩
            · have k1 : (48 : Int) ≤ (c : Int) := by omega
              have k2 : ¬ (c : Int) ≤ 57 := by omega
              go_wp2_with (first | (go_at_call 21; (with_reducible refine HC.out.mono ?_); rintro e w2 ⟨rfl, g1, g2, g3⟩; have KB := Aside0.mk g1; have KI := Aside0.mk (g3 rfl); have KK := Aside0.mk (g2 _ _ _ hka.out); clear g1 g2 g3))
              go_roundg k
              case measure => exact Nat.lt_succ_self _
              case rel => exact ⟨pos + 1, l', x', p', d', n', (KB.out.block w.heap.size (Nat.lt_succ_self _)).trans (blk_new w _), KI.out, KK.out, by omega, by omega, HD2, KB⟩
    · obtain rfl : pos = a0.size := by omega
      have hnx : ∀ ty, (Instr.next (.pointer (some ⟨w.heap.size + 1 + 1, 0, none⟩)) true ty).run Tryd.prog wr = _ := fun ty => Lib.run_next_end_at wr (w.heap.size + 1 + 1) a0 a0.size ty hit hlt
      have hD := HD.out
      rw [prs, dif_neg hlt] at hD
      obtain ⟨v, hblk, hR, hbb⟩ := hI
      have hN := Aside0.mk (number_calls (w.heap.size + 1) v x p d n wr hblk)
      by_cases hd : d = 0
      · rw [if_pos hd] at hD
        simp only [Option.some.injEq, Prod.mk.injEq] at hD
        obtain ⟨rfl, rfl, rfl, rfl⟩ := hD
        have KB := HB
        have K2 := Aside0.mk hb2
        have c20 : wr.cell? ⟨w.heap.size, 0, none⟩ = some (.slice none 0 0) := (blk_cell K2.out 0).trans rfl
        have c21 : wr.cell? ⟨w.heap.size, 1, none⟩ = some (.int .i64 0) := (blk_cell K2.out 1).trans rfl
        have f20 := blk_frozen K2.out 0
        have f21 := blk_frozen K2.out 1
        clear hNI hNit hN2 hNB hb2 hblk hR
        go_wp2_with (first | (go_at_call 22; (with_reducible refine hN.out.mono ?_); rintro e w2 ⟨h1, h2⟩; obtain ⟨rfl, rfl⟩ := h1 hd; clear h1 h2))
        refine bodyPost_ret (results_ctt rfl _ _ w.heap.size 25 #[.slice none 0 0, .int .i64 0] (0, 0) _ rfl (by refine blk_put (cs := #[.slice none 0 0, .int .i64 0]) ?_ 1 _ rfl; refine blk_put (cs := #[.slice none 0 0, .int .i64 0]) ?_ 0 _ rfl; exact K2.out) Tryd.underlying25 rfl (by kernel_rfl)) rfl ?_
        exact ⟨_, rfl, Kd.R_nil _ _ _ _ _, ((below_up KB.out).setCell (p := ⟨w.heap.size, 0, none⟩) (Nat.le_refl _) _).setCell (p := ⟨w.heap.size, 1, none⟩) (Nat.le_refl _) _⟩
      · rw [if_neg hd] at hD
        by_cases hl : l.length < 1000000
        case neg => rw [if_neg hl] at hD; cases hD
        rw [if_pos hl] at hD
        have HD2 := Aside0.mk hD
        have HRa := Aside0.mk hR
        clear hNI hNit hN2 hNB hb2 hR hD
        go_wp2_with (first | (go_at_call 22; (with_reducible refine hN.out.mono ?_); rintro e w2 ⟨_, h2⟩; obtain ⟨rfl, h3, h4, h5⟩ := h2 hd; have KB := Aside0.mk (h5 _ _ (Nat.le_refl _) HB.out); have H3 := Aside0.mk h3; have HR := Aside0.mk (Kd.R_keep HRa.out h4 (fun k hk => hk)); have d0 : w2.cell? ⟨w.heap.size + 1, 0, none⟩ = some v := (blk_cell h3 0).trans rfl; have da : ∀ o, (w2.alloc o).cell? ⟨w.heap.size + 1, 0, none⟩ = some v := fun o => (blk_cell (blk_alloc h3 o) 0).trans rfl; have d1 : w2.cell? ⟨w.heap.size + 1, 1, none⟩ = some (.int .i64 (numN x p n).f0) := (blk_cell h3 1).trans rfl; have d2 : w2.cell? ⟨w.heap.size + 1, 2, none⟩ = some (.int .i64 (numN x p n).f1) := (blk_cell h3 2).trans rfl; have d3 : w2.cell? ⟨w.heap.size + 1, 3, none⟩ = some (.int .i64 (numN x p n).f2) := (blk_cell h3 3).trans rfl; have d4 : w2.cell? ⟨w.heap.size + 1, 4, none⟩ = some (.int .i64 (numN x p n).f3) := (blk_cell h3 4).trans rfl; have d5 : w2.cell? ⟨w.heap.size + 1, 5, none⟩ = some (.bool (numN x p n).f4) := (blk_cell h3 5).trans rfl; clear h2 h3 h4 h5))
        have hs3 : w.heap.size + 1 ≤ (w.alloc (Obj.cells #[Value.slice none 0 0, Value.int IntKind.i64 0] 25)).heap.size := by
          show _ ≤ (w.heap.push _).size
          rw [Array.size_push]
          exact Nat.le_refl _
        have hll : (l ++ [numN x p n]).length = l.length + 1 := List.length_append
        go_region_law (first
          | (rw [alloc_drew]; refine Kd.R_append_step k53 (w0 := w.alloc (.cells #[.slice none 0 0, .int .i64 0] 25)) (w.heap.size + 1) ?hw (.tmp 43) (.tmp 48) 51 53 (.agg #[.int .i64 0, .int .i64 0, .int .i64 0, .int .i64 0, .bool false]) 40 ?ho Tryd.underlying51 info53 rfl (by decide) (by omega) v l (numN x p n) [.int .i64 (numN x p n).f0, .int .i64 (numN x p n).f1, .int .i64 (numN x p n).f2, .int .i64 (numN x p n).f3, .bool (numN x p n).f4] (fun k => k ≠ w.heap.size + 1) (fun _ => False) ?hs ?hx (k53_mkM _ _ _ _) (fun _ hk => hk.elim) ?aF ?aO ?aB ?aS ?aL ?_; (case hw => rfl); (case ho => rfl); (case hs => rfl); (case hx => rfl); (case aF => exact fun k hk => by have := blk_lt H3.out; intro e; subst e; exact absurd hk (by simp only [World.drew]; omega)); (case aO => exact (by (with_reducible repeat (first | apply Kd.R_alloc | apply Kd.R_drewN | apply Kd.R_drew)); exact HR.out)); (case aB => exact (by repeat (first | (with_reducible first | exact KB.out | apply below_alloc | apply pw_below_drewN | apply below_drew1 | apply below_drew) | exact KB.out))); (case aS => have := blk_lt H3.out; simp only [World.drew]; omega); (case aL => omega); intro v1 w3 ho hb hg hat; obtain ⟨A1, c1_, rfl⟩ := Kd.R_slice ho; have HS := Aside0.mk (say_calls A1 c1_ (l ++ [numN x p n]) r1 r2 r3 r4 w3 (Kd.R_reads' ho).2.2 (Kd.R_reads' ho).2.1 (by rw [hll]; omega) HD2.out); rw [hll] at HS; have HB3 := Aside0.mk hb; clear ho hb hg hat)
          | (go_simp; go_at_call 23; (with_reducible refine HS.out.mono ?_); rintro e w4 ⟨v0, rfl, q1, q2⟩; obtain ⟨A0, c0, rfl⟩ := Kd.R_slice q1; have Q2 := Aside0.mk (below_then HB3.out q2 (Nat.le_trans hs3 HB3.out.size)); have K2 := Aside0.mk ((Q2.out.block w.heap.size (Nat.lt_succ_self _)).trans (blk_new w _)); have c20 : w4.cell? ⟨w.heap.size, 0, none⟩ = some (.slice none 0 0) := (blk_cell K2.out 0).trans rfl; have c21 : w4.cell? ⟨w.heap.size, 1, none⟩ = some (.int .i64 0) := (blk_cell K2.out 1).trans rfl; have f20 := blk_frozen K2.out 0; have f21 := blk_frozen K2.out 1; have Q1 := Aside0.mk q1; clear q1 q2))
        all_goals go_wp2
        all_goals (refine bodyPost_ret (results_ctt rfl _ _ w.heap.size 25 #[.slice A0 r1.length c0, .int .i64 r2] (0, 0) _ rfl (by (with_reducible repeat (first | refine blk_drewN ?_ _ | refine blk_drew ?_)); refine blk_put (cs := #[.slice A0 r1.length c0, .int .i64 0]) ?_ 1 _ rfl; refine blk_put (cs := #[.slice none 0 0, .int .i64 0]) ?_ 0 _ rfl; exact K2.out) Tryd.underlying25 rfl (by kernel_rfl)) rfl ?_)
        all_goals (have hs4 : w.heap.size < w3.heap.size := Nat.lt_of_lt_of_le (Nat.lt_succ_self _) (Nat.le_trans hs3 HB3.out.size))
        all_goals (refine ⟨_, rfl, ?_, ?_⟩)
        all_goals first
          | exact Kd.R_drew (Kd.R_mono (Kd.R_lower (Kd.R_far (Kd.R_far (Kd.R_bound Q1.out) (p := ⟨w.heap.size, 0, none⟩) (fun k hk => by have := hk.2.1; show k ≠ w.heap.size; omega) _) (p := ⟨w.heap.size, 1, none⟩) (fun k hk => by have := hk.2.1; show k ≠ w.heap.size; omega) _) (Nat.le_of_lt hs4)) (fun _ _ => trivial))
          | exact below_drew (((below_up Q2.out).setCell (p := ⟨w.heap.size, 0, none⟩) (Nat.le_refl _) _).setCell (p := ⟨w.heap.size, 1, none⟩) (Nat.le_refl _) _)
          | exact Kd.R_mono (Kd.R_lower (Kd.R_far (Kd.R_far (Kd.R_bound Q1.out) (p := ⟨w.heap.size, 0, none⟩) (fun k hk => by have := hk.2.1; show k ≠ w.heap.size; omega) _) (p := ⟨w.heap.size, 1, none⟩) (fun k hk => by have := hk.2.1; show k ≠ w.heap.size; omega) _) (Nat.le_of_lt hs4)) (fun _ _ => trivial)
          | exact ((below_up Q2.out).setCell (p := ⟨w.heap.size, 0, none⟩) (Nat.le_refl _) _).setCell (p := ⟨w.heap.size, 1, none⟩) (Nat.le_refl _) _

end Go.Proofs.YtpkococfmohmiaaDoor.P
