/- cut to what one law reaches -/
import Derived.Test.YtgkedamhicemiaaDoorJyJ8
namespace Go.Proofs.YtgkedamhicemiaaDoor.P
open Go.RowKit Go.Proofs.YtgkedamhicemiaaDoorW.PrintWords Go.Proofs.YtgkedamhicemiaaDoorW.PrintLast Go.Proofs.YtgkedamhicemiaaDoorW.PrintMore
attribute [local go_sem] max2_int min2_int max_two min_two max_three min_three max_four min_four
set_option linter.unusedVariables false
set_option linter.unusedSimpArgs false
attribute [local go_sem] isSome_setCell
theorem late_mx {j : S58} {now : Int} (h : lateB j now = false) : j.f6 ≤ now ∧ j.f7 ≤ now := by
  unfold lateB mx at h
  simp only [Bool.or_eq_false_iff, decide_eq_false_iff_not] at h
  have h1 := h.1
  split at h1 <;> omega
/-- what a job may become by one call -/
structure Mv (a b : S58) : Prop where
  o : a.f5 = 1 ∨ a.f5 = 2 ∨ a.f5 = 3 ∨ a.f5 = 4
  h : 1 ≤ b.f5 ∧ b.f5 ≤ 9
  d : b.f5 ≠ a.f5
  s6 : a.f6 ≤ b.f6
  s7 : a.f7 ≤ b.f7
  r8 : b.f8 = a.f8 ∨ b.f8 = wrap64 (a.f8 + 1)
  e0 : b.f0 = a.f0
  e1 : b.f1 = a.f1
  e2 : b.f2 = a.f2
  e3 : b.f3 = a.f3
  e4 : b.f4 = a.f4
  n9 : b.f9 ≠ a.f9 → a.f5 ≠ 3 → b.f9 = 0
  n5 : b.f5 = 3 → a.f5 = 1 ∨ a.f5 = 4
/-- what a call comes to: an error and nothing else, or one job's move -/
def CallR (id : Int) (L : List S58) (r : Int × List S58) : Prop :=
  (r.1 ≠ 0 ∧ r.2 = L) ∨ (r.1 = 0 ∧ ∃ n, ∃ h : n < L.length, id = (n : Int) + 1 ∧ ∃ b, Mv L[n] b ∧ r.2 = L.set n b)
theorem goes_r (φ : S58 → S58) (timed : Bool) (id now to_ : Int) (from_ : List Int) (L : List S58) (h0 : 0 ≤ id)
    (hm : ∀ a, a ∈ L → a.f5 ∈ from_ → (timed = true → lateB a now = false) → Mv a { φ a with f5 := to_ }) : CallR id L (goesP φ timed id now to_ from_ L) := by
  unfold goesP
  by_cases hid : id = 0 ∨ (L.length : Int) < id
  · rw [if_pos hid]; exact Or.inl ⟨by simp, rfl⟩
  rw [if_neg hid]
  by_cases hl : timed = true ∧ lateB (rd_T58 L (id - 1)) now = true
  · rw [if_pos hl]; exact Or.inl ⟨by simp, rfl⟩
  rw [if_neg hl]
  by_cases hf : decide ((rd_T58 L (id - 1)).f5 ∈ from_) = true
  · rw [if_pos hf]
    have hn : (id - 1).toNat < L.length := by omega
    have hr : rd_T58 L (id - 1) = L[(id - 1).toNat] := by rw [rd_T58, List.getD_eq_getElem?_getD, List.getElem?_eq_getElem hn]; rfl
    rw [hr] at hl hf ⊢
    refine Or.inr ⟨rfl, (id - 1).toNat, hn, by omega, _, hm _ (List.getElem_mem hn) (of_decide_eq_true hf) (fun ht => ?_), rfl⟩
    cases hlb : lateB L[(id - 1).toNat] now with
    | false => rfl
    | true => exact absurd ⟨ht, hlb⟩ hl
  · rw [if_neg hf]; exact Or.inl ⟨by simp, rfl⟩
theorem mem1 {a x : Int} (h : a ∈ [x]) : a = x := by simpa using h
theorem mem2 {a x y : Int} (h : a ∈ [x, y]) : a = x ∨ a = y := by simpa using h
theorem hold_r (id : Int) (L : List S58) (h0 : 0 ≤ id) : CallR id L (holdP id L) := by
  refine goes_r _ _ _ _ _ _ _ h0 (fun a _ hf _ => ?_)
  have h := mem1 hf
  exact ⟨by omega, by simp, by simp; omega, by simp, by simp, Or.inl rfl, rfl, rfl, rfl, rfl, rfl, fun h => absurd rfl h, fun h => by simp at h⟩
theorem never_r (id : Int) (L : List S58) (h0 : 0 ≤ id) : CallR id L (neverP id L) := by
  refine goes_r _ _ _ _ _ _ _ h0 (fun a _ hf _ => ?_)
  have h := mem2 hf
  exact ⟨by omega, by simp, by simp; omega, by simp, by simp, Or.inl rfl, rfl, rfl, rfl, rfl, rfl, fun h => absurd rfl h, fun h => by simp at h⟩
theorem release_r (id now : Int) (L : List S58) (h0 : 0 ≤ id) : CallR id L (releaseP id now L) := by
  refine goes_r _ _ _ _ _ _ _ h0 (fun a _ hf hl => ?_)
  have h := mem1 hf
  have hx := late_mx (hl rfl)
  exact ⟨by omega, by simp, by simp; omega, hx.1, by simp, Or.inl rfl, rfl, rfl, rfl, rfl, rfl, fun h => absurd rfl h, fun h => by simp at h⟩
theorem resume_r (id now : Int) (L : List S58) (h0 : 0 ≤ id) : CallR id L (resumeP id now L) := by
  refine goes_r _ _ _ _ _ _ _ h0 (fun a _ hf hl => ?_)
  have h := mem1 hf
  have hx := late_mx (hl rfl)
  exact ⟨by omega, by simp, by simp; omega, by simp, hx.2, Or.inl rfl, rfl, rfl, rfl, rfl, rfl, fun h => absurd rfl h, fun _ => Or.inr h⟩
theorem startG_r (id now b0 b1 : Int) (L : List S58) (h0 : 0 ≤ id) : CallR id L (startG id now b0 b1 L) := by
  refine goes_r _ _ _ _ _ _ _ h0 (fun a _ hf hl => ?_)
  have h := mem1 hf
  have hx := late_mx (hl rfl)
  exact ⟨by omega, by simp, by simp; omega, by simp, hx.2, Or.inr rfl, rfl, rfl, rfl, rfl, rfl, fun _ _ => rfl, fun _ => Or.inl h⟩
theorem start_r (id now b0 b1 : Int) (L : List S58) (h0 : 0 ≤ id) : CallR id L (startP id now b0 b1 L) := by
  unfold startP
  split
  · exact startG_r id now b0 b1 L h0
  · split
    · exact Or.inl ⟨by simp, rfl⟩
    · exact startG_r id now b0 b1 L h0
theorem requeueG_r (id now : Int) (L : List S58) (h0 : 0 ≤ id) : CallR id L (requeueG id now L) := by
  refine goes_r _ _ _ _ _ _ _ h0 (fun a _ hf hl => ?_)
  have h := mem2 hf
  have hx := late_mx (hl rfl)
  exact ⟨by omega, by simp, by simp; omega, hx.1, by simp, Or.inl rfl, rfl, rfl, rfl, rfl, rfl, fun _ _ => rfl, fun h => by simp at h⟩
theorem requeue_r (rq id now : Int) (L : List S58) (h0 : 0 ≤ id) : CallR id L (requeueP rq id now L) := by
  unfold requeueP
  split
  · exact requeueG_r id now L h0
  · split
    · exact Or.inl ⟨by simp, rfl⟩
    · exact requeueG_r id now L h0
theorem ranP_same (now : Int) (a : S58) : (ranP now a).f0 = a.f0 ∧ (ranP now a).f1 = a.f1 ∧ (ranP now a).f2 = a.f2 ∧ (ranP now a).f3 = a.f3 ∧ (ranP now a).f4 = a.f4 ∧ (ranP now a).f6 = a.f6 ∧ (ranP now a).f7 = a.f7 ∧ (ranP now a).f8 = a.f8 ∧ (a.f5 ≠ 3 → (ranP now a).f9 = a.f9) := by
  unfold ranP
  split
  · rename_i h
    exact ⟨rfl, rfl, rfl, rfl, rfl, rfl, rfl, rfl, fun q => absurd h q⟩
  · exact ⟨rfl, rfl, rfl, rfl, rfl, rfl, rfl, rfl, fun _ => rfl⟩
theorem ran_mv (now to_ : Int) (a : S58) (ho : a.f5 = 1 ∨ a.f5 = 2 ∨ a.f5 = 3 ∨ a.f5 = 4) (ht : 4 ≤ to_ ∧ to_ ≤ 9) (hd : to_ ≠ a.f5) : Mv a { ranP now a with f5 := to_ } := by
  obtain ⟨r0, r1, r2, r3, r4, r6, r7, r8, r9⟩ := ranP_same now a
  exact ⟨ho, ⟨by show 1 ≤ to_; omega, ht.2⟩, hd, by show a.f6 ≤ (ranP now a).f6; omega, by show a.f7 ≤ (ranP now a).f7; omega, Or.inl r8, r0, r1, r2, r3, r4, fun h q => absurd (r9 q) h, fun h => absurd (show to_ = 3 from h) (by omega)⟩
theorem suspend_r (id now : Int) (L : List S58) (h0 : 0 ≤ id) : CallR id L (suspendP id now L) := by
  refine goes_r _ _ _ _ _ _ _ h0 (fun a _ hf hl => ?_)
  have h := mem1 hf
  exact ran_mv now 4 a (by omega) (by omega) (by omega)
theorem end_r (id now how : Int) (L : List S58) (h0 : 0 ≤ id) : CallR id L (endP id now how L) := by
  unfold endP
  split
  · rename_i e
    subst e
    refine goes_r _ _ _ _ _ _ _ h0 (fun a _ hf hl => ?_)
    have h : a.f5 = 3 ∨ a.f5 = 4 ∨ a.f5 = 1 ∨ a.f5 = 2 := by simpa using hf
    exact ran_mv now 7 a (by omega) (by omega) (by omega)
  · rename_i e7
    split
    · exact Or.inl ⟨by simp, rfl⟩
    · rename_i hn
      by_cases hid : id = 0 ∨ (L.length : Int) < id
      · unfold goesP
        rw [if_pos hid]; exact Or.inl ⟨by simp, rfl⟩
      · have hw : how = 5 ∨ how = 6 ∨ how = 8 := by
          by_cases h5 : how = 5
          · exact Or.inl h5
          by_cases h6 : how = 6
          · exact Or.inr (Or.inl h6)
          by_cases h8 : how = 8
          · exact Or.inr (Or.inr h8)
          exact absurd ⟨hid, h5, h6, h8⟩ hn
        refine goes_r _ _ _ _ _ _ _ h0 (fun a _ hf hl => ?_)
        have h := mem2 hf
        exact ran_mv now how a (by omega) (by omega) (by omega)
theorem call_r (rq k id now b0 b1 how : Int) (L : List S58) (h0 : 0 ≤ id) : CallR id L (callP rq k id now b0 b1 how L) := by
  unfold callP
  split
  · exact hold_r id L h0
  split
  · exact release_r id now L h0
  split
  · exact start_r id now b0 b1 L h0
  split
  · exact suspend_r id now L h0
  split
  · exact resume_r id now L h0
  split
  · exact end_r id now how L h0
  split
  · exact requeue_r rq id now L h0
  · exact never_r id L h0
/-- what holds of all jobs, N steps on -/
structure Inv (x : Cg) (N : Nat) (L : List S58) : Prop where
  len : L.length ≤ 500
  spec : ∀ j ∈ L, szS j.f3 ∧ 1 ≤ j.f3.f4 ∧ j.f3.f4 ≤ 1024
  num : ∀ n (h : n < L.length), L[n].f0 = (n : Int) + 1
  how : ∀ j ∈ L, 1 ≤ j.f5 ∧ j.f5 ≤ 9
  runs : ∀ j ∈ L, 0 ≤ j.f8 ∧ j.f8 ≤ N
  cls : x.Q = smQ → aboutP (⟨#[110, 111, 114, 109, 97, 108]⟩ : ByteArray) L ≤ 8 ∧ aboutP (⟨#[104, 105, 103, 104]⟩ : ByteArray) L ≤ 2
theorem about_set (qos : ByteArray) (L : List S58) (n : Nat) (h : n < L.length) (b : S58) (hb : isAb qos b = true → isAb qos L[n] = true) : aboutP qos (L.set n b) ≤ aboutP qos L := by
  have h1 : L.set n b = L.take n ++ b :: L.drop (n + 1) := List.set_eq_take_append_cons_drop.trans (if_pos h)
  have h2 : L = L.take n ++ L[n] :: L.drop (n + 1) := by rw [← List.drop_eq_getElem_cons h, List.take_append_drop]
  unfold aboutP
  rw [h1]
  conv => rhs; rw [h2]
  rw [List.filter_append, List.filter_append, List.filter_cons, List.filter_cons]
  by_cases e : isAb qos b = true
  · rw [if_pos e, if_pos (hb e)]; simp
  · rw [if_neg e]
    split <;> simp <;> omega
theorem Inv.mv {x : Cg} {N : Nat} {L : List S58} (i : Inv x N L) (hN : N ≤ 1000) {n : Nat} (h : n < L.length) {b : S58} (m : Mv L[n] b) : Inv x (N + 1) (L.set n b) := by
  have hmem : ∀ j ∈ L.set n b, j ∈ L ∨ j = b := fun j hj => List.mem_or_eq_of_mem_set hj
  have ha := List.getElem_mem h
  have hr := i.runs _ ha
  refine ⟨by simpa using i.len, fun j hj => ?_, fun k hk => ?_, fun j hj => ?_, fun j hj => ?_, fun hQ => ?_⟩
  · rcases hmem j hj with q | rfl
    · exact i.spec j q
    · rw [m.e3]; exact i.spec _ ha
  · rw [List.getElem_set]
    split
    · rename_i e
      subst e
      rw [m.e0]; exact i.num _ h
    · exact i.num k (by simpa using hk)
  · rcases hmem j hj with q | rfl
    · exact i.how j q
    · exact m.h
  · rcases hmem j hj with q | rfl
    · have := i.runs j q; omega
    · rcases m.r8 with e | e
      · rw [e]; omega
      · rw [e]; unfold wrap64; omega
  · have hab : ∀ qos, isAb qos b = true → isAb qos L[n] = true := by
      intro qos hq
      unfold isAb at hq ⊢
      simp only [Bool.and_eq_true, decide_eq_true_eq] at hq ⊢
      rw [m.e3] at hq
      exact ⟨hq.1, by have := m.o; omega⟩
    have hc := i.cls hQ
    exact ⟨Int.le_trans (about_set _ L n h b (hab _)) hc.1, Int.le_trans (about_set _ L n h b (hab _)) hc.2⟩
theorem Inv.more {x : Cg} {N : Nat} {L : List S58} (i : Inv x N L) : Inv x (N + 1) L := ⟨i.len, i.spec, i.num, i.how, fun j hj => by have := i.runs j hj; omega, i.cls⟩
theorem Inv.call {x : Cg} {N : Nat} {L : List S58} (i : Inv x N L) (hN : N ≤ 1000) {id : Int} {r : Int × List S58} (h : CallR id L r) : Inv x (N + 1) r.2 := by
  rcases h with ⟨_, e⟩ | ⟨_, n, hn, _, b, m, e⟩
  · rw [e]; exact i.more
  · rw [e]; exact i.mv hN hn m
theorem about_app (qos : ByteArray) (L L2 : List S58) : aboutP qos (L ++ L2) = aboutP qos L + aboutP qos L2 := by
  unfold aboutP
  rw [List.filter_append, List.length_append]
  omega
theorem fx_name {Q : List S87} {nm : ByteArray} {r : Int} (h : Fx (Q.map (·.f0)) nm r) (h0 : 0 ≤ r) : (rd_T87 Q r).f0 = nm ∧ r < Q.length := by
  rcases h with ⟨rfl, _⟩ | ⟨i, rfl, hi, he⟩
  · omega
  · have hi2 : i < Q.length := by simpa using hi
    rw [List.getElem_map] at he
    refine ⟨?_, by omega⟩
    rw [rd_T87, Int.toNat_natCast, List.getD_eq_getElem?_getD, List.getElem?_eq_getElem hi2]
    exact he
/-- admitted: the class has room -/
theorem adm_class {x : Cg} {s : S41} {now n : Int} {L : List S58} {p : Int} (h : AdmR x s now n L p 0) : ∃ cr : Int, 0 ≤ cr ∧ cr < x.Q.length ∧ (rd_T87 x.Q cr).f0 = s.f3 ∧ aboutP s.f3 L + n ≤ (rd_T87 x.Q cr).f2 := by
  obtain ⟨pr, cr, ac, _, hc, _, h⟩ := h
  unfold admE at h
  split at h
  · simp at h
  split at h
  · simp at h
  rename_i h2
  split at h
  · simp at h
  split at h
  · simp at h
  · rename_i q
    have c0 : 0 ≤ cr := by omega
    have := fx_name hc c0
    exact ⟨cr, c0, this.2, this.1, by omega⟩
theorem mem_news {s : S41} {p now : Int} {L : List S58} {k : Nat} {j : S58} (h : j ∈ newsK s p now L k) : ∃ id i, j = mkJob s p now (firstId s L) id i := by
  unfold newsK at h
  obtain ⟨m, _, rfl⟩ := List.mem_map.1 h
  exact ⟨_, _, rfl⟩
theorem how_le (s : S41) : howOf s = 1 ∨ howOf s = 2 := by unfold howOf; split <;> simp
theorem Inv.sub {x : Cg} {N : Nat} {L : List S58} (i : Inv x N L) {s : S41} (hs : szS s) {now q : Int} {out : List Int} {L' : List S58} (h : SubR x s now L q out L') : Inv x (N + 1) L' := by
  obtain ⟨r, hR, h⟩ := h
  rcases h with ⟨_, _, _, rfl⟩ | ⟨r0, p, hA, ⟨_, _, rfl⟩ | ⟨q0, _, rfl⟩⟩
  · exact i.more
  · exact i.more
  subst q0
  have h4 := hR.2.1 r0
  have hlen := adm_ok hA
  have i2 := i.more
  refine ⟨by rw [List.length_append, newsK_len]; omega, fun j hj => ?_, fun k hk => ?_, fun j hj => ?_, fun j hj => ?_, fun hQ => ?_⟩
  · rcases List.mem_append.1 hj with q | q
    · exact i.spec j q
    · obtain ⟨_, _, rfl⟩ := mem_news q
      exact ⟨hs, h4⟩
  · by_cases hkl : k < L.length
    · rw [List.getElem_append_left hkl]; exact i.num k hkl
    · rw [List.getElem_append_right (by omega)]
      simp only [newsK, List.getElem_map, List.getElem_range, mkJob]
      omega
  · rcases List.mem_append.1 hj with q | q
    · exact i.how j q
    · obtain ⟨_, _, rfl⟩ := mem_news q
      have := how_le s
      show 1 ≤ howOf s ∧ howOf s ≤ 9
      omega
  · rcases List.mem_append.1 hj with q | q
    · exact i2.runs j q
    · obtain ⟨_, _, rfl⟩ := mem_news q
      exact ⟨Int.le_refl _, by show (0 : Int) ≤ ((N + 1 : Nat) : Int); omega⟩
  · have hc := i.cls hQ
    obtain ⟨cr, c0, c1, c2, c3⟩ := adm_class hA
    rw [hQ] at c1 c2 c3
    have hle : ∀ qos, aboutP qos (newsK s p now L (idxs s).length) ≤ ((idxs s).length : Int) := fun qos => by
      have := (about_le qos (newsK s p now L (idxs s).length)).2
      rwa [newsK_len] at this
    have hzero : ∀ qos, qos ≠ s.f3 → aboutP qos (newsK s p now L (idxs s).length) = 0 := by
      intro qos hne
      unfold aboutP
      rw [List.filter_eq_nil_iff.2]
      · rfl
      · intro j hj
        obtain ⟨_, _, rfl⟩ := mem_news hj
        unfold isAb
        have : (s.f3.toList == qos.toList) = false := beq_eq_false_iff_ne.2 (fun e => hne (toL_inj e.symm))
        show ¬ ((s.f3.toList == qos.toList) && _) = true
        rw [this]
        simp
    have hcr : cr = 0 ∨ cr = 1 := by
      have : (smQ.length : Int) = 2 := rfl
      omega
    rw [about_app, about_app]
    rcases hcr with rfl | rfl
    · have e3 : s.f3 = (⟨#[110, 111, 114, 109, 97, 108]⟩ : ByteArray) := c2.symm
      have c3 : aboutP s.f3 L + ((idxs s).length : Int) ≤ 8 := c3
      rw [e3] at c3
      have h1 := hle (⟨#[110, 111, 114, 109, 97, 108]⟩ : ByteArray)
      have h2 := hzero (⟨#[104, 105, 103, 104]⟩ : ByteArray) (by rw [e3]; decide +kernel)
      omega
    · have e3 : s.f3 = (⟨#[104, 105, 103, 104]⟩ : ByteArray) := c2.symm
      have c3 : aboutP s.f3 L + ((idxs s).length : Int) ≤ 2 := c3
      rw [e3] at c3
      have h1 := hle (⟨#[104, 105, 103, 104]⟩ : ByteArray)
      have h2 := hzero (⟨#[110, 111, 114, 109, 97, 108]⟩ : ByteArray) (by rw [e3]; decide +kernel)
      omega
theorem Inv.nil (x : Cg) : Inv x 0 [] := ⟨by simp, by simp, by simp, by simp, by simp, fun _ => by decide +kernel⟩
/-- an act is done -/
def StepR (x : Cg) (a : S70) (L L' : List S58) : Prop := (a.f0 = 0 ∧ ∃ q out, SubR x a.f1 a.f2 L q out L') ∨ (a.f0 ≠ 0 ∧ ∃ now, L' = (callP x.h.f3 a.f3.f0 a.f3.f1 now a.f3.f3.f0 a.f3.f3.f1 a.f3.f4 L).2)
theorem Inv.step {x : Cg} {N : Nat} {L : List S58} (i : Inv x N L) (hN : N ≤ 1000) {a : S70} (hs : szS a.f1) (h0 : 0 ≤ a.f3.f1) {L' : List S58} (h : StepR x a L L') : Inv x (N + 1) L' := by
  rcases h with ⟨_, q, out, h⟩ | ⟨_, now, rfl⟩
  · exact i.sub hs h
  · exact i.call hN (call_r _ _ _ _ _ _ _ _ h0)
end Go.Proofs.YtgkedamhicemiaaDoor.P
