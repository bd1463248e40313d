/- cut to what one law reaches -/
import Derived.Test.YtfccdngejfnmkaaDoorQfShrTree
import Derived.Test.YtfccdngejfnmkaaDoorQfNumDiv64
import Derived.Test.YtfccdngejfnmkaaDoorQfP0
import Derived.Test.YtfccdngejfnmkaaDoorQfP5
import Derived.Test.YtfccdngejfnmkaaDoorQfP6
namespace Go.Proofs.YtfccdngejfnmkaaDoor.Shr
open Go.RowKit Go.Proofs.YtfccdngejfnmkaaDoorW.PrintWords Go.Proofs.YtfccdngejfnmkaaDoorW.PrintLast Go.Proofs.YtfccdngejfnmkaaDoorW.PrintMore Go.Proofs.YtfccdngejfnmkaaDoor.P Go.Proofs.YtfccdngejfnmkaaDoor.NumM
set_option linter.unusedVariables false
set_option linter.unusedSimpArgs false
/-- the shares of a place's children -/
def shareSum : List S37 → List Int → Int → Int
  | a :: r, v :: us, u => (if v = u then a.f2 else 0) + shareSum r us u
  | _, _, _ => 0
theorem shareSum_nn : ∀ (s : List S37) (us : List Int) (u : Int), (∀ a ∈ s, 1 ≤ a.f2 ∧ a.f2 ≤ 1048576) → 0 ≤ shareSum s us u ∧ shareSum s us u ≤ 1048576 * s.length
  | [], us, u, h => by simp [shareSum]
  | a :: s, [], u, h => by simp [shareSum]; omega
  | a :: s, v :: us, u, h => by
    have ih := shareSum_nn s us u (fun x hx => h x (List.mem_cons_of_mem _ hx))
    have := h a (List.mem_cons_self ..)
    rw [shareSum, List.length_cons]
    split <;> (push_cast; omega)
theorem allF_eq : ∀ (s : List S37) (us : List Int) (m : List (Int × Int)) (t : Nat), (∀ a ∈ s, 1 ≤ a.f2 ∧ a.f2 ≤ 1048576) → (∀ v, 0 ≤ lkI m v ∧ lkI m v ≤ 1048576 * (t : Int)) → t + s.length ≤ 1000 → ∀ u, lkI (allF s us m) u = lkI m u + shareSum s us u
  | [], us, m, t, hs, hm, ht, u => by simp [allF, shareSum]
  | a :: s, [], m, t, hs, hm, ht, u => by simp [allF, shareSum]
  | a :: s, v :: us, m, t, hs, hm, ht, u => by
    have ha := hs a (List.mem_cons_self ..)
    simp only [List.length_cons] at ht
    have hv := hm v
    have hw : wrap64 (lkI m v + a.f2) = lkI m v + a.f2 := w64 (by omega)
    have hm2 : ∀ x, 0 ≤ lkI ((v, lkI m v + a.f2) :: m) x ∧ lkI ((v, lkI m v + a.f2) :: m) x ≤ 1048576 * ((t + 1 : Nat) : Int) := by
      intro x
      have := hm x
      rw [lkI]
      split <;> (push_cast; omega)
    rw [allF, hw, allF_eq s us _ (t + 1) (fun x hx => hs x (List.mem_cons_of_mem _ hx)) hm2 (by omega) u, shareSum, lkI]
    split
    · rename_i e; subst e; omega
    · omega
theorem share_le : ∀ (s : List S37) (us : List Int) (i : Nat) (a : S37) (u : Int), (∀ a ∈ s, 1 ≤ a.f2 ∧ a.f2 ≤ 1048576) → s[i]? = some a → us[i]? = some u → a.f2 ≤ shareSum s us u
  | [], us, i, a, u, hs, ha, hu => by simp at ha
  | x :: s, [], i, a, u, hs, ha, hu => by simp at hu
  | x :: s, v :: us, i, a, u, hs, ha, hu => by
    have hx := hs x (List.mem_cons_self ..)
    have hr := fun y hy => hs y (List.mem_cons_of_mem _ hy)
    rw [shareSum]
    cases i with
    | zero =>
      simp only [List.getElem?_cons_zero, Option.some.injEq] at ha hu
      subst ha; subst hu
      have := (shareSum_nn s us v hr).1
      rw [if_pos rfl]; omega
    | succ i =>
      rw [List.getElem?_cons_succ] at ha hu
      have := share_le s us i a u hr ha hu
      split <;> omega
/-- norm by norm -/
def nrm : List S37 → List Int → (Int → Int) → List Int → List Int
  | a :: r, u :: us, S, out => nrm r us S (out ++ [rd out u * a.f2 / S u])
  | _, _, _, out => out
theorem md_ev {a b c : Int} (ha : 0 ≤ a ∧ a ≤ 65536) (hb : 0 ≤ b ∧ b ≤ 4398046511104) (hc : 1 ≤ c ∧ c ≤ 9223372036854775807) : Ev (fun k => num_MulDiv.f k a b c) (a * b / c, 0) := by
  have h := muldiv_ev a b c (by unfold fits; omega) (by unfold fits; omega) (by unfold fits; omega)
  have h1 : 0 ≤ a * b := Int.mul_nonneg ha.1 hb.1
  have h2 : a * b ≤ 65536 * 4398046511104 := Int.mul_le_mul ha.2 hb.2 hb.1 (by omega)
  have h3 : a * b / c ≤ a * b := Int.ediv_le_self _ h1
  have h4 : 0 ≤ a * b / c := Int.ediv_nonneg h1 (by omega)
  have e : ¬ (a < 0 ∨ b < 0 ∨ c < 1) := by omega
  have hf : fits (a * b / c) := by unfold fits; omega
  rw [if_neg e, if_pos hf] at h
  exact h
theorem rd_get? {l : List Int} {i : Nat} {x : Int} (h : l[i]? = some x) : rd l (i : Int) = x := by
  unfold rd; simp [List.getD, h]
theorem rd_in {l : List Int} {u : Int} (h0 : 0 ≤ u) (h1 : u < (l.length : Int)) : l[u.toNat]? = some (rd l u) := by
  unfold rd
  rw [List.getElem?_eq_getElem (by omega)]
  simp [List.getD, show u.toNat < l.length by omega]
theorem rd_app (l : List Int) (x : Int) {u : Int} (h0 : 0 ≤ u) (h1 : u < (l.length : Int)) : rd (l ++ [x]) u = rd l u := by
  have h := rd_in h0 h1
  have h2 : (l ++ [x])[u.toNat]? = some (rd l u) := by rw [List.getElem?_append_left (by omega)]; exact h
  have h3 := rd_get? h2
  rwa [Int.toNat_of_nonneg h0] at h3
/-- what each step of the norms stands on -/
def NOk (r : List S37) (us : List Int) (S : Int → Int) (n : Nat) : Prop := us.length = r.length ∧ ∀ (i : Nat) (a : S37) (u : Int), r[i]? = some a → us[i]? = some u → 0 ≤ u ∧ u < ((n + i : Nat) : Int) ∧ 1 ≤ a.f2 ∧ a.f2 ≤ S u ∧ S u ≤ 1099511627776
def Unit01 (l : List Int) : Prop := ∀ x ∈ l, 0 ≤ x ∧ x ≤ 65536
theorem quot_le {n s S : Int} (hn : 0 ≤ n) (hs : 1 ≤ s) (hS : s ≤ S) : 0 ≤ n * s / S ∧ n * s / S ≤ n := by
  refine ⟨Int.ediv_nonneg (Int.mul_nonneg hn (by omega)) (by omega), ?_⟩
  have h1 : n * s ≤ n * S := Int.mul_le_mul_of_nonneg_left hS hn
  exact Int.ediv_le_of_le_mul (by omega) h1
theorem nok_cons {a : S37} {r : List S37} {u : Int} {us : List Int} {S : Int → Int} {n : Nat} (h : NOk (a :: r) (u :: us) S n) : (0 ≤ u ∧ u < (n : Int) ∧ 1 ≤ a.f2 ∧ a.f2 ≤ S u ∧ S u ≤ 1099511627776) ∧ NOk r us S (n + 1) := by
  refine ⟨?_, by have := h.1; simpa using this, fun i x v hx hv => ?_⟩
  · have := h.2 0 a u rfl rfl
    simpa using this
  · have := h.2 (i + 1) x v (by simpa using hx) (by simpa using hv)
    have e : n + (i + 1) = n + 1 + i := by omega
    rw [e] at this
    exact this
theorem step_unit {out : List Int} (hO : Unit01 out) {a : S37} {u : Int} {S : Int → Int} (h : 0 ≤ u ∧ u < (out.length : Int) ∧ 1 ≤ a.f2 ∧ a.f2 ≤ S u ∧ S u ≤ 1099511627776) : (0 ≤ rd out u ∧ rd out u ≤ 65536) ∧ Unit01 (out ++ [rd out u * a.f2 / S u]) := by
  have hm := hO _ (List.mem_of_getElem? (rd_in h.1 h.2.1))
  refine ⟨hm, fun x hx => ?_⟩
  rcases List.mem_append.1 hx with q | q
  · exact hO x q
  · rw [List.mem_singleton.1 q]
    have := quot_le hm.1 h.2.2.1 h.2.2.2.1
    omega
theorem normsL_ev : ∀ (r : List S37) (us : List Int) (m : List (Int × Int)) (out : List Int), NOk r us (lkI m) out.length → Unit01 out → Ev (fun k => normsL k r us m out) (nrm r us (lkI m) out)
  | [], us, m, out, _, _ => by
    have : nrm [] us (lkI m) out = out := by simp [nrm]
    rw [this]
    exact Ev.now _
  | a :: r, [], m, out, h, _ => by have := h.1; simp at this
  | a :: r, u :: us, m, out, h, hO => by
    obtain ⟨h1, h2⟩ := nok_cons h
    obtain ⟨hm, hO2⟩ := step_unit hO h1
    have ih := normsL_ev r us m (out ++ [rd out u * a.f2 / lkI m u]) (by simpa using h2) hO2
    rw [nrm]
    unfold normsL
    refine ev_pos ⟨h1.1, h1.2.1⟩ (Ev.bind (md_ev hm ⟨by omega, by omega⟩ ⟨by omega, by omega⟩) ?_)
    exact ih
theorem nrm_facts : ∀ (r : List S37) (us : List Int) (S : Int → Int) (out : List Int), NOk r us S out.length → Unit01 out →
    (nrm r us S out).length = out.length + r.length ∧ Unit01 (nrm r us S out) ∧ (∀ (j : Nat), j < out.length → rd (nrm r us S out) (j : Int) = rd out (j : Int)) ∧ ∀ (i : Nat) (a : S37) (u : Int), r[i]? = some a → us[i]? = some u → rd (nrm r us S out) ((out.length + i : Nat) : Int) = rd (nrm r us S out) u * a.f2 / S u
  | [], us, S, out, h, hO => by
    have : nrm [] us S out = out := by simp [nrm]
    rw [this]
    exact ⟨by simp, hO, fun _ _ => rfl, fun i a u ha _ => by simp at ha⟩
  | a :: r, [], S, out, h, _ => by have := h.1; simp at this
  | a :: r, u :: us, S, out, h, hO => by
    obtain ⟨h1, h2⟩ := nok_cons h
    obtain ⟨hm, hO2⟩ := step_unit hO h1
    have hl : (out ++ [rd out u * a.f2 / S u]).length = out.length + 1 := by simp
    obtain ⟨i1, i2, i3, i4⟩ := nrm_facts r us S (out ++ [rd out u * a.f2 / S u]) (by rw [hl]; exact h2) hO2
    rw [hl] at i1 i3 i4
    have keep : ∀ (v : Int), 0 ≤ v → v < (out.length : Int) → rd (nrm r us S (out ++ [rd out u * a.f2 / S u])) v = rd out v := by
      intro v v0 v1
      have := i3 v.toNat (by omega)
      rw [Int.toNat_of_nonneg v0] at this
      rw [this, rd_app out _ v0 v1]
    rw [nrm]
    refine ⟨by rw [i1, List.length_cons]; omega, i2, fun j hj => keep j (by omega) (by omega), fun i x v hx hv => ?_⟩
    cases i with
    | zero =>
      simp only [List.getElem?_cons_zero, Option.some.injEq] at hx hv
      subst hx; subst hv
      have := i3 out.length (by omega)
      rw [Nat.add_zero, this, keep u h1.1 h1.2.1]
      exact rd_get? (by simp)
    | succ i =>
      rw [List.getElem?_cons_succ] at hx hv
      have := i4 i x v hx hv
      rw [show out.length + (i + 1) = out.length + 1 + i by omega]
      exact this
/-- what accounts that may be are entitled to -/
def norms (l : List S37) : List Int := nrm (l.drop 1) ((ups l).drop 1) (shareSum l (ups l)) [65536]
theorem nok_tok {l : List S37} (h : TOK l = true) : NOk (l.drop 1) ((ups l).drop 1) (shareSum l (ups l)) 1 := by
  have hl := (tok_parts h).2.1
  have hs := shares h
  refine ⟨by simp [ups_len h], fun i a u ha hu => ?_⟩
  rw [List.getElem?_drop] at ha hu
  obtain ⟨v, h1, h2, h3⟩ := ups_at h (1 + i) a ha
  rw [hu] at h1
  obtain rfl := Option.some.inj h1
  obtain ⟨j, b, g1, g2, g3, g4⟩ := h3 (by omega)
  have hsh := hs a (List.mem_of_getElem? ha)
  have hle := share_le l (ups l) (1 + i) a u hs ha hu
  have hnn := shareSum_nn l (ups l) u hs
  refine ⟨by omega, by omega, hsh.1, hle, ?_⟩
  have : (1048576 : Int) * (l.length : Int) ≤ 1048576 * 50 := by omega
  omega
theorem unit1 : Unit01 [65536] := fun x hx => by rw [List.mem_singleton.1 hx]; omega
theorem norms_facts {l : List S37} (h : TOK l = true) : (norms l).length = l.length ∧ Unit01 (norms l) ∧ rd (norms l) 0 = 65536 ∧ ∀ (i : Nat) (a : S37) (u : Int), 0 < i → l[i]? = some a → (ups l)[i]? = some u → rd (norms l) (i : Int) = rd (norms l) u * a.f2 / shareSum l (ups l) u := by
  have hl := (tok_parts h).2.1
  obtain ⟨i1, i2, i3, i4⟩ := nrm_facts _ _ _ _ (nok_tok h) unit1
  refine ⟨?_, i2, i3 0 (by simp), fun i a u hi ha hu => ?_⟩
  · unfold norms
    rw [i1]; simp; omega
  · obtain ⟨j, rfl⟩ : ∃ j, i = 1 + j := ⟨i - 1, by omega⟩
    exact i4 j a u (by rw [List.getElem?_drop]; exact ha) (by rw [List.getElem?_drop]; exact hu)
theorem norms_ev (l : List S37) (hl : l.length ≤ 60) (hs : ∀ x ∈ l, x.f0.size ≤ 300 ∧ x.f1.size ≤ 300) : Ev (fun k => share_Norms.f k l) (if TOK l = true then (norms l, 0) else ([], 100)) := by
  unfold share_Norms.f
  refine ev_pos (by omega) ?_
  refine Ev.bind (right_ev l (List.replicate l.length 0) (by omega) (by simp; omega) (fun x hx => (hs x hx).1)) ?_
  have hz : (List.replicate l.length (0 : Int)).all (fun x => decide (0 ≤ x)) = true := by simp
  unfold rightE
  by_cases h : TOK l = true
  · rw [if_pos h, if_pos h, if_pos (by simp), if_pos hz]
    refine ev_pos rfl ?_
    rw [places_f hs hl]
    refine Ev.bind (Ev.now _) (ev_pos ?_ ?_)
    · refine ⟨ups_len h, fun u hu => ?_⟩
      obtain ⟨i, hi⟩ := List.mem_iff_getElem?.1 hu
      have hil : i < l.length := by
        rw [← ups_len h]
        rcases Nat.lt_or_ge i (ups l).length with q | q
        · exact q
        · rw [List.getElem?_eq_none q] at hi; cases hi
      obtain ⟨v, h1, h2, h3⟩ := ups_at h i l[i] (List.getElem?_eq_getElem hil)
      rw [hi] at h1
      obtain rfl := Option.some.inj h1
      rcases Nat.eq_zero_or_pos i with q | q
      · have := h2 q; omega
      · obtain ⟨j, b, g1, g2, _⟩ := h3 q
        omega
    · have hS : lkI (allF l (ups l) []) = shareSum l (ups l) := by
        funext u
        have := allF_eq l (ups l) [] 0 (shares h) (fun v => by simp [lkI]) (by omega) u
        simpa [lkI] using this
      have hN := normsL_ev (l.drop 1) ((ups l).drop 1) (allF l (ups l) []) [65536] (by rw [hS]; exact nok_tok h) unit1
      rw [hS] at hN
      exact Ev.bind hN (Ev.now _)
  · rw [if_neg h, if_neg h]
    exact ev_neg (by simp) (Ev.now _)
end Go.Proofs.YtfccdngejfnmkaaDoor.Shr
