import Derived.Test.YtfccdngejfnmkaaDoorShrParts
import Derived.Test.YtfccdngejfnmkaaDoorP0
import Derived.Test.YtfccdngejfnmkaaDoorP19
namespace Go.Proofs.YtfccdngejfnmkaaDoor.Pure
open Go.RowKit Go.Proofs.YtfccdngejfnmkaaDoorW.PrintWords Go.Proofs.YtfccdngejfnmkaaDoorW.PrintLast Go.Proofs.YtfccdngejfnmkaaDoorW.PrintMore Go.Proofs.YtfccdngejfnmkaaDoor.P Go.Proofs.YtfccdngejfnmkaaDoor.NumM Go.Proofs.YtfccdngejfnmkaaDoor.Shr
set_option linter.unusedVariables false
set_option linter.unusedSimpArgs false
theorem rd37_get {l : List S37} {i : Nat} {a : S37} (h : l[i]? = some a) : rd_T37 l (i : Int) = a := by
  unfold rd_T37; simp [List.getD, h]
theorem alike_key {l : List S37} {own : List Int} (h : OOK l own) {i k : Nat} {a b : S37} (hi : l[i]? = some a) (hk : l[k]? = some b) (e : a.f1.data.toList = b.f1.data.toList) :
    (b.f2 ≤ a.f2 → rd (norms l) k ≤ rd (norms l) i) ∧ (a.f2 = b.f2 → rd (norms l) i = rd (norms l) k) := by
  obtain ⟨n1, n2, n3, n4⟩ := norms_facts h.1
  have hil : i < l.length := by
    rcases Nat.lt_or_ge i l.length with q | q
    · exact q
    · rw [List.getElem?_eq_none q] at hi; cases hi
  obtain ⟨u, hu, u0, u1⟩ := ups_at h.1 i a hi
  obtain ⟨v, hv, v0, v1⟩ := ups_at h.1 k b hk
  have same : i = k ∨ (0 < i ∧ 0 < k ∧ u = v) := by
    rcases Nat.eq_zero_or_pos i with qi | qi
    · rcases Nat.eq_zero_or_pos k with qk | qk
      · exact Or.inl (by omega)
      · obtain ⟨j, c, g1, g2, g3, g4⟩ := v1 qk
        have := (child_iff h.1 g3 hi).2 (by rw [e, g4])
        rw [hu] at this
        have h1 := Option.some.inj this
        have h2 := u0 qi
        omega
    · rcases Nat.eq_zero_or_pos k with qk | qk
      · obtain ⟨j, c, g1, g2, g3, g4⟩ := u1 qi
        have := (child_iff h.1 g3 hk).2 (by rw [← e, g4])
        rw [hv] at this
        have h1 := Option.some.inj this
        have h2 := v0 qk
        omega
      · obtain ⟨j, c, g1, g2, g3, g4⟩ := v1 qk
        have := (child_iff h.1 g3 hi).2 (by rw [e, g4])
        rw [hu] at this
        have h1 := Option.some.inj this
        exact Or.inr ⟨qi, qk, by omega⟩
  rcases same with q | ⟨qi, qk, q⟩
  · subst q
    rw [hi] at hk
    obtain rfl := Option.some.inj hk
    exact ⟨fun _ => Int.le_refl _, fun _ => rfl⟩
  · subst q
    have e1 := n4 i a u qi hi hu
    have e2 := n4 k b u qk hk hv
    obtain ⟨j, c, g1, g2, g3, g4⟩ := u1 qi
    have hun : 0 ≤ rd (norms l) u := by
      have hx := rd_in (l := norms l) (u := u) (by omega) (by omega)
      exact (n2 _ (List.mem_of_getElem? hx)).1
    have hS := share_le l (ups l) i a u (shares h.1) hi hu
    have ha := shares h.1 a (List.mem_of_getElem? hi)
    rw [e1, e2]
    refine ⟨fun hle => ?_, fun hq => by rw [hq]⟩
    exact Int.ediv_le_ediv (by omega) (Int.mul_le_mul_of_nonneg_left hle hun)
theorem get_lt {α : Type} {l : List α} {i : Nat} {a : α} (h : l[i]? = some a) : i < l.length := by
  rcases Nat.lt_or_ge i l.length with q | q
  · exact q
  · rw [List.getElem?_eq_none q] at h; cases h
theorem factor_at {l : List S37} {own : List Int} (h : OOK l own) {i : Nat} (hi : i < l.length) : rd (factors l own) (i : Int) = fac (rd (norms l) i) (partOf (rd (sums l own) 0) (rd (sums l own) i)) := by
  obtain ⟨n1, n2, n3, n4⟩ := norms_facts h.1
  obtain ⟨f1, f2, f3, f4⟩ := sums_facts h
  have hn := List.getElem?_eq_getElem (l := norms l) (i := i) (by omega)
  have hw := List.getElem?_eq_getElem (l := sums l own) (i := i) (by omega)
  have hp : (parts (sums l own))[i]? = some (partOf (rd (sums l own) 0) (sums l own)[i]) := by unfold parts; rw [List.getElem?_map, hw]; rfl
  have hf := facs_at _ _ i _ _ hn hp
  have := rd_get? hf
  rw [rd_get? hn, rd_get? hw]
  exact this
theorem factors_len {l : List S37} {own : List Int} (h : OOK l own) : (factors l own).length = l.length := by
  unfold factors
  rw [facs_len _ _ (by rw [(norms_facts h.1).1, (parts_unit h).1]), (norms_facts h.1).1]
theorem alike_l1 {l : List S37} {own : List Int} (h : OOK l own) (hl : l.length ≤ 60) (i : Nat) (hi : i < l.length) (next : Ev (fun k => gangerlaw11_ShareAlike.l0 k l (norms l) (sums l own) (factors l own) ((i + 1 : Nat) : Int)) true) : ∀ (m j : Nat), j + m = l.length →
    Ev (fun k => gangerlaw11_ShareAlike.l1 k l (norms l) (sums l own) (factors l own) (i : Int) (j : Int)) true
  | 0, j, hj => by
    refine Ev.step (fun k => by rw [gangerlaw11_ShareAlike.l1]) ?_
    refine ev_neg (by omega) ?_
    rw [wnat i (by omega)]
    exact next
  | m + 1, j, hj => by
    have ih := alike_l1 h hl i hi next m (j + 1) (by omega)
    rw [← wnat j (by omega)] at ih
    have hjl : j < l.length := by omega
    have ga := List.getElem?_eq_getElem hi
    have gb := List.getElem?_eq_getElem hjl
    have n1 := (norms_facts h.1).1
    have f1 := (sums_facts h).1
    have c1 := factors_len h
    have key : l[i].f1.toList = l[j].f1.toList → _ := fun e => alike_key h ga gb (by rw [← tl, ← tl]; exact e)
    refine Ev.step (fun k => by rw [gangerlaw11_ShareAlike.l1]) ?_
    refine ev_pos (by omega) (ev_pos (by omega) (ev_pos (by omega) (ev_pos (by omega) ?_)))
    rw [rd37_get ga, rd37_get gb]
    by_cases e : l[i].f1.toList = l[j].f1.toList
    · refine ev_pos e ?_
      obtain ⟨k1, k2⟩ := key e
      have J4 : Ev (fun k => gangerlaw11_ShareAlike.j4 k l (norms l) (sums l own) (factors l own) (i : Int) (j : Int) false) true := by
        refine Ev.step (fun k => by rw [gangerlaw11_ShareAlike.j4]) ?_
        refine ev_neg (by simp) (ev_pos (by omega) (ev_pos (by omega) (ev_pos (by omega) (ev_pos (by omega) ?_))))
        rw [rd37_get ga, rd37_get gb]
        by_cases e2 : l[i].f2 = l[j].f2
        · refine ev_pos e2 (ev_pos (by omega) (ev_pos (by omega) ?_))
          by_cases e3 : rd (sums l own) (i : Int) = rd (sums l own) (j : Int)
          · have hN := k2 e2
            refine ev_pos e3 (ev_pos (by omega) (ev_pos (by omega) (ev_pos hN (ev_pos (by omega) (ev_pos (by omega) (ev_pos ?_ ih))))))
            rw [factor_at h hi, factor_at h hjl, hN, e3]
          · exact ev_neg e3 ih
        · exact ev_neg e2 ih
      by_cases e2 : l[i].f2 ≥ l[j].f2
      · refine ev_pos e2 (ev_pos (by omega) (ev_pos (by omega) ?_))
        rw [decide_eq_false (by have := k1 e2; omega)]
        exact J4
      · exact ev_neg e2 J4
    · exact ev_neg e ih
theorem alike_l0 {l : List S37} {own : List Int} (h : OOK l own) (hl : l.length ≤ 60) : ∀ (m i : Nat), i + m = l.length → Ev (fun k => gangerlaw11_ShareAlike.l0 k l (norms l) (sums l own) (factors l own) (i : Int)) true
  | 0, i, hi => by
    refine Ev.step (fun k => by rw [gangerlaw11_ShareAlike.l0]) ?_
    refine ev_neg (by omega) ?_
    exact hk
  | m + 1, i, hi => by
    refine Ev.step (fun k => by rw [gangerlaw11_ShareAlike.l0]) ?_
    refine ev_pos (by omega) ?_
    exact alike_l1 h hl i (by omega) (alike_l0 h hl m (i + 1) (by omega)) l.length 0 (by omega)
theorem small_of {l : List S37} {own : List Int} (hm : l.length ≤ 60 ∧ own.length ≤ 100 ∧ ∀ x ∈ l, x.f0.size ≤ 300 ∧ x.f1.size ≤ 300) (hw : ∀ x ∈ own, (Lit.int .i64 x).wf = true) : Small l own :=
  ⟨hm.1, hm.2.1, hm.2.2, fun x hx => (wf64 (hw x hx)).2⟩
theorem ShareAlike : gangerlaw11_ShareAlike.Pure := by
  intro l own _ hw
  refine Ev.rounds ?_
  unfold gangerlaw11_ShareAlike.f
  obtain ⟨b, hb, hf⟩ := many_ev l own
  refine Ev.bind hb ?_
  cases b with
  | true => refine ev_pos rfl ?_; exact hk
  | false =>
    have hm := hf rfl
    have hs := small_of hm hw.2
    refine ev_neg (by simp) ?_
    have out : ∀ z1 z2 z3, Ev (fun k => gangerlaw11_ShareAlike.j0 k l z1 z2 z3 true) true := by
      intro z1 z2 z3
      refine Ev.step (fun k => by rw [gangerlaw11_ShareAlike.j0]) (ev_pos rfl ?_)
      exact hk
    refine Ev.bind (norms_ev l hm.1 hm.2.2) (Ev.bind (sums_ev hs) (Ev.bind (factors_ev hs) ?_))
    by_cases hr : rightE l own = 0
    · have ho := (rightE_ok hs.2.2.2).1 hr
      rw [if_pos hr, if_pos hr, if_pos ho.1]
      have n1 := (norms_facts ho.1).1
      have f1 := (sums_facts ho).1
      have c1 := factors_len ho
      refine ev_pos rfl (ev_pos rfl ?_)
      refine Ev.step (fun k => by rw [gangerlaw11_ShareAlike.j0]) ?_
      refine ev_neg (by simp) (ev_pos (by rw [n1]) (ev_pos (by rw [f1]) ?_))
      have e3 : (((factors l own).length : Int) != (l.length : Int)) = false := by rw [c1]; simp
      rw [e3]
      refine Ev.step (fun k => by rw [gangerlaw11_ShareAlike.j1]) ?_
      refine ev_neg (by simp) ?_
      exact alike_l0 ho hm.1 l.length 0 (by omega)
    · rw [if_neg hr, if_neg hr]
      by_cases ht : TOK l = true
      · rw [if_pos ht]
        refine ev_pos rfl (ev_neg hr ?_)
        exact out _ _ _
      · rw [if_neg ht]
        refine ev_neg (by simp) ?_
        exact out _ _ _
end Go.Proofs.YtfccdngejfnmkaaDoor.Pure
