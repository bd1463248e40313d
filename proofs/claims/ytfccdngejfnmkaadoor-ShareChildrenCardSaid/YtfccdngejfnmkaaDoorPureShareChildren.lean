import Derived.Test.YtfccdngejfnmkaaDoorShrParts
import Derived.Test.YtfccdngejfnmkaaDoorP0
import Derived.Test.YtfccdngejfnmkaaDoorP17
namespace Go.Proofs.YtfccdngejfnmkaaDoor.Pure
open Go.RowKit Go.Proofs.YtfccdngejfnmkaaDoorW.PrintWords Go.Proofs.YtfccdngejfnmkaaDoorW.PrintLast Go.Proofs.YtfccdngejfnmkaaDoorW.PrintMore Go.Proofs.YtfccdngejfnmkaaDoor.P Go.Proofs.YtfccdngejfnmkaaDoor.NumM Go.Proofs.YtfccdngejfnmkaaDoor.Shr
set_option linter.unusedVariables false
set_option linter.unusedSimpArgs false
theorem rd37_get {l : List S37} {i : Nat} {a : S37} (h : l[i]? = some a) : rd_T37 l (i : Int) = a := by
  unfold rd_T37; simp [List.getD, h]
/-- how much of a whole has been handed out: floors, one by one -/
def Handed' (n S R all k : Int) : Prop := all * S ≤ n * (S - R) ∧ n * (S - R) ≤ all * S + k * (S - 1) ∧ 0 ≤ all ∧ 0 ≤ k ∧ (k = 0 → all = 0 ∧ R = S) ∧ (0 < k → 1 ≤ S)
theorem handed_step {n S R all k s : Int} (h : Handed' n S (s + R) all k) (hn : 0 ≤ n) (hs : 1 ≤ s) (hS : s ≤ S) : Handed' n S R (all + n * s / S) (k + 1) := by
  obtain ⟨h1, h2, h3, h4, h5, h6⟩ := h
  have hS0 : 0 < S := by omega
  have e := Int.emod_add_mul_ediv (n * s) S
  have m1 := Int.emod_nonneg (n * s) (show S ≠ 0 by omega)
  have m2 := Int.emod_lt_of_pos (n * s) hS0
  have q0 : 0 ≤ n * s / S := Int.ediv_nonneg (Int.mul_nonneg hn (by omega)) (by omega)
  generalize n * s / S = q at *
  generalize n * s % S = r at *
  have e1 : (all + q) * S = all * S + S * q := by rw [Int.add_mul, Int.mul_comm q S]
  have e2 : n * (S - R) = n * (S - (s + R)) + n * s := by rw [← Int.mul_add]; congr 1; omega
  have e3 : (k + 1) * (S - 1) = k * (S - 1) + (S - 1) := by rw [Int.add_mul, Int.one_mul]
  refine ⟨by omega, by omega, by omega, by omega, fun q => by omega, fun _ => by omega⟩
theorem handed_end {n S all k : Int} (h : Handed' n S 0 all k) (hn : 0 ≤ n) : all ≤ n ∧ (0 < k → n < all + k) := by
  obtain ⟨h1, h2, h3, h4, h5, h6⟩ := h
  rw [Int.sub_zero] at h1 h2
  by_cases hk : k = 0
  · have := (h5 hk).1
    exact ⟨by omega, fun q => by omega⟩
  · have hS := h6 (by omega)
    refine ⟨Int.le_of_mul_le_mul_right h1 (by omega), fun _ => ?_⟩
    have e : (all + k) * S = all * S + k * (S - 1) + k := by
      rw [Int.add_mul, Int.mul_sub, Int.mul_one]; omega
    have : n * S < (all + k) * S := by omega
    exact Int.lt_of_mul_lt_mul_right this (by omega)
theorem shareSum_nil (us : List Int) (u : Int) : shareSum [] us u = 0 := by simp [shareSum]
theorem children_l1 {l : List S37} {own : List Int} (h : OOK l own) (hl : l.length ≤ 60) (i : Nat) (hi : i < l.length) (next : Ev (fun k => gangerlaw11_ShareChildren.l0 k l own (norms l) (sums l own) ((i + 1 : Nat) : Int)) true) : ∀ (m j : Nat) (all k : Int), j + m = l.length → all ≤ 65536 * (j : Int) → k ≤ (j : Int) →
    Handed' (rd (norms l) i) (shareSum l (ups l) i) (shareSum (l.drop j) ((ups l).drop j) i) all k →
    Ev (fun r => gangerlaw11_ShareChildren.l1 r l own (norms l) (sums l own) (i : Int) all k (j : Int)) true
  | 0, j, all, k, hj, ha, hkj, hH => by
    obtain ⟨n1, n2, n3, n4⟩ := norms_facts h.1
    obtain ⟨f1, f2, f3, f4⟩ := sums_facts h
    have hn0 : 0 ≤ rd (norms l) (i : Int) := by
      have hx := List.getElem?_eq_getElem (l := norms l) (i := i) (by omega)
      rw [rd_get? hx]
      exact (n2 _ (List.mem_of_getElem? hx)).1
    rw [List.drop_eq_nil_of_le (by omega), shareSum_nil] at hH
    obtain ⟨g1, g2⟩ := handed_end hH hn0
    have hk0 := hH.2.2.2.1
    have ha0 := hH.2.2.1
    have how := h.2.1
    have hws := List.getElem?_eq_getElem (l := sums l own) (i := i) (by omega)
    have hos := List.getElem?_eq_getElem (l := own) (i := i) (by omega)
    have k1 : own[i] ≤ (sums l own)[i] := f3 i _ _ hos hws
    have h0 := rd_in (l := sums l own) (u := 0) (by omega) (by omega)
    have k2 := sums_first h h0 i _ hws
    have fin : Ev (fun r => if (i : Int) < ((sums l own).length : Int) then (if (i : Int) < (own.length : Int) then (if rd (sums l own) (i : Int) < rd own (i : Int) then none else (if (0 : Int) < ((sums l own).length : Int) then (if rd (sums l own) (i : Int) > rd (sums l own) 0 then none else (gangerlaw11_ShareChildren.l0 r l own (norms l) (sums l own) (wrap64 ((i : Int) + 1)))) else none)) else none) else none) true := by
      refine ev_pos (by omega) (ev_pos (by omega) (ev_neg ?_ (ev_pos (by omega) (ev_neg ?_ ?_))))
      · rw [rd_get? hws, rd_get? hos]; omega
      · rw [rd_get? hws]; omega
      · rw [wnat i (by omega)]; exact next
    refine Ev.step (fun r => by rw [gangerlaw11_ShareChildren.l1]) ?_
    refine ev_neg (by omega) (ev_pos (by omega) (ev_pos (by omega) (ev_neg (by omega) ?_)))
    by_cases hk : k > 0
    · refine ev_pos hk (ev_neg ?_ fin)
      have := g2 hk
      rw [w64 (by omega)]; omega
    · exact ev_neg hk fin
  | m + 1, j, all, k, hj, ha, hkj, hH => by
    obtain ⟨n1, n2, n3, n4⟩ := norms_facts h.1
    obtain ⟨f1, f2, f3, f4⟩ := sums_facts h
    have hjl : j < l.length := by omega
    have hju : j < (ups l).length := by rw [ups_len h.1]; exact hjl
    have ga := List.getElem?_eq_getElem hi
    have gb := List.getElem?_eq_getElem hjl
    have hci := child_iff h.1 ga gb
    have hk0 := hH.2.2.2.1
    have ha0 := hH.2.2.1
    rw [List.drop_eq_getElem_cons hjl, List.drop_eq_getElem_cons hju, shareSum] at hH
    refine Ev.step (fun r => by rw [gangerlaw11_ShareChildren.l1]) ?_
    refine ev_pos (by omega) (ev_pos (by omega) (ev_pos (by omega) (ev_pos (by omega) ?_)))
    rw [rd37_get ga, rd37_get gb]
    by_cases e : l[j].f1.toList = l[i].f0.toList
    · have hu : (ups l)[j]? = some (i : Int) := hci.2 (by rw [← tl, ← tl]; exact e)
      have hue : (ups l)[j] = (i : Int) := by rw [List.getElem?_eq_getElem hju] at hu; exact Option.some.inj hu
      rw [if_pos hue] at hH
      have hj0 : 0 < j := by
        rcases Nat.eq_zero_or_pos j with q | q
        · exfalso
          obtain ⟨u, g1, g2, g3⟩ := ups_at h.1 j l[j] gb
          rw [hu] at g1
          have := Option.some.inj g1
          have := g2 q
          omega
        · exact q
      have hnj := n4 j l[j] (i : Int) hj0 gb hu
      have hwi := List.getElem?_eq_getElem (l := sums l own) (i := i) (by omega)
      have hwj := List.getElem?_eq_getElem (l := sums l own) (i := j) (by omega)
      have hle := f4 i j _ _ hu hwj hwi
      have hni := List.getElem?_eq_getElem (l := norms l) (i := i) (by omega)
      have hnn : 0 ≤ rd (norms l) (i : Int) := by rw [rd_get? hni]; exact (n2 _ (List.mem_of_getElem? hni)).1
      have hnjx := List.getElem?_eq_getElem (l := norms l) (i := j) (by omega)
      have hnju := n2 _ (List.mem_of_getElem? hnjx)
      have hsh := shares h.1 l[j] (List.mem_of_getElem? gb)
      have hSh := share_le l (ups l) j l[j] (i : Int) (shares h.1) gb hu
      have hH2 := handed_step hH hnn hsh.1 hSh
      rw [← hnj] at hH2
      have hrj : rd (norms l) (j : Int) = (norms l)[j] := rd_get? hnjx
      refine ev_pos e (ev_pos (by omega) (ev_pos (by omega) (ev_pos (by omega) (ev_neg ?_ ?_))))
      · rw [rd_get? hwi, rd_get? hwj]; omega
      · rw [w64 (x := all + rd (norms l) (j : Int)) (by omega), w64 (x := k + 1) (by omega), wnat j (by omega)]
        exact children_l1 h hl i hi next m (j + 1) _ _ (by omega) (by push_cast; omega) (by push_cast; omega) hH2
    · have hne : ¬ (ups l)[j] = (i : Int) := by
        intro q
        refine e ?_
        have := hci.1 (by rw [List.getElem?_eq_getElem hju, q])
        rw [tl, tl]; exact this
      rw [if_neg hne, Int.zero_add] at hH
      refine ev_neg e ?_
      rw [wnat j (by omega)]
      exact children_l1 h hl i hi next m (j + 1) all k (by omega) (by push_cast; omega) (by push_cast; omega) hH
theorem children_l0 {l : List S37} {own : List Int} (h : OOK l own) (hl : l.length ≤ 60) : ∀ (m i : Nat), i + m = l.length → Ev (fun k => gangerlaw11_ShareChildren.l0 k l own (norms l) (sums l own) (i : Int)) true
  | 0, i, hi => by
    refine Ev.step (fun k => by rw [gangerlaw11_ShareChildren.l0]) ?_
    refine ev_neg (by omega) ?_
    exact hk
  | m + 1, i, hi => by
    refine Ev.step (fun k => by rw [gangerlaw11_ShareChildren.l0]) ?_
    refine ev_pos (by omega) ?_
    refine children_l1 h hl i (by omega) (children_l0 h hl m (i + 1) (by omega)) l.length 0 0 0 (by omega) (by omega) (by omega) ?_
    rw [List.drop_zero, List.drop_zero]
    exact ⟨by simp, by simp, by omega, by omega, fun _ => ⟨rfl, rfl⟩, fun q => by omega⟩
theorem ShareChildren : gangerlaw11_ShareChildren.Pure := by
  intro l own _ hw
  refine Ev.rounds ?_
  unfold gangerlaw11_ShareChildren.f
  obtain ⟨b, hb, hf⟩ := many_ev l own
  refine Ev.bind hb ?_
  cases b with
  | true => refine ev_pos rfl ?_; exact hk
  | false =>
    have hm := hf rfl
    have hs : Small l own := ⟨hm.1, hm.2.1, hm.2.2, fun x hx => (wf64 (hw.2 x hx)).2⟩
    refine ev_neg (by simp) ?_
    have out : ∀ (z1 : List Int) (e : Int) (z2 : List Int), ((e == 0) == (decide ((z1.length : Int) > 0))) = true → Ev (fun k => gangerlaw11_ShareChildren.j0 k l own z1 e z2 true) true := by
      intro z1 e z2 he
      refine Ev.step (fun k => by rw [gangerlaw11_ShareChildren.j0]) (ev_pos rfl (ev_pos he ?_))
      exact hk
    refine Ev.bind (norms_ev l hm.1 hm.2.2) (Ev.bind (sums_ev hs) ?_)
    by_cases hr : rightE l own = 0
    · have ho := (rightE_ok hs.2.2.2).1 hr
      rw [if_pos hr, if_pos ho.1]
      have n1 := (norms_facts ho.1).1
      have f1 := (sums_facts ho).1
      refine ev_pos rfl ?_
      refine Ev.step (fun k => by rw [gangerlaw11_ShareChildren.j0]) ?_
      refine ev_neg (by simp) (ev_pos (by rw [n1]) ?_)
      have e3 : (((sums l own).length : Int) != (l.length : Int)) = false := by rw [f1]; simp
      rw [e3]
      refine Ev.step (fun k => by rw [gangerlaw11_ShareChildren.j1]) ?_
      refine ev_neg (by simp) ?_
      exact children_l0 ho hm.1 l.length 0 (by omega)
    · rw [if_neg hr]
      by_cases ht : TOK l = true
      · rw [if_pos ht]
        have n1 := (norms_facts ht).1
        have hl := (tok_parts ht).2.1
        refine ev_pos rfl ?_
        have e3 : (rightE l own != 0) = true := bne_iff_ne.2 hr
        rw [e3]
        refine out _ _ _ ?_
        show (((0 : Int) == 0) == decide (((norms l).length : Int) > 0)) = true
        rw [decide_eq_true (show ((norms l).length : Int) > 0 by omega)]; rfl
      · rw [if_neg ht]
        refine ev_neg (by simp) ?_
        exact out _ _ _ rfl
end Go.Proofs.YtfccdngejfnmkaaDoor.Pure
