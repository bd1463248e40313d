import Derived.Test.YtfccdngejfnmkaaDoorShrExact
import Derived.Test.YtfccdngejfnmkaaDoorP0
import Derived.Test.YtfccdngejfnmkaaDoorP7
import Derived.Test.YtfccdngejfnmkaaDoorP18
namespace Go.Proofs.YtfccdngejfnmkaaDoor.Pure
open Go.RowKit Go.Proofs.YtfccdngejfnmkaaDoorW.PrintWords Go.Proofs.YtfccdngejfnmkaaDoorW.PrintLast Go.Proofs.YtfccdngejfnmkaaDoorW.PrintMore Go.Proofs.YtfccdngejfnmkaaDoor.P Go.Proofs.YtfccdngejfnmkaaDoor.NumM Go.Proofs.YtfccdngejfnmkaaDoor.Shr
set_option linter.unusedVariables false
set_option linter.unusedSimpArgs false
theorem at_range (at' : Int) (n : Nat) (h : 1 ≤ n ∧ n ≤ 60) : IntKind.u64.wrap (n : Int) = (n : Int) ∧ ∃ k : Nat, k < n ∧ wrap64 (Int.tmod (IntKind.u64.wrap at') (IntKind.u64.wrap (n : Int))) = (k : Int) := by
  have e : IntKind.u64.wrap (n : Int) = (n : Int) := u64 (by omega)
  refine ⟨e, ?_⟩
  rw [e, IntKind.wrap_u64]
  have h0 : 0 ≤ at' % 18446744073709551616 := Int.emod_nonneg _ (by omega)
  rw [Int.tmod_eq_emod_of_nonneg h0]
  generalize at' % 18446744073709551616 = v at *
  have h1 : 0 ≤ v % (n : Int) := Int.emod_nonneg _ (by omega)
  have h2 : v % (n : Int) < (n : Int) := Int.emod_lt_of_pos _ (by omega)
  generalize v % (n : Int) = m at *
  refine ⟨m.toNat, by omega, ?_⟩
  rw [w64 (by omega)]; omega
theorem more_wf {a : Int} (h : (Lit.int .u16 a).wf = true) : 0 ≤ a ∧ a ≤ 65535 := by
  simpa [Lit.wf, IntKind.min, IntKind.max, IntKind.signed, IntKind.bits] using h
theorem falls_end {l : List S37} {own : List Int} (h : OOK l own) (hs : Small l own) (at' more : Int) (hm : 0 ≤ more ∧ more ≤ 65535) : Ev (fun k => gangerlaw11_ShareFalls.l0 k l own at' more (factors l own) (norms l) (sums l own) (l.length : Int)) true := by
  have hn := (tok_parts h.1).2.1
  obtain ⟨n1, n2, n3, n4⟩ := norms_facts h.1
  obtain ⟨f1, f2, f3, f4⟩ := sums_facts h
  have c1 := fac_len h
  have ho := h.2.1
  obtain ⟨e1, kk, hk1, hk2⟩ := at_range at' l.length ⟨hn.1, hs.1⟩
  refine Ev.step (fun k => by rw [gangerlaw11_ShareFalls.l0]) ?_
  rw [hk2, e1]
  refine ev_neg (by omega) (ev_neg (by omega) (ev_pos (by omega) ?_))
  by_cases q : rd (sums l own) 0 > 1000000000000
  · refine ev_pos q ?_
    exact hk
  · refine ev_neg q ?_
    have hcp : gangerlaw11_copied.f own = some own := by
      unfold gangerlaw11_copied.f
      rw [if_pos (by have := hs.2.1; simp only [List.length_nil]; omega), List.nil_append]
    obtain ⟨m1, m2, m3, m4, m5⟩ := more_sums h kk (by omega) more hm (by omega)
    have hrd : rd own (kk : Int) = own[kk] := rd_get? (List.getElem?_eq_getElem (by omega))
    have e2 : wrap64 (rd own (kk : Int) + wrap64 more) = own[kk] + more := by rw [hrd, w64 (x := more) (by omega), w64 (by omega)]
    have hs' : Small l (own.set kk (own[kk] + more)) := by
      refine ⟨hs.1, by rw [List.length_set]; exact hs.2.1, hs.2.2.1, fun x hx => ?_⟩
      rcases List.mem_or_eq_of_mem_set hx with r | r
      · exact hs.2.2.2 x r
      · omega
    have hf := factors_ev hs'
    rw [if_pos ((rightE_ok hs'.2.2.2).2 m3)] at hf
    have c2 := fac_len m3
    refine Ev.bind (Ev.of (fun _ => LeO.refl _) (k := 0) hcp) (ev_pos (by omega) (ev_pos (by omega) ?_))
    rw [e2, Int.toNat_natCast]
    refine Ev.bind hf (ev_pos rfl (ev_pos (by dsimp only; omega) (ev_pos (by dsimp only; omega) (ev_pos (by omega) (ev_pos ?_ ?_)))))
    · dsimp only
      rw [fac_at m3 (by omega), fac_at h (by omega), m4, m5]
      have a1 := n2 _ (List.mem_of_getElem? (get_of (l := norms l) (i := kk) (by omega)))
      have a2 := f2 _ (List.mem_of_getElem? (get_of (l := sums l own) (i := kk) (by omega)))
      have a3 := (parts_unit h).2 (partOf (rd (sums l own) 0) (rd (sums l own) (kk : Int))) (by
        unfold parts; exact List.mem_map.2 ⟨_, List.mem_of_getElem? (get_of (l := sums l own) (i := kk) (by omega)), rfl⟩)
      refine fac_less a1.1 a3.1 (part_more a2.1 ?_ hm.1)
      exact sums_first h (get_of (i := 0) (by omega)) kk _ (get_of (i := kk) (by omega))
    · exact hk
theorem falls_l0 {l : List S37} {own : List Int} (h : OOK l own) (hs : Small l own) (at' more : Int) (hm : 0 ≤ more ∧ more ≤ 65535) : ∀ (m i : Nat), i + m = l.length → Ev (fun k => gangerlaw11_ShareFalls.l0 k l own at' more (factors l own) (norms l) (sums l own) (i : Int)) true
  | 0, i, hi => by
    obtain rfl : i = l.length := by omega
    exact falls_end h hs at' more hm
  | m + 1, i, hi => by
    have ih := falls_l0 h hs at' more hm m (i + 1) (by omega)
    have hl := hs.1
    rw [← wnat i (by omega)] at ih
    obtain ⟨n1, n2, n3, n4⟩ := norms_facts h.1
    obtain ⟨f1, f2, f3, f4⟩ := sums_facts h
    have c1 := fac_len h
    have hil : i < l.length := by omega
    have a1 := n2 _ (List.mem_of_getElem? (get_of (l := norms l) (i := i) (by omega)))
    have a2 := f2 _ (List.mem_of_getElem? (get_of (l := sums l own) (i := i) (by omega)))
    have a3 := (parts_unit h).2 (partOf (rd (sums l own) 0) (rd (sums l own) (i : Int))) (by
        unfold parts; exact List.mem_map.2 ⟨_, List.mem_of_getElem? (get_of (l := sums l own) (i := i) (by omega)), rfl⟩)
    have hu := fac_unit (n := rd (norms l) i) (p := partOf (rd (sums l own) 0) (rd (sums l own) (i : Int))) a1.1 a3.1
    have hfa := fac_at h hil
    refine Ev.step (fun k => by rw [gangerlaw11_ShareFalls.l0]) ?_
    refine ev_pos (by omega) (ev_pos (by omega) (ev_pos (by omega) (ev_neg (by rw [hfa]; omega) (ev_neg (by rw [hfa]; omega) (ev_pos (by omega) ?_)))))
    by_cases q : rd (sums l own) (i : Int) = 0
    · refine ev_pos q (ev_pos (by omega) ?_)
      by_cases q2 : rd (norms l) (i : Int) > 0
      · refine ev_pos q2 (ev_pos ?_ ih)
        rw [hfa, q]
        exact fac_nought q2
      · exact ev_neg q2 ih
    · exact ev_neg q ih
theorem ShareFalls : gangerlaw11_ShareFalls.Pure := by
  intro l own at' more _ hw hat hmo
  refine Ev.rounds ?_
  unfold gangerlaw11_ShareFalls.f
  obtain ⟨b, hb, hf⟩ := many_ev l own
  refine Ev.bind hb ?_
  cases b with
  | true => refine ev_pos rfl ?_; exact hk
  | false =>
    have hm := hf rfl
    have hs : Small l own := ⟨hm.1, hm.2.1, hm.2.2, fun x hx => (wf64 (hw.2 x hx)).2⟩
    refine ev_neg (by simp) (Ev.bind (factors_ev hs) ?_)
    by_cases hr : rightE l own = 0
    · have ho := (rightE_ok hs.2.2.2).1 hr
      rw [if_pos hr]
      have n1 := (norms_facts ho.1).1
      have f1 := (sums_facts ho).1
      have c1 := fac_len ho
      have hn := (tok_parts ho.1).2.1
      have e1 := norms_ev l hm.1 hm.2.2
      have e2 := sums_ev hs
      rw [if_pos ho.1] at e1
      rw [if_pos hr] at e2
      refine ev_pos rfl (Ev.bind e1 (Ev.bind e2 (ev_neg (by omega) (ev_pos (by dsimp only; omega) (ev_pos (by dsimp only; omega) ?_)))))
      dsimp only
      have e3 : (((sums l own).length : Int) != (l.length : Int)) = false := by rw [f1]; simp
      rw [e3]
      refine Ev.step (fun k => by rw [gangerlaw11_ShareFalls.j0]) ?_
      refine ev_neg (by simp) ?_
      exact falls_l0 ho hs at' more (more_wf hmo) l.length 0 (by omega)
    · rw [if_neg hr]
      refine ev_neg hr (ev_pos rfl ?_)
      exact hk
end Go.Proofs.YtfccdngejfnmkaaDoor.Pure
