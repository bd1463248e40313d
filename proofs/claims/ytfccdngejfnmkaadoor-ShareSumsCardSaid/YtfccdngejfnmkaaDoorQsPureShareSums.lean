/- cut to what one law reaches -/
import Derived.Test.YtfccdngejfnmkaaDoorQsShrRefSum
import Derived.Test.YtfccdngejfnmkaaDoorQsP0
import Derived.Test.YtfccdngejfnmkaaDoorQsP7
import Derived.Test.YtfccdngejfnmkaaDoorQsP13
namespace Go.Proofs.YtfccdngejfnmkaaDoor.Pure
open Go.RowKit Go.Proofs.YtfccdngejfnmkaaDoorW.PrintWords Go.Proofs.YtfccdngejfnmkaaDoorW.PrintLast Go.Proofs.YtfccdngejfnmkaaDoorW.PrintMore Go.Proofs.YtfccdngejfnmkaaDoor.P Go.Proofs.YtfccdngejfnmkaaDoor.NumM Go.Proofs.YtfccdngejfnmkaaDoor.Shr
set_option linter.unusedVariables false
set_option linter.unusedSimpArgs false
theorem wipe_l0 (own x5 : List Int) (he : x5 = own) (ho : own.length ≤ 100) : ∀ (m j : Nat) (s : List Int), j + m = s.length → s.length ≤ 1000 → Ev (fun k => gangerlaw11_ShareSums.l0 k own x5 s (j : Int)) true
  | 0, j, s, hj, hs => by
    subst he
    refine Ev.step (fun k => by rw [gangerlaw11_ShareSums.l0]) ?_
    refine ev_neg (by omega) (Ev.bind (same_ev x5 (by omega)) (ev_pos rfl ?_))
    exact hk
  | m + 1, j, s, hj, hs => by
    refine Ev.step (fun k => by rw [gangerlaw11_ShareSums.l0]) ?_
    refine ev_pos (by omega) (ev_pos (by omega) ?_)
    rw [wnat j (by omega)]
    exact wipe_l0 own x5 he ho m (j + 1) _ (by rw [List.length_set]; omega) (by rw [List.length_set]; omega)
theorem ShareSums : gangerlaw11_ShareSums.Pure := by
  intro l own _ hw
  refine Ev.rounds ?_
  unfold gangerlaw11_ShareSums.f
  obtain ⟨b, hb, hf⟩ := many_ev l own
  refine Ev.bind hb ?_
  cases b with
  | true => refine ev_pos rfl ?_; exact hk
  | false =>
    have hm := hf rfl
    have hs : Small l own := ⟨hm.1, hm.2.1, hm.2.2, fun x hx => (wf64 (hw.2 x hx)).2⟩
    have hcp : gangerlaw11_copied.f own = some own := by
      unfold gangerlaw11_copied.f
      rw [if_pos (by have := hs.2.1; simp only [List.length_nil]; omega), List.nil_append]
    refine ev_neg (by simp) (Ev.bind (Ev.of (fun _ => LeO.refl _) (k := 0) hcp) (Ev.bind (sums_ev hs) (Ev.bind (refsums_ev hs) ?_)))
    have hlen : ((if rightE l own = 0 then (sums l own, (0 : Int)) else ([], rightE l own)).1).length ≤ 1000 := by
      by_cases g : rightE l own = 0
      · rw [if_pos g]
        have := (sums_facts ((rightE_ok hs.2.2.2).1 g)).1
        show (sums l own).length ≤ 1000
        omega
      · rw [if_neg g]; simp
    generalize (if rightE l own = 0 then (sums l own, (0 : Int)) else ([], rightE l own)) = r at *
    refine Ev.bind (same_ev _ hlen) (ev_pos rfl ?_)
    refine Ev.step (fun k => by rw [gangerlaw11_ShareSums.j0]) ?_
    refine ev_neg (by simp) ?_
    exact wipe_l0 own own rfl hm.2.1 r.1.length 0 r.1 (by omega) hlen
end Go.Proofs.YtfccdngejfnmkaaDoor.Pure
