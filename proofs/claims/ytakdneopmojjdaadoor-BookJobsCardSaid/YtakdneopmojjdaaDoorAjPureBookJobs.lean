/- cut to what one law reaches -/
import Derived.Test.YtakdneopmojjdaaDoorAjBookBase
import Derived.Test.YtakdneopmojjdaaDoorAjP0
import Derived.Test.YtakdneopmojjdaaDoorAjP18
namespace Go.Proofs.YtakdneopmojjdaaDoor.Pure
open Go.RowKit Go.Proofs.YtakdneopmojjdaaDoorW.PrintWords Go.Proofs.YtakdneopmojjdaaDoorW.PrintLast Go.Proofs.YtakdneopmojjdaaDoorW.PrintMore Go.Proofs.YtakdneopmojjdaaDoor.P Go.Proofs.YtakdneopmojjdaaDoor.NumM Go.Proofs.YtakdneopmojjdaaDoor.Bk
set_option linter.unusedVariables false
set_option linter.unusedSimpArgs false
theorem BookJobs : gangerlaw20_BookJobs.Pure:=by
  intro l c0 c1 c2 c3 c4 c5 i a hl hc hi ha
  refine Ev.rounds ?_
  unfold gangerlaw20_BookJobs.f
  have J : Ev (fun k=>gangerlaw20_BookJobs.j0 k l i a true c0 c1 c2 c3 c4 c5) true:=by
    refine Ev.step (fun k=>by rw [gangerlaw20_BookJobs.j0]) ?_
    exact ev_pos rfl hk
  obtain ⟨b,hb,hf⟩:=many_ev l a
  refine Ev.bind hb ?_
  cases b with
  | true=>exact ev_pos rfl J
  | false =>
    have S:=hf rfl
    refine ev_neg (by simp) ?_
    by_cases g1 : (l.length : Int) > 300
    · exact ev_pos g1 J
    refine ev_neg g1 ?_
    by_cases g2 : (c1.size : Int) > 300
    · exact ev_pos g2 J
    refine ev_neg g2 ?_
    have hs : ∀ x ∈ l,x.f1.size≤1000000:=fun x hx=>by have:=S.2.2.2 x hx;omega
    refine Ev.bind (check_ev l (by omega) hs) ?_
    by_cases hB : Book l = true
    · rw [if_pos hB]
      refine Ev.step (fun k=>by rw [gangerlaw20_BookJobs.j0]) ?_
      refine ev_neg (by decide) (ev_pos (by simp;omega) ?_)
      rw [List.nil_append]
      refine Ev.bind (Ev.now _) ?_
      refine ev_pos (by omega) ?_
      refine Ev.bind (Ev.now _) ?_
      have hM : ∀ x ∈ l ++ [(⟨c0,c1,c2,c3,c4,c5⟩ : S24)],x.f1.size≤1000000:=by
        intro x hx
        rcases List.mem_append.1 hx with q|q
        · exact hs x q
        · rw [List.mem_singleton.1 q];show c1.size≤1000000;omega
      have hLen : (l ++ [(⟨c0,c1,c2,c3,c4,c5⟩ : S24)]).length < 1000000:=by simp;omega
      refine Ev.bind (check_ev _ hLen hM) ?_
      by_cases hC : Book (l ++ [(⟨c0,c1,c2,c3,c4,c5⟩ : S24)]) = true
      · rw [if_pos hC]
        refine ev_pos rfl ?_
        have o1:=of_ev l i (by omega) hs
        have o2:=of_ev _ i hLen hM
        have t1:=total_ev l a (by omega) hs
        have t2:=total_ev _ a hLen hM
        rw [if_pos hB] at o1 t1
        rw [if_pos hC] at o2 t2
        refine Ev.bind o1 (Ev.bind o2 (Ev.bind t1 (Ev.bind t2 ?_)))
        have q:=book_all hB
        have qc:=(book_all hC).2 ⟨c0,c1,c2,c3,c4,c5⟩ (by simp)
        have n1:=tot_num a l q.2
        have n2:=secs_num i l q.2
        have n3:=runs_num i l
        have n4:=right_num qc
        have n5:=amt_num qc
        unfold amt at n5
        dsimp only at n4 n5
        rw [tot_app,secs_app,runs_app]
        simp only [tot,secs,runs,amt,Int.add_zero]
        have w1 : wrap64 (secs i l + c3) = secs i l + c3:=w64 (by omega)
        have w2 : wrap64 (runs i l + 1) = runs i l + 1:=w64 (by omega)
        have w3 : wrap64 (c2 * c3) = c2 * c3:=w64 (by omega)
        have w4 : wrap64 (tot a l + c2 * c3) = tot a l + c2 * c3:=w64 (by omega)
        rw [w1,w2,w3,w4]
        by_cases e1 : c0 = i
        · refine ev_pos e1 ?_
          rw [if_pos e1,if_pos e1]
          by_cases e2 : c1.toList = a.toList
          · refine ev_pos e2 ?_
            rw [if_pos e2]
            exact ev_pos rfl (ev_pos rfl (ev_pos rfl hk))
          · refine ev_neg e2 ?_
            rw [if_neg e2]
            exact ev_pos rfl (ev_pos rfl (ev_pos (by omega) hk))
        · refine ev_neg e1 ?_
          rw [if_neg e1,if_neg e1]
          by_cases e2 : c1.toList = a.toList
          · refine ev_pos e2 ?_
            rw [if_pos e2]
            exact ev_pos (by omega) (ev_pos (by omega) (ev_pos rfl hk))
          · refine ev_neg e2 ?_
            rw [if_neg e2]
            exact ev_pos (by omega) (ev_pos (by omega) (ev_pos (by omega) hk))
      · rw [if_neg hC]
        exact ev_neg (by decide) hk
    · rw [if_neg hB]
      exact J
end Go.Proofs.YtakdneopmojjdaaDoor.Pure
