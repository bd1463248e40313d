/- cut to what one law reaches -/
import Derived.Test.YtakdneopmojjdaaDoorBkBookRef
import Derived.Test.YtakdneopmojjdaaDoorBkP0
import Derived.Test.YtakdneopmojjdaaDoorBkP16
namespace Go.Proofs.YtakdneopmojjdaaDoor.Pure
open Go.RowKit Go.Proofs.YtakdneopmojjdaaDoorW.PrintWords Go.Proofs.YtakdneopmojjdaaDoorW.PrintLast Go.Proofs.YtakdneopmojjdaaDoorW.PrintMore Go.Proofs.YtakdneopmojjdaaDoor.P Go.Proofs.YtakdneopmojjdaaDoor.NumM Go.Proofs.YtakdneopmojjdaaDoor.Bk
set_option linter.unusedVariables false
set_option linter.unusedSimpArgs false
theorem BookTells : gangerlaw20_BookTells.Pure:=by
  intro l a i hl ha hi
  refine Ev.rounds ?_
  unfold gangerlaw20_BookTells.f
  obtain ⟨b,hb,hf⟩:=many_ev l a
  refine Ev.bind hb ?_
  cases b with
  | true=>exact ev_pos rfl hk
  | false =>
    have S:=hf rfl
    refine ev_neg (by simp) ?_
    have hs : ∀ x ∈ l,x.f1.size≤1000000:=fun x hx=>by have:=S.2.2.2 x hx;omega
    have hs2 : ∀ x ∈ l,x.f1.size≤1000000∧0≤x.f0:=fun x hx=>⟨hs x hx,(wfu32 (hl.2 x hx).1).1⟩
    have hn : l.length < 1000000:=by have:=S.2.1;omega
    refine Ev.bind (of_ev l i hn hs) (Ev.bind (refOf_ev l i hn hs2) (Ev.bind (check_ev l hn hs) (Ev.bind (refCheck_ev l hn hs2) ?_)))
    refine ev_pos rfl (Ev.bind (total_ev l a hn hs) (Ev.bind (refTotal_ev l a hn hs2) ?_))
    exact ev_pos rfl (ev_pos rfl (ev_pos rfl hk))
end Go.Proofs.YtakdneopmojjdaaDoor.Pure
