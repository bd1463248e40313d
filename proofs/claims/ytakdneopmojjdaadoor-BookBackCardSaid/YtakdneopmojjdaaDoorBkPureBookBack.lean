/- cut to what one law reaches -/
import Derived.Test.YtakdneopmojjdaaDoorBkBookLine
import Derived.Test.YtakdneopmojjdaaDoorBkP0
import Derived.Test.YtakdneopmojjdaaDoorBkP20
namespace Go.Proofs.YtakdneopmojjdaaDoor.Pure
open Go.RowKit Go.Proofs.YtakdneopmojjdaaDoorW.PrintWords Go.Proofs.YtakdneopmojjdaaDoorW.PrintLast Go.Proofs.YtakdneopmojjdaaDoorW.PrintMore Go.Proofs.YtakdneopmojjdaaDoor.P Go.Proofs.YtakdneopmojjdaaDoor.NumM Go.Proofs.YtakdneopmojjdaaDoor.Bk
set_option linter.unusedVariables false
set_option linter.unusedSimpArgs false
theorem j1_ev (line : ByteArray) (hl : line.size≤600) : Ev (fun k=>gangerlaw20_BookBack.j1 k line) true:=by
  obtain ⟨c,e,hp,hc⟩:=parse_any line hl
  refine Ev.step (fun k=>by rw [gangerlaw20_BookBack.j1]) ?_
  refine Ev.bind hp ?_
  dsimp only
  rcases hc with ⟨rfl,hr,h32,hs,hL⟩|⟨rfl,he⟩
  · refine ev_pos rfl ?_
    rw [line_f c h32 (by omega),if_pos hr]
    refine Ev.bind (Ev.now _) (ev_pos rfl ?_)
    refine ev_pos ?_ hk
    rw [mk_toList,ByteArray.toList_eq,hL]
  · rcases he with rfl|rfl
    · exact ev_neg (by decide) (ev_pos (by decide +kernel) (ev_pos rfl hk))
    · exact ev_neg (by decide) (ev_pos (by decide +kernel) (ev_neg (by decide) (ev_pos rfl hk)))
theorem BookBack : gangerlaw20_BookBack.Pure:=by
  intro c0 c1 c2 c3 c4 c5 line hc hl
  refine Ev.rounds ?_
  unfold gangerlaw20_BookBack.f
  have J : Ev (fun k=>gangerlaw20_BookBack.j0 k line true c0 c1 c2 c3 c4 c5) true:=by
    refine Ev.step (fun k=>by rw [gangerlaw20_BookBack.j0]) ?_
    exact ev_pos rfl hk
  by_cases h1 : (c1.size : Int) > 300
  · exact ev_pos h1 J
  refine ev_neg h1 ?_
  by_cases h2 : (line.size : Int) > 600
  · rw [decide_eq_true h2];exact J
  rw [decide_eq_false h2]
  have j1:=j1_ev line (by omega)
  have h32:=wfu32 hc.1
  refine Ev.step (fun k=>by rw [gangerlaw20_BookBack.j0]) ?_
  refine ev_neg (by simp) ?_
  have L:=line_f ⟨c0,c1,c2,c3,c4,c5⟩ h32.2 (by show c1.size≤_;omega)
  dsimp only at L
  rw [L]
  by_cases hr : rightB ⟨c0,c1,c2,c3,c4,c5⟩ = true
  · rw [if_pos hr]
    refine Ev.bind (Ev.now _) (ev_pos rfl ?_)
    refine Ev.bind (parse_line ⟨c0,c1,c2,c3,c4,c5⟩ hr h32.2) ?_
    refine ev_pos rfl ?_
    refine ev_neg (by simp) ?_
    exact j1
  · rw [if_neg hr]
    exact Ev.bind (Ev.now _) (ev_neg (by decide) j1)
end Go.Proofs.YtakdneopmojjdaaDoor.Pure
