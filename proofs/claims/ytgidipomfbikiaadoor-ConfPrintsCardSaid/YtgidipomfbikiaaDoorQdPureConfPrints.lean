/- cut to what one law reaches -/
import Derived.Test.YtgidipomfbikiaaDoorQdCnfRPrint
import Derived.Test.YtgidipomfbikiaaDoorQdP0
import Derived.Test.YtgidipomfbikiaaDoorQdP20
namespace Go.Proofs.YtgidipomfbikiaaDoor.Pure
open Go.RowKit Go.Proofs.YtgidipomfbikiaaDoorW.PrintWords Go.Proofs.YtgidipomfbikiaaDoorW.PrintLast Go.Proofs.YtgidipomfbikiaaDoorW.PrintMore Go.Proofs.YtgidipomfbikiaaDoor.P Go.Proofs.YtgidipomfbikiaaDoor.NumM Go.Proofs.YtgidipomfbikiaaDoor.Cnf
set_option linter.unusedVariables false
set_option linter.unusedSimpArgs false
theorem ConfPrints : gangerlaw10_ConfPrints.Pure:=by
  intro a0 a1 a2 a3 a4 a5 a6 a7 a8 P Q A _
  refine Ev.rounds ?_
  unfold gangerlaw10_ConfPrints.f
  obtain ⟨b,hb,hf⟩:=long_ev ⟨a0,a1,a2,a3,a4,a5,a6,a7,a8⟩ P Q A
  refine Ev.bind hb ?_
  cases b with
  | true=>exact ev_pos rfl hk
  | false =>
    have hs:=hf rfl
    have hs':=hs
    obtain ⟨h1,h2,h3,h4,h5,h6⟩:=hs'
    have hcp:=copy_f ⟨a0,a1,a2,a3,a4,a5,a6,a7,a8⟩ P Q A hs
    refine ev_neg (by simp) (Ev.bind (Ev.of (fun _=>LeO.refl _) (k:=0) hcp) ?_)
    refine Ev.bind (check_ev (p:=P) (q:=Q) (a:=A) ⟨a0,a1,a2,a3,a4,a5,a6,a7,a8⟩ (by omega) (by omega) (by omega) h4 h5 (fun x hx=>(h6 x hx).1)) ?_
    refine Ev.bind (print_ev ⟨a0,a1,a2,a3,a4,a5,a6,a7,a8⟩ P Q A hs) ?_
    refine Ev.bind (rprint_ev ⟨a0,a1,a2,a3,a4,a5,a6,a7,a8⟩ P Q A hs) ?_
    refine Ev.bind (refcheck_ev ⟨a0,a1,a2,a3,a4,a5,a6,a7,a8⟩ P Q A (by omega) (by omega) (by omega) h4 h5 (fun x hx=>(h6 x hx).1)) ?_
    refine ev_pos rfl (ev_pos rfl (ev_pos rfl (Ev.bind (same_ev ⟨a0,a1,a2,a3,a4,a5,a6,a7,a8⟩ P Q A (by omega) (by omega) (by omega)) (ev_pos rfl hk))))
end Go.Proofs.YtgidipomfbikiaaDoor.Pure
