/- cut to what one law reaches -/
import Derived.Test.YtgidipomfbikiaaDoorQfCnfPrint
import Derived.Test.YtgidipomfbikiaaDoorQfP0
import Derived.Test.YtgidipomfbikiaaDoorQfP10
import Derived.Test.YtgidipomfbikiaaDoorQfP12
import Derived.Test.YtgidipomfbikiaaDoorQfP17
import Derived.Test.YtgidipomfbikiaaDoorQfP14
import Derived.Test.YtgidipomfbikiaaDoorQfP19
namespace Go.Proofs.YtgidipomfbikiaaDoor.Cnf
open Go.RowKit Go.Proofs.YtgidipomfbikiaaDoorW.PrintWords Go.Proofs.YtgidipomfbikiaaDoorW.PrintLast Go.Proofs.YtgidipomfbikiaaDoorW.PrintMore Go.Proofs.YtgidipomfbikiaaDoor.P Go.Proofs.YtgidipomfbikiaaDoor.NumM
set_option linter.unusedVariables false
set_option linter.unusedSimpArgs false
theorem mk_of {a : ByteArray} {l : List UInt8} (h : a.data.toList = l) : a = mk l:=by rw [mk_self a,h]
/-- the same configuration is the same -/
theorem copy_f (h : Hd) (P : List S50) (Q : List S52) (A : List S48) (hs : Small P Q A) : gangerref10_Copy.f h.f0 h.f1 h.f2 h.f3 h.f4 h.f5 h.f6 h.f7 h.f8 P Q A = some (h.f0,h.f1,h.f2,h.f3,h.f4,h.f5,h.f6,h.f7,h.f8,P,Q,A):=by
  obtain ⟨h1,h2,h3,_⟩:=hs
  unfold gangerref10_Copy.f
  rw [if_pos (by simp;omega),if_pos (by simp;omega),if_pos (by simp;omega)]
  simp
section same
variable (h : Hd) (P : List S50) (Q : List S52) (A : List S48)
theorem same_l2 (hA : A.length < 1000000) : ∀ (s p : List S48),A = p ++ s→Ev (fun k=>gangerref10_Same.l2 k (p.length : Int) h.f0 h.f1 h.f2 h.f3 h.f4 h.f5 h.f6 h.f7 h.f8 P Q A h.f0 h.f1 h.f2 h.f3 h.f4 h.f5 h.f6 h.f7 h.f8 P Q A) true
  | [],p,e=>by
    refine Ev.step (fun k=>by rw [gangerref10_Same.l2]) ?_
    exact ev_neg (by rw [e];simp) (Ev.now _)
  | a :: s,p,e=>by
    have hlt : (p.length : Int) < (A.length : Int):=by rw [e];simp;omega
    refine Ev.step (fun k=>by rw [gangerref10_Same.l2]) ?_
    refine ev_pos hlt (ev_pos (by omega) (ev_pos hlt (ev_neg (by simp) ?_)))
    rw [wsucc p a (by omega)]
    exact same_l2 hA s (p ++ [a]) (by rw [e];simp)
theorem same_l1 (hA : A.length < 1000000) (hQ : Q.length < 1000000) : ∀ (s p : List S52),Q = p ++ s→Ev (fun k=>gangerref10_Same.l1 k (p.length : Int) h.f0 h.f1 h.f2 h.f3 h.f4 h.f5 h.f6 h.f7 h.f8 P Q A h.f0 h.f1 h.f2 h.f3 h.f4 h.f5 h.f6 h.f7 h.f8 P Q A) true
  | [],p,e=>by
    refine Ev.step (fun k=>by rw [gangerref10_Same.l1]) ?_
    exact ev_neg (by rw [e];simp) (same_l2 h P Q A hA A [] rfl)
  | a :: s,p,e=>by
    have hlt : (p.length : Int) < (Q.length : Int):=by rw [e];simp;omega
    refine Ev.step (fun k=>by rw [gangerref10_Same.l1]) ?_
    refine ev_pos hlt (ev_pos (by omega) (ev_pos hlt (ev_neg (by simp) ?_)))
    rw [wsucc p a (by omega)]
    exact same_l1 hA hQ s (p ++ [a]) (by rw [e];simp)
theorem same_l0 (hA : A.length < 1000000) (hQ : Q.length < 1000000) (hP : P.length < 1000000) : ∀ (s p : List S50),P = p ++ s→Ev (fun k=>gangerref10_Same.l0 k (p.length : Int) h.f0 h.f1 h.f2 h.f3 h.f4 h.f5 h.f6 h.f7 h.f8 P Q A h.f0 h.f1 h.f2 h.f3 h.f4 h.f5 h.f6 h.f7 h.f8 P Q A) true
  | [],p,e=>by
    refine Ev.step (fun k=>by rw [gangerref10_Same.l0]) ?_
    exact ev_neg (by rw [e];simp) (same_l1 h P Q A hA hQ Q [] rfl)
  | a :: s,p,e=>by
    have hlt : (p.length : Int) < (P.length : Int):=by rw [e];simp;omega
    refine Ev.step (fun k=>by rw [gangerref10_Same.l0]) ?_
    refine ev_pos hlt (ev_pos (by omega) (ev_pos hlt (ev_neg (by simp) ?_)))
    rw [wsucc p a (by omega)]
    exact same_l0 hA hQ hP s (p ++ [a]) (by rw [e];simp)
theorem same_ev (hA : A.length < 1000000) (hQ : Q.length < 1000000) (hP : P.length < 1000000) : Ev (fun k=>gangerref10_Same.f k h.f0 h.f1 h.f2 h.f3 h.f4 h.f5 h.f6 h.f7 h.f8 P Q A h.f0 h.f1 h.f2 h.f3 h.f4 h.f5 h.f6 h.f7 h.f8 P Q A) true:=by
  unfold gangerref10_Same.f
  refine ev_pos rfl (ev_pos rfl (ev_pos rfl (ev_pos rfl (ev_neg (by simp) (ev_pos rfl (ev_pos rfl ?_))))))
  have e : ((A.length : Int) != (A.length : Int)) = false:=by simp
  rw [e]
  refine Ev.step (fun k=>by rw [gangerref10_Same.j0]) ?_
  exact ev_neg (by simp) (same_l0 h P Q A hA hQ hP P [] rfl)
end same
end Go.Proofs.YtgidipomfbikiaaDoor.Cnf
