/- cut to what one law reaches -/
import Derived.Test.YtgidipomfbikiaaDoorQeCnfBack
import Derived.Test.YtgidipomfbikiaaDoorQeP0
import Derived.Test.YtgidipomfbikiaaDoorQeP10
namespace Go.Proofs.YtgidipomfbikiaaDoor.Cnf
open Go.RowKit Go.Proofs.YtgidipomfbikiaaDoorW.PrintWords Go.Proofs.YtgidipomfbikiaaDoorW.PrintLast Go.Proofs.YtgidipomfbikiaaDoorW.PrintMore Go.Proofs.YtgidipomfbikiaaDoor.P Go.Proofs.YtgidipomfbikiaaDoor.NumM
set_option linter.unusedVariables false
set_option linter.unusedSimpArgs false
def errOf (r : Res) : Int:=r.2.2.2.2.2.2.2.2.2.2.2.2.2
theorem err_errR (n e : Int) : errOf (errR n e) = e:=rfl
theorem err_okR (c : Hd) (P : List S50) (Q : List S52) (A : List S48) : errOf (okR_ c P Q A) = 0:=rfl
theorem stepP_n {s s' : St} {l : List UInt8} (h : stepP s l = some s') : s'.n = s.n + 1:=by
  unfold stepP at h
  split at h
  · cases he : firstP (s.n - 1) l s.c with
    | none=>rw [he] at h;simp at h
    | some c=>rw [he] at h;have e:=Option.some.inj h;subst e;rfl
  · split at h
    · have e:=Option.some.inj h;subst e;rfl
    · cases h
def Shape (s : St) : Prop:=0≤s.part∧(s.part≤0→s.P = [])∧(s.part≤1→s.Q = [])∧(s.part≤2→s.A = [])
/-! ### the first five lines -/
end Go.Proofs.YtgidipomfbikiaaDoor.Cnf
