/- cut to what one law reaches -/
import Derived.Test.YtgidipomfbikiaaDoorQcCnfBack
import Derived.Test.YtgidipomfbikiaaDoorQcP0
import Derived.Test.YtgidipomfbikiaaDoorQcP10
namespace Go.Proofs.YtgidipomfbikiaaDoor.Cnf
open Go.RowKit Go.Proofs.YtgidipomfbikiaaDoorW.PrintWords Go.Proofs.YtgidipomfbikiaaDoorW.PrintLast Go.Proofs.YtgidipomfbikiaaDoorW.PrintMore Go.Proofs.YtgidipomfbikiaaDoor.P Go.Proofs.YtgidipomfbikiaaDoor.NumM
set_option linter.unusedVariables false
set_option linter.unusedSimpArgs false
def errOf (r : Res) : Int:=r.2.2.2.2.2.2.2.2.2.2.2.2.2
theorem err_errR (n e : Int) : errOf (errR n e) = e:=rfl
theorem stepP_n {s s' : St} {l : List UInt8} (h : stepP s l = some s') : s'.n = s.n + 1:=by
  unfold stepP at h
  split at h
  · cases he : firstP (s.n - 1) l s.c with
    | none=>rw [he] at h;simp at h
    | some c=>rw [he] at h;have e:=Option.some.inj h;subst e;rfl
  · split at h
    · have e:=Option.some.inj h;subst e;rfl
    · cases h
/-- what a reading comes to -/
theorem run_cases : ∀ (ls : List (List UInt8)) (s : St) (t : List UInt8),1≤s.n→errOf (runP s ls t) = 0 ∨ (∃ n,1≤n∧runP s ls t = errR n 60) ∨ runP s ls t = errR 0 100
  | [],s,t,h=>by
    rw [runP]
    split
    · unfold endP
      split
      · split
        · exact Or.inl rfl
        · exact Or.inr (Or.inr rfl)
      · exact Or.inr (Or.inl ⟨_,h,rfl⟩)
    · exact Or.inr (Or.inl ⟨_,h,rfl⟩)
  | l :: ls,s,t,h=>by
    rw [runP]
    cases hs : stepP s l with
    | none=>exact Or.inr (Or.inl ⟨_,h,rfl⟩)
    | some s'=>exact run_cases ls s' t (by rw [stepP_n hs];omega)
def Shape (s : St) : Prop:=0≤s.part∧(s.part≤0→s.P = [])∧(s.part≤1→s.Q = [])∧(s.part≤2→s.A = [])
def tailT (P : List S50) (Q : List S52) (A : List S48) : List UInt8:=P.flatMap partT ++ Q.flatMap classT ++ A.flatMap accT
theorem step_back {s s' : St} {l : List UInt8} (h5 : ¬ s.n≤5) (hs : Shape s) (h : stepP s l = some s') : s'.c = s.c∧Shape s'∧tailT s'.P s'.Q s'.A = tailT s.P s.Q s.A ++ (l ++ [10]):=by
  obtain ⟨s0,s1,s2,s3⟩:=hs
  unfold stepP at h
  rw [if_neg h5] at h
  split at h
  · rename_i hk
    have e:=Option.some.inj h
    subst e
    rcases later_cases l s.P s.Q s.A with q|⟨p,q,e⟩|⟨p,q,e⟩|⟨p,q,e⟩
    · rw [q] at hk;omega
    · rw [q] at hk ⊢
      simp only [] at hk
      have z1:=s2 (by omega)
      have z2:=s3 (by omega)
      refine ⟨rfl,⟨by show (0 : Int)≤1;omega,fun w=>absurd w (by show ¬ (1 : Int)≤0;omega),fun _=>z1,fun _=>z2⟩,?_⟩
      show tailT (s.P ++ [p]) s.Q s.A = _
      rw [z1,z2,← e];simp [tailT]
    · rw [q] at hk ⊢
      simp only [] at hk
      have z2:=s3 (by omega)
      refine ⟨rfl,⟨by show (0 : Int)≤2;omega,fun w=>absurd w (by show ¬ (2 : Int)≤0;omega),fun w=>absurd w (by show ¬ (2 : Int)≤1;omega),fun _=>z2⟩,?_⟩
      show tailT s.P (s.Q ++ [p]) s.A = _
      rw [z2,← e];simp [tailT]
    · rw [q] at hk ⊢
      refine ⟨rfl,⟨by show (0 : Int)≤3;omega,fun w=>absurd w (by show ¬ (3 : Int)≤0;omega),fun w=>absurd w (by show ¬ (3 : Int)≤1;omega),fun w=>absurd w (by show ¬ (3 : Int)≤2;omega)⟩,?_⟩
      show tailT s.P s.Q (s.A ++ [p]) = _
      rw [← e];simp [tailT]
  · cases h
theorem run_back : ∀ (ls : List (List UInt8)) (s : St) (t : List UInt8),¬ s.n≤5→Shape s→errOf (runP s ls t) = 0→∃ P Q A,runP s ls t = okR_ s.c P Q A∧COK s.c P Q A = true∧tailT s.P s.Q s.A ++ (glue ls ++ t) = tailT P Q A
  | [],s,t,h5,hs,he=>by
    rw [runP] at he ⊢
    split at he
    · rename_i ht
      rw [if_pos ht]
      unfold endP at he ⊢
      split at he
      · rename_i h3
        rw [if_pos h3]
        split at he
        · rename_i hc
          rw [if_pos hc]
          exact ⟨_,_,_,rfl,hc,by rw [ht];simp [glue]⟩
        · rw [err_errR] at he;omega
      · rw [err_errR] at he;omega
    · rw [err_errR] at he;omega
  | l :: ls,s,t,h5,hs,he=>by
    rw [runP] at he ⊢
    cases hq : stepP s l with
    | none=>rw [hq] at he;rw [err_errR] at he;omega
    | some s' =>
      rw [hq] at he
      obtain ⟨b1,b2,b3⟩:=step_back h5 hs hq
      obtain ⟨P,Q,A,c1,c2,c3⟩:=run_back ls s' t (by rw [stepP_n hq];omega) b2 he
      rw [b1] at c1 c2
      refine ⟨P,Q,A,c1,c2,?_⟩
      rw [← c3,b3,glue_cons];simp
/-! ### the first five lines -/
theorem pol_back (l : List UInt8) (h : 0 < polF (mk l) polW 0 0) : l ++ [10] = line [wPolicy,polT (polF (mk l) polW 0 0)]:=by
  revert h
  simp only [polF,polW]
  have key : ∀ x : ByteArray,(mk l).toList = (polP ++ x).toList→l ++ [10] = line [wPolicy,x.data.toList]:=by
    intro x hx
    rw [mk_toList,ByteArray.toList_eq] at hx
    rw [hx]
    simp [line,Lib.join_cons,Lib.joinTail,wPolicy,polP]
  repeat' split
  all_goals intro h
  all_goals first
    | (rename_i q _;exact absurd q.1 (by decide))
    | (rename_i q;exact (key _ q.2).trans rfl)
    | (rename_i q _;exact (key _ q.2).trans rfl)
    | (rename_i q _ _;exact (key _ q.2).trans rfl)
    | (rename_i q _ _ _;exact (key _ q.2).trans rfl)
    | exact absurd h (by decide)
end Go.Proofs.YtgidipomfbikiaaDoor.Cnf
