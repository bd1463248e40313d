/- cut to what one law reaches -/
import Derived.Test.YtgidipomfbikiaaDoorQaCnfPath
import Derived.Test.YtgidipomfbikiaaDoorQaP0
import Derived.Test.YtgidipomfbikiaaDoorQaP10
import Derived.Test.YtgidipomfbikiaaDoorQaP26
namespace Go.Proofs.YtgidipomfbikiaaDoor.Pure
open Go.RowKit Go.Proofs.YtgidipomfbikiaaDoorW.PrintWords Go.Proofs.YtgidipomfbikiaaDoorW.PrintLast Go.Proofs.YtgidipomfbikiaaDoorW.PrintMore Go.Proofs.YtgidipomfbikiaaDoor.P Go.Proofs.YtgidipomfbikiaaDoor.NumM Go.Proofs.YtgidipomfbikiaaDoor.Cnf
set_option linter.unusedVariables false
set_option linter.unusedSimpArgs false
section
variable (h : Hd) (P : List S50) (Q : List S52) (A : List S48)
theorem rdOf_at {α : Type} (d : α) (l : List α) (i : Nat) (x : α) (hx : l[i]? = some x) : rdOf d l (i : Int) = x:=by
  unfold rdOf
  obtain ⟨hlt,e⟩:=List.getElem?_eq_some_iff.1 hx
  simp [List.getD,hlt,e]
theorem paths_l1 (hs : Small P Q A) (hc : COK h P Q A = true) : ∀ (s p : List S48),A = p ++ s →
    Ev (fun k=>gangerlaw10_ConfPaths.l1 k (p.length : Int) h.f0 h.f1 h.f2 h.f3 h.f4 h.f5 h.f6 h.f7 h.f8 P Q A) true
  | [],p,e=>by
    refine Ev.step (fun k=>by rw [gangerlaw10_ConfPaths.l1]) ?_
    refine ev_neg (by rw [e];simp) ?_
    exact hk
  | a :: s,p,e=>by
    have hl : A.length≤121:=hs.2.2.1
    have hlen : A.length = p.length + s.length + 1:=by rw [e];simp;omega
    have ea : rd_T48 A (p.length : Int) = a:=by rw [e];exact rd48_mid p a s
    have ht : TOK A = true:=by
      unfold COK at hc
      rw [Bool.and_eq_true] at hc
      exact hc.2
    have hok:=okR_tok ht
    have hrev : A.reverse = s.reverse ++ (a :: p.reverse):=by rw [e];simp
    rw [hrev] at hok
    have hoa:=okR_tail _ _ hok
    have hin : hasT ((a :: p.reverse).map (·.f0)) a.f0 = true:=by rw [hasT_cons,decide_eq_true rfl,Bool.true_or]
    have hpath : pathD A.reverse a.f0 = pathD (a :: p.reverse) a.f0:=by
      rw [hrev]
      exact pathD_skip _ _ _ (okR_front _ _ _ hok hin)
    obtain ⟨l,b,q1,q2,q3⟩:=pathD_last (a :: p.reverse) a.f0 hoa hin
    have hle:=pathD_le (a :: p.reverse) a.f0
    have hsnd : p ≠ []→l[0]? = some a.f1:=by
      intro hp
      obtain ⟨o1,o2,o3,o4,o5⟩:=hoa
      have hp' : p.reverse ≠ []:=by simpa using hp
      obtain ⟨l',b',r1,r2,r3⟩:=pathD_last p.reverse a.f1 o1 (o3 hp')
      rw [pathD,if_pos rfl,r1] at q1
      injection q1 with _ q1
      rw [← q1];rfl
    have hE:=path_ev h P Q A a.f0 hs
    rw [hc,if_pos rfl,hpath,q1] at hE
    rw [q1] at hle q3
    simp only [List.length_cons,List.length_reverse] at hle
    refine Ev.step (fun k=>by rw [gangerlaw10_ConfPaths.l1]) ?_
    refine ev_pos (by omega) (ev_pos (by omega) ?_)
    rw [ea,w64 (x:=(p.length : Int) + 1) (by omega)]
    refine Ev.bind hE ?_
    have ll : ((a.f0 :: l).length : Int) = (l.length : Int) + 1:=by simp
    rw [ll,w64 (x:=(l.length : Int) + 1 - 1) (by omega)]
    refine ev_neg (by omega) (ev_neg (by omega) (ev_pos (by omega) ?_))
    have h0 : rdOf ByteArray.empty (a.f0 :: l) 0 = a.f0:=rdOf_at ByteArray.empty _ 0 _ rfl
    rw [h0]
    refine ev_pos rfl (ev_pos (by omega) (ev_pos (by omega) (ev_pos (by omega) ?_)))
    have hlast : rdOf ByteArray.empty (a.f0 :: l) ((l.length : Int) + 1 - 1) = b.f0:=by
      have e1 : ((l.length : Int) + 1 - 1) = ((l.length : Nat) : Int):=by omega
      rw [e1]
      refine rdOf_at ByteArray.empty _ _ _ ?_
      rw [List.getLast?_eq_getElem?] at q3
      simpa using q3
    have hfirst : rd_T48 A 0 = b:=by
      rw [List.getLast?_cons,List.getLast?_reverse] at q2
      cases p with
      | nil =>
        have q2' : a = b:=by simpa using q2
        rw [← q2'];exact ea
      | cons c p =>
        have q2' : c = b:=by simpa using q2
        rw [e,← q2'];exact rd48_mid [] c _
    rw [hlast,hfirst]
    have hne : (b.f0.toList != b.f0.toList) = false:=by simp
    rw [hne]
    have ih:=paths_l1 hs hc s (p ++ [a]) (by rw [e];simp)
    have e1 : ((p ++ [a]).length : Int) = (p.length : Int) + 1:=by simp
    rw [e1] at ih
    refine Ev.step (fun k=>by rw [gangerlaw10_ConfPaths.j3]) ?_
    refine ev_neg (by simp) ?_
    by_cases g : (p.length : Int) > 0
    · have hp : p ≠ []:=by intro z;subst z;simp at g
      have h1:=hsnd hp
      have hl1 : 0 < l.length:=(List.getElem?_eq_some_iff.1 h1).1
      refine ev_pos g (ev_pos (by rw [ll];omega) (ev_pos (by omega) (ev_pos (by omega) ?_)))
      have hr1 : rdOf ByteArray.empty (a.f0 :: l) 1 = a.f1:=rdOf_at ByteArray.empty (a.f0 :: l) 1 a.f1 h1
      rw [ea,hr1,w64 (by omega)]
      exact ev_pos rfl ih
    · refine ev_neg g ?_
      rw [w64 (by omega)]
      exact ih
theorem paths_l0 (hs : Small P Q A) (x : List ByteArray) (hx : x.length≤200) (hx0 : COK h P Q A = false→x = []) : ∀ (m j : Nat),j + m = x.length →
    Ev (fun k=>gangerlaw10_ConfPaths.l0 k x x (j : Int) h.f0 h.f1 h.f2 h.f3 h.f4 h.f5 h.f6 h.f7 h.f8 P Q A) true
  | 0,j,hj=>by
    refine Ev.step (fun k=>by rw [gangerlaw10_ConfPaths.l0]) ?_
    refine ev_neg (by omega) ?_
    have hs':=hs
    obtain ⟨h1,h2,h3,h4,h5,h6⟩:=hs'
    refine Ev.bind (check_ev h (by omega) (by omega) (by omega) h4 h5 (fun x hx=>(h6 x hx).1)) ?_
    cases hc : COK h P Q A with
    | true =>
      refine ev_pos (by simp) ?_
      exact paths_l1 h P Q A hs hc A [] rfl
    | false =>
      refine ev_neg (by simp) (ev_pos (by rw [hx0 hc];rfl) ?_)
      exact hk
  | m + 1,j,hj=>by
    refine Ev.step (fun k=>by rw [gangerlaw10_ConfPaths.l0]) ?_
    refine ev_pos (by omega) (ev_pos (by omega) (ev_pos (by omega) (ev_pos rfl ?_)))
    rw [w64 (by omega)]
    exact paths_l0 hs x hx hx0 m (j + 1) (by omega)
end
theorem ConfPaths : gangerlaw10_ConfPaths.Pure:=by
  intro a0 a1 a2 a3 a4 a5 a6 a7 a8 P Q A acc _ _
  refine Ev.rounds ?_
  unfold gangerlaw10_ConfPaths.f
  have known : Ev (fun k=>gangerlaw10_ConfPaths.j0 k acc true a0 a1 a2 a3 a4 a5 a6 a7 a8 P Q A) true:=by
    refine Ev.step (fun k=>by rw [gangerlaw10_ConfPaths.j0]) ?_
    exact ev_pos rfl hk
  obtain ⟨b,hb,hf⟩:=long_ev ⟨a0,a1,a2,a3,a4,a5,a6,a7,a8⟩ P Q A
  refine Ev.bind hb ?_
  cases b with
  | true=>exact ev_pos rfl known
  | false =>
    have hs:=hf rfl
    refine ev_neg (by simp) ?_
    by_cases g : (acc.size : Int) > 300
    · rw [decide_eq_true g];exact known
    · rw [decide_eq_false g]
      have e1:=path_ev ⟨a0,a1,a2,a3,a4,a5,a6,a7,a8⟩ P Q A acc hs
      have e2:=refpath_ev ⟨a0,a1,a2,a3,a4,a5,a6,a7,a8⟩ P Q A acc hs
      refine Ev.step (fun k=>by rw [gangerlaw10_ConfPaths.j0]) ?_
      refine ev_neg (by simp) (Ev.bind e1 (Ev.bind e2 (ev_pos rfl ?_)))
      refine paths_l0 ⟨a0,a1,a2,a3,a4,a5,a6,a7,a8⟩ P Q A hs _ ?_ (fun q=>by rw [q];rfl) _ 0 (Nat.zero_add _)
      split
      · have:=pathD_le A.reverse acc
        rw [List.length_reverse] at this
        have:=hs.2.2.1
        omega
      · simp
end Go.Proofs.YtgidipomfbikiaaDoor.Pure
