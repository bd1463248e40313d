/- cut to what one law reaches -/
import Derived.Test.YtgidipomfbikiaaDoorQaCnfRef
import Derived.Test.YtgidipomfbikiaaDoorQaP0
import Derived.Test.YtgidipomfbikiaaDoorQaP10
import Derived.Test.YtgidipomfbikiaaDoorQaP25
namespace Go.Proofs.YtgidipomfbikiaaDoor.Cnf
open Go.RowKit Go.Proofs.YtgidipomfbikiaaDoorW.PrintWords Go.Proofs.YtgidipomfbikiaaDoorW.PrintLast Go.Proofs.YtgidipomfbikiaaDoorW.PrintMore Go.Proofs.YtgidipomfbikiaaDoor.P Go.Proofs.YtgidipomfbikiaaDoor.NumM
set_option linter.unusedVariables false
set_option linter.unusedSimpArgs false
theorem bytes_eq {a b : ByteArray} (h : a.toList = b.toList) : a = b:=by
  rw [tl,tl] at h
  cases a;cases b
  congr 1
  exact Array.toList_inj.1 h
/-- a path, the accounts read from behind -/
def pathD : List S48→ByteArray→List ByteArray
  | [],_=>[]
  | a :: r,s=>if a.f0.toList = s.toList then a.f0 :: pathD r a.f1 else pathD r s
theorem pathD_le : ∀ (r : List S48) (s : ByteArray),(pathD r s).length≤r.length
  | [],s=>Nat.le_refl _
  | a :: r,s=>by
    rw [pathD]
    split
    · simp only [List.length_cons];have:=pathD_le r a.f1;omega
    · simp only [List.length_cons];have:=pathD_le r s;omega
/-- accounts, read from behind, that may be -/
def okR : List S48→Prop
  | []=>True
  | a :: r=>okR r∧(r = []→a.f1.toList = [])∧(r ≠ []→hasT (r.map (·.f0)) a.f1 = true)∧hasT (r.map (·.f0)) a.f0 = false∧a.f0.toList ≠ []
theorem hasT_rev (l : List S48) (s : ByteArray) : hasT (l.reverse.map (·.f0)) s = hasT (l.map (·.f0)) s:=by
  rw [Bool.eq_iff_iff,hasT_iff,hasT_iff]
  simp
theorem okR_of : ∀ (s p : List S48),accOk p s = true→namesOk (p.map (·.f0)) (s.map (·.f0)) = true→okR p.reverse→okR (p ++ s).reverse
  | [],p,_,_,h=>by simpa using h
  | a :: s,p,h1,h2,h=>by
    rw [accOk,Bool.and_eq_true,Bool.and_eq_true,Bool.and_eq_true] at h1
    rw [List.map_cons,namesOk,Bool.and_eq_true,Bool.and_eq_true] at h2
    have e : (p.map (·.f0)) ++ [a.f0] = (p ++ [a]).map (·.f0):=by simp
    rw [e] at h2
    have:=okR_of s (p ++ [a]) h1.2 h2.2 (by
      rw [List.reverse_append]
      show okR (a :: p.reverse)
      refine ⟨h,fun e=>?_,fun e=>?_,?_,?_⟩
      · have hp : p = []:=by simpa using e
        subst hp
        have:=h1.1.1.2
        simpa using this
      · rw [hasT_rev]
        have hp : p ≠ []:=by simpa using e
        have:=h1.1.2
        cases p with
        | nil=>exact absurd rfl hp
        | cons b p=>simpa using this
      · rw [hasT_rev]
        simpa using h2.1.2
      · rw [tl];exact nameOk_ne h2.1.1)
    simpa using this
theorem okR_tok {A : List S48} (h : TOK A = true) : okR A.reverse:=by
  unfold TOK at h
  rw [Bool.and_eq_true,Bool.and_eq_true] at h
  exact okR_of A [] h.1.1 h.2 trivial
theorem hasT_cons (a : S48) (r : List S48) (s : ByteArray) : hasT ((a :: r).map (·.f0)) s = (decide (s.toList = a.f0.toList) || hasT (r.map (·.f0)) s):=rfl
theorem hasT_congr {l : List ByteArray} {a b : ByteArray} (h : a.toList = b.toList) : hasT l a = hasT l b:=by rw [bytes_eq h]
/-- a path from an account that is there comes to the first one -/
theorem pathD_last : ∀ (r : List S48) (s : ByteArray),okR r→hasT (r.map (·.f0)) s = true→∃ l b,pathD r s = s :: l∧r.getLast? = some b∧(pathD r s).getLast? = some b.f0
  | [],s,_,h=>by simp [hasT] at h
  | a :: r,s,ho,h=>by
    obtain ⟨h1,h2,h3,h4,h5⟩:=ho
    rw [hasT_cons] at h
    rw [pathD]
    by_cases g : a.f0.toList = s.toList
    · rw [if_pos g]
      have e : a.f0 = s:=bytes_eq g
      by_cases hr : r = []
      · subst hr
        exact ⟨[],a,by rw [e];rfl,rfl,by rw [pathD];rfl⟩
      · obtain ⟨l,b,q1,q2,q3⟩:=pathD_last r a.f1 h1 (h3 hr)
        refine ⟨pathD r a.f1,b,by rw [e],?_,?_⟩
        · rw [List.getLast?_cons,q2];rfl
        · rw [List.getLast?_cons,q3];rfl
    · rw [if_neg g]
      rw [decide_eq_false (fun x=>g x.symm),Bool.false_or] at h
      obtain ⟨l,b,q1,q2,q3⟩:=pathD_last r s h1 h
      exact ⟨l,b,q1,by rw [List.getLast?_cons,q2];rfl,q3⟩
/-- later accounts are skipped -/
theorem pathD_skip : ∀ (t r : List S48) (s : ByteArray),hasT (t.map (·.f0)) s = false→pathD (t ++ r) s = pathD r s
  | [],r,s,_=>rfl
  | a :: t,r,s,h=>by
    rw [hasT_cons,Bool.or_eq_false_iff] at h
    rw [List.cons_append,pathD,if_neg (fun g=>by have:=of_decide_eq_false h.1;exact this g.symm)]
    exact pathD_skip t r s h.2
theorem okR_tail : ∀ (t r : List S48),okR (t ++ r)→okR r
  | [],r,h=>h
  | a :: t,r,h=>okR_tail t r h.1
/-- a name that is in the front is not behind -/
theorem okR_front : ∀ (t r : List S48) (s : ByteArray),okR (t ++ r)→hasT (r.map (·.f0)) s = true→hasT (t.map (·.f0)) s = false
  | [],r,s,_,_=>rfl
  | a :: t,r,s,ho,h=>by
    obtain ⟨h1,h2,h3,h4,h5⟩:=ho
    rw [hasT_cons,okR_front t r s h1 h,Bool.or_false]
    refine decide_eq_false (fun e=>?_)
    rw [← hasT_congr e] at h4
    have : hasT ((t ++ r).map (·.f0)) s = true:=by
      rw [List.map_append];unfold hasT at *;rw [List.any_append,h,Bool.or_true]
    exact absurd (this.symm.trans h4) (by simp)
theorem getl (r : List S48) (rest : List S48) (a : S48) : rd_T48 (r.reverse ++ a :: rest) (r.length : Int) = a:=by
  have:=rd48_mid r.reverse a rest
  rwa [List.length_reverse] at this
section path
variable (h : Hd) (P : List S50) (Q : List S52) (A : List S48)
theorem path_l0 : ∀ (r rest : List S48) (s : ByteArray) (acc : List ByteArray),A = r.reverse ++ rest→acc.length + r.length < 1000000 →
    Ev (fun k=>conf_Path.l0 k s acc ((r.length : Int) - 1) h.f0 h.f1 h.f2 h.f3 h.f4 h.f5 h.f6 h.f7 h.f8 P Q A) (acc ++ pathD r s)
  | [],rest,s,acc,e,hl=>by
    refine Ev.step (fun k=>by rw [conf_Path.l0]) ?_
    refine ev_neg (by simp) ?_
    rw [pathD,List.append_nil]
    exact Ev.now _
  | a :: r,rest,s,acc,e,hl=>by
    have e2 : A = r.reverse ++ a :: rest:=by rw [e];simp
    have ei : (((a :: r).length : Int) - 1) = (r.length : Int):=by simp
    have hlt : (r.length : Int) < (A.length : Int):=by rw [e2];simp;omega
    have hr : rd_T48 A (r.length : Int) = a:=by rw [e2];exact getl r rest a
    simp only [List.length_cons] at hl
    rw [ei,pathD]
    refine Ev.step (fun k=>by rw [conf_Path.l0]) ?_
    refine ev_pos (by omega) (ev_pos (by omega) (ev_pos hlt ?_))
    rw [hr,w64 (by omega)]
    by_cases g : a.f0.toList = s.toList
    · refine ev_pos g (ev_pos (by omega) ?_)
      rw [if_pos g]
      have:=path_l0 r (a :: rest) a.f1 (acc ++ [a.f0]) e2 (by simp;omega)
      simpa using this
    · refine ev_neg g ?_
      rw [if_neg g]
      exact path_l0 r (a :: rest) s acc e2 (by omega)
theorem path_ev (s : ByteArray) (hs : Small P Q A) : Ev (fun k=>conf_Path.f k h.f0 h.f1 h.f2 h.f3 h.f4 h.f5 h.f6 h.f7 h.f8 P Q A s) (if COK h P Q A = true then pathD A.reverse s else []):=by
  obtain ⟨h1,h2,h3,h4,h5,h6⟩:=hs
  unfold conf_Path.f
  refine Ev.bind (check_ev h (by omega) (by omega) (by omega) h4 h5 (fun x hx=>(h6 x hx).1)) ?_
  cases hc : COK h P Q A with
  | false=>exact ev_neg (by simp) (Ev.now _)
  | true =>
    refine ev_pos (by simp) ?_
    have:=path_l0 h P Q A A.reverse [] s [] (by simp) (by simp;omega)
    rw [List.length_reverse] at this
    rw [w64 (by omega),if_pos rfl]
    exact this
/-- the last place of a name -/
def lastAt : List S48→ByteArray→Int→Int→Int
  | [],_,_,at_=>at_
  | a :: t,s,i,at_=>lastAt t s (i + 1) (if a.f0.toList = s.toList then i else at_)
theorem lastAt_none : ∀ (t : List S48) (s : ByteArray) (i at_ : Int),hasT (t.map (·.f0)) s = false→lastAt t s i at_ = at_
  | [],s,i,at_,_=>rfl
  | a :: t,s,i,at_,h=>by
    rw [hasT_cons,Bool.or_eq_false_iff] at h
    rw [lastAt,if_neg (fun g=>by have:=of_decide_eq_false h.1;exact this g.symm)]
    exact lastAt_none t s _ at_ h.2
theorem lastAt_app : ∀ (p t : List S48) (s : ByteArray) (i at_ : Int),lastAt (p ++ t) s i at_ = lastAt t s (i + p.length) (lastAt p s i at_)
  | [],t,s,i,at_=>by simp [lastAt]
  | a :: p,t,s,i,at_=>by
    rw [List.cons_append,lastAt,lastAt,lastAt_app p t s]
    congr 1
    simp only [List.length_cons];omega
theorem ref_scan (hl : A.length < 1000000) (s : ByteArray) (acc v : List ByteArray) (x : Int)
    (hx : Ev (fun k=>if x < 0 then some acc else if acc.length < 8796093022208 then if 0≤x then if x < (A.length : Int) then gangerref10_Path.l0 k (rd_T48 A x).f1 (acc ++ [s]) 0 h.f0 h.f1 h.f2 h.f3 h.f4 h.f5 h.f6 h.f7 h.f8 P Q A else none else none else none) v) : ∀ (t q : List S48) (at_ : Int),A = q ++ t→lastAt t s q.length at_ = x →
    Ev (fun k=>gangerref10_Path.l1 k s acc 0 at_ (q.length : Int) h.f0 h.f1 h.f2 h.f3 h.f4 h.f5 h.f6 h.f7 h.f8 P Q A) v
  | [],q,at_,e,hat=>by
    refine Ev.step (fun k=>by rw [gangerref10_Path.l1]) ?_
    refine ev_neg (by rw [e];simp) ?_
    rw [lastAt] at hat
    rw [hat]
    exact hx
  | b :: t,q,at_,e,hat=>by
    have hlt : (q.length : Int) < (A.length : Int):=by rw [e];simp;omega
    have hr : rd_T48 A (q.length : Int) = b:=by rw [e];exact rd48_mid q b t
    rw [lastAt] at hat
    refine Ev.step (fun k=>by rw [gangerref10_Path.l1]) ?_
    refine ev_pos hlt (ev_pos (by omega) ?_)
    rw [hr,wsucc q b (by omega)]
    have e1 : ((q ++ [b]).length : Int) = (q.length : Int) + 1:=by simp
    by_cases g : b.f0.toList = s.toList
    · refine ev_pos g ?_
      rw [if_pos g] at hat
      exact ref_scan hl s acc v x hx t (q ++ [b]) _ (by rw [e];simp) (by rw [e1];exact hat)
    · refine ev_neg g ?_
      rw [if_neg g] at hat
      exact ref_scan hl s acc v x hx t (q ++ [b]) _ (by rw [e];simp) (by rw [e1];exact hat)
theorem refpath_l0 (hl : A.length < 1000000) : ∀ (r rest : List S48) (s : ByteArray) (acc : List ByteArray),A = r.reverse ++ rest→okR (rest.reverse ++ r)→hasT (rest.map (·.f0)) s = false→acc.length + r.length < 1000000 →
    Ev (fun k=>gangerref10_Path.l0 k s acc 0 h.f0 h.f1 h.f2 h.f3 h.f4 h.f5 h.f6 h.f7 h.f8 P Q A) (acc ++ pathD r s)
  | [],rest,s,acc,e,ho,hn,ha=>by
    rw [pathD,List.append_nil]
    refine Ev.step (fun k=>by rw [gangerref10_Path.l0]) ?_
    refine ev_pos rfl ?_
    have eA : A = rest:=by simpa using e
    refine ref_scan h P Q A hl s acc acc (-1) (ev_pos (by omega) (Ev.now _)) A [] (-1) rfl ?_
    exact lastAt_none A s _ _ (by rw [eA];exact hn)
  | a :: r,rest,s,acc,e,ho,hn,ha=>by
    have e2 : A = r.reverse ++ a :: rest:=by rw [e];simp
    have ho2 : okR ((a :: rest).reverse ++ r):=by simpa using ho
    have hor:=okR_tail _ _ ho
    simp only [List.length_cons] at ha
    rw [pathD]
    by_cases g : a.f0.toList = s.toList
    · rw [if_pos g]
      have ih:=refpath_l0 hl r (a :: rest) a.f1 (acc ++ [s]) e2 ho2 (by
        obtain ⟨q1,q2,q3,q4,q5⟩:=hor
        by_cases hr : r = []
        · have e0:=q2 hr
          have hne : ∀ x ∈ a :: rest,x.f0.toList ≠ []:=by
            intro x hx
            have : ∀ (t : List S48),okR (t ++ a :: r)→∀ x ∈ t,x.f0.toList ≠ []:=by
              intro t
              induction t with
              | nil=>intro _ x hx;cases hx
              | cons b t ih =>
                intro hb x hx
                rcases List.mem_cons.1 hx with q|q
                · subst q;exact hb.2.2.2.2
                · exact ih hb.1 x q
            rcases List.mem_cons.1 hx with q|q
            · subst q;exact q5
            · exact this rest.reverse ho x (by simpa using q)
          cases hh : hasT ((a :: rest).map (·.f0)) a.f1 with
          | false=>rfl
          | true =>
            obtain ⟨x,hx,ex⟩:=(hasT_iff _ _).1 hh
            obtain ⟨y,hy,rfl⟩:=List.mem_map.1 hx
            exact absurd (by rw [tl,← ex,← tl];exact e0) (hne y hy)
        · have:=okR_front (a :: rest).reverse r a.f1 ho2 (q3 hr)
          rwa [hasT_rev] at this) (by simp;omega)
      refine Ev.step (fun k=>by rw [gangerref10_Path.l0]) ?_
      refine ev_pos rfl ?_
      refine ref_scan h P Q A hl s acc _ (r.length : Int) ?_ A [] (-1) rfl ?_
      · have hlt : (r.length : Int) < (A.length : Int):=by rw [e2];simp;omega
        have hr : rd_T48 A (r.length : Int) = a:=by rw [e2];exact getl r rest a
        refine ev_neg (by omega) (ev_pos (by omega) (ev_pos (by omega) (ev_pos hlt ?_)))
        rw [hr,bytes_eq g]
        simpa using ih
      · have e3 : A = (r.reverse ++ [a]) ++ rest:=by rw [e2];simp
        rw [e3,lastAt_app,lastAt_none rest s _ _ hn,lastAt_app,lastAt,lastAt,if_pos g]
        simp
    · rw [if_neg g]
      refine refpath_l0 hl r (a :: rest) s acc e2 ho2 ?_ (by omega)
      rw [hasT_cons,hn,Bool.or_false]
      exact decide_eq_false (fun x=>g x.symm)
theorem refpath_ev (s : ByteArray) (hs : Small P Q A) : Ev (fun k=>gangerref10_Path.f k h.f0 h.f1 h.f2 h.f3 h.f4 h.f5 h.f6 h.f7 h.f8 P Q A s) (if COK h P Q A = true then pathD A.reverse s else []):=by
  obtain ⟨h1,h2,h3,h4,h5,h6⟩:=hs
  unfold gangerref10_Path.f
  refine Ev.bind (refcheck_ev h P Q A (by omega) (by omega) (by omega) h4 h5 (fun x hx=>(h6 x hx).1)) ?_
  cases hc : COK h P Q A with
  | false =>
    refine Ev.step (fun k=>by rw [gangerref10_Path.l0]) ?_
    exact ev_neg (by simp) (Ev.now _)
  | true =>
    have ht : TOK A = true:=by
      unfold COK at hc
      rw [Bool.and_eq_true] at hc
      exact hc.2
    have:=refpath_l0 h P Q A (by omega) A.reverse [] s [] (by simp) (by simpa using okR_tok ht) rfl (by simp;omega)
    simpa using this
end path
end Go.Proofs.YtgidipomfbikiaaDoor.Cnf
