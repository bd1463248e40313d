/- cut to what one law reaches -/
import Derived.Test.YtakdneopmojjdaaDoorBkBookBase
import Derived.Test.YtakdneopmojjdaaDoorBkP0
import Derived.Test.YtakdneopmojjdaaDoorBkP17
namespace Go.Proofs.YtakdneopmojjdaaDoor.Pure
open Go.RowKit Go.Proofs.YtakdneopmojjdaaDoorW.PrintWords Go.Proofs.YtakdneopmojjdaaDoorW.PrintLast Go.Proofs.YtakdneopmojjdaaDoorW.PrintMore Go.Proofs.YtakdneopmojjdaaDoor.P Go.Proofs.YtakdneopmojjdaaDoor.NumM Go.Proofs.YtakdneopmojjdaaDoor.Bk
set_option linter.unusedVariables false
set_option linter.unusedSimpArgs false
/-- all charges -/
def allS : List S24→Int
  | []=>0
  | c :: r=>amt c + allS r
def inP (p : List S24) (a : ByteArray) : Bool:=p.any fun y=>decide (y.f1.toList = a.toList)
/-- of the accounts that stand in p -/
def cov (p : List S24) : List S24→Int
  | []=>0
  | c :: r=>(if inP p c.f1 = true then amt c else 0) + cov p r
theorem inP_snoc (p : List S24) (x : S24) (a : ByteArray) : inP (p ++ [x]) a = (inP p a || decide (x.f1.toList = a.toList)):=by
  unfold inP;simp
theorem inP_same (p : List S24) {a b : ByteArray} (h : a.toList = b.toList) : inP p a = inP p b:=by
  unfold inP;rw [h]
theorem cov_new (p : List S24) (x : S24) (h : inP p x.f1 = false) : ∀ r,cov (p ++ [x]) r = cov p r + tot x.f1 r
  | []=>by simp [cov,tot]
  | c :: r=>by
    rw [cov,cov,tot,cov_new p x h r,inP_snoc]
    by_cases e : c.f1.toList = x.f1.toList
    · rw [inP_same p e,h,e];simp;omega
    · rw [decide_eq_false (fun z=>e z.symm),Bool.or_false,if_neg e];omega
theorem cov_old (p : List S24) (x : S24) (h : inP p x.f1 = true) : ∀ r,cov (p ++ [x]) r = cov p r
  | []=>by simp [cov]
  | c :: r=>by
    rw [cov,cov,cov_old p x h r,inP_snoc]
    by_cases e : c.f1.toList = x.f1.toList
    · rw [inP_same p e,h];simp
    · rw [decide_eq_false (fun z=>e z.symm),Bool.or_false]
theorem cov_nil : ∀ r,cov [] r = 0
  | []=>rfl
  | c :: r=>by rw [cov,cov_nil r];rfl
theorem cov_all (p : List S24) : ∀ r,(∀ c ∈ r,inP p c.f1 = true)→cov p r = allS r
  | [],_=>rfl
  | c :: r,h=>by
    rw [cov,allS,if_pos (h c (List.mem_cons_self ..)),cov_all p r (fun x hx=>h x (List.mem_cons_of_mem _ hx))]
theorem in_self (l : List S24) : ∀ c ∈ l,inP l c.f1 = true:=by
  intro c hc
  unfold inP
  rw [List.any_eq_true]
  exact ⟨c,hc,by simp⟩
theorem cov_num (p : List S24) : ∀ (r : List S24),(∀ x ∈ r,rightB x = true)→0≤cov p r∧cov p r≤1099511627776 * r.length
  | [],_=>by simp [cov]
  | c :: r,h=>by
    have ih:=cov_num p r (fun x hx=>h x (List.mem_cons_of_mem _ hx))
    have q:=amt_num (h c (List.mem_cons_self ..))
    rw [cov,List.length_cons]
    split <;> constructor <;> omega
theorem all_num : ∀ (r : List S24),(∀ x ∈ r,rightB x = true)→0≤allS r∧allS r≤1099511627776 * r.length
  | [],_=>by simp [allS]
  | c :: r,h=>by
    have ih:=all_num r (fun x hx=>h x (List.mem_cons_of_mem _ hx))
    have q:=amt_num (h c (List.mem_cons_self ..))
    rw [allS,List.length_cons]
    constructor <;> omega
theorem bk_take : ∀ (l : List S24) (t : Option Int) (n : Nat),bkFrom t l = true→bkFrom t (l.take n) = true
  | [],t,n,h=>by simpa using h
  | c :: r,t,0,h=>rfl
  | c :: r,t,n + 1,h=>by
    rw [bkFrom] at h
    rw [List.take_succ_cons,bkFrom]
    simp only [Bool.and_eq_true] at h ⊢
    exact ⟨h.1,bk_take r _ n h.2⟩
theorem book_take {l : List S24} (h : Book l = true) (n : Nat) : Book (l.take n) = true:=by
  unfold Book at h ⊢
  simp only [Bool.and_eq_true,decide_eq_true_eq] at h ⊢
  exact ⟨by simp;omega,bk_take l _ n h.2⟩
section
variable (l : List S24) (hB : Book l = true) (hL : l.length≤300) (hs : ∀ x ∈ l,x.f1.size≤300)
include hB hL hs
theorem l1_ev (S : Int) (hS : S = allS l) (n : Nat) (hn : n≤l.length) : ∀ (s p : List S24),l = p ++ s→Ev (fun k=>gangerlaw20_BookSums.l1 k l S (cov p l) (n : Int) (p.length : Int)) true
  | [],p,e=>by
    refine Ev.step (fun k=>by rw [gangerlaw20_BookSums.l1]) ?_
    refine ev_neg (by rw [e];simp) ?_
    have e2 : cov p l = S:=by
      have : p = l:=by simpa using e.symm
      rw [this,hS];exact cov_all l l (in_self l)
    exact ev_pos e2 hk
  | x :: s,p,e=>by
    have q:=book_all hB
    have hr : rd_T24 l (p.length : Int) = x:=by rw [e];exact rd24_mid p x s
    have hlt : (p.length : Int) < (l.length : Int):=by rw [e];simp;omega
    have hx : x ∈ l:=by rw [e];simp
    have nc:=cov_num p l q.2
    have nt:=tot_num x.f1 l q.2
    have T:=total_ev l x.f1 (by omega) (fun y hy=>by have:=hs y hy;omega)
    rw [if_pos hB] at T
    have T2:=total_ev (l.take n) x.f1 (by simp;omega) (fun y hy=>by have:=hs y (List.mem_of_mem_take hy);omega)
    rw [if_pos (book_take hB n)] at T2
    have ih:=l1_ev S hS n hn s (p ++ [x]) (by simpa using e)
    have le : tot x.f1 (l.take n)≤tot x.f1 l:=by
      have h1 : l = l.take n ++ l.drop n:=(List.take_append_drop n l).symm
      have h2:=tot_app x.f1 (l.take n) (l.drop n)
      rw [← h1] at h2
      have h3:=tot_num x.f1 (l.drop n) (fun y hy=>q.2 y (List.mem_of_mem_drop hy))
      omega
    have J4 : ∀ v : Int,v = cov (p ++ [x]) l→Ev (fun k=>gangerlaw20_BookSums.j4 k l S v (n : Int) (p.length : Int)) true:=by
      intro v hv
      refine Ev.step (fun k=>by rw [gangerlaw20_BookSums.j4]) ?_
      refine ev_pos (by omega) (ev_pos (by omega) (ev_pos (by omega) (ev_pos hlt ?_)))
      rw [hr]
      refine Ev.bind (by simpa using T2) (Ev.bind T ?_)
      refine ev_neg (by omega) ?_
      rw [wsucc p x (by omega),hv]
      exact ih
    have L2 : ∀ (t c : List S24),p = c ++ t→Ev (fun k=>gangerlaw20_BookSums.l2 k l S (cov p l) (n : Int) (p.length : Int) (!inP c x.f1) (c.length : Int)) true:=by
      intro t
      induction t with
      | nil =>
        intro c ec
        have ec : p = c:=by simpa using ec
        subst ec
        refine Ev.step (fun k=>by rw [gangerlaw20_BookSums.l2]) ?_
        refine ev_neg (by omega) ?_
        cases hi : inP p x.f1 with
        | true =>
          refine ev_neg (by simp) ?_
          exact J4 _ (cov_old p x hi l).symm
        | false =>
          refine ev_pos rfl (ev_pos (by omega) (ev_pos hlt ?_))
          rw [hr]
          refine Ev.bind T ?_
          rw [w64 (by omega)]
          exact J4 _ (cov_new p x hi l).symm
      | cons y t iht =>
        intro c ec
        have hy : rd_T24 l (c.length : Int) = y:=by rw [e,ec,List.append_assoc];exact rd24_mid c y _
        have hcl : (c.length : Int) < (p.length : Int):=by rw [ec];simp;omega
        have ihc:=iht (c ++ [y]) (by simpa using ec)
        have hw:=wsucc c y (by omega)
        refine Ev.step (fun k=>by rw [gangerlaw20_BookSums.l2]) ?_
        refine ev_pos hcl ?_
        rw [hw,hy,hr]
        cases hi : inP c x.f1 with
        | true =>
          refine ev_neg (by simp) ?_
          rw [inP_snoc,hi,Bool.true_or] at ihc
          exact ihc
        | false =>
          refine ev_pos rfl (ev_pos (by omega) (ev_pos (by omega) (ev_pos (by omega) (ev_pos hlt ?_))))
          rw [inP_snoc,hi,Bool.false_or] at ihc
          have hb : (y.f1.toList != x.f1.toList) = !decide (y.f1.toList = x.f1.toList):=by
            by_cases z : y.f1.toList = x.f1.toList
            · rw [z];simp
            · rw [decide_eq_false z];simpa using z
          rw [hb]
          exact ihc
    refine Ev.step (fun k=>by rw [gangerlaw20_BookSums.l1]) ?_
    refine ev_pos hlt ?_
    have:=L2 p [] rfl
    simpa [inP] using this
theorem l0_ev (a1 : Int) : ∀ (s p : List S24),l = p ++ s→Ev (fun k=>gangerlaw20_BookSums.l0 k l a1 (allS p) (p.length : Int)) true
  | [],p,e=>by
    have q:=book_all hB
    have ep : p = l:=by simpa using e.symm
    subst ep
    have w1 : IntKind.u64.wrap (wrap64 ((p.length : Int) + 1)) = (p.length : Int) + 1:=by rw [w64 (by omega),u64 (by omega)]
    have u0 : 0≤IntKind.u64.wrap a1:=by rw [IntKind.wrap_u64];omega
    obtain ⟨m,hm⟩ : ∃ m,Int.tmod (IntKind.u64.wrap a1) ((p.length : Int) + 1) = m:=⟨_,rfl⟩
    have m0 : 0≤m:=by rw [← hm];exact Int.tmod_nonneg _ u0
    have m1 : m < (p.length : Int) + 1:=by rw [← hm];exact Int.tmod_lt_of_pos _ (by omega)
    refine Ev.step (fun k=>by rw [gangerlaw20_BookSums.l0]) ?_
    refine ev_neg (by omega) ?_
    rw [w1,hm,w64 (by omega)]
    refine ev_neg (by omega) (ev_pos m0 (ev_pos (by omega) ?_))
    have C:=check_ev (p.take m.toNat) (by simp;omega) (fun y hy=>by have:=hs y (List.mem_of_mem_take hy);omega)
    rw [if_pos (book_take hB m.toNat)] at C
    refine Ev.bind C (ev_pos rfl ?_)
    have:=l1_ev p hB hL hs (allS p) rfl m.toNat (by omega) p [] rfl
    rw [cov_nil,show ((m.toNat : Nat) : Int) = m by omega] at this
    exact this
  | x :: s,p,e=>by
    have q:=book_all hB
    have hr : rd_T24 l (p.length : Int) = x:=by rw [e];exact rd24_mid p x s
    have hlt : (p.length : Int) < (l.length : Int):=by rw [e];simp;omega
    have hx : x ∈ l:=by rw [e];simp
    have na:=amt_num (q.2 x hx)
    have np:=all_num p (fun y hy=>q.2 y (by rw [e];simp [hy]))
    have ih:=l0_ev a1 s (p ++ [x]) (by simpa using e)
    have es : ∀ (p : List S24),allS (p ++ [x]) = allS p + amt x:=by
      intro p
      induction p with
      | nil=>simp [allS]
      | cons c r ihr=>rw [List.cons_append,allS,allS,ihr];omega
    refine Ev.step (fun k=>by rw [gangerlaw20_BookSums.l0]) ?_
    refine ev_pos hlt (ev_pos (by omega) ?_)
    rw [hr,wsucc p x (by omega)]
    have w1 : wrap64 (x.f2 * x.f3) = amt x:=w64 (by unfold amt at na;omega)
    rw [w1,w64 (by omega),← es]
    exact ih
end
theorem BookSums : gangerlaw20_BookSums.Pure:=by
  intro l a1 hl ha
  refine Ev.rounds ?_
  unfold gangerlaw20_BookSums.f
  have J : Ev (fun k=>gangerlaw20_BookSums.j0 k l a1 true) true:=by
    refine Ev.step (fun k=>by rw [gangerlaw20_BookSums.j0]) ?_
    exact ev_pos rfl hk
  obtain ⟨b,hb,hf⟩:=many_ev l (⟨#[]⟩ : ByteArray)
  refine Ev.bind hb ?_
  cases b with
  | true=>exact ev_pos rfl J
  | false =>
    have S:=hf rfl
    refine ev_neg (by simp) ?_
    by_cases g1 : (l.length : Int) > 300
    · exact ev_pos g1 J
    refine ev_neg g1 ?_
    refine Ev.bind (check_ev l (by omega) (fun x hx=>by have:=S.2.2.2 x hx;omega)) ?_
    by_cases hB : Book l = true
    · rw [if_pos hB]
      refine Ev.step (fun k=>by rw [gangerlaw20_BookSums.j0]) ?_
      refine ev_neg (by decide) ?_
      exact l0_ev l hB (by omega) S.2.2.2 a1 l [] rfl
    · rw [if_neg hB]
      exact J
end Go.Proofs.YtakdneopmojjdaaDoor.Pure
