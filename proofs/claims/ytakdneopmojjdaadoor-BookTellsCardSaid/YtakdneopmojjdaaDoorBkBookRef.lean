/- cut to what one law reaches -/
import Derived.Test.YtakdneopmojjdaaDoorBkBookBase
import Derived.Test.YtakdneopmojjdaaDoorBkRefName
import Derived.Test.YtakdneopmojjdaaDoorBkNumEnd
import Derived.Test.YtakdneopmojjdaaDoorBkP0
import Derived.Test.YtakdneopmojjdaaDoorBkP2
import Derived.Test.YtakdneopmojjdaaDoorBkP12
import Derived.Test.YtakdneopmojjdaaDoorBkP13
import Derived.Test.YtakdneopmojjdaaDoorBkP14
import Derived.Test.YtakdneopmojjdaaDoorBkP15
import Derived.Test.YtakdneopmojjdaaDoorBkP16
namespace Go.Proofs.YtakdneopmojjdaaDoor.Bk
open Go.RowKit Go.Proofs.YtakdneopmojjdaaDoorW.PrintWords Go.Proofs.YtakdneopmojjdaaDoorW.PrintLast Go.Proofs.YtakdneopmojjdaaDoorW.PrintMore Go.Proofs.YtakdneopmojjdaaDoor.P Go.Proofs.YtakdneopmojjdaaDoor.NumM
set_option linter.unusedVariables false
set_option linter.unusedSimpArgs false
theorem word_ref (h : Int) : ∃ t,gangerref20_word.f h = some t∧(t.toList != ([] : List UInt8)) = wordOk h:=by
  unfold gangerref20_word.f
  by_cases h0 : h = 0
  · subst h0;exact ⟨_,rfl,by decide +kernel⟩
  by_cases h5 : h = 5
  · subst h5;exact ⟨_,rfl,by decide +kernel⟩
  by_cases h6 : h = 6
  · subst h6;exact ⟨_,rfl,by decide +kernel⟩
  by_cases h7 : h = 7
  · subst h7;exact ⟨_,rfl,by decide +kernel⟩
  by_cases h8 : h = 8
  · subst h8;exact ⟨_,rfl,by decide +kernel⟩
  rw [if_neg h0,if_neg h5,if_neg h6,if_neg h7,if_neg h8]
  refine ⟨_,rfl,?_⟩
  have : wordOk h = false:=by unfold wordOk inB;simp;omega
  rw [this]
  decide +kernel
theorem refRight_ev (c : S24) (h0 : 0≤c.f0) (hs : c.f1.size≤1000000) : Ev (fun k=>gangerref20_Right.f k c.f0 c.f1 c.f2 c.f3 c.f4 c.f5) (rightB c):=by
  unfold gangerref20_Right.f rightB
  by_cases g0 : c.f0 = 0
  · refine ev_pos g0 ?_
    rw [decide_eq_false (show ¬ 0 < c.f0 by omega)]
    exact Ev.now _
  refine ev_neg g0 ?_
  rw [decide_eq_true (show 0 < c.f0 by omega),Bool.true_and]
  have hN:=RefName.name_ev c.f1 hs
  refine Ev.bind hN ?_
  show Ev _ (NameOk c.f1 && inB c.f2 1 1024 && inB c.f3 0 1073741824 && wordOk c.f4 && inB c.f5 0 1099511627776)
  unfold NameOk
  cases nameAt (c.f1.size + 1) c.f1 0 with
  | false=>exact ev_neg (by simp) (Ev.now _)
  | true =>
    refine ev_pos rfl ?_
    rw [Bool.true_and]
    unfold inB
    by_cases g1 : c.f2 < 1
    · refine ev_pos g1 ?_
      rw [decide_eq_false (show ¬ 1≤c.f2 by omega)];exact Ev.now _
    refine ev_neg g1 ?_
    rw [decide_eq_true (show 1≤c.f2 by omega),Bool.true_and]
    by_cases g2 : c.f2 > 1024
    · refine ev_pos g2 ?_
      rw [decide_eq_false (show ¬ c.f2≤1024 by omega)];exact Ev.now _
    refine ev_neg g2 ?_
    rw [decide_eq_true (show c.f2≤1024 by omega),Bool.true_and]
    by_cases g3 : c.f3 < 0
    · refine ev_pos g3 ?_
      rw [decide_eq_false (show ¬ 0≤c.f3 by omega)];exact Ev.now _
    refine ev_neg g3 ?_
    rw [decide_eq_true (show 0≤c.f3 by omega),Bool.true_and]
    by_cases g4 : c.f3 > 1073741824
    · refine ev_pos g4 ?_
      rw [decide_eq_false (show ¬ c.f3≤1073741824 by omega)];exact Ev.now _
    refine ev_neg g4 ?_
    rw [decide_eq_true (show c.f3≤1073741824 by omega),Bool.true_and]
    by_cases g5 : c.f5 < 0
    · refine ev_pos g5 ?_
      rw [decide_eq_false (show ¬ 0≤c.f5 by omega),Bool.false_and,Bool.and_false];exact Ev.now _
    refine ev_neg g5 ?_
    rw [decide_eq_true (show 0≤c.f5 by omega),Bool.true_and]
    by_cases g6 : c.f5 > 1099511627776
    · refine ev_pos g6 ?_
      rw [decide_eq_false (show ¬ c.f5≤1099511627776 by omega),Bool.and_false];exact Ev.now _
    refine ev_neg g6 ?_
    rw [decide_eq_true (show c.f5≤1099511627776 by omega),Bool.and_true]
    obtain ⟨t,ht,hw⟩:=word_ref c.f4
    rw [ht]
    refine Ev.bind (Ev.now _) ?_
    rw [hw];exact Ev.now _
theorem refCheck_l0 : ∀ (s p : List S24),(p ++ s).length < 1000000→(∀ x ∈ s,x.f1.size≤1000000∧0≤x.f0) →
    Ev (fun k=>gangerref20_Check.l0 k (p ++ s) (p.length : Int)) (if bkFrom (lastT p) s = true then 0 else 200)
  | [],p,h,hs=>by
    refine Ev.step (fun k=>by rw [gangerref20_Check.l0]) ?_
    exact ev_neg (by simp) (Ev.now _)
  | x :: s,p,h,hs=>by
    have hp : p.length < 1000000:=by simp at h;omega
    have ih:=refCheck_l0 s (p ++ [x]) (by simpa using h) (fun y hy=>hs y (List.mem_cons_of_mem _ hy))
    have hlx : lastT (p ++ [x]) = some x.f5:=by simp [lastT]
    rw [hlx] at ih
    simp only [List.append_assoc,List.singleton_append] at ih
    refine Ev.step (fun k=>by rw [gangerref20_Check.l0]) ?_
    refine ev_pos (by simp;omega) (ev_pos (by omega) ?_)
    rw [rd24_mid,bkFrom]
    have hx:=hs x (List.mem_cons_self ..)
    refine Ev.bind (refRight_ev x hx.2 hx.1) ?_
    cases hr : rightB x with
    | false=>exact ev_neg (by simp) (Ev.now _)
    | true =>
      refine ev_pos rfl ?_
      rw [wsucc p x hp]
      rcases List.eq_nil_or_concat p with rfl|⟨q,y,e⟩
      · refine ev_neg (by simp) ?_
        simpa [lastT,after] using ih
      · rw [List.concat_eq_append] at e
        subst e
        have e1 : wrap64 ((((q ++ [y]).length : Nat) : Int) - 1) = (q.length : Int):=by
          rw [w64 (by simp at hp ⊢;omega)];simp
        have e2 : rd_T24 ((q ++ [y]) ++ x :: s) (q.length : Int) = y:=by
          rw [List.append_assoc];exact rd24_mid q y _
        refine ev_pos (by simp) ?_
        rw [e1]
        refine ev_pos (by omega) (ev_pos (by simp;omega) ?_)
        rw [e2]
        have hl : lastT (q ++ [y]) = some y.f5:=by simp [lastT]
        rw [hl]
        by_cases ht : y.f5 > x.f5
        · refine ev_pos ht ?_
          rw [show after (some y.f5) x.f5 = false from decide_eq_false (by omega)]
          exact Ev.now _
        · refine ev_neg ht ?_
          rw [show after (some y.f5) x.f5 = true from decide_eq_true (by omega)]
          simpa using ih
theorem refCheck_ev (l : List S24) (h : l.length < 1000000) (hs : ∀ x ∈ l,x.f1.size≤1000000∧0≤x.f0) : Ev (fun k=>gangerref20_Check.f k l) (if Book l = true then 0 else 200):=by
  unfold gangerref20_Check.f Book
  by_cases h2 : (l.length : Int) > 2000
  · refine ev_pos h2 ?_
    rw [decide_eq_false (show ¬ l.length≤2000 by omega)]
    exact Ev.now _
  · refine ev_neg h2 ?_
    rw [decide_eq_true (show l.length≤2000 by omega),Bool.true_and]
    exact refCheck_l0 l [] (by simpa using h) hs
theorem refOf_stop (l : List S24) (i e a n j : Int) (he : e ≠ 0) : Ev (fun k=>gangerref20_Of.l0 k l i e a n j) (a,n):=by
  have J : Ev (fun k=>gangerref20_Of.j1 k l i e a n j false) (a,n):=by
    refine Ev.step (fun k=>by rw [gangerref20_Of.j1]) ?_
    exact ev_neg (by simp) (Ev.now _)
  refine Ev.step (fun k=>by rw [gangerref20_Of.l0]) ?_
  by_cases h : j < (l.length : Int)
  · refine ev_pos h ?_
    rw [show (e == 0) = false from beq_eq_false_iff_ne.2 he]
    exact J
  · exact ev_neg h J
theorem refOf_l0 (i : Int) : ∀ (s p : List S24) (a n : Int),(p ++ s).length < 1000000→(∀ x ∈ s,rightB x = true)→0≤a→a + 1099511627776 * s.length≤4611686018427387904→0≤n→n + s.length≤1000000 →
    Ev (fun k=>gangerref20_Of.l0 k (p ++ s) i 0 a n (p.length : Int)) (a + secs i s,n + runs i s)
  | [],p,a,n,h,hs,h0,h1,h2,h3=>by
    refine Ev.step (fun k=>by rw [gangerref20_Of.l0]) ?_
    refine ev_neg (by simp) ?_
    refine Ev.step (fun k=>by rw [gangerref20_Of.j1]) ?_
    refine ev_neg (by simp) ?_
    rw [secs,runs,Int.add_zero,Int.add_zero];exact Ev.now _
  | x :: s,p,a,n,h,hs,h0,h1,h2,h3=>by
    have hp : p.length < 1000000:=by simp at h;omega
    have q:=right_num (hs x (List.mem_cons_self ..))
    rw [List.length_cons] at h1 h3
    refine Ev.step (fun k=>by rw [gangerref20_Of.l0]) ?_
    refine ev_pos (by simp;omega) ?_
    refine Ev.step (fun k=>by rw [gangerref20_Of.j1]) ?_
    refine ev_pos (by decide) (ev_pos (by omega) (ev_pos (by simp;omega) ?_))
    rw [rd24_mid,wsucc p x hp,secs,runs]
    by_cases e : x.f0 = i
    · refine ev_pos e ?_
      rw [if_pos e,if_pos e,w64 (by omega),w64 (by omega)]
      have ih:=refOf_l0 i s (p ++ [x]) (a + x.f3) (n + 1) (by simpa using h) (fun y hy=>hs y (List.mem_cons_of_mem _ hy)) (by omega) (by omega) (by omega) (by omega)
      rw [show a + (x.f3 + secs i s) = a + x.f3 + secs i s by omega,show n + (1 + runs i s) = n + 1 + runs i s by omega]
      simpa using ih
    · refine ev_neg e ?_
      rw [if_neg e,if_neg e]
      have ih:=refOf_l0 i s (p ++ [x]) a n (by simpa using h) (fun y hy=>hs y (List.mem_cons_of_mem _ hy)) h0 (by omega) h2 (by omega)
      rw [Int.zero_add,Int.zero_add]
      simpa using ih
theorem refOf_ev (l : List S24) (i : Int) (h : l.length < 1000000) (hs : ∀ x ∈ l,x.f1.size≤1000000∧0≤x.f0) : Ev (fun k=>gangerref20_Of.f k l i) (if Book l = true then (secs i l,runs i l) else (0,0)):=by
  unfold gangerref20_Of.f
  refine Ev.bind (refCheck_ev l h hs) ?_
  by_cases hb : Book l = true
  · rw [if_pos hb,if_pos hb]
    have q:=book_all hb
    have:=refOf_l0 i l [] 0 0 (by simpa using h) q.2 (by omega) (by omega) (by omega) (by omega)
    simpa using this
  · rw [if_neg hb,if_neg hb]
    exact refOf_stop l i 200 0 0 0 (by decide)
theorem refSum_ev {β : Type} {G : Nat→Int→Option β} {r : β} {x y : Int} (hx : 0≤x) (hy : 0≤y) (h : x + y≤9223372036854775807) (hG : Ev (fun k=>G k (x + y)) r) :
    Ev (fun k=>(gangerref01_Of.f x).bind fun a=>(gangerref01_Of.f y).bind fun b=>(gangerref01_Plus.f a.1 a.2.1 a.2.2 b.1 b.2.1 b.2.2).bind fun c=>(gangerref01_End.f k c.1 c.2.1 c.2.2).bind fun t=>G k t) r:=by
  have fx : fits x:=by unfold fits;omega
  have fy : fits y:=by unfold fits;omega
  rw [of_f x fx,of_f y fy]
  refine Ev.bind (Ev.now _) (Ev.bind (Ev.now _) ?_)
  obtain ⟨n,a,b,hP,ha,ha',hb,hb',hv⟩:=Plus_f (decide (x < 0)) (decide (y < 0)) 0 (x.natAbs : Int) 0 (y.natAbs : Int) (by omega) (by omega) (by omega) (by omega)
  dsimp only
  rw [hP]
  refine Ev.bind (Ev.now _) ?_
  have hE:=end_ev n a b ha hb hb'
  rw [hv,sv_of,sv_of] at hE
  have hc : cutoff (x + y) = x + y:=by unfold cutoff;rw [if_neg (by omega),if_neg (by omega)]
  rw [hc] at hE
  exact Ev.bind hE hG
theorem refTotal_stop (l : List S24) (a : ByteArray) (e n j : Int) (he : e ≠ 0) : Ev (fun k=>gangerref20_Total.l0 k l a e n j) n:=by
  have J : Ev (fun k=>gangerref20_Total.j1 k l a e n j false) n:=by
    refine Ev.step (fun k=>by rw [gangerref20_Total.j1]) ?_
    exact ev_neg (by simp) (Ev.now _)
  refine Ev.step (fun k=>by rw [gangerref20_Total.l0]) ?_
  by_cases h : j < (l.length : Int)
  · refine ev_pos h ?_
    rw [show (e == 0) = false from beq_eq_false_iff_ne.2 he]
    exact J
  · exact ev_neg h J
theorem refTotal_l0 (a : ByteArray) : ∀ (s p : List S24) (acc : Int),(p ++ s).length < 1000000→(∀ x ∈ s,rightB x = true)→0≤acc→acc + 1099511627776 * s.length≤4611686018427387904 →
    Ev (fun k=>gangerref20_Total.l0 k (p ++ s) a 0 acc (p.length : Int)) (acc + tot a s)
  | [],p,acc,h,hs,h0,h1=>by
    refine Ev.step (fun k=>by rw [gangerref20_Total.l0]) ?_
    refine ev_neg (by simp) ?_
    refine Ev.step (fun k=>by rw [gangerref20_Total.j1]) ?_
    refine ev_neg (by simp) ?_
    rw [tot,Int.add_zero];exact Ev.now _
  | x :: s,p,acc,h,hs,h0,h1=>by
    have hp : p.length < 1000000:=by simp at h;omega
    have q:=amt_num (hs x (List.mem_cons_self ..))
    rw [List.length_cons] at h1
    refine Ev.step (fun k=>by rw [gangerref20_Total.l0]) ?_
    refine ev_pos (by simp;omega) ?_
    refine Ev.step (fun k=>by rw [gangerref20_Total.j1]) ?_
    refine ev_pos (by decide) (ev_pos (by omega) (ev_pos (by simp;omega) ?_))
    rw [rd24_mid,wsucc p x hp,tot]
    by_cases e : x.f1.toList = a.toList
    · refine ev_pos e ?_
      have ew : wrap64 (x.f2 * x.f3) = amt x:=w64 (by have:=q;unfold amt at this;omega)
      rw [ew,if_pos e]
      have ih:=refTotal_l0 a s (p ++ [x]) (acc + amt x) (by simpa using h) (fun y hy=>hs y (List.mem_cons_of_mem _ hy)) (by omega) (by omega)
      refine refSum_ev h0 q.1 (by omega) ?_
      rw [show acc + (amt x + tot a s) = acc + amt x + tot a s by omega]
      simpa using ih
    · refine ev_neg e ?_
      rw [if_neg e]
      have ih:=refTotal_l0 a s (p ++ [x]) acc (by simpa using h) (fun y hy=>hs y (List.mem_cons_of_mem _ hy)) h0 (by omega)
      rw [Int.zero_add]
      simpa using ih
theorem refTotal_ev (l : List S24) (a : ByteArray) (h : l.length < 1000000) (hs : ∀ x ∈ l,x.f1.size≤1000000∧0≤x.f0) : Ev (fun k=>gangerref20_Total.f k l a) (if Book l = true then tot a l else 0):=by
  unfold gangerref20_Total.f
  refine Ev.bind (refCheck_ev l h hs) ?_
  by_cases hb : Book l = true
  · rw [if_pos hb,if_pos hb]
    have q:=book_all hb
    have:=refTotal_l0 a l [] 0 (by simpa using h) q.2 (by omega) (by omega)
    simpa using this
  · rw [if_neg hb,if_neg hb]
    exact refTotal_stop l a 200 0 0 (by decide)
end Go.Proofs.YtakdneopmojjdaaDoor.Bk
