/- cut to what one law reaches -/
import Derived.Test.YtgidipomfbikiaaDoorQcCnfForth
import Derived.Test.YtgidipomfbikiaaDoorQcCnfRPrint
import Derived.Test.YtgidipomfbikiaaDoorQcP0
import Derived.Test.YtgidipomfbikiaaDoorQcP10
import Derived.Test.YtgidipomfbikiaaDoorQcP12
import Derived.Test.YtgidipomfbikiaaDoorQcP20
namespace Go.Proofs.YtgidipomfbikiaaDoor.Pure
open Go.RowKit Go.Proofs.YtgidipomfbikiaaDoorW.PrintWords Go.Proofs.YtgidipomfbikiaaDoorW.PrintLast Go.Proofs.YtgidipomfbikiaaDoorW.PrintMore Go.Proofs.YtgidipomfbikiaaDoor.P Go.Proofs.YtgidipomfbikiaaDoor.NumM Go.Proofs.YtgidipomfbikiaaDoor.Cnf
set_option linter.unusedVariables false
set_option linter.unusedSimpArgs false
theorem f1_small : ∀ (s p : List S48),accOk p s = true→(∀ x ∈ p ++ s,NameOk x.f0 = true)→∀ x ∈ s,x.f1.size≤128
  | [],p,_,_,x,hx=>by cases hx
  | a :: s,p,h,hn,x,hx=>by
    rw [accOk,Bool.and_eq_true,Bool.and_eq_true,Bool.and_eq_true] at h
    obtain ⟨⟨⟨a1,a2⟩,a3⟩,a4⟩:=h
    rcases List.mem_cons.1 hx with q|q
    · subst q
      by_cases hp : p = []
      · subst hp
        have e : x.f1.toList = []:=by simpa using a2
        rw [ByteArray.toList_eq] at e
        have:=mk_self x.f1
        rw [e] at this
        rw [this];simp [mk_size]
      · have e1 : p.isEmpty = false:=by simp [hp]
        rw [e1,Bool.false_or] at a3
        unfold hasT at a3
        obtain ⟨y,hy,he⟩:=List.any_eq_true.1 a3
        obtain ⟨z,hz,rfl⟩:=List.mem_map.1 hy
        rw [list_eq (of_decide_eq_true he)]
        exact name_size (hn z (List.mem_append_left _ hz))
    · exact f1_small s (p ++ [a]) a4 (by simpa using hn) x q
theorem cok_small {h : Hd} {P : List S50} {Q : List S52} {A : List S48} (hc : COK h P Q A = true) : Small P Q A:=by
  have hb:=cok_b hc
  have hp:=names_all _ _ hb.np
  have hq:=names_all _ _ hb.nq
  have ha:=names_all _ _ hb.na
  have q1:=hb.lp;have q2:=hb.lq;have q3:=hb.la
  refine ⟨by omega,by omega,by omega,fun x hx=>?_,fun x hx=>?_,fun x hx=>⟨?_,?_⟩⟩
  · have:=name_size (hp _ (List.mem_map_of_mem hx));omega
  · have:=name_size (hq _ (List.mem_map_of_mem hx));omega
  · have:=name_size (ha _ (List.mem_map_of_mem hx));omega
  · have:=f1_small A [] hb.acc (fun y hy=>ha _ (List.mem_map_of_mem hy)) x hx;omega
theorem flat_len {α : Type} (f : α→List UInt8) (B : Nat) : ∀ l : List α,(∀ x ∈ l,(f x).length≤B)→(l.flatMap f).length≤B * l.length
  | [],h=>by simp
  | a :: l,h=>by
    have ih:=flat_len f B l (fun x hx=>h x (List.mem_cons_of_mem _ hx))
    have ha:=h a (List.mem_cons_self ..)
    rw [List.flatMap_cons,List.length_append,List.length_cons,Nat.mul_add];omega
theorem line_len (ws : List (List UInt8)) (h : ∀ x ∈ ws,x.length≤300) : (line ws).length≤301 * ws.length + 1:=by
  have:=join_len 300 ws h
  unfold line;rw [List.length_append,List.length_singleton];omega
theorem text_len {h : Hd} {P : List S50} {Q : List S52} {A : List S48} (hc : COK h P Q A = true) : (textT h P Q A).length≤800000:=by
  obtain ⟨_,_,_,s4,s5,s6⟩:=cok_small hc
  have hb:=cok_b hc
  obtain ⟨b0,b1,b2,b3,b4,b5,b6,b7,b8⟩:=hb.hb
  have q1:=hb.lp;have q2:=hb.lq;have q3:=hb.la
  have e1:=d_len (x:=h.f1) (by omega)
  have e2:=d_len (x:=h.f2) (by omega)
  have e3:=d_len (x:=h.f3) (by omega)
  have e4:=d_len (x:=h.f4) (by omega)
  have e5:=d_len (x:=h.f5) (by omega)
  have e6:=d_len (x:=h.f6) (by omega)
  have e7:=d_len (x:=h.f7) (by omega)
  have e8:=d_len (x:=h.f8) (by omega)
  have ep:=pol_sz h.f0
  have ept : polT h.f0 = (rdOf ByteArray.empty polW h.f0).data.toList:=rfl
  have hhl : (headT h).length≤1000:=by
    have:=sz_list (rdOf ByteArray.empty polW h.f0)
    rw [← ept] at this
    simp [headT,line,Lib.join_cons,Lib.joinTail,wPolicy,wHalf,wQuantum,wRequeues,wWeights]
    omega
  have h1:=flat_len partT 2409 P (fun x hx=>by
    have n0:=s4 x hx
    obtain ⟨c1,c2,c3⟩:=hb.p x hx
    have d1:=d_len (x:=x.f1) (by omega)
    have d2:=d_len (x:=x.f2) (by omega)
    have d3:=d_len (x:=x.f3) (by omega)
    have:=sz_list x.f0
    have:=line_len [wPartition,x.f0.data.toList,wOrder,d_ x.f1,wPriority,d_ x.f2,wLimit,d_ x.f3] (by
      intro y hy
      simp only [List.mem_cons,List.not_mem_nil,or_false] at hy
      rcases hy with rfl|rfl|rfl|rfl|rfl|rfl|rfl|rfl
      all_goals first|omega|decide)
    exact this)
  have h2:=flat_len classT 2409 Q (fun x hx=>by
    have n0:=s5 x hx
    obtain ⟨c1,c2⟩:=hb.q x hx
    have d1:=d_len (x:=x.f1) (by omega)
    have d2:=d_len (x:=x.f2) (by omega)
    have:=sz_list x.f0
    have:=line_len [wQos,x.f0.data.toList,wPriority,d_ x.f1,wMost,d_ x.f2] (by
      intro y hy
      simp only [List.mem_cons,List.not_mem_nil,or_false] at hy
      rcases hy with rfl|rfl|rfl|rfl|rfl|rfl
      all_goals first|omega|decide)
    exact Nat.le_trans this (by simp))
  have h3:=flat_len accT 2409 A (fun x hx=>by
    obtain ⟨n0,n1⟩:=s6 x hx
    have c1:=accOk_b A [] hb.acc x hx
    have d1:=d_len (x:=x.f2) (by omega)
    have:=sz_list x.f0
    have:=sz_list x.f1
    unfold accT
    split
    · have:=line_len [wAccount,x.f0.data.toList,wShares,d_ x.f2] (by
        intro y hy
        simp only [List.mem_cons,List.not_mem_nil,or_false] at hy
        rcases hy with rfl|rfl|rfl|rfl
        all_goals first|omega|decide)
      exact Nat.le_trans this (by simp)
    · have:=line_len [wAccount,x.f0.data.toList,wParent,x.f1.data.toList,wShares,d_ x.f2] (by
        intro y hy
        simp only [List.mem_cons,List.not_mem_nil,or_false] at hy
        rcases hy with rfl|rfl|rfl|rfl|rfl|rfl
        all_goals first|omega|decide)
      exact Nat.le_trans this (by simp))
  unfold textT
  rw [List.length_append,List.length_append,List.length_append]
  omega
theorem parse_text {h : Hd} {P : List S50} {Q : List S52} {A : List S48} (hc : COK h P Q A = true) : Ev (fun k=>conf_Parse.f k (mk (textT h P Q A))) (okR_ h P Q A):=by
  obtain ⟨r1,r2⟩:=parse_forth h P Q A hc
  have hl:=text_len hc
  have e:=lines_text h P Q A
  rw [← e] at hl ⊢
  have:=parse_run (linesT h P Q A) [] r2 (by simp) (by simpa using hl)
  rw [r1,List.append_nil] at this
  exact this
theorem back_j1 (x : ByteArray) (hx : x.size≤12000) : Ev (fun k=>gangerlaw10_ConfBack.j1 k x) true:=by
  refine Ev.step (fun k=>by rw [gangerlaw10_ConfBack.j1]) ?_
  obtain ⟨ls,t,e,h1,h2⟩:=lines_of x.data.toList
  have hs:=sz_list x
  have hp:=parse_run ls t h1 h2 (by rw [← e];omega)
  have e2 : mk (glue ls ++ t) = x:=by rw [← e];exact (mk_self x).symm
  rw [e2] at hp
  rcases run_cases ls Cnf.start t (by decide) with he|⟨n,hn,he⟩|he
  · obtain ⟨c,P,Q,A,k1,k2,k3⟩:=parse_back he
    rw [k1] at hp
    have hpr:=print_ev c P Q A (cok_small k2)
    unfold printR at hpr
    rw [if_pos k2,← k3,e2] at hpr
    refine Ev.bind hp (ev_pos rfl (Ev.bind hpr (ev_pos rfl (ev_pos rfl (ev_pos rfl ?_)))))
    exact hk
  · rw [he] at hp
    refine Ev.bind hp (ev_neg (by show ¬ (60 : Int) = 0;decide) (ev_pos rfl (ev_pos rfl (ev_pos ?_ ?_))))
    · show (decide (n > 0) == ((60 : Int) == 60)) = true
      rw [decide_eq_true (by omega)];rfl
    · exact hk
  · rw [he] at hp
    refine Ev.bind hp (ev_neg (by show ¬ (100 : Int) = 0;decide) (ev_pos rfl (ev_pos rfl (ev_pos (by decide) ?_))))
    exact hk
theorem ConfBack : gangerlaw10_ConfBack.Pure:=by
  intro a0 a1 a2 a3 a4 a5 a6 a7 a8 P Q A x _ _
  refine Ev.rounds ?_
  unfold gangerlaw10_ConfBack.f
  have known : Ev (fun k=>gangerlaw10_ConfBack.j0 k x true a0 a1 a2 a3 a4 a5 a6 a7 a8 P Q A) true:=by
    refine Ev.step (fun k=>by rw [gangerlaw10_ConfBack.j0]) ?_
    exact ev_pos rfl hk
  obtain ⟨b,hb,hf⟩:=long_ev ⟨a0,a1,a2,a3,a4,a5,a6,a7,a8⟩ P Q A
  refine Ev.bind hb ?_
  cases b with
  | true=>exact ev_pos rfl known
  | false =>
    have hs:=hf rfl
    refine ev_neg (by simp) ?_
    by_cases g : (x.size : Int) > 12000
    · rw [decide_eq_true g];exact known
    · rw [decide_eq_false g]
      have hs':=hs
      obtain ⟨h1,h2,h3,h4,h5,h6⟩:=hs'
      have hj:=back_j1 x (by omega)
      have hpr:=print_ev ⟨a0,a1,a2,a3,a4,a5,a6,a7,a8⟩ P Q A hs
      have hch:=check_ev ⟨a0,a1,a2,a3,a4,a5,a6,a7,a8⟩ (p:=P) (q:=Q) (a:=A) (by omega) (by omega) (by omega) h4 h5 (fun x hx=>(h6 x hx).1)
      unfold printR at hpr
      refine Ev.step (fun k=>by rw [gangerlaw10_ConfBack.j0]) ?_
      refine ev_neg (by simp) (Ev.bind hpr (Ev.bind hch ?_))
      by_cases hc : COK ⟨a0,a1,a2,a3,a4,a5,a6,a7,a8⟩ P Q A = true
      · rw [if_pos hc,if_pos hc]
        refine ev_neg (by simp) (ev_pos rfl (Ev.bind (parse_text hc) (ev_pos rfl (ev_pos rfl (Ev.bind (same_ev ⟨a0,a1,a2,a3,a4,a5,a6,a7,a8⟩ P Q A (by omega) (by omega) (by omega)) (ev_pos rfl hj))))))
      · rw [if_neg hc,if_neg hc]
        exact ev_neg (by decide) (ev_neg (by decide) hj)
end Go.Proofs.YtgidipomfbikiaaDoor.Pure
