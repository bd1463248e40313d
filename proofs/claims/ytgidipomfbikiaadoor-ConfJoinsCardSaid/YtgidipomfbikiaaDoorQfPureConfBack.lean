/- cut to what one law reaches -/
import Derived.Test.YtgidipomfbikiaaDoorQfCnfJoin
import Derived.Test.YtgidipomfbikiaaDoorQfCnfRPrint
import Derived.Test.YtgidipomfbikiaaDoorQfP0
import Derived.Test.YtgidipomfbikiaaDoorQfP10
import Derived.Test.YtgidipomfbikiaaDoorQfP12
import Derived.Test.YtgidipomfbikiaaDoorQfP5
import Derived.Test.YtgidipomfbikiaaDoorQfP7
import Derived.Test.YtgidipomfbikiaaDoorQfP8
import Derived.Test.YtgidipomfbikiaaDoorQfP14
import Derived.Test.YtgidipomfbikiaaDoorQfP17
import Derived.Test.YtgidipomfbikiaaDoorQfP19
namespace Go.Proofs.YtgidipomfbikiaaDoor.Pure
open Go.RowKit Go.Proofs.YtgidipomfbikiaaDoorW.PrintWords Go.Proofs.YtgidipomfbikiaaDoorW.PrintLast Go.Proofs.YtgidipomfbikiaaDoorW.PrintMore Go.Proofs.YtgidipomfbikiaaDoor.P Go.Proofs.YtgidipomfbikiaaDoor.NumM Go.Proofs.YtgidipomfbikiaaDoor.Cnf
set_option linter.unusedVariables false
set_option linter.unusedSimpArgs false
theorem f1_small : ∀ (s p : List S48),accOk p s = true→(∀ x ∈ p ++ s,NameOk x.f0 = true)→∀ x ∈ s,x.f1.size≤128
  | [],p,_,_,x,hx=>by cases hx
  | a :: s,p,h,hn,x,hx=>by
    rw [accOk,Bool.and_eq_true,Bool.and_eq_true,Bool.and_eq_true] at h
    obtain ⟨⟨⟨a1,a2⟩,a3⟩,a4⟩:=h
    rcases List.mem_cons.1 hx with q|q
    · subst q
      by_cases hp : p = []
      · subst hp
        have e : x.f1.toList = []:=by simpa using a2
        rw [ByteArray.toList_eq] at e
        have:=mk_self x.f1
        rw [e] at this
        rw [this];simp [mk_size]
      · have e1 : p.isEmpty = false:=by simp [hp]
        rw [e1,Bool.false_or] at a3
        unfold hasT at a3
        obtain ⟨y,hy,he⟩:=List.any_eq_true.1 a3
        obtain ⟨z,hz,rfl⟩:=List.mem_map.1 hy
        rw [list_eq (of_decide_eq_true he)]
        exact name_size (hn z (List.mem_append_left _ hz))
    · exact f1_small s (p ++ [a]) a4 (by simpa using hn) x q
theorem cok_small {h : Hd} {P : List S50} {Q : List S52} {A : List S48} (hc : COK h P Q A = true) : Small P Q A:=by
  have hb:=cok_b hc
  have hp:=names_all _ _ hb.np
  have hq:=names_all _ _ hb.nq
  have ha:=names_all _ _ hb.na
  have q1:=hb.lp;have q2:=hb.lq;have q3:=hb.la
  refine ⟨by omega,by omega,by omega,fun x hx=>?_,fun x hx=>?_,fun x hx=>⟨?_,?_⟩⟩
  · have:=name_size (hp _ (List.mem_map_of_mem hx));omega
  · have:=name_size (hq _ (List.mem_map_of_mem hx));omega
  · have:=name_size (ha _ (List.mem_map_of_mem hx));omega
  · have:=f1_small A [] hb.acc (fun y hy=>ha _ (List.mem_map_of_mem hy)) x hx;omega
theorem flat_len {α : Type} (f : α→List UInt8) (B : Nat) : ∀ l : List α,(∀ x ∈ l,(f x).length≤B)→(l.flatMap f).length≤B * l.length
  | [],h=>by simp
  | a :: l,h=>by
    have ih:=flat_len f B l (fun x hx=>h x (List.mem_cons_of_mem _ hx))
    have ha:=h a (List.mem_cons_self ..)
    rw [List.flatMap_cons,List.length_append,List.length_cons,Nat.mul_add];omega
theorem line_len (ws : List (List UInt8)) (h : ∀ x ∈ ws,x.length≤300) : (line ws).length≤301 * ws.length + 1:=by
  have:=join_len 300 ws h
  unfold line;rw [List.length_append,List.length_singleton];omega
theorem text_len_ {h : Hd} {P : List S50} {Q : List S52} {A : List S48} (hc : COK h P Q A = true) : (textT h P Q A).length≤160000:=by
  obtain ⟨_,_,_,s4,s5,s6⟩:=cok_small hc
  have hb:=cok_b hc
  obtain ⟨b0,b1,b2,b3,b4,b5,b6,b7,b8⟩:=hb.hb
  have q1:=hb.lp;have q2:=hb.lq;have q3:=hb.la
  have e1:=d_len (x:=h.f1) (by omega)
  have e2:=d_len (x:=h.f2) (by omega)
  have e3:=d_len (x:=h.f3) (by omega)
  have e4:=d_len (x:=h.f4) (by omega)
  have e5:=d_len (x:=h.f5) (by omega)
  have e6:=d_len (x:=h.f6) (by omega)
  have e7:=d_len (x:=h.f7) (by omega)
  have e8:=d_len (x:=h.f8) (by omega)
  have ep:=pol_sz h.f0
  have ept : polT h.f0 = (rdOf ByteArray.empty polW h.f0).data.toList:=rfl
  have hhl : (headT h).length≤1000:=by
    have:=sz_list (rdOf ByteArray.empty polW h.f0)
    rw [← ept] at this
    simp [headT,line,Lib.join_cons,Lib.joinTail,wPolicy,wHalf,wQuantum,wRequeues,wWeights]
    omega
  have h1:=flat_len partT 2409 P (fun x hx=>by
    have n0:=s4 x hx
    obtain ⟨c1,c2,c3⟩:=hb.p x hx
    have d1:=d_len (x:=x.f1) (by omega)
    have d2:=d_len (x:=x.f2) (by omega)
    have d3:=d_len (x:=x.f3) (by omega)
    have:=sz_list x.f0
    have:=line_len [wPartition,x.f0.data.toList,wOrder,d_ x.f1,wPriority,d_ x.f2,wLimit,d_ x.f3] (by
      intro y hy
      simp only [List.mem_cons,List.not_mem_nil,or_false] at hy
      rcases hy with rfl|rfl|rfl|rfl|rfl|rfl|rfl|rfl
      all_goals first|omega|decide)
    exact this)
  have h2:=flat_len classT 2409 Q (fun x hx=>by
    have n0:=s5 x hx
    obtain ⟨c1,c2⟩:=hb.q x hx
    have d1:=d_len (x:=x.f1) (by omega)
    have d2:=d_len (x:=x.f2) (by omega)
    have:=sz_list x.f0
    have:=line_len [wQos,x.f0.data.toList,wPriority,d_ x.f1,wMost,d_ x.f2] (by
      intro y hy
      simp only [List.mem_cons,List.not_mem_nil,or_false] at hy
      rcases hy with rfl|rfl|rfl|rfl|rfl|rfl
      all_goals first|omega|decide)
    exact Nat.le_trans this (by simp))
  have h3:=flat_len accT 2409 A (fun x hx=>by
    obtain ⟨n0,n1⟩:=s6 x hx
    have c1:=accOk_b A [] hb.acc x hx
    have d1:=d_len (x:=x.f2) (by omega)
    have:=sz_list x.f0
    have:=sz_list x.f1
    unfold accT
    split
    · have:=line_len [wAccount,x.f0.data.toList,wShares,d_ x.f2] (by
        intro y hy
        simp only [List.mem_cons,List.not_mem_nil,or_false] at hy
        rcases hy with rfl|rfl|rfl|rfl
        all_goals first|omega|decide)
      exact Nat.le_trans this (by simp)
    · have:=line_len [wAccount,x.f0.data.toList,wParent,x.f1.data.toList,wShares,d_ x.f2] (by
        intro y hy
        simp only [List.mem_cons,List.not_mem_nil,or_false] at hy
        rcases hy with rfl|rfl|rfl|rfl|rfl|rfl
        all_goals first|omega|decide)
      exact Nat.le_trans this (by simp))
  unfold textT
  rw [List.length_append,List.length_append,List.length_append]
  omega
end Go.Proofs.YtgidipomfbikiaaDoor.Pure
