/- cut to what one law reaches -/
import Derived.Test.YtgidipomfbikiaaDoorQeCnfHead
import Derived.Test.YtgidipomfbikiaaDoorQeP0
import Derived.Test.YtgidipomfbikiaaDoorQeP10
namespace Go.Proofs.YtgidipomfbikiaaDoor.Cnf
open Go.RowKit Go.Proofs.YtgidipomfbikiaaDoorW.PrintWords Go.Proofs.YtgidipomfbikiaaDoorW.PrintLast Go.Proofs.YtgidipomfbikiaaDoorW.PrintMore Go.Proofs.YtgidipomfbikiaaDoor.P Go.Proofs.YtgidipomfbikiaaDoor.NumM
set_option linter.unusedVariables false
set_option linter.unusedSimpArgs false
theorem names_all : ∀ (s p : List ByteArray),namesOk p s = true→∀ x ∈ s,NameOk x = true
  | [],p,_,x,hx=>by cases hx
  | a :: s,p,h,x,hx=>by
    rw [namesOk,Bool.and_eq_true,Bool.and_eq_true] at h
    rcases List.mem_cons.1 hx with q|q
    · subst q;exact h.1.1
    · exact names_all s _ h.2 x q
theorem list_eq {a b : ByteArray} (h : a.toList = b.toList) : a = b:=by
  rw [ByteArray.toList_eq,ByteArray.toList_eq] at h
  rw [mk_self a,mk_self b,h]
section
variable (c : Hd)
theorem run_A (P : List S50) (Q : List S52) : ∀ (s p : List S48) (part n : Int),(part = 3 ∨ (part = 2∧s ≠ []))→5 < n→accOk p s = true→(∀ x ∈ p ++ s,NameOk x.f0 = true)→COK c P Q (p ++ s) = true→runP ⟨part,n,c,P,Q,p⟩ (s.map accJ) [] = okR_ c P Q (p ++ s)∧∀ l ∈ s.map accJ,(10 : UInt8) ∉ l
  | [],p,part,n,hp,hn,ha,hnm,hc=>by
    have h3 : part = 3:=by
      rcases hp with q|q
      · exact q
      · exact absurd rfl q.2
    refine ⟨?_,by simp⟩
    rw [List.map_nil,runP,if_pos rfl]
    unfold endP
    rw [List.append_nil] at hc ⊢
    rw [if_pos h3,if_pos hc]
  | a :: s,p,part,n,hp,hn,ha,hnm,hc=>by
    rw [accOk,Bool.and_eq_true,Bool.and_eq_true,Bool.and_eq_true,inB_iff] at ha
    obtain ⟨⟨⟨a1,a2⟩,a3⟩,a4⟩:=ha
    have hA : p = []→a.f1.toList = []:=by
      intro e;subst e
      simpa using a2
    have hB : p ≠ []→a.f1.toList ≠ []∧NameOk a.f1 = true:=by
      intro e
      have hl : p.length ≠ 0:=fun z=>e (List.length_eq_zero_iff.1 z)
      constructor
      · intro z
        rw [z] at a2
        have e0 : ((p.length : Int) == 0) = false:=by simp;exact e
        rw [e0] at a2
        simp at a2
      · have e1 : p.isEmpty = false:=by simp [e]
        rw [e1,Bool.false_or] at a3
        unfold hasT at a3
        obtain ⟨x,hx,he⟩:=List.any_eq_true.1 a3
        obtain ⟨y,hy,rfl⟩:=List.mem_map.1 hx
        have:=list_eq (of_decide_eq_true he)
        rw [this]
        exact hnm y (List.mem_append_left _ hy)
    obtain ⟨l1,l2⟩:=later_acc a (hnm a (by simp)) (by omega) P Q p hA hB
    obtain ⟨ih1,ih2⟩:=run_A P Q s (p ++ [a]) 3 (n + 1) (Or.inl rfl) (by omega) a4 (by simpa using hnm) (by simpa using hc)
    constructor
    · rw [List.map_cons,runP]
      have hst : stepP ⟨part,n,c,P,Q,p⟩ (accJ a) = some ⟨3,n + 1,c,P,Q,p ++ [a]⟩:=by
        unfold stepP
        rw [if_neg (by show ¬ n≤5;omega)]
        simp only [l1]
        rw [if_pos (by omega)]
      rw [hst]
      simpa using ih1
    · intro l hl
      rw [List.map_cons] at hl
      rcases List.mem_cons.1 hl with q|q
      · subst q;exact l2
      · exact ih2 l q
theorem run_Q (P : List S50) (A : List S48) (hA : A ≠ []) (ha : accOk [] A = true) (hna : ∀ x ∈ A,NameOk x.f0 = true) : ∀ (s p : List S52) (part n : Int),(part = 2 ∨ (part = 1∧s ≠ []))→5 < n→(∀ x ∈ s,NameOk x.f0 = true∧(0≤x.f1∧x.f1≤1048576)∧(1≤x.f2∧x.f2≤1048576))→COK c P (p ++ s) A = true→runP ⟨part,n,c,P,p,[]⟩ (s.map classJ ++ A.map accJ) [] = okR_ c P (p ++ s) A∧∀ l ∈ s.map classJ ++ A.map accJ,(10 : UInt8) ∉ l
  | [],p,part,n,hp,hn,hs,hc=>by
    have h3 : part = 2:=by
      rcases hp with q|q
      · exact q
      · exact absurd rfl q.2
    rw [List.append_nil] at hc ⊢
    rw [List.map_nil,List.nil_append]
    exact run_A c P p A [] part n (Or.inr ⟨h3,hA⟩) hn ha hna hc
  | a :: s,p,part,n,hp,hn,hs,hc=>by
    obtain ⟨q1,q2,q3⟩:=hs a (List.mem_cons_self ..)
    obtain ⟨l1,l2⟩:=later_class a q1 (by omega) (by omega) P p []
    obtain ⟨ih1,ih2⟩:=run_Q P A hA ha hna s (p ++ [a]) 2 (n + 1) (Or.inl rfl) (by omega) (fun x hx=>hs x (List.mem_cons_of_mem _ hx)) (by simpa using hc)
    constructor
    · rw [List.map_cons,List.cons_append,runP]
      have hst : stepP ⟨part,n,c,P,p,[]⟩ (classJ a) = some ⟨2,n + 1,c,P,p ++ [a],[]⟩:=by
        unfold stepP
        rw [if_neg (by show ¬ n≤5;omega)]
        simp only [l1]
        rw [if_pos (by omega)]
      rw [hst]
      simpa using ih1
    · intro l hl
      rw [List.map_cons,List.cons_append] at hl
      rcases List.mem_cons.1 hl with q|q
      · subst q;exact l2
      · exact ih2 l q
theorem run_P (Q : List S52) (A : List S48) (hQ : Q ≠ []) (hq : ∀ x ∈ Q,NameOk x.f0 = true∧(0≤x.f1∧x.f1≤1048576)∧(1≤x.f2∧x.f2≤1048576)) (hA : A ≠ []) (ha : accOk [] A = true) (hna : ∀ x ∈ A,NameOk x.f0 = true) : ∀ (s p : List S50) (part n : Int),(part = 1 ∨ (part = 0∧s ≠ []))→5 < n→(∀ x ∈ s,NameOk x.f0 = true∧(0≤x.f1∧x.f1≤10)∧(0≤x.f2∧x.f2≤1048576)∧(1≤x.f3∧x.f3≤1073741824))→COK c (p ++ s) Q A = true→runP ⟨part,n,c,p,[],[]⟩ (s.map partJ ++ (Q.map classJ ++ A.map accJ)) [] = okR_ c (p ++ s) Q A∧∀ l ∈ s.map partJ ++ (Q.map classJ ++ A.map accJ),(10 : UInt8) ∉ l
  | [],p,part,n,hp,hn,hs,hc=>by
    have h3 : part = 1:=by
      rcases hp with q|q
      · exact q
      · exact absurd rfl q.2
    rw [List.append_nil] at hc ⊢
    rw [List.map_nil,List.nil_append]
    exact run_Q c p A hA ha hna Q [] part n (Or.inr ⟨h3,hQ⟩) hn hq hc
  | a :: s,p,part,n,hp,hn,hs,hc=>by
    obtain ⟨q1,q2,q3,q4⟩:=hs a (List.mem_cons_self ..)
    obtain ⟨l1,l2⟩:=later_part a q1 (by omega) (by omega) (by omega) p [] []
    obtain ⟨ih1,ih2⟩:=run_P Q A hQ hq hA ha hna s (p ++ [a]) 1 (n + 1) (Or.inl rfl) (by omega) (fun x hx=>hs x (List.mem_cons_of_mem _ hx)) (by simpa using hc)
    constructor
    · rw [List.map_cons,List.cons_append,runP]
      have hst : stepP ⟨part,n,c,p,[],[]⟩ (partJ a) = some ⟨1,n + 1,c,p ++ [a],[],[]⟩:=by
        unfold stepP
        rw [if_neg (by show ¬ n≤5;omega)]
        simp only [l1]
        rw [if_pos (by omega)]
      rw [hst]
      simpa using ih1
    · intro l hl
      rw [List.map_cons,List.cons_append] at hl
      rcases List.mem_cons.1 hl with q|q
      · subst q;exact l2
      · exact ih2 l q
end
theorem nn {x : Int} (h : 0≤x∧x≤4294967296) : ∀ y ∈ [x],0≤y∧y≤4294967296:=by
  intro y hy;rw [List.mem_singleton.1 hy];exact h
theorem noN : ∀ w ∈ ([] : List (List UInt8)),NameOk (mk w) = true:=by intro w hw;cases hw
theorem first1 (c : Hd) (x : Int) (h : 0≤x∧x≤4294967296) : firstP 1 (Lib.join [wHalf,d_ x] [32]) c = some { c with f1:=x }∧(10 : UInt8) ∉ Lib.join [wHalf,d_ x] [32]:=by
  have hf:=forth halfL.data.toList [x] [] (by rw [spl_half];rfl) (by rw [spl_half];rfl) (nn h) noN
  have h10:=forth10 halfL.data.toList [x] [] (by rw [spl_half];decide) noN
  rw [fill_half] at hf h10
  refine ⟨?_,h10⟩
  unfold firstP
  rw [if_neg (by decide),if_pos rfl,hf.2];rfl
theorem first2 (c : Hd) (x : Int) (h : 0≤x∧x≤4294967296) : firstP 2 (Lib.join [wQuantum,d_ x] [32]) c = some { c with f2:=x }∧(10 : UInt8) ∉ Lib.join [wQuantum,d_ x] [32]:=by
  have hf:=forth quantL.data.toList [x] [] (by rw [spl_quant];rfl) (by rw [spl_quant];rfl) (nn h) noN
  have h10:=forth10 quantL.data.toList [x] [] (by rw [spl_quant];decide) noN
  rw [fill_quant] at hf h10
  refine ⟨?_,h10⟩
  unfold firstP
  rw [if_neg (by decide),if_neg (by decide),if_pos rfl,hf.2];rfl
theorem first3 (c : Hd) (x : Int) (h : 0≤x∧x≤4294967296) : firstP 3 (Lib.join [wRequeues,d_ x] [32]) c = some { c with f3:=x }∧(10 : UInt8) ∉ Lib.join [wRequeues,d_ x] [32]:=by
  have hf:=forth requL.data.toList [x] [] (by rw [spl_requ];rfl) (by rw [spl_requ];rfl) (nn h) noN
  have h10:=forth10 requL.data.toList [x] [] (by rw [spl_requ];decide) noN
  rw [fill_requ] at hf h10
  refine ⟨?_,h10⟩
  unfold firstP
  rw [if_neg (by decide),if_neg (by decide),if_neg (by decide),if_pos rfl,hf.2];rfl
theorem first4 (c : Hd) (x y z u v : Int) (h1 : 0≤x∧x≤4294967296) (h2 : 0≤y∧y≤4294967296) (h3 : 0≤z∧z≤4294967296) (h4 : 0≤u∧u≤4294967296) (h5 : 0≤v∧v≤4294967296) : firstP 4 (Lib.join [wWeights,d_ x,d_ y,d_ z,d_ u,d_ v] [32]) c = some { c with f4:=x,f5:=y,f6:=z,f7:=u,f8:=v }∧(10 : UInt8) ∉ Lib.join [wWeights,d_ x,d_ y,d_ z,d_ u,d_ v] [32]:=by
  have hb : ∀ w ∈ [x,y,z,u,v],0≤w∧w≤4294967296:=by
    intro w hw
    simp only [List.mem_cons,List.not_mem_nil,or_false] at hw
    rcases hw with rfl|rfl|rfl|rfl|rfl <;> assumption
  have hf:=forth weigL.data.toList [x,y,z,u,v] [] (by rw [spl_weig];rfl) (by rw [spl_weig];rfl) hb noN
  have h10:=forth10 weigL.data.toList [x,y,z,u,v] [] (by rw [spl_weig];decide) noN
  rw [fill_weig] at hf h10
  refine ⟨?_,h10⟩
  unfold firstP
  rw [if_neg (by decide),if_neg (by decide),if_neg (by decide),if_neg (by decide),hf.2];rfl
theorem first0 (c : Hd) (p : Int) (h : 1≤p∧p≤4) : firstP 0 (Lib.join [wPolicy,polT p] [32]) { c with f0:=0 } = some { c with f0:=p }∧(10 : UInt8) ∉ Lib.join [wPolicy,polT p] [32]:=by
  have hv : polF (mk (Lib.join [wPolicy,polT p] [32])) polW 0 0 = p:=by
    rcases (show p = 1 ∨ p = 2 ∨ p = 3 ∨ p = 4 by omega) with rfl|rfl|rfl|rfl
    all_goals (simp only [polF,polW,ByteArray.toList_eq,mk_data];decide)
  constructor
  · unfold firstP
    rw [if_pos rfl]
    simp only [hv]
    rw [if_pos (by omega)]
  · rcases (show p = 1 ∨ p = 2 ∨ p = 3 ∨ p = 4 by omega) with rfl|rfl|rfl|rfl <;> decide
/-- a printed text's lines -/
def linesT (h : Hd) (P : List S50) (Q : List S52) (A : List S48) : List (List UInt8):=Lib.join [wPolicy,polT h.f0] [32] :: Lib.join [wHalf,d_ h.f1] [32] :: Lib.join [wQuantum,d_ h.f2] [32] :: Lib.join [wRequeues,d_ h.f3] [32] :: Lib.join [wWeights,d_ h.f4,d_ h.f5,d_ h.f6,d_ h.f7,d_ h.f8] [32] :: (P.map partJ ++ (Q.map classJ ++ A.map accJ))
theorem glue_app (a b : List (List UInt8)) : glue (a ++ b) = glue a ++ glue b:=by simp [glue]
theorem glue_part : ∀ P : List S50,glue (P.map partJ) = P.flatMap partT
  | []=>rfl
  | p :: P=>by
    have ih:=glue_part P
    unfold glue at ih ⊢
    rw [List.map_cons,List.flatMap_cons,ih,List.flatMap_cons];rfl
theorem glue_class : ∀ P : List S52,glue (P.map classJ) = P.flatMap classT
  | []=>rfl
  | p :: P=>by
    have ih:=glue_class P
    unfold glue at ih ⊢
    rw [List.map_cons,List.flatMap_cons,ih,List.flatMap_cons];rfl
theorem glue_acc : ∀ P : List S48,glue (P.map accJ) = P.flatMap accT
  | []=>rfl
  | p :: P=>by
    have ih:=glue_acc P
    unfold glue at ih ⊢
    rw [List.map_cons,List.flatMap_cons,ih,List.flatMap_cons,accJ_T]
theorem lines_text (h : Hd) (P : List S50) (Q : List S52) (A : List S48) : glue (linesT h P Q A) = textT h P Q A:=by
  have e : glue (linesT h P Q A) = headT h ++ glue (P.map partJ ++ (Q.map classJ ++ A.map accJ)):=by simp [glue,linesT,headT,line]
  rw [e,glue_app,glue_app,glue_part,glue_class,glue_acc]
  simp [textT]
theorem first_step {n : Int} {c c' : Hd} {l : List UInt8} {ls : List (List UInt8)} {t : List UInt8} (h5 : n≤5) (hf : firstP (n - 1) l c = some c') : runP ⟨0,n,c,[],[],[]⟩ (l :: ls) t = runP ⟨0,n + 1,c',[],[],[]⟩ ls t:=by
  rw [runP]
  have : stepP ⟨0,n,c,[],[],[]⟩ l = some ⟨0,n + 1,c',[],[],[]⟩:=by
    unfold stepP
    rw [if_pos h5]
    simp only [hf]
    rfl
  rw [this]
/-- printed, read: the same -/
theorem parse_forth (h : Hd) (P : List S50) (Q : List S52) (A : List S48) (hc : COK h P Q A = true) : runP start (linesT h P Q A) [] = okR_ h P Q A∧∀ l ∈ linesT h P Q A,(10 : UInt8) ∉ l:=by
  have hb:=cok_b hc
  obtain ⟨b0,b1,b2,b3,b4,b5,b6,b7,b8⟩:=hb.hb
  obtain ⟨x0,x1,x2,x3,x4,x5,x6,x7,x8⟩:=h
  simp only [] at b0 b1 b2 b3 b4 b5 b6 b7 b8
  have hp:=names_all _ _ hb.np
  have hq:=names_all _ _ hb.nq
  have ha:=names_all _ _ hb.na
  have ne {α : Type} {l : List α} (h : 1≤l.length) : l ≠ []:=fun e=>by subst e;simp at h
  obtain ⟨r1,r2⟩:=run_P ⟨x0,x1,x2,x3,x4,x5,x6,x7,x8⟩ Q A (ne hb.lq.1) (fun x hx=>⟨hq _ (List.mem_map_of_mem hx),hb.q x hx⟩) (ne hb.la.1) hb.acc (fun x hx=>ha _ (List.mem_map_of_mem hx)) P [] 0 6 (Or.inr ⟨rfl,ne hb.lp.1⟩) (by decide) (fun x hx=>⟨hp _ (List.mem_map_of_mem hx),hb.p x hx⟩) hc
  have f0:=first0 ⟨0,0,0,0,0,0,0,0,0⟩ x0 b0
  have f1:=first1 ⟨x0,0,0,0,0,0,0,0,0⟩ x1 (by omega)
  have f2:=first2 ⟨x0,x1,0,0,0,0,0,0,0⟩ x2 (by omega)
  have f3:=first3 ⟨x0,x1,x2,0,0,0,0,0,0⟩ x3 (by omega)
  have f4:=first4 ⟨x0,x1,x2,x3,0,0,0,0,0⟩ x4 x5 x6 x7 x8 (by omega) (by omega) (by omega) (by omega) (by omega)
  constructor
  · unfold start linesT
    rw [first_step (by decide) (show firstP (1 - 1) _ _ = _ from f0.1),first_step (by decide) (show firstP (1 + 1 - 1) _ _ = _ from f1.1),first_step (by decide) (show firstP (1 + 1 + 1 - 1) _ _ = _ from f2.1),first_step (by decide) (show firstP (1 + 1 + 1 + 1 - 1) _ _ = _ from f3.1),first_step (by decide) (show firstP (1 + 1 + 1 + 1 + 1 - 1) _ _ = _ from f4.1)]
    exact r1
  · intro l hl
    unfold linesT at hl
    simp only [List.mem_cons] at hl
    rcases hl with rfl|rfl|rfl|rfl|rfl|hl
    · exact f0.2
    · exact f1.2
    · exact f2.2
    · exact f3.2
    · exact f4.2
    · exact r2 l hl
end Go.Proofs.YtgidipomfbikiaaDoor.Cnf
