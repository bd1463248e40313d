/- cut to what one law reaches -/
import Derived.Test.YtgidipomfbikiaaDoorQdCnfBase
import Derived.Test.YtgidipomfbikiaaDoorQdRefName
import Derived.Test.YtgidipomfbikiaaDoorQdP0
import Derived.Test.YtgidipomfbikiaaDoorQdP6
import Derived.Test.YtgidipomfbikiaaDoorQdP7
import Derived.Test.YtgidipomfbikiaaDoorQdP10
import Derived.Test.YtgidipomfbikiaaDoorQdP14
import Derived.Test.YtgidipomfbikiaaDoorQdP15
import Derived.Test.YtgidipomfbikiaaDoorQdP16
namespace Go.Proofs.YtgidipomfbikiaaDoor.Cnf
open Go.RowKit Go.Proofs.YtgidipomfbikiaaDoorW.PrintWords Go.Proofs.YtgidipomfbikiaaDoorW.PrintLast Go.Proofs.YtgidipomfbikiaaDoorW.PrintMore Go.Proofs.YtgidipomfbikiaaDoor.P Go.Proofs.YtgidipomfbikiaaDoor.NumM
set_option linter.unusedVariables false
set_option linter.unusedSimpArgs false
theorem tl (s : ByteArray) : s.toList = s.data.toList:=ByteArray.toList_eq ..
theorem hasT_iff (l : List ByteArray) (a : ByteArray) : hasT l a = true ↔ ∃ x ∈ l,a.data.toList = x.data.toList:=by
  unfold hasT
  rw [List.any_eq_true]
  constructor
  · rintro ⟨x,hx,h⟩
    refine ⟨x,hx,?_⟩
    have:=of_decide_eq_true h
    rwa [tl,tl] at this
  · rintro ⟨x,hx,h⟩
    exact ⟨x,hx,decide_eq_true (by rw [tl,tl];exact h)⟩
theorem nameOk_ne {s : ByteArray} (h : NameOk s = true) : s.data.toList ≠ []:=by
  intro e
  have hs : s.size = 0:=by
    show s.data.size = 0
    rw [← Array.length_toList,e];rfl
  unfold NameOk at h
  rw [hs,nameAt,if_neg (by omega),tl,e] at h
  simp at h
theorem refname {s : ByteArray} (h : s.size≤300) : Ev (fun k=>gangerref09_Name.f k s) (NameOk s):=RefName.name_ev s (by omega)
theorem refout (n lo hi : Int) (h : lo≤hi) : gangerref10_out.f n lo hi = some (!inB n lo hi):=by
  unfold gangerref10_out.f inB
  by_cases q : n < lo
  · rw [if_pos q,decide_eq_false (show ¬ lo≤n by omega)];rfl
  · rw [if_neg q,decide_eq_true (show lo≤n by omega),Bool.true_and]
    congr 1
    rw [← decide_not]
    exact decide_eq_decide.2 (by omega)
/-- the reference's tree -/
def treeR : List S48→List S48→Bool
  | p,[]=>true
  | p,a :: r=>(NameOk a.f0 && inB a.f2 1 1048576) && (!hasT (p.map (·.f0)) a.f0 && ((p.isEmpty && a.f1.toList == []) || hasT (p.map (·.f0)) a.f1)) && treeR (p ++ [a]) r
theorem tree_l1 (p s : List S48) (a : S48) (hp : (p ++ a :: s).length < 1000000) (r : Int) : ∀ (q t : List S48) (has : Bool),p = q ++ t →
    (hasT (t.map (·.f0)) a.f0 = false→(has || hasT (t.map (·.f0)) a.f1) = true→Ev (fun k=>gangerref10_tree.l0 k (p ++ a :: s) ((p.length : Int) + 1)) r) →
    Ev (fun k=>gangerref10_tree.l1 k (p ++ a :: s) (p.length : Int) has (q.length : Int)) (if hasT (t.map (·.f0)) a.f0 = false∧(has || hasT (t.map (·.f0)) a.f1) = true then r else 100)
  | q,[],has,e,h=>by
    refine Ev.step (fun k=>by rw [gangerref10_tree.l1]) ?_
    have : q = p:=by rw [e];simp
    subst this
    refine ev_neg (by omega) ?_
    have h0 : ∀ x,hasT (([] : List S48).map (·.f0)) x = false:=fun x=>rfl
    simp only [h0,Bool.or_false,true_and] at h ⊢
    cases has with
    | true =>
      refine ev_pos rfl ?_
      rw [if_pos rfl,w64 (by simp at hp;omega)]
      exact h trivial rfl
    | false=>refine ev_neg (by simp) ?_;exact Ev.now _
  | q,b :: t,has,e,h=>by
    have hpl : p.length = q.length + t.length + 1:=by rw [e];simp;omega
    have ea : rd_T48 (p ++ a :: s) (p.length : Int) = a:=rd48_mid p a s
    have eb : rd_T48 (p ++ a :: s) (q.length : Int) = b:=by rw [e,List.append_assoc];exact rd48_mid q b _
    have hll : (p ++ a :: s).length = p.length + s.length + 1:=by simp;omega
    have hc : ∀ x,hasT ((b :: t).map (·.f0)) x = (decide (x.toList = b.f0.toList) || hasT (t.map (·.f0)) x):=fun x=>rfl
    have ih:=fun has'=>tree_l1 p s a hp r (q ++ [b]) t has' (by rw [e];simp)
    have ew : wrap64 ((q.length : Int) + 1) = ((q ++ [b]).length : Int):=wsucc q b (by omega)
    refine Ev.step (fun k=>by rw [gangerref10_tree.l1]) ?_
    refine ev_pos (by omega) (ev_pos (by omega) (ev_pos (by omega) (ev_pos (by omega) (ev_pos (by omega) ?_))))
    rw [ea,eb,hc,hc,ew]
    simp only [hc] at h
    by_cases g : b.f0.toList = a.f0.toList
    · refine ev_pos g ?_
      rw [decide_eq_true g.symm,if_neg (by simp)]
      exact Ev.now _
    · refine ev_neg g ?_
      rw [decide_eq_false (fun x=>g x.symm),Bool.false_or] at h ⊢
      cases has with
      | true =>
        refine ev_pos rfl ?_
        have:=ih true (fun x _=>h x rfl)
        simpa using this
      | false =>
        refine ev_neg (by simp) ?_
        have e2 : (b.f0.toList == a.f1.toList) = decide (a.f1.toList = b.f0.toList):=by
          by_cases w : a.f1.toList = b.f0.toList
          · rw [decide_eq_true w,w];simp
          · rw [decide_eq_false w];simp;exact fun x=>w x.symm
        rw [e2]
        have:=ih (decide (a.f1.toList = b.f0.toList)) (fun x y=>h x (by rw [Bool.false_or];exact y))
        simpa using this
theorem tree_l0 : ∀ (s p : List S48),(p ++ s).length < 1000000→(∀ x ∈ s,x.f0.size≤300) →
    Ev (fun k=>gangerref10_tree.l0 k (p ++ s) (p.length : Int)) (if treeR p s = true then 0 else 100)
  | [],p,h,hs=>by
    refine Ev.step (fun k=>by rw [gangerref10_tree.l0]) ?_
    refine ev_neg (by simp) ?_
    exact Ev.now _
  | a :: s,p,h,hs=>by
    have hl : (p ++ a :: s).length = p.length + s.length + 1:=by simp;omega
    have ih:=tree_l0 s (p ++ [a]) (by simpa using h) (fun y hy=>hs y (List.mem_cons_of_mem _ hy))
    have ea : rd_T48 (p ++ a :: s) (p.length : Int) = a:=rd48_mid p a s
    refine Ev.step (fun k=>by rw [gangerref10_tree.l0]) ?_
    refine ev_pos (by omega) (ev_pos (by omega) ?_)
    rw [ea,treeR]
    have bad : Ev (fun k=>gangerref10_tree.j1 k (p ++ a :: s) (p.length : Int) true) 100:=by
      refine Ev.step (fun k=>by rw [gangerref10_tree.j1]) ?_
      exact ev_pos rfl (Ev.now _)
    refine Ev.bind (refname (hs a (List.mem_cons_self ..))) ?_
    cases hn : NameOk a.f0 with
    | false=>refine ev_neg (by simp) ?_;simpa using bad
    | true =>
      refine ev_pos rfl ?_
      rw [refout _ _ _ (by omega)]
      refine Ev.bind (Ev.now _) ?_
      cases hb : inB a.f2 1 1048576 with
      | false=>simpa using bad
      | true =>
        refine Ev.step (fun k=>by rw [gangerref10_tree.j1]) ?_
        refine ev_neg (by simp) ?_
        have fin : ∀ has,has = (p.isEmpty && a.f1.toList == [])→Ev (fun k=>gangerref10_tree.j2 k (p ++ a :: s) (p.length : Int) has) (if ((true && true) && (!hasT (p.map (·.f0)) a.f0 && ((p.isEmpty && a.f1.toList == []) || hasT (p.map (·.f0)) a.f1)) && treeR (p ++ [a]) s) = true then 0 else 100):=by
          intro has e
          refine Ev.step (fun k=>by rw [gangerref10_tree.j2]) ?_
          have:=tree_l1 p s a h (if treeR (p ++ [a]) s = true then 0 else 100) [] p has rfl (fun _ _=>by
            have e1 : ((p ++ [a]).length : Int) = (p.length : Int) + 1:=by simp
            rw [e1] at ih
            simpa using ih)
          rw [← e]
          have e5 : (if ((true && true) && (!hasT (p.map (·.f0)) a.f0 && (has || hasT (p.map (·.f0)) a.f1)) && treeR (p ++ [a]) s) = true then (0 : Int) else 100) = (if hasT (p.map (·.f0)) a.f0 = false∧(has || hasT (p.map (·.f0)) a.f1) = true then (if treeR (p ++ [a]) s = true then 0 else 100) else 100):=by
            cases hasT (p.map (·.f0)) a.f0 <;> cases (has || hasT (p.map (·.f0)) a.f1) <;> simp
          rw [e5]
          exact this
        by_cases g : (p.length : Int) = 0
        · refine ev_pos g (ev_pos (by omega) (ev_pos (by omega) ?_))
          rw [ea]
          have : p = []:=List.length_eq_zero_iff.1 (by omega)
          exact fin _ (by rw [this];rfl)
        · refine ev_neg g (fin _ ?_)
          cases p with
          | nil=>simp at g
          | cons _ _=>rfl
theorem hasT_ne {p : List S48} (hp : ∀ x ∈ p,NameOk x.f0 = true) {a : ByteArray} (h : hasT (p.map (·.f0)) a = true) : a.toList ≠ []:=by
  obtain ⟨x,hx,e⟩:=(hasT_iff _ _).1 h
  obtain ⟨y,hy,rfl⟩:=List.mem_map.1 hx
  rw [tl,e]
  exact nameOk_ne (hp y hy)
theorem treeR_eq : ∀ (s p : List S48),(∀ x ∈ p,NameOk x.f0 = true)→treeR p s = (accOk p s && namesOk (p.map (·.f0)) (s.map (·.f0)))
  | [],p,hp=>rfl
  | a :: s,p,hp=>by
    rw [treeR,accOk,List.map_cons,namesOk]
    cases hn : NameOk a.f0 with
    | false=>simp
    | true =>
      have ih:=treeR_eq s (p ++ [a]) (by
        intro x hx
        rcases List.mem_append.1 hx with q|q
        · exact hp x q
        · rw [List.mem_singleton.1 q];exact hn)
      rw [ih,List.map_append,List.map_cons,List.map_nil]
      cases hb : inB a.f2 1 1048576 with
      | false=>simp
      | true =>
        cases hd : hasT (p.map (·.f0)) a.f0 with
        | true=>simp
        | false =>
          have key : ((p.isEmpty && a.f1.toList == []) || hasT (p.map (·.f0)) a.f1) = ((((p.length : Int) == 0) == (a.f1.toList == [])) && (p.isEmpty || hasT (p.map (·.f0)) a.f1)):=by
            cases p with
            | nil=>cases (a.f1.toList == []) <;> rfl
            | cons b p =>
              have e0 : (((b :: p).length : Int) == 0) = false:=by simp;omega
              rw [e0]
              cases hc : hasT ((b :: p).map (·.f0)) a.f1 with
              | false=>simp
              | true =>
                have:=hasT_ne hp hc
                simp [this]
          rw [key]
          simp only [Bool.true_and,Bool.not_false,Bool.and_assoc]
/-- the reference's partitions, classes -/
def partsR : List S50→List S50→Bool
  | p,[]=>true
  | p,a :: r=>(NameOk a.f0 && partOk a) && !hasT (p.map (·.f0)) a.f0 && partsR (p ++ [a]) r
def classesR : List S52→List S52→Bool
  | p,[]=>true
  | p,a :: r=>(NameOk a.f0 && classOk a) && !hasT (p.map (·.f0)) a.f0 && classesR (p ++ [a]) r
theorem partsR_eq : ∀ (s p : List S50),partsR p s = (s.all partOk && namesOk (p.map (·.f0)) (s.map (·.f0)))
  | [],p=>rfl
  | a :: s,p=>by
    rw [partsR,List.all_cons,List.map_cons,namesOk,partsR_eq s (p ++ [a]),List.map_append,List.map_cons,List.map_nil]
    cases NameOk a.f0 <;> cases partOk a <;> cases hasT (p.map (·.f0)) a.f0 <;> simp
theorem classesR_eq : ∀ (s p : List S52),classesR p s = (s.all classOk && namesOk (p.map (·.f0)) (s.map (·.f0)))
  | [],p=>rfl
  | a :: s,p=>by
    rw [classesR,List.all_cons,List.map_cons,namesOk,classesR_eq s (p ++ [a]),List.map_append,List.map_cons,List.map_nil]
    cases NameOk a.f0 <;> cases classOk a <;> cases hasT (p.map (·.f0)) a.f0 <;> simp
theorem hasT_snoc {α : Type} (f : α→ByteArray) (q : List α) (b : α) (a : ByteArray) : hasT ((q ++ [b]).map f) a = (hasT (q.map f) a || decide (a.toList = (f b).toList)):=by
  unfold hasT
  simp
section ref
variable (h : Hd) (P : List S50) (Q : List S52) (A : List S48)
theorem ref_l1 (a : S50) (p s : List S50) (e : P = p ++ a :: s) (hl : P.length < 1000000) (r : Int)
    (hr : hasT (p.map (·.f0)) a.f0 = false→Ev (fun k=>gangerref10_Check.l0 k ((p.length : Int) + 1) h.f0 h.f1 h.f2 h.f3 h.f4 h.f5 h.f6 h.f7 h.f8 P Q A) r) : ∀ (t q : List S50),p = q ++ t→hasT (q.map (·.f0)) a.f0 = false →
    Ev (fun k=>gangerref10_Check.l1 k (p.length : Int) (q.length : Int) h.f0 h.f1 h.f2 h.f3 h.f4 h.f5 h.f6 h.f7 h.f8 P Q A a.f0 a.f1 a.f2 a.f3) (if hasT (p.map (·.f0)) a.f0 = true then 100 else r)
  | [],q,e1,h0=>by
    have : q = p:=by rw [e1];simp
    subst this
    have hlt : q.length < P.length:=by rw [e];simp
    refine Ev.step (fun k=>by rw [gangerref10_Check.l1]) ?_
    refine ev_neg (by omega) ?_
    rw [w64 (by omega),h0,if_neg (by simp)]
    exact hr h0
  | b :: t,q,e1,h0=>by
    have hlt : p.length < P.length:=by rw [e];simp
    have hpl : p.length = q.length + t.length + 1:=by rw [e1];simp;omega
    have eb : rd_T50 P (q.length : Int) = b:=by rw [e,e1,List.append_assoc];exact rd50_mid q b _
    refine Ev.step (fun k=>by rw [gangerref10_Check.l1]) ?_
    refine ev_pos (by omega) (ev_pos (by omega) (ev_pos (by omega) ?_))
    rw [eb]
    by_cases g : b.f0.toList = a.f0.toList
    · refine ev_pos g ?_
      have : hasT (p.map (·.f0)) a.f0 = true:=by
        rw [e1];unfold hasT;simp [g]
      rw [this,if_pos rfl]
      exact Ev.now _
    · refine ev_neg g ?_
      rw [wsucc q b (by omega)]
      exact ref_l1 a p s e hl r hr t (q ++ [b]) (by rw [e1];simp) (by rw [hasT_snoc,h0,decide_eq_false (fun x=>g x.symm)];rfl)
theorem ref_l0 (v : Int) (hv : Ev (fun k=>gangerref10_Check.l2 k 0 h.f0 h.f1 h.f2 h.f3 h.f4 h.f5 h.f6 h.f7 h.f8 P Q A) v) (hl : P.length < 1000000) (hn : ∀ x ∈ P,x.f0.size≤300) : ∀ (s p : List S50),P = p ++ s →
    Ev (fun k=>gangerref10_Check.l0 k (p.length : Int) h.f0 h.f1 h.f2 h.f3 h.f4 h.f5 h.f6 h.f7 h.f8 P Q A) (if partsR p s = true then v else 100)
  | [],p,e=>by
    refine Ev.step (fun k=>by rw [gangerref10_Check.l0]) ?_
    refine ev_neg (by rw [e];simp) ?_
    exact hv
  | a :: s,p,e=>by
    have hlt : p.length < P.length:=by rw [e];simp
    have ih:=ref_l0 v hv hl hn s (p ++ [a]) (by rw [e];simp)
    have ea : rd_T50 P (p.length : Int) = a:=by rw [e];exact rd50_mid p a s
    have bad : ∀ (n : ByteArray) (x y z : Int),Ev (fun k=>gangerref10_Check.j4 k (p.length : Int) true h.f0 h.f1 h.f2 h.f3 h.f4 h.f5 h.f6 h.f7 h.f8 P Q A n x y z) 100:=by
      intro n x y z
      refine Ev.step (fun k=>by rw [gangerref10_Check.j4]) ?_
      exact ev_pos rfl (Ev.now _)
    refine Ev.step (fun k=>by rw [gangerref10_Check.l0]) ?_
    refine ev_pos (by omega) (ev_pos (by omega) ?_)
    rw [ea,partsR]
    refine Ev.bind (refname (hn a (by rw [e];simp))) ?_
    cases hn : NameOk a.f0 with
    | false=>refine ev_neg (by simp) ?_;simpa using bad _ _ _ _
    | true =>
      refine ev_pos rfl ?_
      rw [refout _ _ _ (by omega),refout _ _ _ (by omega),refout _ _ _ (by omega),show partOk a = (inB a.f1 0 10 && inB a.f2 0 1048576 && inB a.f3 1 1073741824) from rfl]
      refine Ev.bind (Ev.now _) ?_
      cases hb : inB a.f1 0 10 with
      | false=>refine ev_pos rfl ?_;simpa using bad _ _ _ _
      | true =>
      refine ev_neg (by simp) (Ev.bind (Ev.now _) ?_)
      cases hc : inB a.f2 0 1048576 with
      | false=>refine ev_pos rfl ?_;simpa using bad _ _ _ _
      | true =>
      refine ev_neg (by simp) (Ev.bind (Ev.now _) ?_)
      cases hd : inB a.f3 1 1073741824 with
      | false=>simpa using bad _ _ _ _
      | true =>
      refine Ev.step (fun k=>by rw [gangerref10_Check.j4]) ?_
      refine ev_neg (by simp) ?_
      have:=ref_l1 h P Q A a p s e hl (if partsR (p ++ [a]) s = true then v else 100) (fun _=>by
        have e1 : ((p ++ [a]).length : Int) = (p.length : Int) + 1:=by simp
        rw [e1] at ih
        exact ih) p [] rfl rfl
      have e5 : (if (true && (true && true && true) && !hasT (p.map (·.f0)) a.f0 && partsR (p ++ [a]) s) = true then v else 100) = (if hasT (p.map (·.f0)) a.f0 = true then 100 else (if partsR (p ++ [a]) s = true then v else 100)):=by
        cases hasT (p.map (·.f0)) a.f0 <;> simp
      rw [e5]
      exact this
theorem ref_l3 (a : S52) (p s : List S52) (e : Q = p ++ a :: s) (hl : Q.length < 1000000) (r : Int)
    (hr : hasT (p.map (·.f0)) a.f0 = false→Ev (fun k=>gangerref10_Check.l2 k ((p.length : Int) + 1) h.f0 h.f1 h.f2 h.f3 h.f4 h.f5 h.f6 h.f7 h.f8 P Q A) r) : ∀ (t q : List S52),p = q ++ t→hasT (q.map (·.f0)) a.f0 = false →
    Ev (fun k=>gangerref10_Check.l3 k (p.length : Int) (q.length : Int) h.f0 h.f1 h.f2 h.f3 h.f4 h.f5 h.f6 h.f7 h.f8 P Q A a.f0 a.f1 a.f2) (if hasT (p.map (·.f0)) a.f0 = true then 100 else r)
  | [],q,e1,h0=>by
    have : q = p:=by rw [e1];simp
    subst this
    have hlt : q.length < Q.length:=by rw [e];simp
    refine Ev.step (fun k=>by rw [gangerref10_Check.l3]) ?_
    refine ev_neg (by omega) ?_
    rw [w64 (by omega),h0,if_neg (by simp)]
    exact hr h0
  | b :: t,q,e1,h0=>by
    have hlt : p.length < Q.length:=by rw [e];simp
    have hpl : p.length = q.length + t.length + 1:=by rw [e1];simp;omega
    have eb : rd_T52 Q (q.length : Int) = b:=by rw [e,e1,List.append_assoc];exact rd52_mid q b _
    refine Ev.step (fun k=>by rw [gangerref10_Check.l3]) ?_
    refine ev_pos (by omega) (ev_pos (by omega) (ev_pos (by omega) ?_))
    rw [eb]
    by_cases g : b.f0.toList = a.f0.toList
    · refine ev_pos g ?_
      have : hasT (p.map (·.f0)) a.f0 = true:=by
        rw [e1];unfold hasT;simp [g]
      rw [this,if_pos rfl]
      exact Ev.now _
    · refine ev_neg g ?_
      rw [wsucc q b (by omega)]
      exact ref_l3 a p s e hl r hr t (q ++ [b]) (by rw [e1];simp) (by rw [hasT_snoc,h0,decide_eq_false (fun x=>g x.symm)];rfl)
theorem ref_l2 (v : Int) (hv : Ev (fun k=>gangerref10_tree.f k A) v) (hl : Q.length < 1000000) (hn : ∀ x ∈ Q,x.f0.size≤300) : ∀ (s p : List S52),Q = p ++ s →
    Ev (fun k=>gangerref10_Check.l2 k (p.length : Int) h.f0 h.f1 h.f2 h.f3 h.f4 h.f5 h.f6 h.f7 h.f8 P Q A) (if classesR p s = true then v else 100)
  | [],p,e=>by
    refine Ev.step (fun k=>by rw [gangerref10_Check.l2]) ?_
    refine ev_neg (by rw [e];simp) ?_
    exact Ev.bind hv (Ev.now _)
  | a :: s,p,e=>by
    have hlt : p.length < Q.length:=by rw [e];simp
    have ih:=ref_l2 v hv hl hn s (p ++ [a]) (by rw [e];simp)
    have ea : rd_T52 Q (p.length : Int) = a:=by rw [e];exact rd52_mid p a s
    have bad : ∀ (n : ByteArray) (x y : Int),Ev (fun k=>gangerref10_Check.j7 k (p.length : Int) true h.f0 h.f1 h.f2 h.f3 h.f4 h.f5 h.f6 h.f7 h.f8 P Q A n x y) 100:=by
      intro n x y
      refine Ev.step (fun k=>by rw [gangerref10_Check.j7]) ?_
      exact ev_pos rfl (Ev.now _)
    refine Ev.step (fun k=>by rw [gangerref10_Check.l2]) ?_
    refine ev_pos (by omega) (ev_pos (by omega) ?_)
    rw [ea,classesR]
    refine Ev.bind (refname (hn a (by rw [e];simp))) ?_
    cases hn : NameOk a.f0 with
    | false=>refine ev_neg (by simp) ?_;simpa using bad _ _ _
    | true =>
      refine ev_pos rfl ?_
      rw [refout _ _ _ (by omega),refout _ _ _ (by omega),show classOk a = (inB a.f1 0 1048576 && inB a.f2 1 1048576) from rfl]
      refine Ev.bind (Ev.now _) ?_
      cases hb : inB a.f1 0 1048576 with
      | false=>refine ev_pos rfl ?_;simpa using bad _ _ _
      | true =>
      refine ev_neg (by simp) (Ev.bind (Ev.now _) ?_)
      cases hd : inB a.f2 1 1048576 with
      | false=>simpa using bad _ _ _
      | true =>
      refine Ev.step (fun k=>by rw [gangerref10_Check.j7]) ?_
      refine ev_neg (by simp) ?_
      have:=ref_l3 h P Q A a p s e hl (if classesR (p ++ [a]) s = true then v else 100) (fun _=>by
        have e1 : ((p ++ [a]).length : Int) = (p.length : Int) + 1:=by simp
        rw [e1] at ih
        exact ih) p [] rfl rfl
      have e5 : (if (true && (true && true) && !hasT (p.map (·.f0)) a.f0 && classesR (p ++ [a]) s) = true then v else 100) = (if hasT (p.map (·.f0)) a.f0 = true then 100 else (if classesR (p ++ [a]) s = true then v else 100)):=by
        cases hasT (p.map (·.f0)) a.f0 <;> simp
      rw [e5]
      exact this
theorem refcheck_ev (hp : P.length < 1000000) (hq : Q.length < 1000000) (ha : A.length < 1000000) (np : ∀ x ∈ P,x.f0.size≤300) (nq : ∀ x ∈ Q,x.f0.size≤300) (na : ∀ x ∈ A,x.f0.size≤300) :
    Ev (fun k=>gangerref10_Check.f k h.f0 h.f1 h.f2 h.f3 h.f4 h.f5 h.f6 h.f7 h.f8 P Q A) (if COK h P Q A = true then 0 else 100):=by
  have ht : Ev (fun k=>gangerref10_tree.f k A) (if treeR [] A = true then 0 else 100):=tree_l0 A [] (by simpa using ha) na
  rw [treeR_eq A [] (fun x hx=>by cases hx)] at ht
  have h2:=ref_l2 h P Q A _ ht hq nq Q [] rfl
  rw [classesR_eq] at h2
  have h0:=ref_l0 h P Q A _ h2 hp np P [] rfl
  rw [partsR_eq] at h0
  have b0 : Ev (fun k=>gangerref10_Check.j0 k true h.f0 h.f1 h.f2 h.f3 h.f4 h.f5 h.f6 h.f7 h.f8 P Q A) 100:=by
    refine Ev.step (fun k=>by rw [gangerref10_Check.j0]) ?_
    exact ev_pos rfl (Ev.now _)
  have b1 : Ev (fun k=>gangerref10_Check.j1 k true h.f0 h.f1 h.f2 h.f3 h.f4 h.f5 h.f6 h.f7 h.f8 P Q A) 100:=by
    refine Ev.step (fun k=>by rw [gangerref10_Check.j1]) ?_
    exact ev_pos rfl (Ev.now _)
  have b2 : Ev (fun k=>gangerref10_Check.j2 k true h.f0 h.f1 h.f2 h.f3 h.f4 h.f5 h.f6 h.f7 h.f8 P Q A) 100:=by
    refine Ev.step (fun k=>by rw [gangerref10_Check.j2]) ?_
    exact ev_pos rfl (Ev.now _)
  unfold gangerref10_Check.f COK HOK POK QOK TOK
  rw [refout _ _ _ (by omega),refout _ _ _ (by omega),refout _ _ _ (by omega),refout _ _ _ (by omega),refout _ _ _ (by omega)]
  refine Ev.bind (Ev.now _) ?_
  cases inB h.f4 0 1048576 with
  | false=>refine ev_pos rfl ?_;simpa using b0
  | true =>
  refine ev_neg (by simp) (Ev.bind (Ev.now _) ?_)
  cases inB h.f5 0 1048576 with
  | false=>refine ev_pos rfl ?_;simpa using b0
  | true =>
  refine ev_neg (by simp) (Ev.bind (Ev.now _) ?_)
  cases inB h.f6 0 1048576 with
  | false=>refine ev_pos rfl ?_;simpa using b0
  | true =>
  refine ev_neg (by simp) (Ev.bind (Ev.now _) ?_)
  cases inB h.f7 0 1048576 with
  | false=>refine ev_pos rfl ?_;simpa using b0
  | true =>
  refine ev_neg (by simp) (Ev.bind (Ev.now _) ?_)
  cases inB h.f8 0 1048576 with
  | false=>simpa using b0
  | true =>
  refine Ev.step (fun k=>by rw [gangerref10_Check.j0]) ?_
  refine ev_neg (by simp) ?_
  rw [refout _ _ _ (by omega),refout _ _ _ (by omega),refout _ _ _ (by omega),refout _ _ _ (by omega)]
  refine Ev.bind (Ev.now _) ?_
  cases inB h.f0 1 4 with
  | false=>refine ev_pos rfl ?_;simpa using b1
  | true =>
  refine ev_neg (by simp) (Ev.bind (Ev.now _) ?_)
  cases inB h.f1 1 4294967296 with
  | false=>refine ev_pos rfl ?_;simpa using b1
  | true =>
  refine ev_neg (by simp) (Ev.bind (Ev.now _) ?_)
  cases inB h.f2 1 1073741824 with
  | false=>refine ev_pos rfl ?_;simpa using b1
  | true =>
  refine ev_neg (by simp) (Ev.bind (Ev.now _) ?_)
  cases inB h.f3 0 100 with
  | false=>simpa using b1
  | true =>
  refine Ev.step (fun k=>by rw [gangerref10_Check.j1]) ?_
  refine ev_neg (by simp) ?_
  rw [refout _ _ _ (by omega),refout _ _ _ (by omega),refout _ _ _ (by omega)]
  refine Ev.bind (Ev.now _) ?_
  cases inB (P.length : Int) 1 8 with
  | false=>refine ev_pos rfl ?_;simpa using b2
  | true =>
  refine ev_neg (by simp) (Ev.bind (Ev.now _) ?_)
  cases inB (Q.length : Int) 1 8 with
  | false=>refine ev_pos rfl ?_;simpa using b2
  | true =>
  refine ev_neg (by simp) (Ev.bind (Ev.now _) ?_)
  cases inB (A.length : Int) 1 50 with
  | false=>simpa using b2
  | true =>
  refine Ev.step (fun k=>by rw [gangerref10_Check.j2]) ?_
  refine ev_neg (by simp) ?_
  have e5 : ∀ (x1 x2 x3 x4 x5 x6 : Bool),(if (true && true && true && true && true && true && true && true && true && (x1 && true && x2) && (x3 && true && x4) && (x5 && true && x6)) = true then (0 : Int) else 100) = (if (x1 && x2) = true then (if (x3 && x4) = true then (if (x5 && x6) = true then 0 else 100) else 100) else 100):=by decide
  rw [e5]
  exact h0
end ref
end Go.Proofs.YtgidipomfbikiaaDoor.Cnf
