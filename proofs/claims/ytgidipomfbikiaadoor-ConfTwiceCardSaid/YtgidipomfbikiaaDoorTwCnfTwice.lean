/- cut to what one law reaches -/
import Derived.Test.YtgidipomfbikiaaDoorTwCnfBase
import Derived.Test.YtgidipomfbikiaaDoorTwP0
import Derived.Test.YtgidipomfbikiaaDoorTwP6
import Derived.Test.YtgidipomfbikiaaDoorTwP10
namespace Go.Proofs.YtgidipomfbikiaaDoor.Cnf
open Go.RowKit Go.Proofs.YtgidipomfbikiaaDoorW.PrintWords Go.Proofs.YtgidipomfbikiaaDoorW.PrintLast Go.Proofs.YtgidipomfbikiaaDoorW.PrintMore Go.Proofs.YtgidipomfbikiaaDoor.P Go.Proofs.YtgidipomfbikiaaDoor.NumM
set_option linter.unusedVariables false
set_option linter.unusedSimpArgs false
theorem names_split (x : ByteArray) (v : List ByteArray) : ∀ (u p : List ByteArray),namesOk p (u ++ x :: v) = true→NameOk x = true∧hasT (p ++ u) x = false
  | [],p,h=>by
    rw [List.nil_append,namesOk] at h
    simp only [Bool.and_eq_true,Bool.not_eq_true'] at h
    rw [List.append_nil]
    exact ⟨h.1.1,h.1.2⟩
  | y :: u,p,h=>by
    rw [List.cons_append,namesOk] at h
    simp only [Bool.and_eq_true] at h
    have:=names_split x v u (p ++ [y]) h.2
    simpa using this
theorem acc_split (a : S48) (v : List S48) : ∀ (u p : List S48),accOk p (u ++ a :: v) = true→((((p ++ u).length : Int) == 0) == (a.f1.toList == [])) = true∧((p ++ u).isEmpty || hasT ((p ++ u).map (·.f0)) a.f1) = true
  | [],p,h=>by
    rw [List.nil_append,accOk] at h
    simp only [Bool.and_eq_true] at h
    rw [List.append_nil]
    exact ⟨h.1.1.2,h.1.2⟩
  | y :: u,p,h=>by
    rw [List.cons_append,accOk] at h
    simp only [Bool.and_eq_true] at h
    have:=acc_split a v u (p ++ [y]) h.2
    simpa using this
theorem has_mem {l : List ByteArray} {a : ByteArray} : hasT l a = true ↔ ∃ x ∈ l,a.toList = x.toList:=by
  unfold hasT
  rw [List.any_eq_true]
  simp
theorem has_not {l : List ByteArray} {a : ByteArray} (h : hasT l a = false) : ∀ x ∈ l,a.toList ≠ x.toList:=by
  intro x hx e
  have:=(has_mem (l:=l) (a:=a)).2 ⟨x,hx,e⟩
  rw [h] at this;cases this
/-- two names at two places are two -/
theorem names_apart {l : List ByteArray} (h : namesOk [] l = true) {i j : Nat} (hij : i < j) (hj : j < l.length) : (l[j]'hj).toList ≠ (l[i]'(by omega)).toList:=by
  have e : l = l.take j ++ l[j] :: l.drop (j + 1):=by
    rw [← List.drop_eq_getElem_cons hj,List.take_append_drop]
  rw [e] at h
  have q:=(names_split _ _ _ _ h).2
  rw [List.nil_append] at q
  exact has_not q _ (List.mem_take_iff_getElem.2 ⟨i,by omega,rfl⟩)
/-- a name that comes twice -/
theorem names_twice {l : List ByteArray} {i j : Nat} (hij : i ≠ j) (hi : i < l.length) (hj : j < l.length) (e : (l[i]'hi).toList = (l[j]'hj).toList) : namesOk [] l = false:=by
  cases h : namesOk [] l with
  | false=>rfl
  | true =>
    rcases Nat.lt_or_ge i j with q|q
    · exact absurd e.symm (names_apart h q hj)
    · exact absurd e (names_apart h (show j < i by omega) hi)
theorem cok_names {h : Hd} {P : List S50} {Q : List S52} {A : List S48} (e : COK h P Q A = true) : namesOk [] (P.map (·.f0)) = true∧namesOk [] (Q.map (·.f0)) = true∧namesOk [] (A.map (·.f0)) = true∧accOk [] A = true:=by
  unfold COK POK QOK TOK at e
  simp only [Bool.and_eq_true] at e
  exact ⟨e.1.1.2.2,e.1.2.2,e.2.2,e.2.1.1⟩
theorem bad_A {h : Hd} {P : List S50} {Q : List S52} {A : List S48} (e : namesOk [] (A.map (·.f0)) = false ∨ accOk [] A = false) : COK h P Q A = false:=by
  cases k : COK h P Q A with
  | false=>rfl
  | true =>
    have q:=cok_names k
    rcases e with e|e
    · rw [q.2.2.1] at e;cases e
    · rw [q.2.2.2] at e;cases e
theorem bad_P {h : Hd} {P : List S50} {Q : List S52} {A : List S48} (e : namesOk [] (P.map (·.f0)) = false) : COK h P Q A = false:=by
  cases k : COK h P Q A with
  | false=>rfl
  | true=>rw [(cok_names k).1] at e;cases e
theorem bad_Q {h : Hd} {P : List S50} {Q : List S52} {A : List S48} (e : namesOk [] (Q.map (·.f0)) = false) : COK h P Q A = false:=by
  cases k : COK h P Q A with
  | false=>rfl
  | true=>rw [(cok_names k).2.1] at e;cases e
/-- an account gets another one's name -/
theorem twice_x {h : Hd} {P : List S50} {Q : List S52} {A : List S48} {i k : Nat} (hik : i ≠ k) (hi : i < A.length) (hk : k < A.length) (a : S48) (ha : a.f0 = A[k].f0) : COK h P Q (A.set i a) = false:=by
  refine bad_A (Or.inl ?_)
  refine names_twice hik (by simpa using hi) (by simpa using hk) ?_
  simp [ha,hik]
theorem set_split {A : List S48} {i : Nat} (hi : i < A.length) (a : S48) : A.set i a = A.take i ++ a :: A.drop (i + 1):=List.set_eq_take_append_cons_drop.trans (if_pos hi)
/-- an account gets a parent that stands at its own place, or behind it -/
theorem twice_y {h : Hd} {P : List S50} {Q : List S52} {A : List S48} (hA : COK h P Q A = true) {i m : Nat} (him : i≤m) (hm : m < A.length) (a : S48) (ha : a.f1 = A[m].f0) : COK h P Q (A.set i a) = false:=by
  refine bad_A (Or.inr ?_)
  cases e : accOk [] (A.set i a) with
  | false=>rfl
  | true =>
    exfalso
    rw [set_split (by omega)] at e
    obtain ⟨q1,q2⟩:=acc_split a _ _ _ e
    have hN:=(cok_names hA).2.2.1
    have hm2 : m < (A.map (·.f0)).length:=by simpa using hm
    have eN : A.map (·.f0) = (A.map (·.f0)).take m ++ (A.map (·.f0))[m] :: (A.map (·.f0)).drop (m + 1):=by
      rw [← List.drop_eq_getElem_cons hm2,List.take_append_drop]
    rw [eN] at hN
    obtain ⟨n1,n2⟩:=names_split _ _ _ _ hN
    rw [List.getElem_map] at n1 n2
    rw [← ha] at n1 n2
    rw [List.nil_append] at q1 q2 n2
    by_cases h0 : i = 0
    · subst h0
      have hne : a.f1.toList ≠ []:=by
        intro z
        unfold NameOk at n1
        have hz : a.f1.size = 0:=by
          have : a.f1.data.toList.length = 0:=by rw [← ByteArray.toList_eq,z];rfl
          simpa using this
        rw [nameAt,if_neg (by omega),z] at n1
        simp at n1
      simp [hne] at q1
    · have hne : (A.take i).isEmpty = false:=by
        have : (A.take i).length ≠ 0:=by rw [List.length_take];omega
        cases ht : A.take i with
        | nil=>rw [ht] at this;simp at this
        | cons _ _=>rfl
      rw [hne,Bool.false_or] at q2
      obtain ⟨x,hx,ex⟩:=has_mem.1 q2
      refine has_not n2 x ?_ ex
      rw [← List.map_take]
      rw [List.mem_map] at hx ⊢
      obtain ⟨y,hy,rfl⟩:=hx
      exact ⟨y,List.mem_of_mem_take (i:=i) (by rw [List.take_take,Nat.min_eq_left him];exact hy),rfl⟩
/-- an account, not the first one, gets none -/
theorem twice_z {h : Hd} {P : List S50} {Q : List S52} {A : List S48} {i : Nat} (h0 : i ≠ 0) (hi : i < A.length) (a : S48) (ha : a.f1.toList = []) : COK h P Q (A.set i a) = false:=by
  refine bad_A (Or.inr ?_)
  cases e : accOk [] (A.set i a) with
  | false=>rfl
  | true =>
    exfalso
    rw [set_split hi] at e
    obtain ⟨q1,q2⟩:=acc_split a _ _ _ e
    rw [List.nil_append,ha] at q1
    have : ((A.take i).length : Int) ≠ 0:=by rw [List.length_take];omega
    rw [beq_eq_false_iff_ne.2 this] at q1
    simp at q1
theorem twice_p {h : Hd} {P : List S50} {Q : List S52} {A : List S48} {j : Nat} (hj : j < P.length) : COK h (P ++ [P[j]]) Q A = false:=by
  refine bad_P ?_
  refine names_twice (i:=j) (j:=P.length) (by omega) (by simp;omega) (by simp) ?_
  simp [hj]
theorem twice_q {h : Hd} {P : List S50} {Q : List S52} {A : List S48} {j : Nat} (hj : j < Q.length) : COK h P (Q ++ [Q[j]]) A = false:=by
  refine bad_Q ?_
  refine names_twice (i:=j) (j:=Q.length) (by omega) (by simp;omega) (by simp) ?_
  simp [hj]
end Go.Proofs.YtgidipomfbikiaaDoor.Cnf
