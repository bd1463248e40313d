/- cut to what one law reaches -/
import Derived.Test.YtgidipomfbikiaaDoorTwNumW
import Derived.Test.YtgidipomfbikiaaDoorTwP0
import Derived.Test.YtgidipomfbikiaaDoorTwP5
import Derived.Test.YtgidipomfbikiaaDoorTwP6
import Derived.Test.YtgidipomfbikiaaDoorTwP7
import Derived.Test.YtgidipomfbikiaaDoorTwP10
import Derived.Test.YtgidipomfbikiaaDoorTwP12
namespace Go.Proofs.YtgidipomfbikiaaDoor.Cnf
open Go.RowKit Go.Proofs.YtgidipomfbikiaaDoorW.PrintWords Go.Proofs.YtgidipomfbikiaaDoorW.PrintLast Go.Proofs.YtgidipomfbikiaaDoorW.PrintMore Go.Proofs.YtgidipomfbikiaaDoor.P Go.Proofs.YtgidipomfbikiaaDoor.NumM
set_option linter.unusedVariables false
set_option linter.unusedSimpArgs false
theorem ev_pos {α : Type} {c : Prop} [Decidable c] {f g : Nat→Option α} {r : α} (hc : c) (h : Ev f r) : Ev (fun k=>if c then f k else g k) r:=by simpa only [if_pos hc] using h
theorem ev_neg {α : Type} {c : Prop} [Decidable c] {f g : Nat→Option α} {r : α} (hc : ¬ c) (h : Ev g r) : Ev (fun k=>if c then f k else g k) r:=by simpa only [if_neg hc] using h
theorem known_ev : Ev (fun k=>gangerlaw10_known.f k) true:=Ev.of (fun k=>gangerlaw10_known.mono k) (k:=80) (by decide +kernel)
theorem hk : Ev (fun n=>(gangerlaw10_known.f n).bind fun t=>some t) true:=Ev.bind known_ev (Ev.now _)
/-- is a text among texts? -/
def hasT (l : List ByteArray) (a : ByteArray) : Bool:=l.any fun x=>decide (a.toList = x.toList)
theorem rdOf_mid {α : Type} (d : α) (p : List α) (x : α) (r : List α) : rdOf d (p ++ x :: r) (p.length : Int) = x:=by
  unfold rdOf;simp [List.getD]
theorem rd48_mid (p : List S48) (x : S48) (r : List S48) : rd_T48 (p ++ x :: r) (p.length : Int) = x:=by
  unfold rd_T48;simp [List.getD]
theorem wsucc {α : Type} (p : List α) (x : α) (h : p.length < 1000000) : wrap64 ((p.length : Int) + 1) = ((p ++ [x]).length : Int):=by rw [w64 (by omega)];simp
theorem index_l0 (a : ByteArray) : ∀ (s p : List ByteArray),(p ++ s).length < 1000000→∃ r,Ev (fun k=>slices_Index_string_string.l0 k (p ++ s) a ((p ++ s).length : Int) (p.length : Int)) r∧decide (r ≥ 0) = hasT s a
  | [],p,h=>⟨-1,by
      refine Ev.step (fun k=>by rw [slices_Index_string_string.l0]) ?_
      exact ev_neg (by simp) (Ev.now _),by simp [hasT]⟩
  | x :: s,p,h=>by
    by_cases e : a.toList = x.toList
    · refine ⟨(p.length : Int),?_,by simp [hasT,e]⟩
      refine Ev.step (fun k=>by rw [slices_Index_string_string.l0]) ?_
      refine ev_pos (by simp;omega) (ev_pos (by omega) (ev_pos (by simp;omega) ?_))
      rw [rdOf_mid]
      exact ev_pos e (Ev.now _)
    · obtain ⟨r,h1,h2⟩:=index_l0 a s (p ++ [x]) (by simpa using h)
      refine ⟨r,?_,by rw [h2];simp [hasT,e]⟩
      refine Ev.step (fun k=>by rw [slices_Index_string_string.l0]) ?_
      refine ev_pos (by simp;omega) (ev_pos (by omega) (ev_pos (by simp;omega) ?_))
      rw [rdOf_mid]
      refine ev_neg e ?_
      rw [wsucc p x (by simp at h;omega)]
      simpa using h1
theorem contains_ev (l : List ByteArray) (a : ByteArray) (h : l.length < 1000000) : Ev (fun k=>slices_Contains_string_string.f k l a) (hasT l a):=by
  obtain ⟨r,h1,h2⟩:=index_l0 a l [] (by simpa using h)
  unfold slices_Contains_string_string.f
  have h1' : Ev (fun k=>slices_Index_string_string.f k l a) r:=h1
  refine Ev.bind h1' ?_
  rw [h2];exact Ev.now _
def NameOk (s : ByteArray) : Bool:=nameAt (s.size + 1) s 0
theorem name_f {s : ByteArray} (h : s.size≤1000000) : script_Name.f s = some (NameOk s):=by
  unfold script_Name.f;rw [if_pos (by omega)];rfl
def namesOk : List ByteArray→List ByteArray→Bool
  | p,[]=>true
  | p,x :: r=>NameOk x && !hasT p x && namesOk (p ++ [x]) r
theorem names_l0 : ∀ (s p : List ByteArray),(p ++ s).length < 1000000→(∀ x ∈ s,x.size≤1000000)→Ev (fun k=>conf_names.l0 k (p ++ s) (p ++ s) ((p ++ s).length : Int) (p.length : Int)) (namesOk p s)
  | [],p,h,hs=>by
    refine Ev.step (fun k=>by rw [conf_names.l0]) ?_
    exact ev_neg (by simp) (Ev.now _)
  | x :: s,p,h,hs=>by
    refine Ev.step (fun k=>by rw [conf_names.l0]) ?_
    refine ev_pos (by simp;omega) (ev_pos (by omega) (ev_pos (by simp;omega) ?_))
    rw [rdOf_mid,name_f (hs x (List.mem_cons_self ..)),namesOk]
    refine Ev.bind (Ev.now _) ?_
    cases hn : NameOk x with
    | false=>exact ev_neg (by simp) (Ev.now _)
    | true =>
      refine ev_pos rfl (ev_pos (by simp;omega) ?_)
      have ht : (p ++ x :: s).take ((p.length : Nat) : Int).toNat = p:=by simp
      rw [ht]
      refine Ev.bind (contains_ev p x (by simp at h;omega)) ?_
      cases hc : hasT p x with
      | true=>exact ev_pos rfl (Ev.now _)
      | false =>
        refine ev_neg (by simp) ?_
        have ih:=names_l0 s (p ++ [x]) (by simpa using h) (fun y hy=>hs y (List.mem_cons_of_mem _ hy))
        rw [wsucc p x (by simp at h;omega)]
        simpa using ih
theorem names_ev (l : List ByteArray) (h : l.length < 1000000) (hs : ∀ x ∈ l,x.size≤1000000) : Ev (fun k=>conf_names.f k l) (namesOk [] l):=names_l0 l [] (by simpa using h) hs
def accOk : List S48→List S48→Bool
  | p,[]=>true
  | p,a :: r=>inB a.f2 1 1048576 && (((p.length : Int) == 0) == (a.f1.toList == [])) && (p.isEmpty || hasT (p.map (·.f0)) a.f1) && accOk (p ++ [a]) r
theorem in_eq (n lo hi : Int) : conf_in.f n lo hi = some (inB n lo hi):=by
  unfold conf_in.f inB
  by_cases h : n ≥ lo
  · rw [if_pos h,decide_eq_true (show lo≤n from h)];rfl
  · rw [if_neg h,decide_eq_false (show ¬ lo≤n from h)];rfl
theorem accounts_l0 : ∀ (s p : List S48),(p ++ s).length < 1000000→(∀ x ∈ p ++ s,x.f0.size≤1000000) →
    Ev (fun k=>conf_accounts.l0 k (p ++ s) (p.map (·.f0)) (p ++ s) ((p ++ s).length : Int) (p.length : Int)) (accOk p s && inB ((p ++ s).length : Int) 1 50 && namesOk [] ((p ++ s).map (·.f0)))
  | [],p,h,hs=>by
    refine Ev.step (fun k=>by rw [conf_accounts.l0]) ?_
    refine ev_neg (by simp) ?_
    rw [in_eq,accOk,Bool.true_and]
    refine Ev.bind (Ev.now _) ?_
    simp only [List.append_nil] at hs h ⊢
    cases hb : inB (p.length : Int) 1 50 with
    | false=>exact ev_neg (by simp) (Ev.now _)
    | true =>
      refine ev_pos rfl (Ev.bind (names_ev (p.map (·.f0)) (by simpa using h) (fun x hx=>?_)) ?_)
      · obtain ⟨y,hy,rfl⟩:=List.mem_map.1 hx
        exact hs y hy
      · exact Ev.now _
  | a :: s,p,h,hs=>by
    have hp : p.length < 1000000:=by simp at h;omega
    have ih:=accounts_l0 s (p ++ [a]) (by simpa using h) (by simpa using hs)
    simp only [List.map_append,List.map_cons,List.map_nil,List.append_assoc,List.singleton_append] at ih
    refine Ev.step (fun k=>by rw [conf_accounts.l0]) ?_
    refine ev_pos (by simp;omega) (ev_pos (by omega) (ev_pos (by simp;omega) ?_))
    rw [rd48_mid,in_eq,accOk]
    refine Ev.bind (Ev.now _) ?_
    cases hb : inB a.f2 1 1048576 with
    | false=>exact ev_neg (by simp) (Ev.now _)
    | true =>
      refine ev_pos rfl ?_
      cases he : (((p.length : Int) == 0) == (a.f1.toList == [])) with
      | false =>
        refine ev_pos (by simp only [bne,he];rfl) ?_
        exact Ev.now _
      | true =>
        refine ev_neg (by simp only [bne,he];simp) ?_
        rw [wsucc p a hp]
        by_cases h0 : (p.length : Int) > 0
        · refine ev_pos h0 (Ev.bind (contains_ev (p.map (·.f0)) a.f1 (by simpa using hp)) ?_)
          have hne : p.isEmpty = false:=by cases p with
            | nil=>simp at h0
            | cons _ _=>rfl
          rw [hne]
          cases hc : hasT (p.map (·.f0)) a.f1 with
          | false=>exact ev_neg (by simp) (Ev.now _)
          | true =>
            refine ev_pos rfl (ev_pos (by simp;omega) ?_)
            simpa using ih
        · refine ev_neg h0 (ev_pos (by simp;omega) ?_)
          have hnil : p = []:=List.length_eq_zero_iff.1 (by omega)
          subst hnil
          simpa using ih
/-- accounts that may be -/
def TOK (l : List S48) : Bool:=accOk [] l && inB (l.length : Int) 1 50 && namesOk [] (l.map (·.f0))
theorem accounts_ev (l : List S48) (h : l.length < 1000000) (hs : ∀ x ∈ l,x.f0.size≤1000000) : Ev (fun k=>conf_accounts.f k l) (TOK l):=accounts_l0 l [] (by simpa using h) (by simpa using hs)
theorem rd50_mid (p : List S50) (x : S50) (r : List S50) : rd_T50 (p ++ x :: r) (p.length : Int) = x:=by
  unfold rd_T50;simp [List.getD]
theorem rd52_mid (p : List S52) (x : S52) (r : List S52) : rd_T52 (p ++ x :: r) (p.length : Int) = x:=by
  unfold rd_T52;simp [List.getD]
def partOk (a : S50) : Bool:=inB a.f1 0 10 && inB a.f2 0 1048576 && inB a.f3 1 1073741824
def classOk (a : S52) : Bool:=inB a.f1 0 1048576 && inB a.f2 1 1048576
theorem parts_l0 : ∀ (s p : List S50),(p ++ s).length < 1000000→(∀ x ∈ p ++ s,x.f0.size≤1000000) →
    Ev (fun k=>conf_parts.l0 k (p ++ s) (p.map (·.f0)) (p ++ s) ((p ++ s).length : Int) (p.length : Int)) (s.all partOk && inB ((p ++ s).length : Int) 1 8 && namesOk [] ((p ++ s).map (·.f0)))
  | [],p,h,hs=>by
    refine Ev.step (fun k=>by rw [conf_parts.l0]) ?_
    refine ev_neg (by simp) ?_
    rw [in_eq,List.all_nil,Bool.true_and]
    refine Ev.bind (Ev.now _) ?_
    simp only [List.append_nil] at hs h ⊢
    cases hb : inB (p.length : Int) 1 8 with
    | false=>exact ev_neg (by simp) (Ev.now _)
    | true =>
      refine ev_pos rfl (Ev.bind (names_ev (p.map (·.f0)) (by simpa using h) (fun x hx=>?_)) ?_)
      · obtain ⟨y,hy,rfl⟩:=List.mem_map.1 hx
        exact hs y hy
      · exact Ev.now _
  | a :: s,p,h,hs=>by
    have hp : p.length < 1000000:=by simp at h;omega
    have ih:=parts_l0 s (p ++ [a]) (by simpa using h) (by simpa using hs)
    simp only [List.map_append,List.map_cons,List.map_nil,List.append_assoc,List.singleton_append] at ih
    refine Ev.step (fun k=>by rw [conf_parts.l0]) ?_
    refine ev_pos (by simp;omega) (ev_pos (by omega) (ev_pos (by simp;omega) ?_))
    rw [rd50_mid,in_eq,in_eq,in_eq,List.all_cons,show partOk a = (inB a.f1 0 10 && inB a.f2 0 1048576 && inB a.f3 1 1073741824) from rfl]
    refine Ev.bind (Ev.now _) ?_
    cases hb : inB a.f1 0 10 with
    | false=>exact ev_neg (by simp) (Ev.now _)
    | true =>
      refine ev_pos rfl (Ev.bind (Ev.now _) ?_)
      cases hc : inB a.f2 0 1048576 with
      | false=>exact ev_neg (by simp) (Ev.now _)
      | true =>
        refine ev_pos rfl (Ev.bind (Ev.now _) ?_)
        cases hd : inB a.f3 1 1073741824 with
        | false=>exact ev_neg (by simp) (Ev.now _)
        | true =>
          refine ev_pos rfl (ev_pos (by simp;omega) ?_)
          rw [wsucc p a hp]
          simpa using ih
theorem classes_l0 : ∀ (s p : List S52),(p ++ s).length < 1000000→(∀ x ∈ p ++ s,x.f0.size≤1000000) →
    Ev (fun k=>conf_classes.l0 k (p ++ s) (p.map (·.f0)) (p ++ s) ((p ++ s).length : Int) (p.length : Int)) (s.all classOk && inB ((p ++ s).length : Int) 1 8 && namesOk [] ((p ++ s).map (·.f0)))
  | [],p,h,hs=>by
    refine Ev.step (fun k=>by rw [conf_classes.l0]) ?_
    refine ev_neg (by simp) ?_
    rw [in_eq,List.all_nil,Bool.true_and]
    refine Ev.bind (Ev.now _) ?_
    simp only [List.append_nil] at hs h ⊢
    cases hb : inB (p.length : Int) 1 8 with
    | false=>exact ev_neg (by simp) (Ev.now _)
    | true =>
      refine ev_pos rfl (Ev.bind (names_ev (p.map (·.f0)) (by simpa using h) (fun x hx=>?_)) ?_)
      · obtain ⟨y,hy,rfl⟩:=List.mem_map.1 hx
        exact hs y hy
      · exact Ev.now _
  | a :: s,p,h,hs=>by
    have hp : p.length < 1000000:=by simp at h;omega
    have ih:=classes_l0 s (p ++ [a]) (by simpa using h) (by simpa using hs)
    simp only [List.map_append,List.map_cons,List.map_nil,List.append_assoc,List.singleton_append] at ih
    refine Ev.step (fun k=>by rw [conf_classes.l0]) ?_
    refine ev_pos (by simp;omega) (ev_pos (by omega) (ev_pos (by simp;omega) ?_))
    rw [rd52_mid,in_eq,in_eq,List.all_cons,show classOk a = (inB a.f1 0 1048576 && inB a.f2 1 1048576) from rfl]
    refine Ev.bind (Ev.now _) ?_
    cases hb : inB a.f1 0 1048576 with
    | false=>exact ev_neg (by simp) (Ev.now _)
    | true =>
      refine ev_pos rfl (Ev.bind (Ev.now _) ?_)
      cases hc : inB a.f2 1 1048576 with
      | false=>exact ev_neg (by simp) (Ev.now _)
      | true =>
        refine ev_pos rfl (ev_pos (by simp;omega) ?_)
        rw [wsucc p a hp]
        simpa using ih
/-- partitions, classes that may be -/
def POK (l : List S50) : Bool:=l.all partOk && inB (l.length : Int) 1 8 && namesOk [] (l.map (·.f0))
def QOK (l : List S52) : Bool:=l.all classOk && inB (l.length : Int) 1 8 && namesOk [] (l.map (·.f0))
/-- the first nine numbers may be -/
def HOK (h : Hd) : Bool:=inB h.f4 0 1048576 && inB h.f5 0 1048576 && inB h.f6 0 1048576 && inB h.f7 0 1048576 && inB h.f8 0 1048576 && inB h.f0 1 4 && inB h.f1 1 4294967296 && inB h.f2 1 1073741824 && inB h.f3 0 100
/-- a configuration that may be -/
def COK (h : Hd) (p : List S50) (q : List S52) (a : List S48) : Bool:=HOK h && POK p && QOK q && TOK a
/-- what is looked at -/
def Small (p : List S50) (q : List S52) (a : List S48) : Prop:=p.length≤40∧q.length≤40∧a.length≤121∧(∀ x ∈ p,x.f0.size≤300)∧(∀ x ∈ q,x.f0.size≤300)∧(∀ x ∈ a,x.f0.size≤300∧x.f1.size≤300)
theorem check_evM (h : Hd) {p : List S50} {q : List S52} {a : List S48} (hp : p.length < 1000000) (hq : q.length < 1000000) (ha : a.length < 1000000) (np : ∀ x ∈ p,x.f0.size≤1000000) (nq : ∀ x ∈ q,x.f0.size≤1000000) (na : ∀ x ∈ a,x.f0.size≤1000000) :
    Ev (fun k=>conf_Check.f k h.f0 h.f1 h.f2 h.f3 h.f4 h.f5 h.f6 h.f7 h.f8 p q a) (if COK h p q a = true then 0 else 100):=by
  have e1 : Ev (fun k=>conf_parts.f k p) (POK p):=parts_l0 p [] (by simpa using hp) (by simpa using np)
  have e2 : Ev (fun k=>conf_classes.f k q) (QOK q):=classes_l0 q [] (by simpa using hq) (by simpa using nq)
  have e3:=accounts_ev a ha na
  unfold conf_Check.f COK HOK
  cases h1 : inB h.f4 0 1048576 with
  | false=>exact ev_neg (by simp) (Ev.now _)
  | true =>
  cases h2 : inB h.f5 0 1048576 with
  | false=>exact ev_neg (by simp) (Ev.now _)
  | true =>
  cases h3 : inB h.f6 0 1048576 with
  | false=>exact ev_neg (by simp) (Ev.now _)
  | true =>
  cases h4 : inB h.f7 0 1048576 with
  | false=>exact ev_neg (by simp) (Ev.now _)
  | true =>
  cases h5 : inB h.f8 0 1048576 with
  | false=>exact ev_neg (by simp) (Ev.now _)
  | true =>
  refine ev_pos (by simp) ?_
  cases h6 : inB h.f0 1 4 with
  | false=>exact ev_neg (by simp) (Ev.now _)
  | true =>
  cases h7 : inB h.f1 1 4294967296 with
  | false=>exact ev_neg (by simp) (Ev.now _)
  | true =>
  cases h8 : inB h.f2 1 1073741824 with
  | false=>exact ev_neg (by simp) (Ev.now _)
  | true =>
  cases h9 : inB h.f3 0 100 with
  | false=>exact ev_neg (by simp) (Ev.now _)
  | true =>
  refine ev_pos (by simp) (Ev.bind e1 ?_)
  cases POK p with
  | false=>exact ev_neg (by simp) (Ev.now _)
  | true =>
  refine ev_pos rfl (Ev.bind e2 ?_)
  cases QOK q with
  | false=>exact ev_neg (by simp) (Ev.now _)
  | true =>
  refine ev_pos rfl (Ev.bind e3 ?_)
  cases TOK a <;> exact Ev.now _
theorem check_ev (h : Hd) {p : List S50} {q : List S52} {a : List S48} (hp : p.length < 1000000) (hq : q.length < 1000000) (ha : a.length < 1000000) (np : ∀ x ∈ p,x.f0.size≤300) (nq : ∀ x ∈ q,x.f0.size≤300) (na : ∀ x ∈ a,x.f0.size≤300) :
    Ev (fun k=>conf_Check.f k h.f0 h.f1 h.f2 h.f3 h.f4 h.f5 h.f6 h.f7 h.f8 p q a) (if COK h p q a = true then 0 else 100):=by
  exact check_evM h hp hq ha (fun x hx=>by have:=np x hx;omega) (fun x hx=>by have:=nq x hx;omega) (fun x hx=>by have:=na x hx;omega)
section long
variable (h : Hd) (P : List S50) (Q : List S52) (A : List S48)
theorem long_l2 : ∀ (s p : List S48),A = p ++ s→A.length < 1000000→∃ b,Ev (fun k=>gangerlaw10_long.l2 k (p.length : Int) h.f0 h.f1 h.f2 h.f3 h.f4 h.f5 h.f6 h.f7 h.f8 P Q A) b∧(b = false→∀ x ∈ s,x.f0.size≤300∧x.f1.size≤300)
  | [],p,e,hl=>⟨false,by
      refine Ev.step (fun k=>by rw [gangerlaw10_long.l2]) ?_
      subst e
      exact ev_neg (by simp) (Ev.now _),by simp⟩
  | x :: s,p,e,hl=>by
    have hr : rd_T48 A (p.length : Int) = x:=by rw [e];exact rd48_mid p x s
    have hlt : (p.length : Int) < (A.length : Int):=by rw [e];simp;omega
    by_cases h1 : (x.f0.size : Int) > 300
    · refine ⟨true,?_,fun q=>by cases q⟩
      refine Ev.step (fun k=>by rw [gangerlaw10_long.l2]) ?_
      refine ev_pos hlt (ev_pos (by omega) ?_)
      rw [hr]
      exact ev_pos h1 (Ev.now _)
    · by_cases h2 : (x.f1.size : Int) > 300
      · refine ⟨true,?_,fun q=>by cases q⟩
        refine Ev.step (fun k=>by rw [gangerlaw10_long.l2]) ?_
        refine ev_pos hlt (ev_pos (by omega) ?_)
        rw [hr]
        exact ev_neg h1 (ev_pos h2 (Ev.now _))
      · obtain ⟨b,hb,hf⟩:=long_l2 s (p ++ [x]) (by simpa using e) hl
        refine ⟨b,?_,fun q y hy=>?_⟩
        · refine Ev.step (fun k=>by rw [gangerlaw10_long.l2]) ?_
          refine ev_pos hlt (ev_pos (by omega) ?_)
          rw [hr,wsucc p x (by omega)]
          exact ev_neg h1 (ev_neg h2 hb)
        · rcases List.mem_cons.1 hy with q2|q2
          · subst q2;omega
          · exact hf q y q2
theorem long_l1 (hA : A.length < 1000000) : ∀ (s p : List S52),Q = p ++ s→Q.length < 1000000→∃ b,Ev (fun k=>gangerlaw10_long.l1 k (p.length : Int) h.f0 h.f1 h.f2 h.f3 h.f4 h.f5 h.f6 h.f7 h.f8 P Q A) b∧(b = false→(∀ x ∈ s,x.f0.size≤300)∧(∀ x ∈ A,x.f0.size≤300∧x.f1.size≤300))
  | [],p,e,hl=>by
      obtain ⟨b,hb,hf⟩:=long_l2 h P Q A A [] rfl hA
      refine ⟨b,?_,fun q=>⟨by simp,hf q⟩⟩
      refine Ev.step (fun k=>by rw [gangerlaw10_long.l1]) ?_
      subst e
      exact ev_neg (by simp) hb
  | x :: s,p,e,hl=>by
    have hr : rd_T52 Q (p.length : Int) = x:=by rw [e];exact rd52_mid p x s
    have hlt : (p.length : Int) < (Q.length : Int):=by rw [e];simp;omega
    by_cases h1 : (x.f0.size : Int) > 300
    · refine ⟨true,?_,fun q=>by cases q⟩
      refine Ev.step (fun k=>by rw [gangerlaw10_long.l1]) ?_
      refine ev_pos hlt (ev_pos (by omega) ?_)
      rw [hr]
      exact ev_pos h1 (Ev.now _)
    · obtain ⟨b,hb,hf⟩:=long_l1 hA s (p ++ [x]) (by simpa using e) hl
      refine ⟨b,?_,fun q=>⟨fun y hy=>?_,(hf q).2⟩⟩
      · refine Ev.step (fun k=>by rw [gangerlaw10_long.l1]) ?_
        refine ev_pos hlt (ev_pos (by omega) ?_)
        rw [hr,wsucc p x (by omega)]
        exact ev_neg h1 hb
      · rcases List.mem_cons.1 hy with q2|q2
        · subst q2;omega
        · exact (hf q).1 y q2
theorem long_l0 (hA : A.length < 1000000) (hQ : Q.length < 1000000) : ∀ (s p : List S50),P = p ++ s→P.length < 1000000→∃ b,Ev (fun k=>gangerlaw10_long.l0 k (p.length : Int) h.f0 h.f1 h.f2 h.f3 h.f4 h.f5 h.f6 h.f7 h.f8 P Q A) b∧(b = false→(∀ x ∈ s,x.f0.size≤300)∧(∀ x ∈ Q,x.f0.size≤300)∧(∀ x ∈ A,x.f0.size≤300∧x.f1.size≤300))
  | [],p,e,hl=>by
      obtain ⟨b,hb,hf⟩:=long_l1 h P Q A hA Q [] rfl hQ
      refine ⟨b,?_,fun q=>⟨by simp,hf q⟩⟩
      refine Ev.step (fun k=>by rw [gangerlaw10_long.l0]) ?_
      subst e
      exact ev_neg (by simp) hb
  | x :: s,p,e,hl=>by
    have hr : rd_T50 P (p.length : Int) = x:=by rw [e];exact rd50_mid p x s
    have hlt : (p.length : Int) < (P.length : Int):=by rw [e];simp;omega
    by_cases h1 : (x.f0.size : Int) > 300
    · refine ⟨true,?_,fun q=>by cases q⟩
      refine Ev.step (fun k=>by rw [gangerlaw10_long.l0]) ?_
      refine ev_pos hlt (ev_pos (by omega) ?_)
      rw [hr]
      exact ev_pos h1 (Ev.now _)
    · obtain ⟨b,hb,hf⟩:=long_l0 hA hQ s (p ++ [x]) (by simpa using e) hl
      refine ⟨b,?_,fun q=>⟨fun y hy=>?_,(hf q).2⟩⟩
      · refine Ev.step (fun k=>by rw [gangerlaw10_long.l0]) ?_
        refine ev_pos hlt (ev_pos (by omega) ?_)
        rw [hr,wsucc p x (by omega)]
        exact ev_neg h1 hb
      · rcases List.mem_cons.1 hy with q2|q2
        · subst q2;omega
        · exact (hf q).1 y q2
theorem long_ev : ∃ b,Ev (fun k=>gangerlaw10_long.f k h.f0 h.f1 h.f2 h.f3 h.f4 h.f5 h.f6 h.f7 h.f8 P Q A) b∧(b = false→Small P Q A):=by
  unfold gangerlaw10_long.f
  have J : Ev (fun k=>gangerlaw10_long.j0 k true h.f0 h.f1 h.f2 h.f3 h.f4 h.f5 h.f6 h.f7 h.f8 P Q A) true:=by
    refine Ev.step (fun k=>by rw [gangerlaw10_long.j0]) ?_
    exact ev_pos rfl (Ev.now _)
  by_cases h1 : (P.length : Int) > 40
  · exact ⟨true,ev_pos h1 J,fun q=>by cases q⟩
  · by_cases h2 : (Q.length : Int) > 40
    · exact ⟨true,ev_neg h1 (ev_pos h2 J),fun q=>by cases q⟩
    · by_cases h3 : (A.length : Int) > 120
      · refine ⟨true,ev_neg h1 (ev_neg h2 ?_),fun q=>by cases q⟩
        rw [decide_eq_true h3];exact J
      · obtain ⟨b,hb,hf⟩:=long_l0 h P Q A (by omega) (by omega) P [] rfl (by omega)
        refine ⟨b,ev_neg h1 (ev_neg h2 ?_),fun q=>⟨by omega,by omega,by omega,(hf q).1,(hf q).2.1,(hf q).2.2⟩⟩
        rw [decide_eq_false h3]
        refine Ev.step (fun k=>by rw [gangerlaw10_long.j0]) ?_
        exact ev_neg (by simp) hb
end long
end Go.Proofs.YtgidipomfbikiaaDoor.Cnf
