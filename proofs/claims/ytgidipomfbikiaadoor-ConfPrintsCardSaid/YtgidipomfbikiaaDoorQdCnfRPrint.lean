/- cut to what one law reaches -/
import Derived.Test.YtgidipomfbikiaaDoorQdCnfPrint
import Derived.Test.YtgidipomfbikiaaDoorQdP0
import Derived.Test.YtgidipomfbikiaaDoorQdP10
import Derived.Test.YtgidipomfbikiaaDoorQdP12
import Derived.Test.YtgidipomfbikiaaDoorQdP17
import Derived.Test.YtgidipomfbikiaaDoorQdP18
import Derived.Test.YtgidipomfbikiaaDoorQdP19
namespace Go.Proofs.YtgidipomfbikiaaDoor.Cnf
open Go.RowKit Go.Proofs.YtgidipomfbikiaaDoorW.PrintWords Go.Proofs.YtgidipomfbikiaaDoorW.PrintLast Go.Proofs.YtgidipomfbikiaaDoorW.PrintMore Go.Proofs.YtgidipomfbikiaaDoor.P Go.Proofs.YtgidipomfbikiaaDoor.NumM
set_option linter.unusedVariables false
set_option linter.unusedSimpArgs false
theorem ev_acc {β : Type} {F : Nat→ByteArray→Option β} {X Y : ByteArray} {r : β} (e : X = Y) (h : Ev (fun k=>F k Y) r) : Ev (fun k=>F k X) r:=e ▸ h
theorem mk_of {a : ByteArray} {l : List UInt8} (h : a.data.toList = l) : a = mk l:=by rw [mk_self a,h]
theorem num_ev (w : ByteArray) (x : Int) (hw : w.size≤1000) (h0 : 0≤x) (h1 : x≤4294967296) : Ev (fun k=>gangerref10_num.f k w x) (mk (w.data.toList ++ [32] ++ d_ x)):=by
  have hd:=d_len h1
  unfold gangerref10_num.f
  refine ev_pos (by omega) (Ev.bind (digits_n h0 h1) (ev_pos (by simp only [ByteArray.size_append,size_litA,List.size_toArray,List.length_cons,List.length_nil,mk_size,List.length_append];omega) ?_))
  have e : w ++ (⟨#[32]⟩ : ByteArray) ++ mk (d_ x) = mk (w.data.toList ++ [32] ++ d_ x):=mk_of (by rw [ap_toList,ap_toList,mk_data])
  rw [e]
  exact Ev.now _
section ref
variable (h : Hd) (P : List S50) (Q : List S52) (A : List S48)
theorem rprint_l2 (hA : A.length < 1000000) (hn : ∀ x ∈ A,x.f0.size≤300∧x.f1.size≤300) (hs : ∀ x ∈ A,1≤x.f2∧x.f2≤1048576) : ∀ (s p : List S48) (l : List UInt8),A = p ++ s→accOk p s = true→namesOk (p.map (·.f0)) (s.map (·.f0)) = true→l.length + 2000 * s.length≤1000000000→(∀ x ∈ p,NameOk x.f0 = true) →
    Ev (fun k=>gangerref10_Print.l2 k (mk l) (p.length : Int) h.f0 h.f1 h.f2 h.f3 h.f4 h.f5 h.f6 h.f7 h.f8 P Q A) (mk (l ++ s.flatMap accT),0)
  | [],p,l,e,_,_,hl,_=>by
    refine Ev.step (fun k=>by rw [gangerref10_Print.l2]) ?_
    refine ev_neg (by rw [e];simp) ?_
    rw [List.flatMap_nil,List.append_nil]
    exact Ev.now _
  | a :: s,p,l,e,ho,hno,hl,hnm=>by
    have hm : a ∈ A:=by rw [e];simp
    have hlt : (p.length : Int) < (A.length : Int):=by rw [e];simp;omega
    have hr : rd_T48 A (p.length : Int) = a:=by rw [e];exact rd48_mid p a s
    obtain ⟨n0,n1⟩:=hn a hm
    obtain ⟨b0,b1⟩:=hs a hm
    rw [List.length_cons,Nat.mul_add] at hl
    have hd:=d_len (x:=a.f2) (by omega)
    rw [accOk,Bool.and_eq_true,Bool.and_eq_true,Bool.and_eq_true] at ho
    rw [List.map_cons,namesOk,Bool.and_eq_true,Bool.and_eq_true] at hno
    have ih : ∀ t : List UInt8,t.length≤2000→Ev (fun k=>gangerref10_Print.l2 k (mk (l ++ t)) ((p ++ [a]).length : Int) h.f0 h.f1 h.f2 h.f3 h.f4 h.f5 h.f6 h.f7 h.f8 P Q A) (mk (l ++ t ++ s.flatMap accT),0):=fun t ht =>
      rprint_l2 hA hn hs s (p ++ [a]) (l ++ t) (by rw [e];simp) ho.2 (by simpa using hno.2) (by rw [List.length_append];omega) (by
        intro x hx
        rcases List.mem_append.1 hx with q|q
        · exact hnm x q
        · rw [List.mem_singleton.1 q];exact hno.1.1)
    have hnum:=num_ev (⟨#[32,115,104,97,114,101,115]⟩ : ByteArray) a.f2 (by decide) (by omega) (by omega)
    have hl1 : a.f0.data.toList.length = a.f0.size:=rfl
    have hl2 : a.f1.data.toList.length = a.f1.size:=rfl
    refine Ev.step (fun k=>by rw [gangerref10_Print.l2]) ?_
    refine ev_pos hlt (ev_pos (by omega) ?_)
    rw [hr,List.flatMap_cons,← List.append_assoc,wsucc p a (by omega)]
    refine ev_pos (by simp only [ByteArray.size_append,size_litA,List.size_toArray,List.length_cons,List.length_nil,mk_size,List.length_append];omega) (ev_pos (by simp only [ByteArray.size_append,size_litA,List.size_toArray,List.length_cons,List.length_nil,mk_size,List.length_append];omega) ?_)
    have key : a.f1.toList = [] ↔ p = []:=by
      have h2:=ho.1.1.2
      have h3:=ho.1.2
      cases p with
      | nil=>simpa using h2
      | cons b p =>
        have e0 : (((b :: p).length : Int) == 0) = false:=by simp;omega
        rw [e0] at h2
        constructor
        · intro z;rw [z] at h2;simp at h2
        · intro z;cases z
    by_cases g : (p.length : Int) > 0
    · have g1 : ¬ a.f1.toList = []:=by rw [key];intro z;subst z;simp at g
      refine ev_pos g (ev_pos (by simp only [ByteArray.size_append,size_litA,List.size_toArray,List.length_cons,List.length_nil,mk_size,List.length_append];omega) (ev_pos (by simp only [ByteArray.size_append,size_litA,List.size_toArray,List.length_cons,List.length_nil,mk_size,List.length_append];omega) (Ev.bind hnum (ev_pos (by simp only [ByteArray.size_append,size_litA,List.size_toArray,List.length_cons,List.length_nil,mk_size,List.length_append];omega) (ev_pos (by simp only [ByteArray.size_append,size_litA,List.size_toArray,List.length_cons,List.length_nil,mk_size,List.length_append];omega) ?_)))))
      refine ev_acc (F:=fun k x=>gangerref10_Print.l2 k x ((p ++ [a]).length : Int) h.f0 h.f1 h.f2 h.f3 h.f4 h.f5 h.f6 h.f7 h.f8 P Q A) (mk_of ?_) (ih (accT a) ?_)
      · rw [accT_eq,if_neg g1]
        simp [line,Lib.join_cons,Lib.joinTail,wAccount,wShares,mk_data]
      · rw [accT_eq,if_neg g1]
        simp [line,Lib.join_cons,Lib.joinTail,wAccount,wShares,mk_data]
        omega
    · have g1 : a.f1.toList = []:=by rw [key];exact List.length_eq_zero_iff.1 (by omega)
      refine ev_neg g (Ev.bind hnum (ev_pos (by simp only [ByteArray.size_append,size_litA,List.size_toArray,List.length_cons,List.length_nil,mk_size,List.length_append];omega) (ev_pos (by simp only [ByteArray.size_append,size_litA,List.size_toArray,List.length_cons,List.length_nil,mk_size,List.length_append];omega) ?_)))
      refine ev_acc (F:=fun k x=>gangerref10_Print.l2 k x ((p ++ [a]).length : Int) h.f0 h.f1 h.f2 h.f3 h.f4 h.f5 h.f6 h.f7 h.f8 P Q A) (mk_of ?_) (ih (accT a) ?_)
      · rw [accT_eq,if_pos g1]
        simp [line,Lib.join_cons,Lib.joinTail,wAccount,wShares,mk_data]
      · rw [accT_eq,if_pos g1]
        simp [line,Lib.join_cons,Lib.joinTail,wAccount,wShares,mk_data]
        omega
theorem rprint_l1 (hA : A.length < 1000000) (hQ : Q.length < 1000000) (hnq : ∀ x ∈ Q,x.f0.size≤300) (hsq : ∀ x ∈ Q,(0≤x.f1∧x.f1≤1048576)∧(1≤x.f2∧x.f2≤1048576))
    (h2 : ∀ l : List UInt8,l.length + 2000 * A.length≤1000000000→Ev (fun k=>gangerref10_Print.l2 k (mk l) 0 h.f0 h.f1 h.f2 h.f3 h.f4 h.f5 h.f6 h.f7 h.f8 P Q A) (mk (l ++ A.flatMap accT),0)) : ∀ (s p : List S52) (l : List UInt8),Q = p ++ s→l.length + 2000 * (s.length + A.length)≤1000000000 →
    Ev (fun k=>gangerref10_Print.l1 k (mk l) (p.length : Int) h.f0 h.f1 h.f2 h.f3 h.f4 h.f5 h.f6 h.f7 h.f8 P Q A) (mk (l ++ s.flatMap classT ++ A.flatMap accT),0)
  | [],p,l,e,hl=>by
    refine Ev.step (fun k=>by rw [gangerref10_Print.l1]) ?_
    refine ev_neg (by rw [e];simp) ?_
    rw [List.flatMap_nil,List.append_nil]
    exact h2 l (by simpa using hl)
  | a :: s,p,l,e,hl=>by
    have hm : a ∈ Q:=by rw [e];simp
    have hlt : (p.length : Int) < (Q.length : Int):=by rw [e];simp;omega
    have hr : rd_T52 Q (p.length : Int) = a:=by rw [e];exact rd52_mid p a s
    have n0:=hnq a hm
    obtain ⟨b1,b2⟩:=hsq a hm
    rw [List.length_cons] at hl
    have hd1:=d_len (x:=a.f1) (by omega)
    have hd2:=d_len (x:=a.f2) (by omega)
    have hl1 : a.f0.data.toList.length = a.f0.size:=rfl
    have ih : ∀ t : List UInt8,t.length≤2000→Ev (fun k=>gangerref10_Print.l1 k (mk (l ++ t)) ((p ++ [a]).length : Int) h.f0 h.f1 h.f2 h.f3 h.f4 h.f5 h.f6 h.f7 h.f8 P Q A) (mk (l ++ t ++ s.flatMap classT ++ A.flatMap accT),0):=fun t ht =>
      rprint_l1 hA hQ hnq hsq h2 s (p ++ [a]) (l ++ t) (by rw [e];simp) (by rw [List.length_append];omega)
    have m1:=num_ev (⟨#[32,112,114,105,111,114,105,116,121]⟩ : ByteArray) a.f1 (by decide) (by omega) (by omega)
    have m2:=num_ev (⟨#[32,109,111,115,116]⟩ : ByteArray) a.f2 (by decide) (by omega) (by omega)
    refine Ev.step (fun k=>by rw [gangerref10_Print.l1]) ?_
    refine ev_pos hlt (ev_pos (by omega) ?_)
    rw [hr,List.flatMap_cons,← List.append_assoc,wsucc p a (by omega)]
    refine ev_pos (by simp only [ByteArray.size_append,size_litA,List.size_toArray,List.length_cons,List.length_nil,mk_size,List.length_append];omega) (ev_pos (by simp only [ByteArray.size_append,size_litA,List.size_toArray,List.length_cons,List.length_nil,mk_size,List.length_append];omega) (Ev.bind m1 (ev_pos (by simp only [ByteArray.size_append,size_litA,List.size_toArray,List.length_cons,List.length_nil,mk_size,List.length_append];omega) (Ev.bind m2 (ev_pos (by simp only [ByteArray.size_append,size_litA,List.size_toArray,List.length_cons,List.length_nil,mk_size,List.length_append];omega) (ev_pos (by simp only [ByteArray.size_append,size_litA,List.size_toArray,List.length_cons,List.length_nil,mk_size,List.length_append];omega) ?_))))))
    refine ev_acc (F:=fun k x=>gangerref10_Print.l1 k x ((p ++ [a]).length : Int) h.f0 h.f1 h.f2 h.f3 h.f4 h.f5 h.f6 h.f7 h.f8 P Q A) (mk_of ?_) (ih (classT a) ?_)
    · simp [classT,line,Lib.join_cons,Lib.joinTail,wQos,wPriority,wMost,mk_data]
    · simp [classT,line,Lib.join_cons,Lib.joinTail,wQos,wPriority,wMost,mk_data]
      omega
theorem rprint_l0 (hQ : Q.length < 1000000) (hP : P.length < 1000000) (hnp : ∀ x ∈ P,x.f0.size≤300) (hsp : ∀ x ∈ P,(0≤x.f1∧x.f1≤10)∧(0≤x.f2∧x.f2≤1048576)∧(1≤x.f3∧x.f3≤1073741824))
    (h2 : ∀ l : List UInt8,l.length + 2000 * (Q.length + A.length)≤1000000000→Ev (fun k=>gangerref10_Print.l1 k (mk l) 0 h.f0 h.f1 h.f2 h.f3 h.f4 h.f5 h.f6 h.f7 h.f8 P Q A) (mk (l ++ Q.flatMap classT ++ A.flatMap accT),0)) : ∀ (s p : List S50) (l : List UInt8),P = p ++ s→l.length + 2000 * (s.length + (Q.length + A.length))≤1000000000 →
    Ev (fun k=>gangerref10_Print.l0 k (mk l) (p.length : Int) h.f0 h.f1 h.f2 h.f3 h.f4 h.f5 h.f6 h.f7 h.f8 P Q A) (mk (l ++ s.flatMap partT ++ Q.flatMap classT ++ A.flatMap accT),0)
  | [],p,l,e,hl=>by
    refine Ev.step (fun k=>by rw [gangerref10_Print.l0]) ?_
    refine ev_neg (by rw [e];simp) ?_
    rw [List.flatMap_nil,List.append_nil]
    exact h2 l (by simpa using hl)
  | a :: s,p,l,e,hl=>by
    have hm : a ∈ P:=by rw [e];simp
    have hlt : (p.length : Int) < (P.length : Int):=by rw [e];simp;omega
    have hr : rd_T50 P (p.length : Int) = a:=by rw [e];exact rd50_mid p a s
    have n0:=hnp a hm
    obtain ⟨b1,b2,b3⟩:=hsp a hm
    rw [List.length_cons] at hl
    have hd1:=d_len (x:=a.f1) (by omega)
    have hd2:=d_len (x:=a.f2) (by omega)
    have hd3:=d_len (x:=a.f3) (by omega)
    have hl1 : a.f0.data.toList.length = a.f0.size:=rfl
    have ih : ∀ t : List UInt8,t.length≤2000→Ev (fun k=>gangerref10_Print.l0 k (mk (l ++ t)) ((p ++ [a]).length : Int) h.f0 h.f1 h.f2 h.f3 h.f4 h.f5 h.f6 h.f7 h.f8 P Q A) (mk (l ++ t ++ s.flatMap partT ++ Q.flatMap classT ++ A.flatMap accT),0):=fun t ht =>
      rprint_l0 hQ hP hnp hsp h2 s (p ++ [a]) (l ++ t) (by rw [e];simp) (by rw [List.length_append];omega)
    have m1:=num_ev (⟨#[32,111,114,100,101,114]⟩ : ByteArray) a.f1 (by decide) (by omega) (by omega)
    have m2:=num_ev (⟨#[32,112,114,105,111,114,105,116,121]⟩ : ByteArray) a.f2 (by decide) (by omega) (by omega)
    have m3:=num_ev (⟨#[32,108,105,109,105,116]⟩ : ByteArray) a.f3 (by decide) (by omega) (by omega)
    refine Ev.step (fun k=>by rw [gangerref10_Print.l0]) ?_
    refine ev_pos hlt (ev_pos (by omega) ?_)
    rw [hr,List.flatMap_cons,← List.append_assoc,wsucc p a (by omega)]
    refine ev_pos (by simp only [ByteArray.size_append,size_litA,List.size_toArray,List.length_cons,List.length_nil,mk_size,List.length_append];omega) (ev_pos (by simp only [ByteArray.size_append,size_litA,List.size_toArray,List.length_cons,List.length_nil,mk_size,List.length_append];omega) (Ev.bind m1 (ev_pos (by simp only [ByteArray.size_append,size_litA,List.size_toArray,List.length_cons,List.length_nil,mk_size,List.length_append];omega) (Ev.bind m2 (ev_pos (by simp only [ByteArray.size_append,size_litA,List.size_toArray,List.length_cons,List.length_nil,mk_size,List.length_append];omega) (Ev.bind m3 (ev_pos (by simp only [ByteArray.size_append,size_litA,List.size_toArray,List.length_cons,List.length_nil,mk_size,List.length_append];omega) (ev_pos (by simp only [ByteArray.size_append,size_litA,List.size_toArray,List.length_cons,List.length_nil,mk_size,List.length_append];omega) ?_))))))))
    refine ev_acc (F:=fun k x=>gangerref10_Print.l0 k x ((p ++ [a]).length : Int) h.f0 h.f1 h.f2 h.f3 h.f4 h.f5 h.f6 h.f7 h.f8 P Q A) (mk_of ?_) (ih (partT a) ?_)
    · simp [partT,line,Lib.join_cons,Lib.joinTail,wPartition,wOrder,wPriority,wLimit,mk_data]
    · simp [partT,line,Lib.join_cons,Lib.joinTail,wPartition,wOrder,wPriority,wLimit,mk_data]
      omega
theorem rprint_ev (hs : Small P Q A) : Ev (fun k=>gangerref10_Print.f k h.f0 h.f1 h.f2 h.f3 h.f4 h.f5 h.f6 h.f7 h.f8 P Q A) (printR h P Q A):=by
  obtain ⟨h1,h2,h3,h4,h5,h6⟩:=hs
  unfold gangerref10_Print.f printR
  refine Ev.bind (refcheck_ev h P Q A (by omega) (by omega) (by omega) h4 h5 (fun x hx=>(h6 x hx).1)) ?_
  cases hc : COK h P Q A with
  | false=>exact ev_neg (by simp) (Ev.now _)
  | true =>
  have hb:=cok_b hc
  obtain ⟨b0,b1,b2,b3,b4,b5,b6,b7,b8⟩:=hb.hb
  rw [if_pos rfl]
  refine ev_pos rfl ?_
  have hpol : gangerref10_policy.f h.f0 = some (rdOf ByteArray.empty polW h.f0):=by
    unfold gangerref10_policy.f
    simp only [Option.bind_some]
    rw [if_pos (by omega),if_pos (by simp;omega)]
    rfl
  rw [hpol]
  refine Ev.bind (Ev.now _) ?_
  have hps:=pol_sz h.f0
  have ept : (rdOf ByteArray.empty polW h.f0).data.toList = polT h.f0:=rfl
  have m1:=num_ev (⟨#[104,97,108,102]⟩ : ByteArray) h.f1 (by decide) (by omega) (by omega)
  have m2:=num_ev (⟨#[113,117,97,110,116,117,109]⟩ : ByteArray) h.f2 (by decide) (by omega) (by omega)
  have m3:=num_ev (⟨#[114,101,113,117,101,117,101,115]⟩ : ByteArray) h.f3 (by decide) (by omega) (by omega)
  have m4:=num_ev (⟨#[119,101,105,103,104,116,115]⟩ : ByteArray) h.f4 (by decide) (by omega) (by omega)
  have m5:=num_ev (⟨#[]⟩ : ByteArray) h.f5 (by decide) (by omega) (by omega)
  have m6:=num_ev (⟨#[]⟩ : ByteArray) h.f6 (by decide) (by omega) (by omega)
  have m7:=num_ev (⟨#[]⟩ : ByteArray) h.f7 (by decide) (by omega) (by omega)
  have m8:=num_ev (⟨#[]⟩ : ByteArray) h.f8 (by decide) (by omega) (by omega)
  have e1:=d_len (x:=h.f1) (by omega)
  have e2:=d_len (x:=h.f2) (by omega)
  have e3:=d_len (x:=h.f3) (by omega)
  have e4:=d_len (x:=h.f4) (by omega)
  have e5:=d_len (x:=h.f5) (by omega)
  have e6:=d_len (x:=h.f6) (by omega)
  have e7:=d_len (x:=h.f7) (by omega)
  have e8:=d_len (x:=h.f8) (by omega)
  refine ev_pos (by omega) (ev_pos (by simp only [ByteArray.size_append,size_litA,List.size_toArray,List.length_cons,List.length_nil,mk_size,List.length_append];omega) ?_)
  refine Ev.bind m1 (ev_pos (by simp only [ByteArray.size_append,size_litA,List.size_toArray,List.length_cons,List.length_nil,mk_size,List.length_append];omega) (ev_pos (by simp only [ByteArray.size_append,size_litA,List.size_toArray,List.length_cons,List.length_nil,mk_size,List.length_append];omega) ?_))
  refine Ev.bind m2 (ev_pos (by simp only [ByteArray.size_append,size_litA,List.size_toArray,List.length_cons,List.length_nil,mk_size,List.length_append];omega) (ev_pos (by simp only [ByteArray.size_append,size_litA,List.size_toArray,List.length_cons,List.length_nil,mk_size,List.length_append];omega) ?_))
  refine Ev.bind m3 (ev_pos (by simp only [ByteArray.size_append,size_litA,List.size_toArray,List.length_cons,List.length_nil,mk_size,List.length_append];omega) (ev_pos (by simp only [ByteArray.size_append,size_litA,List.size_toArray,List.length_cons,List.length_nil,mk_size,List.length_append];omega) ?_))
  refine Ev.bind m4 (ev_pos (by simp only [ByteArray.size_append,size_litA,List.size_toArray,List.length_cons,List.length_nil,mk_size,List.length_append];omega) ?_)
  refine Ev.bind m5 (ev_pos (by simp only [ByteArray.size_append,size_litA,List.size_toArray,List.length_cons,List.length_nil,mk_size,List.length_append];omega) ?_)
  refine Ev.bind m6 (ev_pos (by simp only [ByteArray.size_append,size_litA,List.size_toArray,List.length_cons,List.length_nil,mk_size,List.length_append];omega) ?_)
  refine Ev.bind m7 (ev_pos (by simp only [ByteArray.size_append,size_litA,List.size_toArray,List.length_cons,List.length_nil,mk_size,List.length_append];omega) ?_)
  refine Ev.bind m8 (ev_pos (by simp only [ByteArray.size_append,size_litA,List.size_toArray,List.length_cons,List.length_nil,mk_size,List.length_append];omega) (ev_pos (by simp only [ByteArray.size_append,size_litA,List.size_toArray,List.length_cons,List.length_nil,mk_size,List.length_append];omega) ?_))
  have q1:=hb.lp
  have q2:=hb.lq
  have q3:=hb.la
  have hhl : (headT h).length≤1000:=by
    have:=sz_list (rdOf ByteArray.empty polW h.f0)
    rw [ept] at this
    simp [headT,line,Lib.join_cons,Lib.joinTail,wPolicy,wHalf,wQuantum,wRequeues,wWeights]
    omega
  have g2 : ∀ l : List UInt8,l.length + 2000 * A.length≤1000000000→Ev (fun k=>gangerref10_Print.l2 k (mk l) 0 h.f0 h.f1 h.f2 h.f3 h.f4 h.f5 h.f6 h.f7 h.f8 P Q A) (mk (l ++ A.flatMap accT),0):=fun l hl =>
    rprint_l2 h P Q A (by omega) h6 (accOk_b A [] hb.acc) A [] l rfl hb.acc hb.na hl (fun x hx=>by cases hx)
  have g1 : ∀ l : List UInt8,l.length + 2000 * (Q.length + A.length)≤1000000000→Ev (fun k=>gangerref10_Print.l1 k (mk l) 0 h.f0 h.f1 h.f2 h.f3 h.f4 h.f5 h.f6 h.f7 h.f8 P Q A) (mk (l ++ Q.flatMap classT ++ A.flatMap accT),0):=fun l hl =>
    rprint_l1 h P Q A (by omega) (by omega) h5 hb.q g2 Q [] l rfl hl
  refine ev_acc (F:=fun k x=>gangerref10_Print.l0 k x 0 h.f0 h.f1 h.f2 h.f3 h.f4 h.f5 h.f6 h.f7 h.f8 P Q A) (mk_of ?_) (rprint_l0 h P Q A (by omega) (by omega) h4 hb.p g1 P [] (headT h) rfl (by omega))
  simp [headT,line,Lib.join_cons,Lib.joinTail,wPolicy,wHalf,wQuantum,wRequeues,wWeights,mk_data,ept]
end ref
/-- the same configuration is the same -/
theorem copy_f (h : Hd) (P : List S50) (Q : List S52) (A : List S48) (hs : Small P Q A) : gangerref10_Copy.f h.f0 h.f1 h.f2 h.f3 h.f4 h.f5 h.f6 h.f7 h.f8 P Q A = some (h.f0,h.f1,h.f2,h.f3,h.f4,h.f5,h.f6,h.f7,h.f8,P,Q,A):=by
  obtain ⟨h1,h2,h3,_⟩:=hs
  unfold gangerref10_Copy.f
  rw [if_pos (by simp;omega),if_pos (by simp;omega),if_pos (by simp;omega)]
  simp
section same
variable (h : Hd) (P : List S50) (Q : List S52) (A : List S48)
theorem same_l2 (hA : A.length < 1000000) : ∀ (s p : List S48),A = p ++ s→Ev (fun k=>gangerref10_Same.l2 k (p.length : Int) h.f0 h.f1 h.f2 h.f3 h.f4 h.f5 h.f6 h.f7 h.f8 P Q A h.f0 h.f1 h.f2 h.f3 h.f4 h.f5 h.f6 h.f7 h.f8 P Q A) true
  | [],p,e=>by
    refine Ev.step (fun k=>by rw [gangerref10_Same.l2]) ?_
    exact ev_neg (by rw [e];simp) (Ev.now _)
  | a :: s,p,e=>by
    have hlt : (p.length : Int) < (A.length : Int):=by rw [e];simp;omega
    refine Ev.step (fun k=>by rw [gangerref10_Same.l2]) ?_
    refine ev_pos hlt (ev_pos (by omega) (ev_pos hlt (ev_neg (by simp) ?_)))
    rw [wsucc p a (by omega)]
    exact same_l2 hA s (p ++ [a]) (by rw [e];simp)
theorem same_l1 (hA : A.length < 1000000) (hQ : Q.length < 1000000) : ∀ (s p : List S52),Q = p ++ s→Ev (fun k=>gangerref10_Same.l1 k (p.length : Int) h.f0 h.f1 h.f2 h.f3 h.f4 h.f5 h.f6 h.f7 h.f8 P Q A h.f0 h.f1 h.f2 h.f3 h.f4 h.f5 h.f6 h.f7 h.f8 P Q A) true
  | [],p,e=>by
    refine Ev.step (fun k=>by rw [gangerref10_Same.l1]) ?_
    exact ev_neg (by rw [e];simp) (same_l2 h P Q A hA A [] rfl)
  | a :: s,p,e=>by
    have hlt : (p.length : Int) < (Q.length : Int):=by rw [e];simp;omega
    refine Ev.step (fun k=>by rw [gangerref10_Same.l1]) ?_
    refine ev_pos hlt (ev_pos (by omega) (ev_pos hlt (ev_neg (by simp) ?_)))
    rw [wsucc p a (by omega)]
    exact same_l1 hA hQ s (p ++ [a]) (by rw [e];simp)
theorem same_l0 (hA : A.length < 1000000) (hQ : Q.length < 1000000) (hP : P.length < 1000000) : ∀ (s p : List S50),P = p ++ s→Ev (fun k=>gangerref10_Same.l0 k (p.length : Int) h.f0 h.f1 h.f2 h.f3 h.f4 h.f5 h.f6 h.f7 h.f8 P Q A h.f0 h.f1 h.f2 h.f3 h.f4 h.f5 h.f6 h.f7 h.f8 P Q A) true
  | [],p,e=>by
    refine Ev.step (fun k=>by rw [gangerref10_Same.l0]) ?_
    exact ev_neg (by rw [e];simp) (same_l1 h P Q A hA hQ Q [] rfl)
  | a :: s,p,e=>by
    have hlt : (p.length : Int) < (P.length : Int):=by rw [e];simp;omega
    refine Ev.step (fun k=>by rw [gangerref10_Same.l0]) ?_
    refine ev_pos hlt (ev_pos (by omega) (ev_pos hlt (ev_neg (by simp) ?_)))
    rw [wsucc p a (by omega)]
    exact same_l0 hA hQ hP s (p ++ [a]) (by rw [e];simp)
theorem same_ev (hA : A.length < 1000000) (hQ : Q.length < 1000000) (hP : P.length < 1000000) : Ev (fun k=>gangerref10_Same.f k h.f0 h.f1 h.f2 h.f3 h.f4 h.f5 h.f6 h.f7 h.f8 P Q A h.f0 h.f1 h.f2 h.f3 h.f4 h.f5 h.f6 h.f7 h.f8 P Q A) true:=by
  unfold gangerref10_Same.f
  refine ev_pos rfl (ev_pos rfl (ev_pos rfl (ev_pos rfl (ev_neg (by simp) (ev_pos rfl (ev_pos rfl ?_))))))
  have e : ((A.length : Int) != (A.length : Int)) = false:=by simp
  rw [e]
  refine Ev.step (fun k=>by rw [gangerref10_Same.j0]) ?_
  exact ev_neg (by simp) (same_l0 h P Q A hA hQ hP P [] rfl)
end same
end Go.Proofs.YtgidipomfbikiaaDoor.Cnf
