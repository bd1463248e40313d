/- cut to what one law reaches -/
import Derived.Test.YtgidipomfbikiaaDoorQfCnfText
import Derived.Test.YtgidipomfbikiaaDoorQfP0
import Derived.Test.YtgidipomfbikiaaDoorQfP7
import Derived.Test.YtgidipomfbikiaaDoorQfP8
import Derived.Test.YtgidipomfbikiaaDoorQfP10
namespace Go.Proofs.YtgidipomfbikiaaDoor.Cnf
open Go.RowKit Go.Proofs.YtgidipomfbikiaaDoorW.PrintWords Go.Proofs.YtgidipomfbikiaaDoorW.PrintLast Go.Proofs.YtgidipomfbikiaaDoorW.PrintMore Go.Proofs.YtgidipomfbikiaaDoor.P Go.Proofs.YtgidipomfbikiaaDoor.NumM
set_option linter.unusedVariables false
set_option linter.unusedSimpArgs false
theorem ap_toList (a b : ByteArray) : (a ++ b).data.toList = a.data.toList ++ b.data.toList:=by simp
theorem sz_list (a : ByteArray) : a.data.toList.length = a.size:=rfl
theorem row_ev (ws : List ByteArray) (l : List (List UInt8)) (e : ws.map (·.data.toList) = l) (h1 : ws.length≤20) (h2 : ∀ x ∈ ws,x.size≤1000) : conf_row.f ws = some (mk (line l))∧(line l).length≤20021:=by
  subst e;exact row_f ws h1 h2
theorem accT_eq (a : S48) : accT a = line [wAccount,a.f0.data.toList ++ (if a.f1.toList = [] then [] else [32,112,97,114,101,110,116,32] ++ a.f1.data.toList),wShares,d_ a.f2]:=by
  unfold accT
  split
  · simp
  · unfold line
    simp [Lib.join_cons,Lib.joinTail,wParent]
section print
variable (h : Hd) (P : List S50) (Q : List S52) (A : List S48)
theorem print_l2 (hA : A.length < 1000000) (hn : ∀ x ∈ A,x.f0.size≤300∧x.f1.size≤300) (hs : ∀ x ∈ A,1≤x.f2∧x.f2≤1048576) : ∀ (s p : List S48) (l : List UInt8),A = p ++ s→l.length + 20021 * s.length≤1000000000 →
    Ev (fun k=>conf_Print.l2 k (mk l) A (A.length : Int) (p.length : Int)) (mk (l ++ s.flatMap accT),0)
  | [],p,l,e,hl=>by
    refine Ev.step (fun k=>by rw [conf_Print.l2]) ?_
    refine ev_neg (by rw [e];simp) ?_
    rw [List.flatMap_nil,List.append_nil]
    exact Ev.now _
  | a :: s,p,l,e,hl=>by
    have hm : a ∈ A:=by rw [e];simp
    have hlt : (p.length : Int) < (A.length : Int):=by rw [e];simp;omega
    have hr : rd_T48 A (p.length : Int) = a:=by rw [e];exact rd48_mid p a s
    obtain ⟨n0,n1⟩:=hn a hm
    obtain ⟨b0,b1⟩:=hs a hm
    rw [List.length_cons,Nat.mul_add] at hl
    have hd:=d_len (x:=a.f2) (by omega)
    have ih : ∀ t : List UInt8,t.length≤20021→Ev (fun k=>conf_Print.l2 k (mk (l ++ t)) A (A.length : Int) ((p ++ [a]).length : Int)) (mk (l ++ t ++ s.flatMap accT),0):=fun t ht =>
      print_l2 hA hn hs s (p ++ [a]) (l ++ t) (by rw [e];simp) (by rw [List.length_append];omega)
    refine Ev.step (fun k=>by rw [conf_Print.l2]) ?_
    refine ev_pos hlt (ev_pos (by omega) (ev_pos hlt ?_))
    rw [hr,List.flatMap_cons,← List.append_assoc,wsucc p a (by omega),accT_eq]
    by_cases g : a.f1.toList = []
    · obtain ⟨r1,r2⟩:=row_ev [(⟨#[97,99,99,111,117,110,116]⟩ : ByteArray),a.f0 ++ (⟨#[]⟩ : ByteArray),(⟨#[115,104,97,114,101,115]⟩ : ByteArray),mk (d_ a.f2)] [wAccount,a.f0.data.toList ++ [],wShares,d_ a.f2] (by simp [wAccount,wShares,mk]) (by simp) (by
        intro x hx
        simp only [List.mem_cons,List.not_mem_nil,or_false] at hx
        rcases hx with rfl|rfl|rfl|rfl
        · decide
        · rw [ByteArray.size_append];have : (⟨#[]⟩ : ByteArray).size = 0:=rfl;omega
        · decide
        · rw [mk_size];omega)
      refine ev_pos g (ev_pos (by omega) ?_)
      rw [itoa_n (by omega) (by omega),if_pos g]
      refine Ev.bind (Ev.now _) ?_
      rw [r1]
      refine Ev.bind (Ev.now _) (ev_pos (by rw [mk_size,mk_size];omega) ?_)
      rw [mk_append]
      exact ih _ r2
    · obtain ⟨r1,r2⟩:=row_ev [(⟨#[97,99,99,111,117,110,116]⟩ : ByteArray),a.f0 ++ ((⟨#[32,112,97,114,101,110,116,32]⟩ : ByteArray) ++ a.f1),(⟨#[115,104,97,114,101,115]⟩ : ByteArray),mk (d_ a.f2)] [wAccount,a.f0.data.toList ++ ([32,112,97,114,101,110,116,32] ++ a.f1.data.toList),wShares,d_ a.f2] (by simp [wAccount,wShares,mk]) (by simp) (by
        intro x hx
        simp only [List.mem_cons,List.not_mem_nil,or_false] at hx
        rcases hx with rfl|rfl|rfl|rfl
        · decide
        · rw [ByteArray.size_append,ByteArray.size_append];have : (⟨#[32,112,97,114,101,110,116,32]⟩ : ByteArray).size = 8:=rfl;omega
        · decide
        · rw [mk_size];omega)
      refine ev_neg g (ev_pos (by omega) (ev_pos (by rw [ByteArray.size_append];have : (⟨#[32,112,97,114,101,110,116,32]⟩ : ByteArray).size = 8:=rfl;omega) ?_))
      rw [itoa_n (by omega) (by omega),if_neg g]
      refine Ev.bind (Ev.now _) ?_
      rw [r1]
      refine Ev.bind (Ev.now _) (ev_pos (by rw [mk_size,mk_size];omega) ?_)
      rw [mk_append]
      exact ih _ r2
theorem print_l1 (hA : A.length < 1000000) (hQ : Q.length < 1000000) (hn : ∀ x ∈ A,x.f0.size≤300∧x.f1.size≤300) (hs : ∀ x ∈ A,1≤x.f2∧x.f2≤1048576) (hnq : ∀ x ∈ Q,x.f0.size≤300) (hsq : ∀ x ∈ Q,(0≤x.f1∧x.f1≤1048576)∧(1≤x.f2∧x.f2≤1048576)) : ∀ (s p : List S52) (l : List UInt8),Q = p ++ s→l.length + 20021 * (s.length + A.length)≤1000000000 →
    Ev (fun k=>conf_Print.l1 k (mk l) Q (Q.length : Int) (p.length : Int) h.f0 h.f1 h.f2 h.f3 h.f4 h.f5 h.f6 h.f7 h.f8 P Q A) (mk (l ++ s.flatMap classT ++ A.flatMap accT),0)
  | [],p,l,e,hl=>by
    refine Ev.step (fun k=>by rw [conf_Print.l1]) ?_
    refine ev_neg (by rw [e];simp) ?_
    rw [List.flatMap_nil,List.append_nil]
    exact print_l2 A hA hn hs A [] l rfl (by simpa using hl)
  | a :: s,p,l,e,hl=>by
    have hm : a ∈ Q:=by rw [e];simp
    have hlt : (p.length : Int) < (Q.length : Int):=by rw [e];simp;omega
    have hr : rd_T52 Q (p.length : Int) = a:=by rw [e];exact rd52_mid p a s
    have n0:=hnq a hm
    obtain ⟨b1,b2⟩:=hsq a hm
    rw [List.length_cons] at hl
    have hd1:=d_len (x:=a.f1) (by omega)
    have hd2:=d_len (x:=a.f2) (by omega)
    have ih : ∀ t : List UInt8,t.length≤20021→Ev (fun k=>conf_Print.l1 k (mk (l ++ t)) Q (Q.length : Int) ((p ++ [a]).length : Int) h.f0 h.f1 h.f2 h.f3 h.f4 h.f5 h.f6 h.f7 h.f8 P Q A) (mk (l ++ t ++ s.flatMap classT ++ A.flatMap accT),0):=fun t ht =>
      print_l1 hA hQ hn hs hnq hsq s (p ++ [a]) (l ++ t) (by rw [e];simp) (by rw [List.length_append];omega)
    obtain ⟨r1,r2⟩:=row_ev [(⟨#[113,111,115]⟩ : ByteArray),a.f0,(⟨#[112,114,105,111,114,105,116,121]⟩ : ByteArray),mk (d_ a.f1),(⟨#[109,111,115,116]⟩ : ByteArray),mk (d_ a.f2)] [wQos,a.f0.data.toList,wPriority,d_ a.f1,wMost,d_ a.f2] rfl (by simp) (by
      intro x hx
      simp only [List.mem_cons,List.not_mem_nil,or_false] at hx
      rcases hx with rfl|rfl|rfl|rfl|rfl|rfl
      · decide
      · omega
      · decide
      · rw [mk_size];omega
      · decide
      · rw [mk_size];omega)
    refine Ev.step (fun k=>by rw [conf_Print.l1]) ?_
    refine ev_pos hlt (ev_pos (by omega) (ev_pos hlt ?_))
    rw [hr,List.flatMap_cons,← List.append_assoc,wsucc p a (by omega),itoa_n (by omega) (by omega),itoa_n (by omega) (by omega)]
    refine Ev.bind (Ev.now _) (Ev.bind (Ev.now _) ?_)
    rw [r1]
    refine Ev.bind (Ev.now _) (ev_pos (by rw [mk_size,mk_size];omega) ?_)
    rw [mk_append]
    exact ih _ r2
theorem print_l0 (hA : A.length < 1000000) (hQ : Q.length < 1000000) (hP : P.length < 1000000) (hn : ∀ x ∈ A,x.f0.size≤300∧x.f1.size≤300) (hs : ∀ x ∈ A,1≤x.f2∧x.f2≤1048576) (hnq : ∀ x ∈ Q,x.f0.size≤300) (hsq : ∀ x ∈ Q,(0≤x.f1∧x.f1≤1048576)∧(1≤x.f2∧x.f2≤1048576)) (hnp : ∀ x ∈ P,x.f0.size≤300) (hsp : ∀ x ∈ P,(0≤x.f1∧x.f1≤10)∧(0≤x.f2∧x.f2≤1048576)∧(1≤x.f3∧x.f3≤1073741824)) : ∀ (s p : List S50) (l : List UInt8),P = p ++ s→l.length + 20021 * (s.length + Q.length + A.length)≤1000000000 →
    Ev (fun k=>conf_Print.l0 k (mk l) P (P.length : Int) (p.length : Int) h.f0 h.f1 h.f2 h.f3 h.f4 h.f5 h.f6 h.f7 h.f8 P Q A) (mk (l ++ s.flatMap partT ++ Q.flatMap classT ++ A.flatMap accT),0)
  | [],p,l,e,hl=>by
    refine Ev.step (fun k=>by rw [conf_Print.l0]) ?_
    refine ev_neg (by rw [e];simp) ?_
    rw [List.flatMap_nil,List.append_nil]
    exact print_l1 h P Q A hA hQ hn hs hnq hsq Q [] l rfl (by simpa using hl)
  | a :: s,p,l,e,hl=>by
    have hm : a ∈ P:=by rw [e];simp
    have hlt : (p.length : Int) < (P.length : Int):=by rw [e];simp;omega
    have hr : rd_T50 P (p.length : Int) = a:=by rw [e];exact rd50_mid p a s
    have n0:=hnp a hm
    obtain ⟨b1,b2,b3⟩:=hsp a hm
    rw [List.length_cons] at hl
    have hd1:=d_len (x:=a.f1) (by omega)
    have hd2:=d_len (x:=a.f2) (by omega)
    have hd3:=d_len (x:=a.f3) (by omega)
    have ih : ∀ t : List UInt8,t.length≤20021→Ev (fun k=>conf_Print.l0 k (mk (l ++ t)) P (P.length : Int) ((p ++ [a]).length : Int) h.f0 h.f1 h.f2 h.f3 h.f4 h.f5 h.f6 h.f7 h.f8 P Q A) (mk (l ++ t ++ s.flatMap partT ++ Q.flatMap classT ++ A.flatMap accT),0):=fun t ht =>
      print_l0 hA hQ hP hn hs hnq hsq hnp hsp s (p ++ [a]) (l ++ t) (by rw [e];simp) (by rw [List.length_append];omega)
    obtain ⟨r1,r2⟩:=row_ev [(⟨#[112,97,114,116,105,116,105,111,110]⟩ : ByteArray),a.f0,(⟨#[111,114,100,101,114]⟩ : ByteArray),mk (d_ a.f1),(⟨#[112,114,105,111,114,105,116,121]⟩ : ByteArray),mk (d_ a.f2),(⟨#[108,105,109,105,116]⟩ : ByteArray),mk (d_ a.f3)] [wPartition,a.f0.data.toList,wOrder,d_ a.f1,wPriority,d_ a.f2,wLimit,d_ a.f3] rfl (by simp) (by
      intro x hx
      simp only [List.mem_cons,List.not_mem_nil,or_false] at hx
      rcases hx with rfl|rfl|rfl|rfl|rfl|rfl|rfl|rfl
      · decide
      · omega
      · decide
      · rw [mk_size];omega
      · decide
      · rw [mk_size];omega
      · decide
      · rw [mk_size];omega)
    refine Ev.step (fun k=>by rw [conf_Print.l0]) ?_
    refine ev_pos hlt (ev_pos (by omega) (ev_pos hlt ?_))
    rw [hr,List.flatMap_cons,← List.append_assoc,wsucc p a (by omega),itoa_n (by omega) (by omega),itoa_n (by omega) (by omega),itoa_n (by omega) (by omega)]
    refine Ev.bind (Ev.now _) (Ev.bind (Ev.now _) (Ev.bind (Ev.now _) ?_))
    rw [r1]
    refine Ev.bind (Ev.now _) (ev_pos (by rw [mk_size,mk_size];omega) ?_)
    rw [mk_append]
    exact ih _ r2
theorem pol_sz (i : Int) : (rdOf ByteArray.empty polW i).size≤12:=by
  unfold rdOf
  rcases h : i.toNat with _|_|_|_|_|j
  all_goals first|decide|(simp [polW,List.getD];try decide)
/-- what is printed -/
def printR : ByteArray × Int:=if COK h P Q A = true then (mk (textT h P Q A),0) else (mk [],100)
theorem print_ev (hs : Small P Q A) : Ev (fun k=>conf_Print.f k h.f0 h.f1 h.f2 h.f3 h.f4 h.f5 h.f6 h.f7 h.f8 P Q A) (printR h P Q A):=by
  obtain ⟨h1,h2,h3,h4,h5,h6⟩:=hs
  unfold conf_Print.f printR
  refine Ev.bind (check_ev h (by omega) (by omega) (by omega) h4 h5 (fun x hx=>(h6 x hx).1)) ?_
  cases hc : COK h P Q A with
  | false=>exact ev_neg (by simp) (Ev.now _)
  | true =>
  have hb:=cok_b hc
  obtain ⟨b0,b1,b2,b3,b4,b5,b6,b7,b8⟩:=hb.hb
  rw [if_pos rfl]
  refine ev_pos rfl ?_
  have hpol : conf_policies.f = some polW:=rfl
  rw [hpol]
  refine Ev.bind (Ev.now _) ?_
  have hpl : (polW.length : Int) = 5:=rfl
  refine ev_pos (by omega) (ev_pos (by omega) ?_)
  have one : ∀ (w : ByteArray) (l : List UInt8) (x : Int),w.data.toList = l→w.size≤1000→x≤4294967296→conf_row.f [w,mk (d_ x)] = some (mk (line [l,d_ x]))∧(line [l,d_ x]).length≤20021:=by
    intro w l x e hw hx
    have:=d_len (x:=x) hx
    refine row_ev _ _ (by rw [← e];rfl) (by simp) ?_
    intro y hy
    simp only [List.mem_cons,List.not_mem_nil,or_false] at hy
    rcases hy with rfl|rfl
    · exact hw
    · rw [mk_size];omega
  have rp:=row_ev [(⟨#[112,111,108,105,99,121]⟩ : ByteArray),rdOf ByteArray.empty polW h.f0] [wPolicy,polT h.f0] rfl (by simp) (by
    intro y hy
    simp only [List.mem_cons,List.not_mem_nil,or_false] at hy
    rcases hy with rfl|rfl
    · decide
    · have:=pol_sz h.f0;omega)
  have r1:=one (⟨#[104,97,108,102]⟩ : ByteArray) wHalf h.f1 rfl (by decide) (by omega)
  have r2:=one (⟨#[113,117,97,110,116,117,109]⟩ : ByteArray) wQuantum h.f2 rfl (by decide) (by omega)
  have r3:=one (⟨#[114,101,113,117,101,117,101,115]⟩ : ByteArray) wRequeues h.f3 rfl (by decide) (by omega)
  have rw_:=row_ev [(⟨#[119,101,105,103,104,116,115]⟩ : ByteArray),mk (d_ h.f4),mk (d_ h.f5),mk (d_ h.f6),mk (d_ h.f7),mk (d_ h.f8)] [wWeights,d_ h.f4,d_ h.f5,d_ h.f6,d_ h.f7,d_ h.f8] rfl (by simp) (by
    intro y hy
    have e4:=d_len (x:=h.f4) (by omega)
    have e5:=d_len (x:=h.f5) (by omega)
    have e6:=d_len (x:=h.f6) (by omega)
    have e7:=d_len (x:=h.f7) (by omega)
    have e8:=d_len (x:=h.f8) (by omega)
    simp only [List.mem_cons,List.not_mem_nil,or_false] at hy
    rcases hy with rfl|rfl|rfl|rfl|rfl|rfl
    · decide
    all_goals (rw [mk_size];omega))
  rw [rp.1]
  refine Ev.bind (Ev.now _) ?_
  rw [itoa_n (by omega) (by omega)]
  refine Ev.bind (Ev.now _) ?_
  rw [r1.1]
  refine Ev.bind (Ev.now _) (ev_pos (by rw [mk_size,mk_size];omega) ?_)
  rw [itoa_n (by omega) (by omega)]
  refine Ev.bind (Ev.now _) ?_
  rw [r2.1]
  refine Ev.bind (Ev.now _) (ev_pos (by rw [mk_append,mk_size,mk_size,List.length_append];omega) ?_)
  rw [itoa_n (by omega) (by omega)]
  refine Ev.bind (Ev.now _) ?_
  rw [r3.1]
  refine Ev.bind (Ev.now _) (ev_pos (by rw [mk_append,mk_append,mk_size,mk_size,List.length_append,List.length_append];omega) ?_)
  rw [itoa_n (by omega) (by omega),itoa_n (by omega) (by omega),itoa_n (by omega) (by omega),itoa_n (by omega) (by omega),itoa_n (by omega) (by omega)]
  refine Ev.bind (Ev.now _) (Ev.bind (Ev.now _) (Ev.bind (Ev.now _) (Ev.bind (Ev.now _) (Ev.bind (Ev.now _) ?_))))
  rw [rw_.1]
  refine Ev.bind (Ev.now _) (ev_pos (by rw [mk_append,mk_append,mk_append,mk_size,mk_size,List.length_append,List.length_append,List.length_append];omega) ?_)
  rw [mk_append,mk_append,mk_append,mk_append]
  exact print_l0 h P Q A (by omega) (by omega) (by omega) h6 (accOk_b A [] hb.acc) h5 hb.q h4 hb.p P [] _ rfl (by
    have q1:=hb.lp;have q2:=hb.lq;have q3:=hb.la
    rw [List.length_append,List.length_append,List.length_append,List.length_append];omega)
end print
end Go.Proofs.YtgidipomfbikiaaDoor.Cnf
