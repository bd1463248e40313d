/- cut to what one law reaches -/
import Derived.Test.YtgidipomfbikiaaDoorQfCnfJoin
import Derived.Test.YtgidipomfbikiaaDoorQfPureConfBack
import Derived.Test.YtgidipomfbikiaaDoorQfP0
import Derived.Test.YtgidipomfbikiaaDoorQfP6
import Derived.Test.YtgidipomfbikiaaDoorQfP10
import Derived.Test.YtgidipomfbikiaaDoorQfP24
namespace Go.Proofs.YtgidipomfbikiaaDoor.Pure
open Go.RowKit Go.Proofs.YtgidipomfbikiaaDoorW.PrintWords Go.Proofs.YtgidipomfbikiaaDoorW.PrintLast Go.Proofs.YtgidipomfbikiaaDoorW.PrintMore Go.Proofs.YtgidipomfbikiaaDoor.P Go.Proofs.YtgidipomfbikiaaDoor.NumM Go.Proofs.YtgidipomfbikiaaDoor.Cnf
set_option linter.unusedVariables false
set_option linter.unusedSimpArgs false
theorem at_r (at' : Int) (n : Nat) (h : 1≤n∧n≤1000000) : IntKind.u64.wrap (n : Int) = (n : Int)∧∃ k : Nat,k < n∧wrap64 (Int.tmod (IntKind.u64.wrap at') (IntKind.u64.wrap (n : Int))) = (k : Int):=by
  have e : IntKind.u64.wrap (n : Int) = (n : Int):=u64 (by omega)
  refine ⟨e,?_⟩
  rw [e,IntKind.wrap_u64]
  have h0 : 0≤at' % 18446744073709551616:=Int.emod_nonneg _ (by omega)
  rw [Int.tmod_eq_emod_of_nonneg h0]
  generalize at' % 18446744073709551616 = v at *
  have h1 : 0≤v % (n : Int):=Int.emod_nonneg _ (by omega)
  have h2 : v % (n : Int) < (n : Int):=Int.emod_lt_of_pos _ (by omega)
  generalize v % (n : Int) = m at *
  refine ⟨m.toNat,by omega,?_⟩
  rw [w64 (by omega)];omega
theorem u16_in {a : Int} (h : (Lit.int .u16 a).wf = true) : 0≤a∧a≤65535:=by
  simpa [Lit.wf,IntKind.min,IntKind.max,IntKind.signed,IntKind.bits] using h
theorem sh_n {a : Int} (h : 0≤a∧a≤65535) : wrap64 (1 + wrap64 a) = 1 + a:=by
  rw [w64 (x:=a) (by omega),w64 (by omega)]
section
variable (h : Hd) (P : List S50) (Q : List S52) (A : List S48)
/-- is there no room for it? -/
def full (x : ByteArray) (p : List S48) : Bool:=((A.length : Int) == 50) || hasT (p.map (·.f0)) x
theorem joins_l0 (hs : Small P Q A) (x p : ByteArray) (n : Int) (r : Res) (hr : r = if full A x A = true then errR 0 100 else okR_ h P Q (A ++ [⟨x,p,n⟩])) : ∀ (s t : List S48),A = t ++ s →
    Ev (fun k=>gangerlaw10_ConfJoins.l0 k x p n r.2.2.2.2.2.2.2.2.2.2.2.2.1 r.2.2.2.2.2.2.2.2.2.2.2.2.2 (full A x t) (t.length : Int) h.f0 h.f1 h.f2 h.f3 h.f4 h.f5 h.f6 h.f7 h.f8 P Q A r.1 r.2.1 r.2.2.1 r.2.2.2.1 r.2.2.2.2.1 r.2.2.2.2.2.1 r.2.2.2.2.2.2.1 r.2.2.2.2.2.2.2.1 r.2.2.2.2.2.2.2.2.1 r.2.2.2.2.2.2.2.2.2.1 r.2.2.2.2.2.2.2.2.2.2.1 r.2.2.2.2.2.2.2.2.2.2.2.1) true
  | [],t,e=>by
    rw [List.append_nil] at e
    subst e
    refine Ev.step (fun k=>by rw [gangerlaw10_ConfJoins.l0]) ?_
    refine ev_neg (by omega) ?_
    cases hf : full A x A with
    | true =>
      rw [hf,if_pos rfl] at hr
      subst hr
      refine ev_pos rfl ?_
      refine ev_pos rfl ?_
      refine ev_pos rfl ?_
      exact hk
    | false =>
      rw [hf,if_neg (by simp)] at hr
      subst hr
      obtain ⟨h1,h2,h3,h4,h5,h6⟩:=hs
      refine ev_neg (by simp) ?_
      refine Ev.bind (Ev.of (fun _=>LeO.refl _) (k:=0) (copy_f h P Q A ⟨h1,h2,h3,h4,h5,h6⟩)) ?_
      refine ev_pos (by show A.length < 3518437208883;omega) ?_
      refine ev_pos rfl ?_
      refine ev_pos rfl ?_
      have hsame:=same_ev h P Q (A ++ [(⟨x,p,n⟩ : S48)]) (by rw [List.length_append,List.length_singleton];omega) (by omega) (by omega)
      exact Ev.bind hsame (ev_pos rfl hk)
  | a :: s,t,e=>by
    have hl:=congrArg List.length e
    rw [List.length_append,List.length_cons] at hl
    obtain ⟨h1,h2,h3,h4,h5,h6⟩:=hs
    have hrd : rd_T48 A (t.length : Int) = a:=by rw [e];exact rd48_mid t a s
    have ih:=joins_l0 ⟨h1,h2,h3,h4,h5,h6⟩ x p n r hr s (t ++ [a]) (by rw [e];simp)
    have hfu : full A x (t ++ [a]) = (full A x t || (a.f0.toList == x.toList)):=by
      unfold full hasT
      rw [List.map_append,List.any_append,← Bool.or_assoc]
      congr 1
      simp only [List.map_cons,List.map_nil,List.any_cons,List.any_nil,Bool.or_false]
      rw [Bool.eq_iff_iff,decide_eq_true_eq,beq_iff_eq]
      exact ⟨fun z=>z.symm,fun z=>z.symm⟩
    have ew : wrap64 ((t.length : Int) + 1) = ((t ++ [a]).length : Int):=wsucc t a (by omega)
    refine Ev.step (fun k=>by rw [gangerlaw10_ConfJoins.l0]) ?_
    refine ev_pos (by omega) ?_
    rw [hrd,ew]
    cases hf : full A x t with
    | true =>
      rw [hf,Bool.true_or] at hfu
      rw [hfu] at ih
      exact ev_pos rfl ih
    | false =>
      rw [hf,Bool.false_or] at hfu
      rw [hfu] at ih
      exact ev_neg (by simp) (ev_pos (by omega) ih)
theorem joins_j0 (hs : Small P Q A) (hA : A ≠ []) (x : ByteArray) (hx : x.size≤300) (n m : Int) (hm : 0≤m∧m≤65535) : Ev (fun k=>gangerlaw10_ConfJoins.j0 k x n m false h.f0 h.f1 h.f2 h.f3 h.f4 h.f5 h.f6 h.f7 h.f8 P Q A) true:=by
  have hpr:=print_ev h P Q A hs
  unfold printR at hpr
  refine Ev.step (fun k=>by rw [gangerlaw10_ConfJoins.j0]) ?_
  refine ev_neg (by simp) (Ev.bind hpr ?_)
  by_cases hc : COK h P Q A = true
  · rw [if_pos hc]
    have hl:=text_len_ hc
    have hb:=cok_b hc
    have q3:=hb.la
    obtain ⟨_,_,_,_,_,h6⟩:=cok_small hc
    obtain ⟨u1,j,u2,u3⟩:=at_r n A.length (by omega)
    refine ev_pos rfl ?_
    rw [u3]
    refine ev_neg (by rw [u1];omega) (ev_pos (by omega) (ev_pos (by omega) ?_))
    have hmem : A[j] ∈ A:=List.getElem_mem u2
    have hrd : rd_T48 A (j : Int) = A[j]:=by
      unfold rd_T48
      rw [Int.toNat_natCast,List.getD_eq_getElem?_getD,List.getElem?_eq_getElem u2];rfl
    rw [hrd]
    generalize A[j] = b at *
    have hbz:=(h6 b hmem).1
    rw [sh_n hm]
    have hdz:=d_len (x:=1 + m) (by omega)
    have z1:=sz_list x
    have z2:=sz_list b.f0
    have w1 : mk (textT h P Q A) ++ (⟨#[97,99,99,111,117,110,116,32]⟩ : ByteArray) = mk (textT h P Q A ++ (wAccount ++ [32])):=mk_append _ _
    have w2 : ∀ l : List UInt8,mk l ++ x = mk (l ++ x.data.toList):=fun l=>mk_of (by rw [ap_toList,mk_data])
    have w3 : ∀ l : List UInt8,mk l ++ (⟨#[32,112,97,114,101,110,116,32]⟩ : ByteArray) = mk (l ++ (32 :: wParent ++ [32])):=fun l=>mk_append _ _
    have w4 : ∀ l : List UInt8,mk l ++ b.f0 = mk (l ++ b.f0.data.toList):=fun l=>mk_of (by rw [ap_toList,mk_data])
    have w5 : ∀ l : List UInt8,mk l ++ (⟨#[32,115,104,97,114,101,115,32]⟩ : ByteArray) = mk (l ++ (32 :: wShares ++ [32])):=fun l=>mk_append _ _
    have w6 : ∀ l : List UInt8,mk l ++ (⟨#[10]⟩ : ByteArray) = mk (l ++ [10]):=fun l=>mk_append _ _
    have a1 : wAccount.length = 7:=rfl
    have a2 : wParent.length = 6:=rfl
    have a3 : wShares.length = 6:=rfl
    simp only [w1,w2,w3,w4,w5,mk_size]
    have hll : (textT h P Q A ++ (wAccount ++ [32]) ++ x.data.toList ++ (32 :: wParent ++ [32]) ++ b.f0.data.toList ++ (32 :: wShares ++ [32]) ++ d_ (1 + m)).length≤170000:=by
      simp only [List.length_append,List.length_cons,List.length_nil];omega
    refine ev_pos (by omega) (ev_pos (by simp only [List.length_append,List.length_cons,List.length_nil];omega) (ev_pos (by simp only [List.length_append,List.length_cons,List.length_nil];omega) (ev_pos (by simp only [List.length_append,List.length_cons,List.length_nil];omega) (ev_pos (by simp only [List.length_append,List.length_cons,List.length_nil];omega) ?_))))
    refine Ev.bind (digits_n (x:=1 + m) (by omega) (by omega)) ?_
    rw [mk_append]
    refine ev_pos (by simp only [mk_size,List.length_append,List.length_cons,List.length_nil];omega) (ev_pos (by simp only [mk_size];omega) ?_)
    rw [w6]
    have hrn:=RefName.name_ev x (by omega)
    have htx : textT h P Q A ++ (wAccount ++ [32]) ++ x.data.toList ++ (32 :: wParent ++ [32]) ++ b.f0.data.toList ++ (32 :: wShares ++ [32]) ++ d_ (1 + m) ++ [10] = glue (linesT h P Q A ++ [joinL x.data.toList b.f0.data.toList (1 + m)]):=by
      rw [glue_app,lines_text]
      have:=glue_cons (joinL x.data.toList b.f0.data.toList (1 + m)) [] []
      rw [List.append_nil] at this
      rw [this,joinL_eq];simp [glue]
    have hll2 : (textT h P Q A ++ (wAccount ++ [32]) ++ x.data.toList ++ (32 :: wParent ++ [32]) ++ b.f0.data.toList ++ (32 :: wShares ++ [32]) ++ d_ (1 + m) ++ [10]).length≤200000:=by
      rw [List.length_append,List.length_singleton];omega
    by_cases h10 : (10 : UInt8) ∈ x.data.toList
    · have hnn : nameAt (x.size + 1) x 0 = false:=by
        cases hq : nameAt (x.size + 1) x 0 with
        | false=>rfl
        | true=>exact absurd h10 (name_no (show NameOk x = true from hq) (Or.inr rfl))
      rw [hnn] at hrn
      obtain ⟨ls,t,e,g1,g2⟩:=lines_of (textT h P Q A ++ (wAccount ++ [32]) ++ x.data.toList ++ (32 :: wParent ++ [32]) ++ b.f0.data.toList ++ (32 :: wShares ++ [32]) ++ d_ (1 + m) ++ [10])
      rw [e] at hll2 ⊢
      refine Ev.bind (parse_run ls t g1 g2 (by omega)) (Ev.bind hrn (ev_neg (by simp) ?_))
      by_cases g : (runP Cnf.start ls t).2.2.2.2.2.2.2.2.2.2.2.2.2 = 60
      · exact ev_pos g hk
      · refine ev_neg g (Ev.bind (cuts_ev x (by omega)) (ev_pos ?_ hk))
        cases hz : nlPos x.data.toList 0 with
        | nil=>exact absurd h10 (nl_none _ _ hz)
        | cons c r=>simp;omega
    · obtain ⟨r1,r2⟩:=run_join hc x b hmem (1 + m) (by omega)
      obtain ⟨_,p2⟩:=parse_forth h P Q A hc
      have hbn:=names_all _ _ hb.na b.f0 (List.mem_map_of_mem hmem)
      have hp:=parse_run (linesT h P Q A ++ [joinL x.data.toList b.f0.data.toList (1 + m)]) [] (by
        intro l hl2
        rcases List.mem_append.1 hl2 with q|q
        · exact p2 l q
        · rw [List.mem_singleton.1 q]
          exact joinL_no _ _ _ h10 (name_no hbn (Or.inr rfl))) (by simp) (by rw [List.append_nil,← htx];omega)
      rw [List.append_nil,← htx] at hp
      refine Ev.bind hp (Ev.bind hrn ?_)
      cases hnm : nameAt (x.size + 1) x 0 with
      | false =>
        refine ev_neg (by simp) (ev_pos ?_ hk)
        exact r1 hnm
      | true =>
        refine ev_pos rfl ?_
        have:=joins_l0 h P Q A hs x b.f0 (1 + m) (runP Cnf.start (linesT h P Q A ++ [joinL x.data.toList b.f0.data.toList (1 + m)]) []) (by
          rw [r2 hnm]
          have hfull : full A x A = !(decide (A.length < 50) && !hasT (A.map (·.f0)) x):=by
            unfold full
            have : ((A.length : Int) == 50) = !decide (A.length < 50):=by
              rw [Bool.eq_iff_iff,beq_iff_eq,Bool.not_eq_true',decide_eq_false_iff_not]
              omega
            rw [this,Bool.not_and,Bool.not_not]
          rw [hfull]
          cases (decide (A.length < 50) && !hasT (A.map (·.f0)) x) <;> rfl) A [] rfl
        have hf0 : full A x [] = ((A.length : Int) == 50):=by unfold full hasT;simp
        rw [hf0] at this
        exact this
  · rw [if_neg hc]
    exact ev_neg (by decide) (ev_pos (mk_toList []) hk)
end
theorem ConfJoins : gangerlaw10_ConfJoins.Pure:=by
  intro a0 a1 a2 a3 a4 a5 a6 a7 a8 P Q A x n m _ _ _ hm
  refine Ev.rounds ?_
  unfold gangerlaw10_ConfJoins.f
  have known : Ev (fun k=>gangerlaw10_ConfJoins.j0 k x n m true a0 a1 a2 a3 a4 a5 a6 a7 a8 P Q A) true:=by
    refine Ev.step (fun k=>by rw [gangerlaw10_ConfJoins.j0]) ?_
    exact ev_pos rfl hk
  obtain ⟨b,hb,hf⟩:=long_ev ⟨a0,a1,a2,a3,a4,a5,a6,a7,a8⟩ P Q A
  refine Ev.bind hb ?_
  cases b with
  | true=>exact ev_pos rfl known
  | false =>
    have hs:=hf rfl
    refine ev_neg (by simp) ?_
    by_cases g : (x.size : Int) > 300
    · exact ev_pos g known
    · refine ev_neg g ?_
      cases A with
      | nil=>exact known
      | cons c A =>
        have e : (((c :: A).length : Int) == 0) = false:=by simp;omega
        rw [e]
        exact joins_j0 ⟨a0,a1,a2,a3,a4,a5,a6,a7,a8⟩ P Q (c :: A) hs (by simp) x (by omega) n m (u16_in hm)
end Go.Proofs.YtgidipomfbikiaaDoor.Pure
