/- cut to what one law reaches -/
import Derived.Test.YtgidipomfbikiaaDoorQeCnfFold
import Derived.Test.YtgidipomfbikiaaDoorQePureConfBack
import Derived.Test.YtgidipomfbikiaaDoorQeP0
import Derived.Test.YtgidipomfbikiaaDoorQeP10
import Derived.Test.YtgidipomfbikiaaDoorQeP22
namespace Go.Proofs.YtgidipomfbikiaaDoor.Pure
open Go.RowKit Go.Proofs.YtgidipomfbikiaaDoorW.PrintWords Go.Proofs.YtgidipomfbikiaaDoorW.PrintLast Go.Proofs.YtgidipomfbikiaaDoorW.PrintMore Go.Proofs.YtgidipomfbikiaaDoor.P Go.Proofs.YtgidipomfbikiaaDoor.NumM Go.Proofs.YtgidipomfbikiaaDoor.Cnf
set_option linter.unusedVariables false
set_option linter.unusedSimpArgs false
theorem at_range (at' : Int) (n : Nat) (h : 1≤n∧n≤1000000) : IntKind.u64.wrap (n : Int) = (n : Int)∧∃ k : Nat,k < n∧wrap64 (Int.tmod (IntKind.u64.wrap at') (IntKind.u64.wrap (n : Int))) = (k : Int):=by
  have e : IntKind.u64.wrap (n : Int) = (n : Int):=u64 (by omega)
  refine ⟨e,?_⟩
  rw [e,IntKind.wrap_u64]
  have h0 : 0≤at' % 18446744073709551616:=Int.emod_nonneg _ (by omega)
  rw [Int.tmod_eq_emod_of_nonneg h0]
  generalize at' % 18446744073709551616 = v at *
  have h1 : 0≤v % (n : Int):=Int.emod_nonneg _ (by omega)
  have h2 : v % (n : Int) < (n : Int):=Int.emod_lt_of_pos _ (by omega)
  generalize v % (n : Int) = m at *
  refine ⟨m.toNat,by omega,?_⟩
  rw [w64 (by omega)];omega
theorem wj {j : Nat} (h : j≤100) : wrap64 ((j : Int) + 1) = (j : Int) + 1:=w64 (by omega)
theorem w5 {p q : Nat} (hp : p≤100) (hq : q≤100) : wrap64 (wrap64 (5 + (p : Int)) + (q : Int)) = 5 + (p : Int) + (q : Int):=by
  rw [w64 (x:=5 + (p : Int)) (by omega),w64 (by omega)]
theorem le100 {j m p q a : Nat} (h : j≤m) (hm : m = 5 + p + q + a) (hp : p≤8) (hq : q≤8) (ha : a≤50) : j≤100:=by omega
theorem lines_len (h : Hd) (P : List S50) (Q : List S52) (A : List S48) : (linesT h P Q A).length = 5 + P.length + Q.length + A.length:=by
  simp [linesT];omega
theorem take_mk (ls : List (List UInt8)) (j : Nat) : (mk (glue ls)).extract 0 (glue (ls.take j)).length = mk (glue (ls.take j)):=by
  rw [mk_extract,List.drop_zero,Nat.sub_zero]
  have e:=glue_take ls j
  rw [e,List.take_append_of_le_length (Nat.le_refl _),List.take_of_length_le (Nat.le_refl _)]
theorem drop_mk (ls : List (List UInt8)) (j : Nat) : (mk (glue ls)).extract (glue (ls.take j)).length (mk (glue ls)).size = mk (glue (ls.drop j)):=by
  rw [mk_extract]
  have e:=glue_take ls j
  rw [mk_size,e,List.drop_append_of_le_length (Nat.le_refl _),List.drop_of_length_le (Nat.le_refl _),List.nil_append,List.take_of_length_le]
  simp
section
variable (h : Hd) (P : List S50) (Q : List S52) (A : List S48)
theorem lines_at (hc : COK h P Q A = true) (j : Nat) (hj : j≤(linesT h P Q A).length) : ∃ s,Inv s∧s.n = 1 + (j : Int)∧(s.n = 1→s.c.f0 = 0)∧(∀ r t,runP Cnf.start ((linesT h P Q A).take j ++ r) t = runP s r t)∧((j : Int)≤5 + (P.length : Int) + (Q.length : Int) ↔ s.part ≠ 3):=by
  obtain ⟨r1,r2⟩:=parse_forth h P Q A hc
  have hr : runP Cnf.start ((linesT h P Q A).take j ++ (linesT h P Q A).drop j) [] = okR_ h P Q A:=by rw [List.take_append_drop];exact r1
  obtain ⟨s,hs⟩:=fold_of _ _ _ _ (by rw [hr];rfl : errOf (runP Cnf.start ((linesT h P Q A).take j ++ (linesT h P Q A).drop j) []) = 0)
  obtain ⟨i1,i2⟩:=fold_inv _ _ _ inv_start hs
  have hn : s.n = 1 + (j : Int):=by
    rw [i2,List.length_take,Nat.min_eq_left hj];rfl
  rw [run_fold _ _ _ _ _ hs] at hr
  obtain ⟨g1,g2,g3⟩:=run_grow _ _ _ _ _ _ _ i1 hr
  refine ⟨s,i1,hn,fun w=>?_,fun r t=>run_fold _ _ _ _ _ hs,?_⟩
  · have : j = 0:=by omega
    subst this
    rw [List.take_zero,foldS] at hs
    rw [← Option.some.inj hs];rfl
  · constructor
    · intro w z
      have k0 : 6≤s.n:=by
        have:=i1.n5
        have : ¬ s.n≤5:=fun y=>by have:=i1.n5 y;omega
        omega
      have k1:=i1.n6 k0
      obtain ⟨m1,m2⟩:=g3 z
      have k2 : 0 < s.A.length:=List.length_pos_iff.2 (i1.a3 z)
      rw [m1,m2] at k1
      omega
    · intro z
      by_cases k0 : 6≤s.n
      · have k1:=i1.n6 k0
        have k2:=i1.sh.2.2.2 (by have:=i1.p3;omega)
        rw [k2] at k1
        simp at k1
        omega
      · omega
theorem lines_j1 (hc : COK h P Q A = true) (x : ByteArray) (hx : x.size≤200) (h10 : (10 : UInt8) ∉ x.data.toList) (j : Nat) (hj : j≤(linesT h P Q A).length) : Ev (fun k=>gangerlaw10_ConfLines.j1 k x (mk (textT h P Q A)) ((0 : Int) :: nlPos (textT h P Q A) 0) (j : Int) false) true:=by
  obtain ⟨r1,r2⟩:=parse_forth h P Q A hc
  have hl:=text_len_ hc
  have e:=lines_text h P Q A
  rw [← e] at hl ⊢
  obtain ⟨s,i1,hn,i3,i4,i5⟩:=lines_at h P Q A hc j hj
  have hll:=lines_len h P Q A
  have hb:=cok_b hc
  have q1:=hb.lp;have q2:=hb.lq;have q3:=hb.la
  generalize linesT h P Q A = ls at *
  obtain ⟨c1,c2⟩:=cuts_glue ls r2
  have c3:=c2 j hj
  have e1:=glue_take ls j
  have el : (glue ls).length = (glue (ls.take j)).length + (glue (ls.drop j)).length:=by rw [← List.length_append,← e1]
  have hs:=sz_list x
  refine Ev.step (fun k=>by rw [gangerlaw10_ConfLines.j1]) ?_
  refine ev_neg (by simp) (ev_pos (by omega) (ev_pos (by rw [c1];omega) ?_))
  rw [c3,Int.toNat_natCast,take_mk,drop_mk]
  refine ev_pos (by omega) (ev_pos (by rw [mk_size];omega) ?_)
  have w1 : (⟨#[63,32]⟩ : ByteArray) = mk [63,32]:=rfl
  have w2 : (⟨#[10]⟩ : ByteArray) = mk [10]:=rfl
  have w3 : mk (glue (ls.take j)) ++ (⟨#[63,32]⟩ : ByteArray) = mk (glue (ls.take j) ++ [63,32]):=by rw [w1,mk_append]
  have w4 : mk (glue (ls.take j) ++ [63,32]) ++ x = mk (glue (ls.take j) ++ [63,32] ++ x.data.toList):=by
    have:=mk_append (glue (ls.take j) ++ [63,32]) x.data.toList
    rw [← mk_self x] at this
    exact this
  have w5 : mk (glue (ls.take j) ++ [63,32] ++ x.data.toList) ++ (⟨#[10]⟩ : ByteArray) = mk (glue (ls.take j) ++ [63,32] ++ x.data.toList ++ [10]):=by rw [w2,mk_append]
  rw [w3,w4,w5,mk_append]
  refine ev_pos (by rw [mk_size];omega) (ev_pos (by rw [mk_size,List.length_append];simp;omega) (ev_pos (by rw [mk_size];simp;omega) (ev_pos (by rw [mk_size,mk_size];simp;omega) ?_)))
  have hg : glue (ls.take j) ++ [63,32] ++ x.data.toList ++ [10] ++ glue (ls.drop j) = glue (ls.take j ++ ((63 :: 32 :: x.data.toList) :: ls.drop j)):=by
    rw [glue_app]
    have:=glue_cons (63 :: 32 :: x.data.toList) (ls.drop j) []
    rw [List.append_nil,List.append_nil] at this
    rw [this];simp
  rw [hg]
  have hp:=parse_run (ls.take j ++ ((63 :: 32 :: x.data.toList) :: ls.drop j)) [] (by
    intro l hl2
    rcases List.mem_append.1 hl2 with q|q
    · exact r2 l (List.mem_of_mem_take q)
    · rcases List.mem_cons.1 q with q|q
      · subst q
        simp only [List.mem_cons,not_or]
        exact ⟨by decide,by decide,h10⟩
      · exact r2 l (List.mem_of_mem_drop q)) (by simp) (by
    rw [List.append_nil,← hg];simp;omega)
  rw [i4,runP,bad_step s _ i1 i3,List.append_nil] at hp
  refine Ev.bind hp (ev_pos ?_ (ev_pos rfl ?_))
  · show s.n = wrap64 ((j : Int) + 1)
    rw [w64 (by omega),hn];omega
  · exact hk
theorem lines_j0 (hsm : Small P Q A) (n : Int) (x : ByteArray) (hx : x.size≤200) (h10 : (10 : UInt8) ∉ x.data.toList) : Ev (fun k=>gangerlaw10_ConfLines.j0 k n x false h.f0 h.f1 h.f2 h.f3 h.f4 h.f5 h.f6 h.f7 h.f8 P Q A) true:=by
  have hpr:=print_ev h P Q A hsm
  unfold printR at hpr
  refine Ev.step (fun k=>by rw [gangerlaw10_ConfLines.j0]) ?_
  refine ev_neg (by simp) (Ev.bind hpr ?_)
  by_cases hc : COK h P Q A = true
  · rw [if_pos hc]
    have hl:=text_len_ hc
    have e:=lines_text h P Q A
    obtain ⟨r1,r2⟩:=parse_forth h P Q A hc
    have hll:=lines_len h P Q A
    have hb:=cok_b hc
    have q1:=hb.lp;have q2:=hb.lq;have q3:=hb.la
    have hcut:=cuts_ev (mk (textT h P Q A)) (by rw [mk_size];omega)
    rw [mk_data] at hcut
    refine ev_pos rfl (Ev.bind hcut ?_)
    obtain ⟨c1,c2⟩:=cuts_glue (linesT h P Q A) r2
    rw [e] at c1 c2
    obtain ⟨u1,j,u2,u3⟩:=at_range n ((0 : Int) :: nlPos (textT h P Q A) 0).length (by omega)
    have hj : j≤(linesT h P Q A).length:=by omega
    have c3:=c2 j hj
    have hj1:=lines_j1 h P Q A hc x hx h10 j hj
    rw [u3]
    refine ev_neg (by rw [u1];omega) (ev_pos (by omega) (ev_pos (by omega) ?_))
    rw [c3]
    have e1:=glue_take (linesT h P Q A) j
    have el : (textT h P Q A).length = (glue ((linesT h P Q A).take j)).length + (glue ((linesT h P Q A).drop j)).length:=by rw [← List.length_append,← e1,e]
    refine ev_pos (by omega) (ev_pos (by show _≤(((mk (textT h P Q A)).size : Nat) : Int);rw [mk_size];omega) ?_)
    obtain ⟨s,i1,hn,i3,i4,i5⟩:=lines_at h P Q A hc j hj
    have ht:=take_mk (linesT h P Q A) j
    rw [e] at ht
    have hp:=parse_run ((linesT h P Q A).take j) [] (fun l q=>r2 l (List.mem_of_mem_take q)) (by simp) (by rw [List.append_nil];omega)
    have i4':=i4 [] []
    rw [List.append_nil] at i4'
    rw [i4',runP,if_pos rfl,List.append_nil,← ht] at hp
    have ew:=w5 (Nat.le_trans q1.2 (by decide : 8≤100)) (Nat.le_trans q2.2 (by decide : 8≤100))
    have ew2:=wj (le100 hj hll q1.2 q2.2 q3.2)
    rw [Int.toNat_natCast,ew,ew2]
    by_cases g : (j : Int)≤5 + (P.length : Int) + (Q.length : Int)
    · have hp3:=i5.1 g
      unfold endP at hp
      rw [if_neg hp3] at hp
      have hn2 : s.n = (j : Int) + 1:=by omega
      rw [hn2] at hp
      refine Ev.bind hp (ev_pos g ?_)
      refine ev_pos rfl (ev_pos rfl ?_)
      exact ev_pos g hj1
    · have hp3 : s.part = 3:=by
        by_cases z : s.part = 3
        · exact z
        · exact absurd (i5.2 z) g
      refine Ev.bind hp (ev_neg g (ev_neg g ?_))
      have hne : (endP s).2.2.2.2.2.2.2.2.2.2.2.2.2 ≠ 60:=by
        unfold endP
        rw [if_pos hp3]
        split
        · show (0 : Int) ≠ 60;decide
        · show (100 : Int) ≠ 60;decide
      rw [beq_eq_false_iff_ne.mpr hne]
      exact hj1
  · rw [if_neg hc]
    exact ev_neg (by decide) hk
end
theorem ConfLines : gangerlaw10_ConfLines.Pure:=by
  intro a0 a1 a2 a3 a4 a5 a6 a7 a8 P Q A n x _ _ _
  refine Ev.rounds ?_
  unfold gangerlaw10_ConfLines.f
  have known : Ev (fun k=>gangerlaw10_ConfLines.j0 k n x true a0 a1 a2 a3 a4 a5 a6 a7 a8 P Q A) true:=by
    refine Ev.step (fun k=>by rw [gangerlaw10_ConfLines.j0]) ?_
    exact ev_pos rfl hk
  obtain ⟨b,hb,hf⟩:=long_ev ⟨a0,a1,a2,a3,a4,a5,a6,a7,a8⟩ P Q A
  refine Ev.bind hb ?_
  cases b with
  | true=>exact ev_pos rfl known
  | false =>
    have hs:=hf rfl
    refine ev_neg (by simp) ?_
    by_cases g : (x.size : Int) > 200
    · exact ev_pos g known
    · refine ev_neg g (Ev.bind (cuts_ev x (by omega)) ?_)
      by_cases g2 : ((((0 : Int) :: nlPos x.data.toList 0).length : Nat) : Int) > 1
      · rw [decide_eq_true g2];exact known
      · rw [decide_eq_false g2]
        have hz : nlPos x.data.toList 0 = []:=by
          rw [List.length_cons] at g2
          exact List.length_eq_zero_iff.1 (by omega)
        exact lines_j0 ⟨a0,a1,a2,a3,a4,a5,a6,a7,a8⟩ P Q A hs n x (by omega) (nl_none _ _ hz)
end Go.Proofs.YtgidipomfbikiaaDoor.Pure
