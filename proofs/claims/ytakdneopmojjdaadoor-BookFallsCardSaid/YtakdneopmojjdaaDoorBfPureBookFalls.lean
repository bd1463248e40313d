/- cut to what one law reaches -/
import Derived.Test.YtakdneopmojjdaaDoorBfBookUse
import Derived.Test.YtakdneopmojjdaaDoorBfP0
import Derived.Test.YtakdneopmojjdaaDoorBfP2
import Derived.Test.YtakdneopmojjdaaDoorBfP9
import Derived.Test.YtakdneopmojjdaaDoorBfP19
namespace Go.Proofs.YtakdneopmojjdaaDoor.Pure
open Go.RowKit Go.Proofs.YtakdneopmojjdaaDoorW.PrintWords Go.Proofs.YtakdneopmojjdaaDoorW.PrintLast Go.Proofs.YtakdneopmojjdaaDoorW.PrintMore Go.Proofs.YtakdneopmojjdaaDoor.P Go.Proofs.YtakdneopmojjdaaDoor.NumM Go.Proofs.YtakdneopmojjdaaDoor.Bk Go.Proofs.YtakdneopmojjdaaDoor.Dcy
set_option linter.unusedVariables false
set_option linter.unusedSimpArgs false
theorem use_none (a : ByteArray) (h : Int) : ∀ (l : List S24) (n t : Int),(∀ x ∈ l,x.f1.toList ≠ a.toList)→useF a h l n t = (n,t)
  | [],n,t,_=>rfl
  | c :: r,n,t,q=>by rw [useF,if_neg (q c (List.mem_cons_self ..))];exact use_none a h r n t (fun x hx=>q x (List.mem_cons_of_mem _ hx))
theorem use_app (a : ByteArray) (h : Int) (x : S24) : ∀ (l : List S24) (n t : Int),useF a h (l ++ [x]) n t = useF a h [x] (useF a h l n t).1 (useF a h l n t).2
  | [],n,t=>rfl
  | c :: r,n,t=>by
    by_cases e : c.f1.toList = a.toList
    · have eL : useF a h (c :: r) n t = useF a h r (aft n (c.f5 - t) h + amt c) c.f5:=by rw [useF,if_pos e]
      have eR : useF a h (c :: (r ++ [x])) n t = useF a h (r ++ [x]) (aft n (c.f5 - t) h + amt c) c.f5:=by rw [useF,if_pos e]
      rw [List.cons_append,eR,eL]
      exact use_app a h x r _ _
    · have eL : useF a h (c :: r) n t = useF a h r n t:=by rw [useF,if_neg e]
      have eR : useF a h (c :: (r ++ [x])) n t = useF a h (r ++ [x]) n t:=by rw [useF,if_neg e]
      rw [List.cons_append,eR,eL]
      exact use_app a h x r _ _
theorem aft_nought (t h : Int) (hb : ¬ bad t h) : aft 0 t h = 0:=by
  have:=after_bd hb (show (0 : Int)≤0 by omega)
  omega
theorem wfu16 {a : Int} (h : (Lit.int .u16 a).wf = true) : 0≤a∧a≤65535:=by
  simpa [Lit.wf,IntKind.min,IntKind.max,IntKind.signed,IntKind.bits] using h
theorem rises {l : List S24} (hB : Book l = true) : risen 0 l:=by
  unfold Book at hB
  simp only [Bool.and_eq_true] at hB
  exact bk_risen l none 0 hB.2 (fun u z=>by cases z) (fun _=>by omega)
theorem BookFalls : gangerlaw20_BookFalls.Pure:=by
  intro l a now later h c0 c1 c2 c3 c4 c5 hl ha hnow hlat hh hc
  refine Ev.rounds ?_
  unfold gangerlaw20_BookFalls.f
  have hnow:=wf64 hnow
  have hlat:=wfu16 hlat
  have J : Ev (fun k=>gangerlaw20_BookFalls.j0 k l a now later h true c0 c1 c2 c3 c4 c5) true:=by
    refine Ev.step (fun k=>by rw [gangerlaw20_BookFalls.j0]) ?_
    exact ev_pos rfl hk
  obtain ⟨b,hb,hf⟩:=many_ev l a
  refine Ev.bind hb ?_
  cases b with
  | true=>exact ev_pos rfl J
  | false =>
    have S:=hf rfl
    have S0:=S.2.1
    refine ev_neg (by simp) ?_
    by_cases g2 : (c1.size : Int) > 300
    · rw [decide_eq_true g2];exact J
    rw [decide_eq_false g2]
    have hs : ∀ x ∈ l,x.f1.size≤1000000:=fun x hx=>by have:=S.2.2.2 x hx;omega
    have hn : l.length < 1000000:=by omega
    refine Ev.step (fun k=>by rw [gangerlaw20_BookFalls.j0]) ?_
    refine ev_neg (by simp) ?_
    by_cases hu : usable l now h
    case neg =>
      obtain ⟨e,he,hE⟩:=usage_no l a now h hn hs hu
      exact Ev.bind hE (ev_neg he (ev_pos rfl hk))
    have hu':=hu
    obtain ⟨hB,h1,h2,h3,h4,h5⟩:=hu'
    have q:=book_all hB
    have rs:=rises hB
    have U:=use_num a ⟨h1,h2⟩ l 0 0 q.2 rs (by omega) (by omega)
    have nt:=tot_num a l q.2
    obtain ⟨n,hn'⟩ : ∃ n,(useF a h l 0 0).1 = n:=⟨_,rfl⟩
    obtain ⟨t,ht'⟩ : ∃ t,(useF a h l 0 0).2 = t:=⟨_,rfl⟩
    rw [hn',ht'] at U
    have hbd : ¬ bad (now - t) h:=by unfold bad;omega
    have ab:=after_bd hbd (n:=n) (by omega)
    have eV : useV l a now h = aft n (now - t) h:=by unfold useV;rw [hn',ht']
    -- of an account without charges
    have N0 : Ev (fun k=>book_Usage.f k l (⟨#[]⟩ : ByteArray) now h) (0,0):=by
      have:=usage_ok l (⟨#[]⟩ : ByteArray) now h hn hs hu
      have e : useV l (⟨#[]⟩ : ByteArray) now h = 0:=by
        unfold useV
        rw [use_none (⟨#[]⟩ : ByteArray) h l 0 0 (fun x hx z=>by
          have hN:=q.2 x hx
          unfold rightB at hN
          simp only [Bool.and_eq_true] at hN
          have hNm:=hN.1.1.1.1.2
          have hz : x.f1.size = 0:=by
            have : x.f1.data.toList.length = 0:=by rw [← ByteArray.toList_eq,z];decide +kernel
            simpa using this
          unfold NameOk at hNm
          rw [nameAt,if_neg (by omega)] at hNm
          rw [z] at hNm
          simp at hNm)]
        exact aft_nought _ _ (by unfold bad;omega)
      rw [e] at this
      exact this
    have J3 : Ev (fun k=>gangerlaw20_BookFalls.j3 k l now h false) true:=by
      refine Ev.step (fun k=>by rw [gangerlaw20_BookFalls.j3]) ?_
      exact ev_neg (by simp) (Ev.bind N0 (ev_pos rfl (ev_pos rfl hk)))
    have J2 : Ev (fun k=>gangerlaw20_BookFalls.j2 k l a now h (useV l a now h) false c0 c1 c2 c3 c4 c5) true:=by
      refine Ev.step (fun k=>by rw [gangerlaw20_BookFalls.j2]) ?_
      refine ev_neg (by simp) (ev_pos (by simp;omega) ?_)
      rw [List.nil_append]
      refine Ev.bind (Ev.now _) (ev_pos (by omega) ?_)
      have hM : ∀ x ∈ l ++ [(⟨c0,c1,c2,c3,c4,now⟩ : S24)],x.f1.size≤1000000:=by
        intro x hx
        rcases List.mem_append.1 hx with z|z
        · exact hs x z
        · rw [List.mem_singleton.1 z];show c1.size≤1000000;omega
      have hLen : (l ++ [(⟨c0,c1,c2,c3,c4,now⟩ : S24)]).length < 1000000:=by simp;omega
      by_cases hv : usable (l ++ [(⟨c0,c1,c2,c3,c4,now⟩ : S24)]) now h
      · refine Ev.bind (usage_ok _ a now h hLen hM hv) (ev_pos rfl ?_)
        have qc:=amt_num ((book_all hv.1).2 ⟨c0,c1,c2,c3,c4,now⟩ (by simp))
        have e : ¬ useV (l ++ [(⟨c0,c1,c2,c3,c4,now⟩ : S24)]) a now h < useV l a now h:=by
          have e1 : useV (l ++ [(⟨c0,c1,c2,c3,c4,now⟩ : S24)]) a now h = aft (useF a h (l ++ [(⟨c0,c1,c2,c3,c4,now⟩ : S24)]) 0 0).1 (now - (useF a h (l ++ [(⟨c0,c1,c2,c3,c4,now⟩ : S24)]) 0 0).2) h:=rfl
          rw [e1,use_app,hn',ht',useF,eV]
          by_cases ec : c1.toList = a.toList
          · rw [if_pos ec,useF]
            dsimp only
            rw [Int.sub_self,after_zero (by omega)]
            omega
          · rw [if_neg ec,useF]
            exact Int.lt_irrefl _
        rw [decide_eq_false e]
        exact J3
      · obtain ⟨e,he,hE⟩:=usage_no _ a now h hLen hM hv
        exact Ev.bind hE (ev_neg he J3)
    refine Ev.bind (usage_ok l a now h hn hs hu) (ev_pos rfl ?_)
    have T:=total_ev l a hn hs
    rw [if_pos hB] at T
    refine Ev.bind T ?_
    rw [eV] at J2 ⊢
    refine ev_neg (by omega) ?_
    rw [decide_eq_false (show ¬ aft n (now - t) h < 0 by omega)]
    refine Ev.step (fun k=>by rw [gangerlaw20_BookFalls.j1]) ?_
    refine ev_neg (by simp) ?_
    rw [w64 (x:=later) (by omega),w64 (x:=now + later) (by omega)]
    by_cases hw : usable l (now + later) h
    · refine Ev.bind (usage_ok l a (now + later) h hn hs hw) (ev_pos rfl ?_)
      have hbd2 : ¬ bad (now + later - t) h:=by
        have:=hw.2.2.2.2.1
        unfold bad;omega
      have e : ¬ useV l a (now + later) h > aft n (now - t) h:=by
        unfold useV;rw [hn',ht']
        have:=after_mono_t hbd hbd2 (n:=n) (by omega) (show now - t≤now + later - t by omega)
        omega
      rw [decide_eq_false e]
      exact J2
    · obtain ⟨e,he,hE⟩:=usage_no l a (now + later) h hn hs hw
      exact Ev.bind hE (ev_neg he J2)
end Go.Proofs.YtakdneopmojjdaaDoor.Pure
