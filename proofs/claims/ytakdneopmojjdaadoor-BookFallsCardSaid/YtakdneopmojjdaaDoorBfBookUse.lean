/- cut to what one law reaches -/
import Derived.Test.YtakdneopmojjdaaDoorBfBookBase
import Derived.Test.YtakdneopmojjdaaDoorBfBookDecay
import Derived.Test.YtakdneopmojjdaaDoorBfP0
import Derived.Test.YtakdneopmojjdaaDoorBfP9
namespace Go.Proofs.YtakdneopmojjdaaDoor.Bk
open Go.RowKit Go.Proofs.YtakdneopmojjdaaDoorW.PrintWords Go.Proofs.YtakdneopmojjdaaDoorW.PrintLast Go.Proofs.YtakdneopmojjdaaDoorW.PrintMore Go.Proofs.YtakdneopmojjdaaDoor.P Go.Proofs.YtakdneopmojjdaaDoor.NumM Go.Proofs.YtakdneopmojjdaaDoor.Dcy
set_option linter.unusedVariables false
set_option linter.unusedSimpArgs false
/-- what has been used, and when it was told -/
def useF (a : ByteArray) (h : Int) : List S24→Int→Int→Int × Int
  | [],n,t=>(n,t)
  | c :: r,n,t=>if c.f1.toList = a.toList then useF a h r (aft n (c.f5 - t) h + amt c) c.f5 else useF a h r n t
/-- times that do not fall, from t on -/
def risen : Int→List S24→Prop
  | _,[]=>True
  | t,c :: r=>t≤c.f5∧risen c.f5 r
theorem risen_low : ∀ (l : List S24) (t u : Int),risen t l→u≤t→risen u l
  | [],t,u,_,_=>trivial
  | c :: r,t,u,h,hu=>⟨by have:=h.1;omega,h.2⟩
theorem bk_risen : ∀ (l : List S24) (pr : Option Int) (t : Int),bkFrom pr l = true→(∀ u,pr = some u→t≤u)→(pr = none→t≤0)→risen t l
  | [],_,_,_,_,_=>trivial
  | c :: r,pr,t,h,h1,h2=>by
    rw [bkFrom] at h
    simp only [Bool.and_eq_true] at h
    have q:=right_num h.1.1
    refine ⟨?_,bk_risen r (some c.f5) c.f5 h.2 (fun u hu=>by have:=Option.some.inj hu;omega) (fun z=>by cases z)⟩
    cases pr with
    | none=>have:=h2 rfl;omega
    | some u =>
      have e:=h1 u rfl
      have h3 : decide (u≤c.f5) = true:=h.1.2
      have:=of_decide_eq_true h3
      omega
/-- the last time, or t -/
def lastA : Int→List S24→Int
  | t,[]=>t
  | _,c :: r=>lastA c.f5 r
theorem risen_last : ∀ (l : List S24) (t : Int),risen t l→t≤lastA t l
  | [],t,_=>Int.le_refl _
  | c :: r,t,h=>by rw [lastA];have:=risen_last r c.f5 h.2;have:=h.1;omega
theorem lastA_mem : ∀ (l : List S24) (t : Int) (d : S24),l ≠ []→lastA t l = (l.getLast?.getD d).f5
  | [],_,_,h=>absurd rfl h
  | [c],t,d,_=>rfl
  | c :: e :: r,t,d,_=>by
    rw [lastA,lastA_mem (e :: r) c.f5 d (by simp)]
    simp [List.getLast?]
theorem last_rd (l : List S24) (h : l ≠ []) (hl : l.length < 1000000) : (rd_T24 l (wrap64 ((l.length : Int) - 1))).f5 = lastA 0 l:=by
  rcases List.eq_nil_or_concat l with e|⟨p,x,e⟩
  · exact absurd e h
  · rw [List.concat_eq_append] at e
    subst e
    have e1 : wrap64 ((((p ++ [x]).length : Nat) : Int) - 1) = (p.length : Int):=by
      rw [w64 (by simp at hl ⊢;omega)];simp
    rw [e1,rd24_mid p x [],lastA_mem _ 0 x (by simp)]
    simp
/-- what is used counts for something from nought on, up to what was charged -/
theorem use_num (a : ByteArray) {h : Int} (hh : 1≤h∧h≤1099511627776) : ∀ (l : List S24) (n t : Int),(∀ x ∈ l,rightB x = true)→risen t l→0≤t→0≤n →
    0≤(useF a h l n t).1∧(useF a h l n t).1≤n + tot a l∧t≤(useF a h l n t).2∧(useF a h l n t).2≤lastA t l
  | [],n,t,hr,hs,ht,hn=>by simp [useF,tot,lastA];exact hn
  | c :: r,n,t,hr,hs,ht,hn=>by
    have q:=right_num (hr c (List.mem_cons_self ..))
    have qa:=amt_num (hr c (List.mem_cons_self ..))
    have hr2 : ∀ x ∈ r,rightB x = true:=fun x hx=>hr x (List.mem_cons_of_mem _ hx)
    have h1:=hs.1
    rw [useF,tot,lastA]
    by_cases e : c.f1.toList = a.toList
    · rw [if_pos e,if_pos e]
      have hb : ¬ bad (c.f5 - t) h:=by unfold bad;omega
      have ab:=after_bd hb hn
      have ih:=use_num a hh r (aft n (c.f5 - t) h + amt c) c.f5 hr2 hs.2 (by omega) (by omega)
      omega
    · rw [if_neg e,if_neg e]
      have ih:=use_num a hh r n t hr2 (risen_low r c.f5 t hs.2 h1) ht hn
      have hl : lastA t r≤lastA c.f5 r:=by
        cases r with
        | nil=>exact h1
        | cons d r=>exact Int.le_refl _
      omega
theorem usage_l0 (a : ByteArray) {now h : Int} (hh : 1≤h∧h≤1099511627776) (hnow : now≤1099511627776) : ∀ (s p : List S24) (n t : Int),(p ++ s).length < 1000000→(∀ x ∈ s,rightB x = true)→risen t s→lastA t s≤now→0≤t→0≤n→n + 1099511627776 * s.length≤4611686018427387904 →
    Ev (fun k=>book_Usage.l0 k a now h (p ++ s) ((p ++ s).length : Int) (p.length : Int) n t) (aft (useF a h s n t).1 (now - (useF a h s n t).2) h,0)
  | [],p,n,t,hl,hr,hs,hla,ht,hn,hb=>by
    rw [lastA] at hla
    refine Ev.step (fun k=>by rw [book_Usage.l0]) ?_
    refine ev_neg (by simp) ?_
    have C:=charge_ev n t now 0 h (by unfold fits;simp at hb;omega) (by unfold fits;omega) (by unfold fits;omega) (by unfold fits;omega)
    have hcb : ¬ cbad n t now 0:=by unfold cbad;omega
    have hbd : ¬ bad (now - t) h:=by unfold bad;omega
    rw [if_neg hcb,if_neg hbd] at C
    have ab:=after_bd hbd hn
    have ec : cutoff (aft n (now - t) h + 0) = aft n (now - t) h:=by
      unfold cutoff;simp at hb;rw [if_neg (by omega),if_neg (by omega)];omega
    rw [ec] at C
    exact Ev.bind C (Ev.now _)
  | x :: s,p,n,t,hl,hr,hs,hla,ht,hn,hb=>by
    have hp : p.length < 1000000:=by simp at hl;omega
    have q:=right_num (hr x (List.mem_cons_self ..))
    have qa:=amt_num (hr x (List.mem_cons_self ..))
    have hr2 : ∀ y ∈ s,rightB y = true:=fun y hy=>hr y (List.mem_cons_of_mem _ hy)
    rw [lastA] at hla
    rw [List.length_cons] at hb
    have hx1:=risen_last s x.f5 hs.2
    refine Ev.step (fun k=>by rw [book_Usage.l0]) ?_
    refine ev_pos (by simp;omega) (ev_pos (by omega) (ev_pos (by simp;omega) ?_))
    rw [rd24_mid,wsucc p x hp,useF]
    by_cases e : x.f1.toList = a.toList
    · refine ev_pos e ?_
      have ew : wrap64 (x.f2 * x.f3) = amt x:=w64 (by have:=qa;unfold amt at this;omega)
      rw [ew,if_pos e]
      have h1:=hs.1
      have C:=charge_ev n t x.f5 (amt x) h (by unfold fits;omega) (by unfold fits;omega) (by unfold fits;omega) (by unfold fits;omega)
      have hcb : ¬ cbad n t x.f5 (amt x):=by unfold cbad;omega
      have hbd : ¬ bad (x.f5 - t) h:=by unfold bad;omega
      rw [if_neg hcb,if_neg hbd] at C
      have ab:=after_bd hbd hn
      have ec : cutoff (aft n (x.f5 - t) h + amt x) = aft n (x.f5 - t) h + amt x:=by
        unfold cutoff;rw [if_neg (by omega),if_neg (by omega)]
      rw [ec] at C
      refine Ev.bind C ?_
      have ih:=usage_l0 a hh hnow s (p ++ [x]) (aft n (x.f5 - t) h + amt x) x.f5 (by simpa using hl) hr2 hs.2 hla (by omega) (by omega) (by omega)
      simpa using ih
    · refine ev_neg e ?_
      rw [if_neg e]
      have hl2 : lastA t s≤now:=by
        cases s with
        | nil=>rw [lastA] at hla ⊢;have:=hs.1;omega
        | cons d r=>exact hla
      have ih:=usage_l0 a hh hnow s (p ++ [x]) n t (by simpa using hl) hr2 (risen_low s x.f5 t hs.2 hs.1) hl2 ht hn (by omega)
      simpa using ih
/-- whether it can be told -/
def usable (l : List S24) (now h : Int) : Prop:=Book l = true∧1≤h∧h≤1099511627776∧0≤now∧now≤1099511627776∧lastA 0 l≤now
def useV (l : List S24) (a : ByteArray) (now h : Int) : Int:=aft (useF a h l 0 0).1 (now - (useF a h l 0 0).2) h
theorem usage_ok (l : List S24) (a : ByteArray) (now h : Int) (hl : l.length < 1000000) (hs : ∀ x ∈ l,x.f1.size≤1000000) (hu : usable l now h) : Ev (fun k=>book_Usage.f k l a now h) (useV l a now h,0):=by
  obtain ⟨hB,h1,h2,h3,h4,h5⟩:=hu
  have C:=check_ev l hl hs
  rw [if_pos hB] at C
  have q:=book_all hB
  have rs : risen 0 l:=by
    unfold Book at hB
    simp only [Bool.and_eq_true] at hB
    exact bk_risen l none 0 hB.2 (fun u z=>by cases z) (fun _=>by omega)
  have J : Ev (fun k=>book_Usage.j0 k l a now h) (useV l a now h,0):=by
    refine Ev.step (fun k=>by rw [book_Usage.j0]) ?_
    have:=usage_l0 a ⟨h1,h2⟩ h4 l [] 0 0 (by simpa using hl) q.2 rs h5 (by omega) (by omega) (by omega)
    simpa [useV] using this
  unfold book_Usage.f
  refine Ev.bind C (ev_pos rfl (ev_neg (by omega) (ev_neg (by omega) (ev_neg (by omega) (ev_neg (by omega) ?_)))))
  by_cases hp : (l.length : Int) > 0
  · have hne : l ≠ []:=fun z=>by rw [z] at hp;simp at hp
    have w1 : wrap64 ((l.length : Int) - 1) = (l.length : Int) - 1:=w64 (by omega)
    refine ev_pos hp (ev_pos (by omega) (ev_pos (by omega) ?_))
    rw [last_rd l hne hl]
    exact ev_neg (by omega) J
  · exact ev_neg hp J
theorem usage_no (l : List S24) (a : ByteArray) (now h : Int) (hl : l.length < 1000000) (hs : ∀ x ∈ l,x.f1.size≤1000000) (hu : ¬ usable l now h) : ∃ e,e ≠ 0∧Ev (fun k=>book_Usage.f k l a now h) (0,e):=by
  have C:=check_ev l hl hs
  unfold book_Usage.f
  by_cases hB : Book l = true
  case neg =>
    rw [if_neg hB] at C
    exact ⟨200,by decide,Ev.bind C (ev_neg (by decide) (Ev.now _))⟩
  rw [if_pos hB] at C
  refine ⟨2,by decide,Ev.bind C (ev_pos rfl ?_)⟩
  by_cases g1 : h < 1
  · exact ev_pos g1 (Ev.now _)
  refine ev_neg g1 ?_
  by_cases g2 : h > 1099511627776
  · exact ev_pos g2 (Ev.now _)
  refine ev_neg g2 ?_
  by_cases g3 : now < 0
  · exact ev_pos g3 (Ev.now _)
  refine ev_neg g3 ?_
  by_cases g4 : now > 1099511627776
  · exact ev_pos g4 (Ev.now _)
  refine ev_neg g4 ?_
  have g5 : ¬ lastA 0 l≤now:=fun z=>hu ⟨hB,by omega,by omega,by omega,by omega,z⟩
  have hne : l ≠ []:=fun z=>by rw [z,lastA] at g5;omega
  have hp : (l.length : Int) > 0:=by have:=List.length_pos_iff.2 hne;omega
  have w1 : wrap64 ((l.length : Int) - 1) = (l.length : Int) - 1:=w64 (by omega)
  refine ev_pos hp (ev_pos (by omega) (ev_pos (by omega) ?_))
  rw [last_rd l hne hl]
  exact ev_pos (by omega) (Ev.now _)
end Go.Proofs.YtakdneopmojjdaaDoor.Bk
