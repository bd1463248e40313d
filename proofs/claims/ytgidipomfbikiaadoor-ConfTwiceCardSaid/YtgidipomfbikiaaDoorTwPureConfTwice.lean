/- cut to what one law reaches -/
import Derived.Test.YtgidipomfbikiaaDoorTwCnfTwice
import Derived.Test.YtgidipomfbikiaaDoorTwP0
import Derived.Test.YtgidipomfbikiaaDoorTwP7
import Derived.Test.YtgidipomfbikiaaDoorTwP10
import Derived.Test.YtgidipomfbikiaaDoorTwP23
namespace Go.Proofs.YtgidipomfbikiaaDoor.Pure
open Go.RowKit Go.Proofs.YtgidipomfbikiaaDoorW.PrintWords Go.Proofs.YtgidipomfbikiaaDoorW.PrintLast Go.Proofs.YtgidipomfbikiaaDoorW.PrintMore Go.Proofs.YtgidipomfbikiaaDoor.P Go.Proofs.YtgidipomfbikiaaDoor.NumM Go.Proofs.YtgidipomfbikiaaDoor.Cnf
set_option linter.unusedVariables false
set_option linter.unusedSimpArgs false
theorem tw48 (A : List S48) {i : Int} (h0 : 0≤i) (h1 : i < (A.length : Int)) : ∃ h : i.toNat < A.length,rd_T48 A i = A[i.toNat]:=by
  have h : i.toNat < A.length:=by omega
  exact ⟨h,by unfold rd_T48;simp [List.getD,h]⟩
theorem tw50 (A : List S50) {i : Int} (h0 : 0≤i) (h1 : i < (A.length : Int)) : ∃ h : i.toNat < A.length,rd_T50 A i = A[i.toNat]:=by
  have h : i.toNat < A.length:=by omega
  exact ⟨h,by unfold rd_T50;simp [List.getD,h]⟩
theorem tw52 (A : List S52) {i : Int} (h0 : 0≤i) (h1 : i < (A.length : Int)) : ∃ h : i.toNat < A.length,rd_T52 A i = A[i.toNat]:=by
  have h : i.toNat < A.length:=by omega
  exact ⟨h,by unfold rd_T52;simp [List.getD,h]⟩
theorem tw_in (a : Int) (n : Nat) (h : 1≤n∧n≤1000000) : 0≤idx2 a n∧idx2 a n < n:=by
  have e : IntKind.u64.wrap (n : Int) = (n : Int):=u64 (by omega)
  unfold idx2
  rw [e,IntKind.wrap_u64]
  have h0 : 0≤a % 18446744073709551616:=Int.emod_nonneg _ (by omega)
  rw [Int.tmod_eq_emod_of_nonneg h0]
  generalize a % 18446744073709551616 = v at *
  have h1 : 0≤v % (n : Int):=Int.emod_nonneg _ (by omega)
  have h2 : v % (n : Int) < (n : Int):=Int.emod_lt_of_pos _ (by omega)
  generalize v % (n : Int) = m at *
  rw [w64 (by omega)];omega
theorem twK_ev : Ev (fun k=>twK k) true:=by unfold twK;exact hk
theorem bad_ev (h : Hd) {p : List S50} {q : List S52} {a : List S48} (hp : p.length < 1000000) (hq : q.length < 1000000) (ha : a.length < 1000000) (np : ∀ x ∈ p,x.f0.size≤300) (nq : ∀ x ∈ q,x.f0.size≤300) (na : ∀ x ∈ a,x.f0.size≤300) (hb : COK h p q a = false) :
    Ev (fun k=>conf_Check.f k h.f0 h.f1 h.f2 h.f3 h.f4 h.f5 h.f6 h.f7 h.f8 p q a) 100:=by
  have:=check_ev h hp hq ha np nq na
  rw [hb] at this
  exact this
theorem ConfTwice : gangerlaw10_ConfTwice.Pure:=by
  intro c0 c1 c2 c3 c4 c5 c6 c7 c8 P Q A a1 a2 _ _ _
  refine Ev.rounds ?_
  unfold gangerlaw10_ConfTwice.f
  obtain ⟨b,hb,hf⟩:=long_ev (⟨c0,c1,c2,c3,c4,c5,c6,c7,c8⟩ : Hd) P Q A
  refine Ev.bind hb ?_
  cases b with
  | true=>exact ev_pos rfl twK_ev
  | false =>
    refine ev_neg (by simp) ?_
    obtain ⟨s1,s2,s3,s4,s5,s6⟩:=hf rfl
    have s7 : ∀ x ∈ A,x.f0.size≤300:=fun x hx=>(s6 x hx).1
    by_cases e11 : A.length = 0
    · exact ev_pos e11 twK_ev
    refine ev_neg e11 ?_
    by_cases e9 : P.length = 0
    · exact ev_pos e9 twK_ev
    refine ev_neg e9 ?_
    by_cases e10 : Q.length = 0
    · exact ev_pos e10 twK_ev
    refine ev_neg e10 ?_
    have C:=check_ev (⟨c0,c1,c2,c3,c4,c5,c6,c7,c8⟩ : Hd) (p:=P) (q:=Q) (a:=A) (by omega) (by omega) (by omega) s4 s5 s7
    refine Ev.bind C ?_
    cases hc : COK (⟨c0,c1,c2,c3,c4,c5,c6,c7,c8⟩ : Hd) P Q A with
    | false=>exact ev_neg (by simp) twK_ev
    | true =>
      refine ev_pos (by simp) (ev_pos ⟨by omega,by omega,by omega⟩ ?_)
      obtain ⟨i0,i1⟩:=tw_in a1 A.length ⟨by omega,by omega⟩
      obtain ⟨j0,j1⟩:=tw_in a2 A.length ⟨by omega,by omega⟩
      obtain ⟨u0,u1⟩:=tw_in a1 P.length ⟨by omega,by omega⟩
      obtain ⟨v0,v1⟩:=tw_in a2 Q.length ⟨by omega,by omega⟩
      generalize idx2 a1 A.length = i at *
      generalize idx2 a2 A.length = j at *
      generalize idx2 a1 P.length = u at *
      generalize idx2 a2 Q.length = v at *
      have m0 : i≤mx i j∧0≤mx i j∧mx i j < (A.length : Int):=by unfold mx;split <;> omega
      obtain ⟨m0,m1,m2⟩:=m0
      generalize mx i j = m at *
      obtain ⟨li,ri⟩:=tw48 A i0 i1
      obtain ⟨lj,rj⟩:=tw48 A j0 j1
      obtain ⟨lm,rm⟩:=tw48 A m1 m2
      obtain ⟨lu,ru⟩:=tw50 P u0 u1
      obtain ⟨lv,rv⟩:=tw52 Q v0 v1
      have zs : ∀ (a : S48),a.f0.size≤300→∀ x ∈ A.set i.toNat a,x.f0.size≤300:=by
        intro a ha x hx
        rcases List.mem_or_eq_of_mem_set hx with q|q
        · exact s7 x q
        · rw [q];exact ha
      have nI : (rd_T48 A i).f0.size≤300:=by rw [ri];exact s7 _ (List.getElem_mem li)
      have nJ : (rd_T48 A j).f0.size≤300:=by rw [rj];exact s7 _ (List.getElem_mem lj)
      unfold twT
      have E1 : Ev (fun k=>if i = j then some 100 else conf_Check.f k c0 c1 c2 c3 c4 c5 c6 c7 c8 P Q (A.set i.toNat ⟨(rd_T48 A j).f0,(rd_T48 A i).f1,(rd_T48 A i).f2⟩)) 100:=by
        by_cases hij : i = j
        · exact ev_pos hij (Ev.now _)
        · refine ev_neg hij (bad_ev (⟨c0,c1,c2,c3,c4,c5,c6,c7,c8⟩ : Hd) (by omega) (by omega) (by simp;omega) s4 s5 (zs _ nJ) ?_)
          exact twice_x (i:=i.toNat) (k:=j.toNat) (by omega) li lj _ (by rw [rj])
      have E2 : Ev (fun k=>conf_Check.f k c0 c1 c2 c3 c4 c5 c6 c7 c8 P Q (A.set i.toNat ⟨(rd_T48 A i).f0,(rd_T48 A m).f0,(rd_T48 A i).f2⟩)) 100:=by
        refine bad_ev (⟨c0,c1,c2,c3,c4,c5,c6,c7,c8⟩ : Hd) (by omega) (by omega) (by simp;omega) s4 s5 (zs _ nI) ?_
        exact twice_y hc (i:=i.toNat) (m:=m.toNat) (by omega) lm _ (by rw [rm])
      have E3 : Ev (fun k=>if i = 0 then some 100 else conf_Check.f k c0 c1 c2 c3 c4 c5 c6 c7 c8 P Q (A.set i.toNat ⟨(rd_T48 A i).f0,(⟨#[]⟩ : ByteArray),(rd_T48 A i).f2⟩)) 100:=by
        by_cases hi : i = 0
        · exact ev_pos hi (Ev.now _)
        · refine ev_neg hi (bad_ev (⟨c0,c1,c2,c3,c4,c5,c6,c7,c8⟩ : Hd) (by omega) (by omega) (by simp;omega) s4 s5 (zs _ nI) ?_)
          exact twice_z (i:=i.toNat) (by omega) li _ (show (⟨#[]⟩ : ByteArray).toList = [] by decide +kernel)
      have E4 : Ev (fun k=>conf_Check.f k c0 c1 c2 c3 c4 c5 c6 c7 c8 (P ++ [(⟨(rd_T50 P u).f0,(rd_T50 P u).f1,(rd_T50 P u).f2,(rd_T50 P u).f3⟩ : S50)]) Q A) 100:=by
        have e : (⟨(rd_T50 P u).f0,(rd_T50 P u).f1,(rd_T50 P u).f2,(rd_T50 P u).f3⟩ : S50) = P[u.toNat]:=ru
        rw [e]
        refine bad_ev (⟨c0,c1,c2,c3,c4,c5,c6,c7,c8⟩ : Hd) (by simp;omega) (by omega) (by omega) ?_ s5 s7 (twice_p lu)
        intro x hx
        rcases List.mem_append.1 hx with q|q
        · exact s4 x q
        · rw [List.mem_singleton.1 q];exact s4 _ (List.getElem_mem lu)
      have E5 : Ev (fun k=>conf_Check.f k c0 c1 c2 c3 c4 c5 c6 c7 c8 P (Q ++ [(⟨(rd_T52 Q v).f0,(rd_T52 Q v).f1,(rd_T52 Q v).f2⟩ : S52)]) A) 100:=by
        have e : (⟨(rd_T52 Q v).f0,(rd_T52 Q v).f1,(rd_T52 Q v).f2⟩ : S52) = Q[v.toNat]:=rv
        rw [e]
        refine bad_ev (⟨c0,c1,c2,c3,c4,c5,c6,c7,c8⟩ : Hd) (by omega) (by simp;omega) (by omega) s4 ?_ s7 (twice_q lv)
        intro x hx
        rcases List.mem_append.1 hx with q|q
        · exact s5 x q
        · rw [List.mem_singleton.1 q];exact s5 _ (List.getElem_mem lv)
      exact Ev.bind E1 (Ev.bind E2 (Ev.bind E3 (Ev.bind E4 (Ev.bind E5 (ev_pos ⟨rfl,rfl,rfl,rfl,rfl⟩ twK_ev)))))
end Go.Proofs.YtgidipomfbikiaaDoor.Pure
