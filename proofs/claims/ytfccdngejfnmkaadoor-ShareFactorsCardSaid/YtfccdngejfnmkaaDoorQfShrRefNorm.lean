/- cut to what one law reaches -/
import Derived.Test.YtfccdngejfnmkaaDoorQfShrNorms
import Derived.Test.YtfccdngejfnmkaaDoorQfShrRef
import Derived.Test.YtfccdngejfnmkaaDoorQfP0
import Derived.Test.YtfccdngejfnmkaaDoorQfP14
namespace Go.Proofs.YtfccdngejfnmkaaDoor.Shr
open Go.RowKit Go.Proofs.YtfccdngejfnmkaaDoorW.PrintWords Go.Proofs.YtfccdngejfnmkaaDoorW.PrintLast Go.Proofs.YtfccdngejfnmkaaDoorW.PrintMore Go.Proofs.YtfccdngejfnmkaaDoor.P Go.Proofs.YtfccdngejfnmkaaDoor.NumM
set_option linter.unusedVariables false
set_option linter.unusedSimpArgs false
theorem rd37_n {l : List S37} {i : Nat} {a : S37} (h : l[i]? = some a) : rd_T37 l (i : Int) = a := by
  unfold rd_T37; simp [List.getD, h]
theorem shareSum_cons {l : List S37} {us : List Int} {j : Nat} (h1 : j < l.length) (h2 : j < us.length) (u : Int) : shareSum (l.drop j) (us.drop j) u = (if us[j] = u then l[j].f2 else 0) + shareSum (l.drop (j + 1)) (us.drop (j + 1)) u := by
  rw [List.drop_eq_getElem_cons h1, List.drop_eq_getElem_cons h2, shareSum]
theorem wnx (j : Nat) (h : j ≤ 1000000) : wrap64 ((j : Int) + 1) = ((j + 1 : Nat) : Int) := by rw [w64 (by omega)]; omega
/-- the loop over all accounts: their shares, and the parent's norm -/
theorem refnorm_l0 {l : List S37} (h : TOK l = true) (i u : Nat) (hi : i < l.length) (hu : u < i) (hup : (ups l)[i]? = some (u : Int)) (hsub : Ev (fun k => gangerref11_norm.f k l (u : Int)) (rd (norms l) (u : Int))) : ∀ (m j : Nat) (all up : Int), j + m = l.length → (0 ≤ all ∧ all ≤ 1048576 * (j : Int)) → all + shareSum (l.drop j) ((ups l).drop j) (u : Int) = shareSum l (ups l) (u : Int) → (u < j → up = rd (norms l) (u : Int)) →
    Ev (fun k => gangerref11_norm.l0 k l (i : Int) all up (j : Int)) (rd (norms l) (i : Int)) := by
  intro m
  induction m with
  | zero =>
    intro j all up hj ha hsum hx
    obtain ⟨n1, n2, n3, n4⟩ := norms_facts h
    have hn := (tok_parts h).2.1
    have gi := List.getElem?_eq_getElem hi
    have e0 : shareSum (l.drop j) ((ups l).drop j) (u : Int) = 0 := by
      rw [List.drop_eq_nil_of_le (by omega), shareSum]
      intro _ _ _ _ q _; cases q
    rw [e0, Int.add_zero] at hsum
    have hS := share_le l (ups l) i l[i] u (shares h) gi hup
    have hs := shares h _ (List.mem_of_getElem? gi)
    have hr := n4 i _ _ (by omega) gi hup
    have hun := n2 _ (List.mem_of_getElem? (rd_in (l := norms l) (u := (u : Int)) (by omega) (by omega)))
    refine Ev.step (fun k => by rw [gangerref11_norm.l0]) ?_
    refine ev_neg (by omega) (ev_pos (by omega) (ev_pos (by omega) (ev_neg (by omega) ?_)))
    rw [rd37_n gi, hx (by omega), hr, hsum]
    have b0 : 0 ≤ rd (norms l) (u : Int) * l[i].f2 := Int.mul_nonneg hun.1 (by omega)
    have b1 : rd (norms l) (u : Int) * l[i].f2 ≤ 65536 * 1048576 := Int.mul_le_mul hun.2 hs.2 (by omega) (by omega)
    have q0 : 0 ≤ rd (norms l) (u : Int) * l[i].f2 / shareSum l (ups l) (u : Int) := Int.ediv_nonneg b0 (by omega)
    have q1 : rd (norms l) (u : Int) * l[i].f2 / shareSum l (ups l) (u : Int) ≤ rd (norms l) (u : Int) * l[i].f2 := Int.ediv_le_self _ b0
    rw [w64 (x := rd (norms l) (u : Int) * l[i].f2) (by omega), Int.tdiv_eq_ediv_of_nonneg b0, w64 (by omega)]
    exact Ev.now _
  | succ m ihm =>
    intro j all up hj ha hsum hx
    have hn := (tok_parts h).2.1
    have hjl : j < l.length := by omega
    have hju : j < (ups l).length := by rw [ups_len h]; omega
    have hul : u < l.length := by omega
    have gi := List.getElem?_eq_getElem hi
    have gj := List.getElem?_eq_getElem hjl
    have gu := List.getElem?_eq_getElem hul
    have guj := List.getElem?_eq_getElem hju
    have hci := (child_iff h gu gi).1 hup
    have hcj := child_iff h gu gj
    rw [guj] at hcj
    have hs := shares h _ (List.mem_of_getElem? gj)
    rw [shareSum_cons hjl hju] at hsum
    have hname : l[j].f0.toList = l[i].f1.toList ↔ j = u := by
      constructor
      · intro e
        rw [tl, tl, hci] at e
        exact names_inj h gj gu e
      · intro e
        subst e
        rw [tl, tl]; exact hci.symm
    have hpar : l[j].f1.toList = l[i].f1.toList ↔ (ups l)[j] = (u : Int) := by
      constructor
      · intro e
        rw [tl, tl, hci] at e
        exact Option.some.inj (hcj.2 e)
      · intro e
        rw [tl, tl, hci]
        exact hcj.1 (by rw [e])
    refine Ev.step (fun k => by rw [gangerref11_norm.l0]) ?_
    refine ev_pos (by omega) (ev_pos (by omega) (ev_pos (by omega) (ev_pos (by omega) ?_)))
    rw [rd37_n gi, rd37_n gj, wnx j (by omega)]
    have rest : ∀ all' up', (0 ≤ all' ∧ all' ≤ 1048576 * ((j + 1 : Nat) : Int)) → all' + shareSum (l.drop (j + 1)) ((ups l).drop (j + 1)) (u : Int) = shareSum l (ups l) (u : Int) → (u < j + 1 → up' = rd (norms l) (u : Int)) → Ev (fun k => gangerref11_norm.l0 k l (i : Int) all' up' ((j + 1 : Nat) : Int)) (rd (norms l) (i : Int)) :=
      fun all' up' a b c => ihm (j + 1) all' up' (by omega) a b c
    by_cases g1 : l[j].f1.toList = l[i].f1.toList
    · rw [if_pos (hpar.1 g1)] at hsum
      refine ev_pos g1 ?_
      rw [w64 (x := all + l[j].f2) (by omega)]
      by_cases g2 : l[j].f0.toList = l[i].f1.toList
      · refine ev_pos g2 ?_
        obtain rfl := hname.1 g2
        exact Ev.bind hsub (rest _ _ (by omega) (by omega) (fun _ => rfl))
      · exact ev_neg g2 (rest _ _ (by omega) (by omega) (fun q => hx (by have : j ≠ u := fun e => g2 (hname.2 e); omega)))
    · rw [if_neg (fun q => g1 (hpar.2 q))] at hsum
      refine ev_neg g1 ?_
      by_cases g2 : l[j].f0.toList = l[i].f1.toList
      · refine ev_pos g2 ?_
        obtain rfl := hname.1 g2
        exact Ev.bind hsub (rest _ _ (by omega) (by omega) (fun _ => rfl))
      · exact ev_neg g2 (rest _ _ (by omega) (by omega) (fun q => hx (by have : j ≠ u := fun e => g2 (hname.2 e); omega)))
theorem refnorm_ev {l : List S37} (h : TOK l = true) : ∀ (i : Nat), i < l.length → Ev (fun k => gangerref11_norm.f k l (i : Int)) (rd (norms l) (i : Int)) := by
  intro i
  induction i using Nat.strongRecOn with
  | ind i ih =>
    intro hi
    obtain ⟨n1, n2, n3, n4⟩ := norms_facts h
    refine Ev.step (fun k => by rw [gangerref11_norm.f]) ?_
    rcases Nat.eq_zero_or_pos i with q | q
    · subst q
      rw [show rd (norms l) ((0 : Nat) : Int) = 65536 from n3]
      exact ev_pos rfl (Ev.now _)
    · obtain ⟨v, g1, g2, g3⟩ := ups_at h i l[i] (List.getElem?_eq_getElem hi)
      obtain ⟨u, b, k1, k2, _⟩ := g3 q
      rw [k1] at g1
      refine ev_neg (by omega) ?_
      exact refnorm_l0 h i u hi k2 g1 (ih u k2 (by omega)) l.length 0 0 0 (by omega) (by omega) (by simp) (by omega)
end Go.Proofs.YtfccdngejfnmkaaDoor.Shr
