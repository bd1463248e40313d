/- cut to what one law reaches -/
import Derived.Test.YtfccdngejfnmkaaDoorQfShrParts
import Derived.Test.YtfccdngejfnmkaaDoorQfShrRef
import Derived.Test.YtfccdngejfnmkaaDoorQfNumBase
import Derived.Test.YtfccdngejfnmkaaDoorQfShrSame
import Derived.Test.YtfccdngejfnmkaaDoorQfP0
import Derived.Test.YtfccdngejfnmkaaDoorQfP12
import Derived.Test.YtfccdngejfnmkaaDoorQfP13
namespace Go.Proofs.YtfccdngejfnmkaaDoor.Shr
open Go.RowKit Go.Proofs.YtfccdngejfnmkaaDoorW.PrintWords Go.Proofs.YtfccdngejfnmkaaDoorW.PrintLast Go.Proofs.YtfccdngejfnmkaaDoorW.PrintMore Go.Proofs.YtfccdngejfnmkaaDoor.P Go.Proofs.YtfccdngejfnmkaaDoor.NumM
set_option linter.unusedVariables false
set_option linter.unusedSimpArgs false
/-- the wide way of a sum that is cut off -/
theorem wide_sum {f : Nat → Int → Option Int} {a b : Int} {r : Int} (ha : 0 ≤ a ∧ a ≤ 9223372036854775807) (hb : 0 ≤ b ∧ b ≤ 9223372036854775807) {g : Nat → Option Int} (hg : Ev g b) (h : Ev (fun k => f k (cutoff (a + b))) r) :
    Ev (fun k => (gangerref01_Of.f a).bind fun x => ((g k).bind fun t => ((gangerref01_Of.f t).bind fun y => ((gangerref01_Plus.f x.1 x.2.1 x.2.2 y.1 y.2.1 y.2.2).bind fun z => ((gangerref01_End.f k z.1 z.2.1 z.2.2).bind (f k)))))) r := by
  rw [of_f a (by unfold fits; omega)]
  refine Ev.bind (Ev.now _) (Ev.bind hg ?_)
  rw [of_f b (by unfold fits; omega)]
  refine Ev.bind (Ev.now _) ?_
  dsimp only
  obtain ⟨n, x, y, e, hx0, hx1, hy0, hy1, hv⟩ := Plus_f (decide (a < 0)) (decide (b < 0)) 0 (a.natAbs : Int) 0 (b.natAbs : Int) (by omega) (by omega) (by omega) (by omega)
  rw [e]
  refine Ev.bind (Ev.now _) ?_
  dsimp only
  have hend := end_ev n x y hx0 hy0 hy1
  rw [hv, sv_of, sv_of] at hend
  exact Ev.bind hend h
theorem rd37_at {l : List S37} {i : Nat} {a : S37} (h : l[i]? = some a) : rd_T37 l (i : Int) = a := by
  unfold rd_T37; simp [List.getD, h]
theorem refsum_l0 {l : List S37} {own : List Int} (h : OOK l own) (i : Nat) (hi : i < l.length) (hsub : ∀ j, j < l.length → (ups l)[j]? = some (i : Int) → Ev (fun k => gangerref11_sum.f k l own (j : Int)) (rd (sums l own) (j : Int))) : ∀ (m j : Nat) (acc : Int), j + m = l.length → (0 ≤ acc ∧ acc ≤ 9223372036854775807) →
    Ev (fun k => gangerref11_sum.l0 k l own (i : Int) acc (j : Int)) (inn (i : Int) ((ups l).drop j) ((sums l own).drop j) acc)
  | 0, j, acc, hj, ha => by
    refine Ev.step (fun k => by rw [gangerref11_sum.l0]) ?_
    refine ev_neg (by omega) ?_
    rw [List.drop_eq_nil_of_le (by rw [ups_len h.1]; omega), inn]
    · exact Ev.now _
    · intro _ _ _ _ q _; cases q
  | m + 1, j, acc, hj, ha => by
    obtain ⟨f1, f2, f3, f4⟩ := sums_facts h
    have hn := (tok_parts h.1).2.1
    have hjl : j < l.length := by omega
    have hul := ups_len h.1
    have hju : j < (ups l).length := by omega
    have hjs : j < (sums l own).length := by omega
    have gi := List.getElem?_eq_getElem hi
    have gj := List.getElem?_eq_getElem hjl
    have gu := List.getElem?_eq_getElem hju
    have gs := List.getElem?_eq_getElem hjs
    have hs := f2 _ (List.mem_of_getElem? gs)
    have ers := rd_get? gs
    have hc := child_iff h.1 gi gj
    rw [gu] at hc
    refine Ev.step (fun k => by rw [gangerref11_sum.l0]) ?_
    refine ev_pos (by omega) (ev_pos (by omega) (ev_pos (by omega) (ev_pos (by omega) ?_)))
    rw [rd37_at gi, rd37_at gj, List.drop_eq_getElem_cons hju, List.drop_eq_getElem_cons hjs, inn, wnat j (by omega)]
    by_cases g : (ups l)[j] = (i : Int)
    · have hn := hc.1 (by rw [g])
      rw [if_pos g]
      refine ev_pos (by rw [tl, tl]; exact hn) ?_
      have sub := hsub j hjl (by rw [gu, g])
      rw [ers] at sub
      exact wide_sum (f := fun k t => gangerref11_sum.l0 k l own (i : Int) t ((j + 1 : Nat) : Int)) ha hs sub (refsum_l0 h i hi hsub m (j + 1) _ (by omega) (cut_nn ha hs).1)
    · rw [if_neg g]
      refine ev_neg (fun q => g ?_) (refsum_l0 h i hi hsub m (j + 1) acc (by omega) ha)
      rw [tl, tl] at q
      exact Option.some.inj (hc.2 q)
theorem inn_skip (i : Int) : ∀ (t : Nat) (us os : List Int) (acc : Int), (∀ (j : Nat) (u : Int), j < t → us[j]? = some u → u ≠ i) → us.length = os.length → inn i us os acc = inn i (us.drop t) (os.drop t) acc
  | 0, us, os, acc, h, hl => by simp
  | t + 1, [], os, acc, h, hl => by
    have : os = [] := List.length_eq_zero_iff.1 (by simpa using hl.symm)
    subst this; simp
  | t + 1, u :: us, [], acc, h, hl => by simp at hl
  | t + 1, u :: us, o :: os, acc, h, hl => by
    have h0 := h 0 u (by omega) rfl
    rw [inn, if_neg h0, List.drop_succ_cons, List.drop_succ_cons]
    exact inn_skip i t us os acc (fun j v hj hv => h (j + 1) v (by omega) (by simpa using hv)) (by simpa using hl)
theorem refsum_ev {l : List S37} {own : List Int} (h : OOK l own) : ∀ (m i : Nat), i + m = l.length → i < l.length → Ev (fun k => gangerref11_sum.f k l own (i : Int)) (rd (sums l own) (i : Int)) := by
  intro m
  induction m using Nat.strongRecOn with
  | ind m ih =>
    intro i hm hi
    obtain ⟨f1, f2, f3, f4⟩ := sums_facts h
    have ho := h.2.1
    have hio : i < own.length := by omega
    have hup : ∀ (j : Nat) (u : Int), (ups l)[j]? = some u → u < (j : Int) := by
      intro j u hu
      have hj : j < l.length := by
        rw [← ups_len h.1]
        rcases Nat.lt_or_ge j (ups l).length with q | q
        · exact q
        · rw [List.getElem?_eq_none q] at hu; cases hu
      obtain ⟨v, g1, g2, g3⟩ := ups_at h.1 j l[j] (List.getElem?_eq_getElem hj)
      rw [hu] at g1
      obtain rfl := Option.some.inj g1
      rcases Nat.eq_zero_or_pos j with q | q
      · have := g2 q; omega
      · obtain ⟨i', b, k1, k2, _⟩ := g3 q
        omega
    have e : rd (sums l own) (i : Int) = inn (i : Int) ((ups l).drop 0) ((sums l own).drop 0) own[i] := by
      rw [List.drop_zero, List.drop_zero, inn_skip (i : Int) (i + 1) _ _ _ (fun j u hj hu => by have := hup j u hu; omega) (by rw [f1, ups_len h.1])]
      refine rd_get? ?_
      unfold sums
      exact sm_at (ups l) own i hio
    rw [e]
    refine Ev.step (fun k => by rw [gangerref11_sum.f]) ?_
    refine ev_pos (by omega) (ev_pos (by omega) ?_)
    rw [rd_get? (List.getElem?_eq_getElem hio)]
    refine refsum_l0 h i hi (fun j hj hu => ?_) l.length 0 own[i] (by omega) (h.2.2 _ (List.getElem_mem hio))
    have := hup j _ hu
    exact ih (l.length - j) (by omega) j (by omega) hj
theorem refsums_l0 {l : List S37} {own : List Int} (h : OOK l own) : ∀ (m j : Nat), j + m = l.length → Ev (fun k => gangerref11_Sums.l0 k l own ((sums l own).take j) (j : Int)) (sums l own, 0)
  | 0, j, hj => by
    obtain ⟨f1, f2, f3, f4⟩ := sums_facts h
    refine Ev.step (fun k => by rw [gangerref11_Sums.l0]) ?_
    refine ev_neg (by omega) ?_
    rw [List.take_of_length_le (by omega)]
    exact Ev.now _
  | m + 1, j, hj => by
    obtain ⟨f1, f2, f3, f4⟩ := sums_facts h
    have hn := (tok_parts h.1).2.1
    have hjs : j < (sums l own).length := by omega
    refine Ev.step (fun k => by rw [gangerref11_Sums.l0]) ?_
    refine ev_pos (by omega) (Ev.bind (refsum_ev h (m + 1) j hj (by omega)) (ev_pos (by rw [List.length_take]; omega) ?_))
    have ih := refsums_l0 h m (j + 1) (by omega)
    rw [List.take_add_one, List.getElem?_eq_getElem hjs] at ih
    rw [rd_get? (List.getElem?_eq_getElem hjs), wnat j (by omega)]
    exact ih
theorem refsums_ev {l : List S37} {own : List Int} (hs : Small l own) : Ev (fun k => gangerref11_Sums.f k l own) (if rightE l own = 0 then (sums l own, 0) else ([], rightE l own)) := by
  unfold gangerref11_Sums.f
  obtain ⟨h1, h2, h3, h4⟩ := hs
  refine Ev.bind (refright_ev l own (by omega) (by omega) (fun x hx => (h3 x hx).1)) ?_
  by_cases h : rightE l own = 0
  · have ho := (rightE_ok h4).1 h
    rw [if_pos h]
    refine ev_pos h ?_
    have := refsums_l0 ho l.length 0 (by omega)
    rw [List.take_zero] at this
    exact this
  · rw [if_neg h]
    exact ev_neg h (Ev.now _)
end Go.Proofs.YtfccdngejfnmkaaDoor.Shr
