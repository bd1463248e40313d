/- cut to what one law reaches -/
import Derived.Test.YtfccdngejfnmkaaDoorQfShrRefSum
import Derived.Test.YtfccdngejfnmkaaDoorQfShrRefNorm
import Derived.Test.YtfccdngejfnmkaaDoorQfNumLong
import Derived.Test.YtfccdngejfnmkaaDoorQfP0
import Derived.Test.YtfccdngejfnmkaaDoorQfP15
namespace Go.Proofs.YtfccdngejfnmkaaDoor.Shr
open Go.RowKit Go.Proofs.YtfccdngejfnmkaaDoorW.PrintWords Go.Proofs.YtfccdngejfnmkaaDoorW.PrintLast Go.Proofs.YtfccdngejfnmkaaDoorW.PrintMore Go.Proofs.YtfccdngejfnmkaaDoor.P Go.Proofs.YtfccdngejfnmkaaDoor.NumM
set_option linter.unusedVariables false
set_option linter.unusedSimpArgs false
theorem refpart_md {w0 n : Int} (h0 : 0 < w0) (hw : w0 ≤ 9223372036854775807) (hn : 0 ≤ n) (hle : n ≤ w0) : Ev (fun k => gangerref01_MulDiv.f k n 65536 w0) (partOf w0 n, 0) := by
  obtain ⟨_, e1, e2⟩ := part_md h0 hw hn hle
  have h := refmuldiv_ev n 65536 w0 (by unfold fits; omega) (by unfold fits; omega) (by unfold fits; omega)
  have hp : partOf w0 n = n * 65536 / w0 := by unfold partOf; rw [if_pos h0]
  rw [hp] at e1 e2 ⊢
  rw [if_neg (by omega), if_pos (by unfold fits; omega)] at h
  exact h
theorem refparts_l0 (W : List Int) (hW : 1 ≤ W.length ∧ W.length ≤ 1000) (hN : NN W) (hmax : ∀ x ∈ W, x ≤ rd W 0) : ∀ (m j : Nat), j + m = W.length →
    Ev (fun k => gangerref11_Parts.l0 k W ((parts W).take j) (j : Int)) (parts W, 0)
  | 0, j, hj => by
    refine Ev.step (fun k => by rw [gangerref11_Parts.l0]) ?_
    refine ev_neg (by omega) ?_
    rw [List.take_of_length_le (by unfold parts; simp; omega)]
    exact Ev.now _
  | m + 1, j, hj => by
    have ih := refparts_l0 W hW hN hmax m (j + 1) (by omega)
    have hjW : j < W.length := by omega
    have hr : rd W (j : Int) = W[j] := rd_get? (List.getElem?_eq_getElem hjW)
    have hmem := List.getElem_mem hjW
    have hn := hN _ hmem
    have hm := hmax _ hmem
    have h1 := rd_in (l := W) (u := 0) (by omega) (by omega)
    have h0 := rd_nn hN h1
    have hpl : (parts W).length = W.length := by unfold parts; simp
    have hpj : (parts W)[j]? = some (partOf (rd W 0) W[j]) := by unfold parts; rw [List.getElem?_map, List.getElem?_eq_getElem hjW]; rfl
    have hlt : ((parts W).take j).length = j := by rw [List.length_take]; omega
    rw [List.take_add_one, hpj] at ih
    refine Ev.step (fun k => by rw [gangerref11_Parts.l0]) ?_
    refine ev_pos (by omega) (ev_pos (by omega) ?_)
    rw [hr, wnx j (by omega)]
    by_cases g : rd W 0 = 0
    · have hz : partOf (rd W 0) W[j] = 0 := by unfold partOf; rw [if_neg (by omega)]
      rw [hz] at ih
      exact ev_pos g (ev_pos (by omega) ih)
    · refine ev_neg g (ev_pos (by omega) (Ev.bind (refpart_md (by omega) h0.2 hn.1 hm) (ev_pos (by omega) ih)))
theorem refparts_ev {l : List S37} {own : List Int} (hs : Small l own) : Ev (fun k => gangerref11_Parts.f k l own) (if rightE l own = 0 then (parts (sums l own), 0) else ([], rightE l own)) := by
  have hv := refsums_ev hs
  unfold gangerref11_Parts.f
  obtain ⟨h1, h2, h3, h4⟩ := hs
  by_cases h : rightE l own = 0
  · rw [if_pos h] at hv ⊢
    have ho := (rightE_ok h4).1 h
    obtain ⟨f1, f2, f3, f4⟩ := sums_facts ho
    have hn := (tok_parts ho.1).2.1
    have hm : ∀ x ∈ sums l own, x ≤ rd (sums l own) 0 := by
      intro x hx
      obtain ⟨j, hj⟩ := List.mem_iff_getElem?.1 hx
      have h0 := rd_in (l := sums l own) (u := 0) (by omega) (by omega)
      exact sums_first ho h0 j x hj
    have := refparts_l0 (sums l own) (by omega) f2 hm (sums l own).length 0 (by omega)
    rw [List.take_zero] at this
    exact Ev.bind hv (ev_pos rfl this)
  · rw [if_neg h] at hv ⊢
    refine Ev.bind hv (ev_neg h (Ev.now _))
theorem reffac_l0 {l : List S37} (h : TOK l = true) (P : List Int) (hl : (norms l).length = P.length) (hN : Unit01 (norms l)) (hP : Unit01 P) : ∀ (m j : Nat) (out : List Int), j + m = l.length → out.length = j →
    Ev (fun k => gangerref11_Factors.l0 k l P out (j : Int)) (out ++ facs ((norms l).drop j) (P.drop j), 0) := by
  obtain ⟨n1, n2, n3, n4⟩ := norms_facts h
  have hn := (tok_parts h).2.1
  intro m
  induction m with
  | zero =>
    intro j out hj ho
    refine Ev.step (fun k => by rw [gangerref11_Factors.l0]) ?_
    refine ev_neg (by omega) ?_
    rw [List.drop_eq_nil_of_le (by omega), facs, List.append_nil]
    · exact Ev.now _
    · intro _ _ _ _ q _; cases q
  | succ m ihm =>
    intro j out hj ho
    have hjN : j < (norms l).length := by omega
    have hjP : j < P.length := by omega
    have hrN : rd (norms l) (j : Int) = (norms l)[j] := rd_get? (List.getElem?_eq_getElem hjN)
    have hrP : rd P (j : Int) = P[j] := rd_get? (List.getElem?_eq_getElem hjP)
    have hn := hN _ (List.getElem_mem hjN)
    have hp := hP _ (List.getElem_mem hjP)
    have ih := ihm (j + 1) (out ++ [fac (norms l)[j] P[j]]) (by omega) (by simp [ho])
    have hno := refnorm_ev h j (by omega)
    rw [hrN] at hno
    rw [List.drop_eq_getElem_cons hjN, List.drop_eq_getElem_cons hjP, facs]
    rw [List.append_assoc, List.singleton_append] at ih
    refine Ev.step (fun k => by rw [gangerref11_Factors.l0]) ?_
    refine ev_pos (by omega) (Ev.bind hno (ev_pos (by omega) (ev_pos (by omega) ?_)))
    rw [hrP, wnx j (by omega), w64 (x := (norms l)[j] + P[j]) (by omega), w64 (x := 65536 * (norms l)[j]) (by omega)]
    by_cases h0 : (norms l)[j] + P[j] = 0
    · have hf : fac (norms l)[j] P[j] = 0 := by unfold fac; rw [if_neg (by omega)]
      rw [hf] at ih ⊢
      exact ev_pos h0 (ev_pos (by omega) ih)
    · have q1 : 0 ≤ 65536 * (norms l)[j] / ((norms l)[j] + P[j]) := Int.ediv_nonneg (by omega) (by omega)
      have q2 : 65536 * (norms l)[j] / ((norms l)[j] + P[j]) ≤ 65536 * (norms l)[j] := Int.ediv_le_self _ (by omega)
      have hf : fac (norms l)[j] P[j] = 65536 * (norms l)[j] / ((norms l)[j] + P[j]) := by unfold fac; rw [if_pos (by omega)]
      rw [hf] at ih ⊢
      refine ev_neg h0 (ev_pos (by omega) ?_)
      rw [Int.tdiv_eq_ediv_of_nonneg (by omega), w64 (by omega)]
      exact ih
theorem reffactors_ev {l : List S37} {own : List Int} (hs : Small l own) : Ev (fun k => gangerref11_Factors.f k l own) (if rightE l own = 0 then (factors l own, 0) else ([], rightE l own)) := by
  have hv := refparts_ev hs
  unfold gangerref11_Factors.f
  obtain ⟨h1, h2, h3, h4⟩ := hs
  by_cases h : rightE l own = 0
  · rw [if_pos h] at hv ⊢
    have ho := (rightE_ok h4).1 h
    obtain ⟨n1, n2, n3, n4⟩ := norms_facts ho.1
    obtain ⟨p1, p2⟩ := parts_unit ho
    refine Ev.bind hv (ev_pos rfl ?_)
    have := reffac_l0 ho.1 (parts (sums l own)) (by omega) n2 p2 l.length 0 [] (by omega) rfl
    unfold factors
    simpa using this
  · rw [if_neg h] at hv ⊢
    refine Ev.bind hv (ev_neg h (Ev.now _))
end Go.Proofs.YtfccdngejfnmkaaDoor.Shr
