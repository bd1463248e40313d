/- cut to what one law reaches -/
import Derived.Test.YtfccdngejfnmkaaDoorQsShrSums
import Derived.Test.YtfccdngejfnmkaaDoorQsP0
import Derived.Test.YtfccdngejfnmkaaDoorQsP5
import Derived.Test.YtfccdngejfnmkaaDoorQsP6
namespace Go.Proofs.YtfccdngejfnmkaaDoor.Shr
open Go.RowKit Go.Proofs.YtfccdngejfnmkaaDoorW.PrintWords Go.Proofs.YtfccdngejfnmkaaDoorW.PrintLast Go.Proofs.YtfccdngejfnmkaaDoorW.PrintMore Go.Proofs.YtfccdngejfnmkaaDoor.P Go.Proofs.YtfccdngejfnmkaaDoor.NumM
set_option linter.unusedVariables false
set_option linter.unusedSimpArgs false
theorem sm_drop (us : List Int) : ∀ (t : Nat) (os : List Int) (i : Nat), (sm us os i).drop t = sm us (os.drop t) (i + t)
  | 0, os, i => by simp
  | t + 1, [], i => by simp [sm]
  | t + 1, o :: os, i => by
    rw [sm, List.drop_succ_cons, List.drop_succ_cons, sm_drop us t os (i + 1), show i + 1 + t = i + (t + 1) by omega]
theorem sm_at (us own : List Int) (i : Nat) (h : i < own.length) : (sm us own 0)[i]? = some (inn (i : Int) (us.drop (i + 1)) ((sm us own 0).drop (i + 1)) own[i]) := by
  have hd := sm_drop us i own 0
  rw [Nat.zero_add, List.drop_eq_getElem_cons h, sm] at hd
  have h2 := sm_drop us (i + 1) own 0
  rw [Nat.zero_add] at h2
  rw [h2]
  have : ((sm us own 0).drop i)[0]? = (sm us own 0)[i]? := by rw [List.getElem?_drop]; simp
  rw [← this, hd]; rfl
theorem sums_facts {l : List S37} {own : List Int} (h : OOK l own) : (sums l own).length = l.length ∧ NN (sums l own) ∧ (∀ (i : Nat) (o w : Int), own[i]? = some o → (sums l own)[i]? = some w → o ≤ w) ∧ (∀ (i j : Nat) (v w : Int), (ups l)[j]? = some (i : Int) → (sums l own)[j]? = some v → (sums l own)[i]? = some w → v ≤ w) := by
  obtain ⟨h1, h2, h3⟩ := h
  have hN : NN (sums l own) := sm_nn _ _ _ h3
  have hlen : (sums l own).length = l.length := by unfold sums; rw [sm_len]; exact h2
  have hat : ∀ (i : Nat) (w : Int), (sums l own)[i]? = some w → ∃ hi : i < own.length, w = inn (i : Int) ((ups l).drop (i + 1)) ((sums l own).drop (i + 1)) own[i] := by
    intro i w hw
    have hi : i < own.length := by
      rcases Nat.lt_or_ge i own.length with q | q
      · exact q
      · rw [List.getElem?_eq_none (by omega)] at hw; cases hw
    refine ⟨hi, ?_⟩
    have := sm_at (ups l) own i hi
    unfold sums at hw
    rw [this] at hw
    exact (Option.some.inj hw).symm
  have hdr : ∀ i, NN ((sums l own).drop i) := fun i x hx => hN x (List.mem_of_mem_drop hx)
  refine ⟨hlen, hN, fun i o w ho hw => ?_, fun i j v w hu hv hw => ?_⟩
  · obtain ⟨hi, e⟩ := hat i w hw
    have : o = own[i] := by rw [List.getElem?_eq_getElem hi] at ho; exact (Option.some.inj ho).symm
    rw [e, this]
    exact (inn_nn _ _ _ _ (hdr _) (h3 _ (List.getElem_mem hi))).2.1
  · obtain ⟨hi, e⟩ := hat i w hw
    have hjl : j < l.length := by
      rw [← ups_len h1]
      rcases Nat.lt_or_ge j (ups l).length with q | q
      · exact q
      · rw [List.getElem?_eq_none q] at hu; cases hu
    obtain ⟨u, g1, g2, g3⟩ := ups_at h1 j l[j] (List.getElem?_eq_getElem hjl)
    rw [hu] at g1
    have gu := Option.some.inj g1
    have hij : i < j := by
      rcases Nat.eq_zero_or_pos j with q | q
      · have := g2 q; omega
      · obtain ⟨j', b, k1, k2, _⟩ := g3 q
        omega
    rw [e]
    refine (inn_nn _ _ _ _ (hdr _) (h3 _ (List.getElem_mem hi))).2.2 (j - (i + 1)) v ?_ ?_
    · rw [List.getElem?_drop, show i + 1 + (j - (i + 1)) = j by omega]; exact hu
    · rw [List.getElem?_drop, show i + 1 + (j - (i + 1)) = j by omega]; exact hv
end Go.Proofs.YtfccdngejfnmkaaDoor.Shr
