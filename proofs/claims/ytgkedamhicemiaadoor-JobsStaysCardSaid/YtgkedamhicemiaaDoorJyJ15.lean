/- cut to what one law reaches -/
import Derived.Test.YtgkedamhicemiaaDoorJyJ12
import Derived.Test.YtgkedamhicemiaaDoorJyJ13
import Derived.Test.YtgkedamhicemiaaDoorJyJ14
namespace Go.Proofs.YtgkedamhicemiaaDoor.P
open Go.RowKit Go.Proofs.YtgkedamhicemiaaDoorW.PrintWords Go.Proofs.YtgkedamhicemiaaDoorW.PrintLast Go.Proofs.YtgkedamhicemiaaDoorW.PrintMore
attribute [local go_sem] max2_int min2_int max_two min_two max_three min_three max_four min_four
set_option linter.unusedVariables false
set_option linter.unusedSimpArgs false
attribute [local go_sem] isSome_setCell
theorem call_len {id : Int} {L : List S58} {r : Int × List S58} (h : CallR id L r) : r.2.length = L.length := by
  rcases h with ⟨_, e⟩ | ⟨_, n, hn, _, b, _, e⟩
  · rw [e]
  · rw [e, List.length_set]
/-- of one call at most one job changes -/
theorem call_at {id : Int} {L : List S58} {r : Int × List S58} (h : CallR id L r) (k : Nat) (hk : k < L.length) : ((r.1 ≠ 0 ∨ id ≠ (k : Int) + 1) ∧ rd_T58 r.2 (k : Int) = rd_T58 L (k : Int)) ∨ (r.1 = 0 ∧ id = (k : Int) + 1 ∧ Mv (rd_T58 L (k : Int)) (rd_T58 r.2 (k : Int))) := by
  have hr : ∀ X : List S58, ∀ q : k < X.length, rd_T58 X (k : Int) = X[k] := fun X q => by rw [rd_T58, Int.toNat_natCast, List.getD_eq_getElem?_getD, List.getElem?_eq_getElem q]; rfl
  rcases h with ⟨e0, e⟩ | ⟨e0, n, hn, hid, b, m, e⟩
  · rw [e]; exact Or.inl ⟨Or.inl e0, rfl⟩
  · have hl : k < r.2.length := by rw [e, List.length_set]; exact hk
    rw [hr _ hl, hr _ hk]
    by_cases q : n = k
    · subst q
      refine Or.inr ⟨e0, hid, ?_⟩
      simp only [e, List.getElem_set_self]
      exact m
    · refine Or.inl ⟨Or.inr (by omega), ?_⟩
      simp only [e]
      rw [List.getElem_set_ne q]
theorem rd_mem {L : List S58} {k : Nat} (h : k < L.length) : rd_T58 L (k : Int) ∈ L := by
  rw [rd_T58, Int.toNat_natCast, List.getD_eq_getElem?_getD, List.getElem?_eq_getElem h]
  exact List.getElem_mem h
theorem take_rd {L : List S58} {k : Nat} (h : k < L.length) : L.take k ++ [rd_T58 L (k : Int)] = L.take (k + 1) := by
  rw [List.take_succ_eq_append_getElem h, rd_T58, Int.toNat_natCast, List.getD_eq_getElem?_getD, List.getElem?_eq_getElem h]
  rfl
end Go.Proofs.YtgkedamhicemiaaDoor.P
