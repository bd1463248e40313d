/- Small words of the laws: how many are looked at, a copy, what is written over. -/
import Derived.Test.YtfcmpnajokjaaaaProfUniq
import Derived.Test.YtfcmpnajokjaaaaP0
import Derived.Test.YtfcmpnajokjaaaaP2
import Derived.Test.YtfcmpnajokjaaaaP4
namespace Go.Proofs.Ytfcmpnajokjaaaa.Prof
open Go.RowKit Go.Proofs.YtfcmpnajokjaaaaW.PrintWords Go.Proofs.YtfcmpnajokjaaaaW.PrintLast Go.Proofs.YtfcmpnajokjaaaaW.PrintMore Go.Proofs.Ytfcmpnajokjaaaa.P
theorem clone_f (l : List S39) (h : l.length < 10000) : api_Level_35.f l = some l := by
  unfold api_Level_35.f
  simp only [Option.bind_some, List.length_nil, Nat.zero_add, List.nil_append]
  rw [if_pos (by omega)]
/-- a rising list is told by its ticks and by what it says there -/
theorem rise_map {l : List S39} (h : Rise l) : l.map (·.f1) = (l.map (·.f0)).map (stp l) := by
  rw [List.map_map]
  exact List.map_congr_left (fun x hx => (stp_mem h hx).symm)
theorem many_f (a b : List S39) : gangerlaw05_many.f a b = some (decide (a.length > 100 ∨ b.length > 100)) := by
  unfold gangerlaw05_many.f
  by_cases h : (a.length : Int) > 100
  · rw [if_pos h, decide_eq_true (show a.length > 100 ∨ b.length > 100 by omega)]
  · rw [if_neg h]; congr 1; exact decide_eq_decide.2 (by omega)
theorem many_f1 (a : List S39) : gangerlaw05_many.f a [] = some (decide (a.length > 100)) := by
  unfold gangerlaw05_many.f
  by_cases h : (a.length : Int) > 100
  · rw [if_pos h, decide_eq_true (show a.length > 100 by omega)]
  · rw [if_neg h, decide_eq_false (show ¬ a.length > 100 by omega)]; rfl
theorem split' {q : List S39} (hr : Rise q) {s : Int} {z : S39} (hz : z ∈ q) (hs : z.f0 ≤ s) : ∃ P u R, q = P ++ u :: R ∧ u.f0 ≤ s ∧ ∀ y ∈ R, s < y.f0 := by
  cases q with
  | nil => simp at hz
  | cons h t => exact split t h s hr (by have := head_le hr z hz; omega)
theorem tick_le {P R : List S39} {u z : S39} {s : Int} (hr : Rise (P ++ u :: R)) (hR : ∀ y ∈ R, s < y.f0) (hz : z ∈ P ++ u :: R) (hs : z.f0 ≤ s) : z.f0 ≤ u.f0 := by
  rcases List.mem_append.1 hz with h | h
  · exact Int.le_of_lt ((List.pairwise_append.1 hr).2.2 z h u (by simp))
  · rcases List.mem_cons.1 h with rfl | h
    · exact Int.le_refl _
    · have := hR z h; omega
end Go.Proofs.Ytfcmpnajokjaaaa.Prof
