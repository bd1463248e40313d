/- A text made of runs, and a limit, says what they say. -/
import Derived.Test.YtpkococfmohmiaaDoorIdxRead
import Derived.Test.YtpkococfmohmiaaDoorIdxTail
import Derived.Test.YtpkococfmohmiaaDoorP0
import Derived.Test.YtpkococfmohmiaaDoorP2
namespace Go.Proofs.YtpkococfmohmiaaDoor.Idx
open Go.RowKit Go.Proofs.YtpkococfmohmiaaDoorW.PrintWords Go.Proofs.YtpkococfmohmiaaDoorW.PrintLast Go.Proofs.YtpkococfmohmiaaDoorW.PrintMore Go.Proofs.YtpkococfmohmiaaDoor.P
set_option linter.unusedVariables false
set_option linter.unusedSimpArgs false
theorem ends_limT (m : Int) : Ends (limT m) := by
  unfold limT
  split
  · exact Or.inr (Or.inr ⟨_, rfl⟩)
  · exact Or.inl rfl
theorem ends_tail (q : List (Int × Int)) (m : Int) : Ends (tailT q ++ limT m) := by
  cases q with
  | nil => exact ends_limT m
  | cons a q => exact Or.inr (Or.inl ⟨_, rfl⟩)
theorem bad_run {f : Int} {p : Int × Int} (h1 : 0 ≤ p.1) (h2 : p.1 ≤ p.2) (h3 : p.2 ≤ 1000) : bad ⟨f, p.1, p.2, 1, false⟩ = false := by
  simp [bad]; omega
theorem inI_run (f : Int) (p : Int × Int) (b : Bool) (j : Nat) : inI ⟨f, p.1, p.2, 1, b⟩ j = inRun j p := by simp [inI, inRun]
theorem fin_tail (m : Int) (hm : 0 ≤ m) (hm2 : m ≤ 1000) : ∀ (q : List (Int × Int)) (pos : Nat) (y : S53), RunOk q → ∃ is, fin (tailT q ++ limT m) pos y = .ok (y :: is) ∧ (∀ x ∈ is, bad x = false) ∧ (∀ j, hit is j = q.any (inRun j)) ∧ (∀ M, lim is M = if 0 < m then m else M)
  | [], pos, y, hq => by
    by_cases h : 0 < m
    · refine ⟨[⟨(pos : Int), m, m, 1, true⟩], ?_, ?_, ?_, ?_⟩
      · have n1 : ¬ (37 : UInt8) = 44 := by decide
        have hs := scan_dec m.toNat (by omega) [] (pos + 1) (itemAt 37 pos) 0
        rw [List.append_nil, scan, if_neg (dlen _)] at hs
        simp only [tailT, List.flatMap_nil, List.nil_append, limT, if_pos h, fin]
        rw [if_pos (Or.inr trivial), hs]
        simp [econs, numN, itemAt, toNat_cast hm]
      · intro x hx; rw [List.mem_singleton.1 hx]; simp [bad]; omega
      · intro j; simp [hit]
      · intro M; simp [lim, h]
    · refine ⟨[], ?_, ?_, ?_, ?_⟩
      · simp [tailT, limT, h, fin]
      · intro x hx; cases hx
      · intro j; simp [hit]
      · intro M; simp [lim, h]
  | a :: q, pos, y, hq => by
    obtain ⟨g1, g2, g3⟩ := hq a (List.mem_cons_self ..)
    obtain ⟨is, e1, e2, e3, e4⟩ := fin_tail m hm hm2 q (pos + 1 + (tx a).length) ⟨(itemAt 44 pos).f0, a.1, a.2, 1, false⟩ (fun p hp => hq p (List.mem_cons_of_mem _ hp))
    refine ⟨⟨(itemAt 44 pos).f0, a.1, a.2, 1, false⟩ :: is, ?_, ?_, ?_, ?_⟩
    · have et : tailT (a :: q) ++ limT m = 44 :: (tx a ++ (tailT q ++ limT m)) := by simp [tailT]
      rw [et, fin, if_pos (Or.inl rfl), scan_tx (ends_tail q m) _ rfl a g1 (by omega) (by omega) g3, e1]; rfl
    · intro x hx
      rcases List.mem_cons.1 hx with h | h
      · rw [h]; exact bad_run g1 g2 g3
      · exact e2 x h
    · intro j
      have := e3 j
      rw [List.any_cons, ← this]
      simp [hit, inI_run]
    · intro M; simp only [lim]; exact e4 _
theorem find_none {l : List S53} (h : ∀ x ∈ l, bad x = false) : l.find? bad = none := List.find?_eq_none.2 fun x hx => by rw [h x hx]; simp
theorem PR_body (q : List (Int × Int)) (hne : q ≠ []) (hq : RunOk q) (m : Int) (hm : 0 ≤ m) (hm2 : m ≤ 1000) : PR (body q ++ limT m) = (listOf fun j => q.any (inRun j), m, 0, 0) := by
  cases q with
  | nil => exact absurd rfl hne
  | cons a q =>
    obtain ⟨g1, g2, g3⟩ := hq a (List.mem_cons_self ..)
    obtain ⟨is, e1, e2, e3, e4⟩ := fin_tail m hm hm2 q (0 + (tx a).length) ⟨x0.f0, a.1, a.2, 1, false⟩ (fun p hp => hq p (List.mem_cons_of_mem _ hp))
    unfold PR
    rw [body_cons, List.append_assoc, scan_tx (ends_tail q m) 0 rfl a g1 (by omega) (by omega) g3, e1]
    have hnb : ∀ x ∈ ((⟨x0.f0, a.1, a.2, 1, false⟩ : S53) :: is), bad x = false := by
      intro x hx
      rcases List.mem_cons.1 hx with h | h
      · rw [h]; exact bad_run g1 g2 g3
      · exact e2 x h
    have e5 : hit ((⟨x0.f0, a.1, a.2, 1, false⟩ : S53) :: is) = fun j : Nat => (a :: q).any (inRun j) := by
      funext j
      rw [List.any_cons, ← e3 j]
      simp [hit, inI_run]
    have e6 : lim ((⟨x0.f0, a.1, a.2, 1, false⟩ : S53) :: is) 0 = m := by
      simp only [lim, e4]
      split
      · rfl
      · simp; omega
    rw [say, List.nil_append, final, find_none hnb]
    dsimp only
    rw [e5, e6]
theorem runs_ne {l : List Int} (h : l ≠ []) : runs l ≠ [] := by
  cases l with
  | nil => exact absurd rfl h
  | cons x r => rw [runs_head]; simp
/-- what was printed is read again as it was -/
theorem PR_text {l : List Int} {m : Int} (h : okA l m) : PR (text l m) = (l, m, 0, 0) := by
  obtain ⟨h1, h2, h3, h4⟩ := ok_parts h
  rw [text, PR_body (runs l) (runs_ne h1) (runs_ok (good_small l (-1) (by omega) h4)) m h2 h3]
  have e : listOf (fun j => (runs l).any (inRun j)) = l := listOf_eq h4 fun j hj => by rw [runs_any]; simp
  rw [e]
theorem tailT_len : ∀ q : List (Int × Int), RunOk q → (tailT q).length ≤ 10 * q.length
  | [], _ => by simp [tailT]
  | a :: q, h => by
    have ih := tailT_len q (fun p hp => h p (List.mem_cons_of_mem _ hp))
    obtain ⟨g1, g2, g3⟩ := h a (List.mem_cons_self ..)
    have := tx_len (a := a) (by omega) g3
    simp [tailT] at ih ⊢; omega
end Go.Proofs.YtpkococfmohmiaaDoor.Idx
