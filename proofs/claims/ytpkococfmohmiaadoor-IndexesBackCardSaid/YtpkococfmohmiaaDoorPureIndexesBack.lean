import Derived.Test.YtpkococfmohmiaaDoorIdxFacts
import Derived.Test.YtpkococfmohmiaaDoorP0
import Derived.Test.YtpkococfmohmiaaDoorP10
namespace Go.Proofs.YtpkococfmohmiaaDoor.Pure
open Go.RowKit Go.Proofs.YtpkococfmohmiaaDoorW.PrintWords Go.Proofs.YtpkococfmohmiaaDoorW.PrintLast Go.Proofs.YtpkococfmohmiaaDoorW.PrintMore Go.Proofs.YtpkococfmohmiaaDoor.P Go.Proofs.YtpkococfmohmiaaDoor.Idx
set_option linter.unusedVariables false
set_option linter.unusedSimpArgs false
theorem tail_addRun (x : Int) (hx : x ≤ 1000) : ∀ q : List (Int × Int), RunOk q → (tailT (addRun x q)).length ≤ (tailT q).length + 5
  | [], _ => by
    have := dec_len4 hx
    simp [addRun, tailT, tx]; omega
  | (a, b) :: q, hq => by
    obtain ⟨g1, g2, g3⟩ := hq (a, b) (List.mem_cons_self ..)
    simp only at g1 g2 g3
    have l1 := dec_len4 hx
    have l2 := dec_len4 (x := a) (by omega)
    have l3 := dlen a.toNat
    rw [addRun]
    split
    · rename_i e
      by_cases h1 : a = b
      · have h2 : ¬ x = b := by omega
        simp [tailT, tx, h1, h2]; omega
      · have h2 : ¬ x = b := by omega
        simp [tailT, tx, h1, h2]; omega
    · simp [tailT, tx]; omega
theorem tail_runs : ∀ l : List Int, Small l → (tailT (runs l)).length ≤ 5 * l.length
  | [], _ => by simp [runs, tailT]
  | x :: r, h => by
    have ih := tail_runs r (fun y hy => h y (List.mem_cons_of_mem _ hy))
    have := tail_addRun x (h x (List.mem_cons_self ..)).2 (runs r) (runs_ok (fun y hy => h y (List.mem_cons_of_mem _ hy)))
    rw [runs, List.length_cons]; omega
theorem text_len {l : List Int} {m : Int} (h : okA l m) : (text l m).length ≤ 5 * l.length + 5 := by
  obtain ⟨h1, h2, h3, h4⟩ := ok_parts h
  have ht := tail_runs l (good_small l (-1) (by omega) h4)
  have hm := dec_len4 h3
  have hl : (limT m).length ≤ 5 := by
    unfold limT
    split
    · simp; omega
    · simp
  rw [text, List.length_append]
  cases e : runs l with
  | nil => exact absurd e (runs_ne h1)
  | cons a q =>
    rw [e] at ht
    rw [body_cons]
    simp [tailT] at ht ⊢; omega
theorem back_j2 (s : List UInt8) (hs : s.length ≤ 600) : Ev (fun k => gangerlaw06_IndexesBack.j2 k (mk s)) true := by
  refine Ev.step (fun k => by rw [gangerlaw06_IndexesBack.j2]) ?_
  rw [parse_PR s (by omega)]
  refine Ev.bind (Ev.now _) ?_
  have hl := PR_len s
  rcases PR_facts s with ⟨h1, h2, h3⟩ | ⟨h1, h2, h3, h4, h5⟩
  · refine ev_pos h1 ?_
    have hp := print_eq (PR s).1 (PR s).2.1 (by omega)
    rw [if_pos h3] at hp
    have ht := text_len h3
    refine Ev.bind hp ?_
    rw [parse_PR (text (PR s).1 (PR s).2.1) (by omega), PR_text h3]
    refine Ev.bind (Ev.now _) (Ev.bind hp ?_)
    refine ev_pos rfl (ev_pos rfl (ev_pos rfl (Ev.bind (same_refl _ _ (by omega)) (ev_pos rfl (ev_pos rfl ?_)))))
    exact hk
  · refine ev_neg h1 (ev_pos (by rw [h2]; rfl) (ev_pos h3 (ev_pos h4 (ev_pos (by rw [mk_size]; exact h5) ?_))))
    exact hk
theorem IndexesBack : gangerlaw06_IndexesBack.Pure := by
  intro l m a1 _ _
  refine Ev.rounds ?_
  obtain ⟨s, rfl⟩ : ∃ s, a1 = mk s := ⟨_, mk_self a1⟩
  unfold gangerlaw06_IndexesBack.f
  have out : Ev (fun k => gangerlaw06_IndexesBack.j0 k (mk s) true l m) true := by
    refine Ev.step (fun k => by rw [gangerlaw06_IndexesBack.j0]) (ev_pos rfl ?_)
    exact hk
  by_cases h : (l.length : Int) > 3000
  · exact ev_pos h out
  · refine ev_neg h ?_
    by_cases h6 : ((mk s).size : Int) > 600
    · rw [decide_eq_true h6]; exact out
    · rw [decide_eq_false h6]
      have hs : s.length ≤ 600 := by rw [mk_size] at h6; omega
      refine Ev.step (fun k => by rw [gangerlaw06_IndexesBack.j0]) (ev_neg (by simp) ?_)
      have hp := print_eq l m (by omega)
      have hc := check_ok l m (by omega)
      by_cases ho : okA l m
      · rw [if_pos ho] at hp hc
        have ht := text_len ho
        refine Ev.bind hp (Ev.bind hc (ev_neg (by simp) (ev_pos rfl ?_)))
        rw [parse_PR (text l m) (by omega), PR_text ho]
        refine Ev.bind (Ev.now _) (ev_pos rfl (ev_pos rfl (Ev.bind (same_refl _ _ (by omega)) (ev_pos rfl ?_))))
        rw [decide_eq_false (by rw [mk_size, w64 (x := 5 * (l.length : Int)) (by omega), w64 (by omega)]; omega)]
        refine Ev.step (fun k => by rw [gangerlaw06_IndexesBack.j1]) (ev_neg (by simp) ?_)
        exact back_j2 s hs
      · rw [if_neg ho] at hp hc
        refine Ev.bind hp (Ev.bind hc (ev_neg (by simp) (ev_neg (by simp) ?_)))
        exact back_j2 s hs
end Go.Proofs.YtpkococfmohmiaaDoor.Pure
