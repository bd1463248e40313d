import Derived.Test.YtpkococfmohmiaaDoorIdxRefP
import Derived.Test.YtpkococfmohmiaaDoorIdxSame
import Derived.Test.YtpkococfmohmiaaDoorP0
import Derived.Test.YtpkococfmohmiaaDoorP7
namespace Go.Proofs.YtpkococfmohmiaaDoor.Pure
open Go.RowKit Go.Proofs.YtpkococfmohmiaaDoorW.PrintWords Go.Proofs.YtpkococfmohmiaaDoorW.PrintLast Go.Proofs.YtpkococfmohmiaaDoorW.PrintMore Go.Proofs.YtpkococfmohmiaaDoor.P Go.Proofs.YtpkococfmohmiaaDoor.Idx
set_option linter.unusedVariables false
set_option linter.unusedSimpArgs false
theorem parses_l0 (s : List UInt8) (hs : s.length ≤ 600) (m : Int) : ∀ (i n : Nat) (L : List Int), n + i = L.length → L.length ≤ 1001 → Ev (fun k => gangerlaw06_IndexesParses.l0 k (mk s) (n : Int) L m (PR s).1 (PR s).2.1) true
  | 0, n, L, h, hL => by
    refine Ev.step (fun k => by rw [gangerlaw06_IndexesParses.l0]) ?_
    refine ev_neg (by omega) ?_
    rw [parse_PR s (by omega)]
    have hl := PR_len s
    refine Ev.bind (Ev.now _) ?_
    refine Ev.bind (same_refl (PR s).1 (PR s).2.1 (by omega)) ?_
    refine ev_pos rfl ?_
    exact hk
  | i + 1, n, L, h, hL => by
    refine Ev.step (fun k => by rw [gangerlaw06_IndexesParses.l0]) ?_
    refine ev_pos (by omega) (ev_pos (by omega) ?_)
    rw [w64 (by omega), Int.toNat_natCast]
    exact parses_l0 s hs m i (n + 1) (L.set n (-7)) (by simp; omega) (by simp; omega)
theorem IndexesParses : gangerlaw06_IndexesParses.Pure := by
  intro a0 _
  refine Ev.rounds ?_
  unfold gangerlaw06_IndexesParses.f
  obtain ⟨l, rfl⟩ : ∃ l, a0 = mk l := ⟨_, mk_self a0⟩
  by_cases h : ((mk l).size : Int) > 600
  · simp only [if_pos h]; exact hk
  · simp only [if_neg h]
    have hl : l.length ≤ 600 := by rw [mk_size] at h; omega
    have hP := PR_len l
    rw [parse_PR l (by omega)]
    refine Ev.bind (Ev.now _) ?_
    refine Ev.bind (rparse_PR l (by omega)) ?_
    refine Ev.bind (same_refl (PR l).1 (PR l).2.1 (by omega)) ?_
    refine ev_pos rfl (ev_pos rfl ?_)
    refine Ev.step (fun k => by rw [gangerlaw06_IndexesParses.j0]) ?_
    refine ev_neg (by simp) ?_
    exact parses_l0 l hl _ (PR l).1.length 0 (PR l).1 (by omega) hP
end Go.Proofs.YtpkococfmohmiaaDoor.Pure
