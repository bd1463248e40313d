import Derived.Test.YtpkococfmohmiaaDoorIdxFacts
import Derived.Test.YtpkococfmohmiaaDoorIdxHas
import Derived.Test.YtpkococfmohmiaaDoorP0
import Derived.Test.YtpkococfmohmiaaDoorP13
namespace Go.Proofs.YtpkococfmohmiaaDoor.Pure
open Go.RowKit Go.Proofs.YtpkococfmohmiaaDoorW.PrintWords Go.Proofs.YtpkococfmohmiaaDoorW.PrintLast Go.Proofs.YtpkococfmohmiaaDoorW.PrintMore Go.Proofs.YtpkococfmohmiaaDoor.P Go.Proofs.YtpkococfmohmiaaDoor.Idx
set_option linter.unusedVariables false
set_option linter.unusedSimpArgs false
def runText (a b s : Nat) : List UInt8 := dec a ++ 45 :: (dec b ++ 58 :: dec s)
def itB (a b s : Nat) : S53 := ⟨2, a, b, s, false⟩
theorem PR_run (a b s : Nat) (h1 : a < 10000) (h2 : b < 10000) (h3 : s < 10000) : PR (55 :: 44 :: runText a b s) = final [⟨0, 7, 7, 1, false⟩, itB a b s] := by
  obtain ⟨e, he⟩ := scan_tx3 a b s h1 h2 h3 (r := []) (Or.inl rfl) 2 (x := itemAt 44 1) rfl
  rw [List.append_nil] at he
  have hs : scan (55 :: 44 :: runText a b s) 0 x0 0 0 0 = econs ⟨0, 7, 7, 1, false⟩ (scan (runText a b s) 2 (itemAt 44 1) 0 0 0) := rfl
  unfold PR
  rw [hs]
  unfold runText
  rw [he]
  rfl
theorem bad_itB (a b s : Nat) : bad (itB a b s) = (decide (1000 < a) || decide (1000 < b) || decide (b < a) || decide (s = 0) || decide (1000 < s)) := by
  simp only [bad, itB, Bool.false_eq_true, if_false]
  congr 1
  · congr 1
    · congr 1
      · congr 1
        · exact decide_eq_decide.2 (by omega)
        · exact decide_eq_decide.2 (by omega)
      · exact decide_eq_decide.2 (by omega)
    · exact decide_eq_decide.2 (by omega)
  · exact decide_eq_decide.2 (by omega)
theorem inI7 (j : Nat) : inI ⟨0, 7, 7, 1, false⟩ j = (j == 7) := by
  unfold inI
  by_cases h : j = 7
  · subst h; rfl
  · rw [beq_eq_false_iff_ne.2 h]
    by_cases h2 : 7 ≤ j
    · rw [decide_eq_false (by omega : ¬ (j : Int) ≤ 7)]; simp
    · rw [decide_eq_false (by omega : ¬ (7 : Int) ≤ (j : Int))]; simp
def want (a b s : Nat) (j : Nat) : Bool := j == 7 || inI (itB a b s) j
theorem runs_l0 (a b s : Nat) (hs : 0 < s) (ha : a < 10000) (hb : b < 10000) (m : Int) : ∀ (i n : Nat), n + i = 1001 → Ev (fun k => gangerlaw06_IndexesRuns.l0 k (a : Int) (b : Int) (s : Int) (n : Int) (listOf (want a b s)) m) true
  | 0, n, h => by
    refine Ev.step (fun k => by rw [gangerlaw06_IndexesRuns.l0]) ?_
    refine ev_neg (by omega) ?_
    exact hk
  | i + 1, n, h => by
    have ih := runs_l0 a b s hs ha hb m i (n + 1) (by omega)
    have hl := listOf_len (want a b s)
    have h3 := has_eq (listOf (want a b s)) m n (by omega)
    have dm : decide ((n : Int) ∈ listOf (want a b s)) = want a b s n := by
      cases hP : want a b s n with
      | true => exact decide_eq_true ((mem_listOf _ n).2 ⟨n, by omega, hP, rfl⟩)
      | false =>
        refine decide_eq_false fun hm => ?_
        obtain ⟨j, _, h2, h3⟩ := (mem_listOf _ n).1 hm
        have : n = j := by omega
        subst this
        rw [hP] at h2; cases h2
    rw [dm] at h3
    have hw : wrap64 ((n : Int) + 1) = ((n + 1 : Nat) : Int) := by rw [w64 (by omega)]; omega
    have J3 : ∀ t, t = want a b s n → Ev (fun k => gangerlaw06_IndexesRuns.j3 k (a : Int) (b : Int) (s : Int) (n : Int) t (listOf (want a b s)) m) true := by
      intro t ht
      refine Ev.step (fun k => by rw [gangerlaw06_IndexesRuns.j3]) (Ev.bind h3 ?_)
      rw [ht, hw]
      refine ev_neg (by simp) ?_
      exact ih
    refine Ev.step (fun k => by rw [gangerlaw06_IndexesRuns.l0]) (ev_pos (by omega) ?_)
    by_cases h7 : (n : Int) = 7
    · refine ev_pos h7 (J3 true ?_)
      have : n = 7 := by omega
      rw [want, this]; rfl
    · refine ev_neg h7 ?_
      have h7' : (n == 7) = false := beq_eq_false_iff_ne.2 (by omega)
      by_cases hA : (n : Int) ≥ a
      · refine ev_pos hA ?_
        by_cases hB : (n : Int) ≤ b
        · refine ev_pos hB (ev_neg (by omega) (J3 _ ?_))
          have e1 : wrap64 ((n : Int) - (a : Int)) = (n : Int) - a := w64 (by omega)
          rw [want, h7', Bool.false_or, inI, itB, decide_eq_true hA, decide_eq_true hB, e1, Int.tmod_eq_emod_of_nonneg (by omega)]
          simp only [Bool.true_and]
          by_cases q : ((n : Int) - a) % s = 0
          · rw [decide_eq_true q, q]; rfl
          · rw [decide_eq_false q, beq_eq_false_iff_ne.2 q]
        · refine ev_neg hB (J3 false ?_)
          rw [want, h7', Bool.false_or, inI, itB, decide_eq_false hB]; simp
      · refine ev_neg hA (J3 false ?_)
        rw [want, h7', Bool.false_or, inI, itB, decide_eq_false hA]; simp
theorem IndexesRuns : gangerlaw06_IndexesRuns.Pure := by
  intro a0 a1 a2 h0 h1 h2
  refine Ev.rounds ?_
  have mod : ∀ z : Int, (Lit.int .u16 z).wf = true → wrap64 (Int.tmod z 1200) = (((z % 1200).toNat : Nat) : Int) ∧ (z % 1200).toNat < 1200 := by
    intro z hz
    have hz' : 0 ≤ z := by
      simp [Lit.wf, IntKind.min, IntKind.max, IntKind.signed, IntKind.bits] at hz; omega
    rw [Int.tmod_eq_emod_of_nonneg hz']
    have : 0 ≤ z % 1200 := Int.emod_nonneg _ (by omega)
    have : z % 1200 < 1200 := Int.emod_lt_of_pos _ (by omega)
    rw [w64 (by omega)]
    omega
  obtain ⟨e0, l0⟩ := mod a0 h0
  obtain ⟨e1, l1⟩ := mod a1 h1
  obtain ⟨e2, l2⟩ := mod a2 h2
  unfold gangerlaw06_IndexesRuns.f
  rw [e0, e1, e2]
  generalize (a0 % 1200).toNat = a at l0
  generalize (a1 % 1200).toNat = b at l1
  generalize (a2 % 1200).toNat = s at l2
  have d1 := dec_len 4 a (by omega) (by omega)
  have d2 := dec_len 4 b (by omega) (by omega)
  have d3 := dec_len 4 s (by omega) (by omega)
  have lit45 : ∀ t, mk t ++ (⟨#[45]⟩ : ByteArray) = mk (t ++ [45]) := fun t => mk_append t [45]
  have lit58 : ∀ t, mk t ++ (⟨#[58]⟩ : ByteArray) = mk (t ++ [58]) := fun t => mk_append t [58]
  have lit7 : ∀ t, (⟨#[55, 44]⟩ : ByteArray) ++ mk t = mk (55 :: 44 :: t) := fun t => mk_append [55, 44] t
  refine Ev.bind (digits_eq a (by omega)) (ev_pos (by rw [mk_size]; omega) ?_)
  rw [lit45]
  refine Ev.bind (digits_eq b (by omega)) ?_
  rw [mk_append, lit58]
  refine ev_pos (by simp only [mk_size, List.length_append, List.length_cons, List.length_nil]; omega) (ev_pos (by simp only [mk_size, List.length_append, List.length_cons, List.length_nil]; omega) ?_)
  refine Ev.bind (digits_eq s (by omega)) ?_
  rw [mk_append, lit7]
  refine ev_pos (by simp only [mk_size, List.length_append, List.length_cons, List.length_nil]; omega) (ev_pos (by simp only [mk_size, List.length_append, List.length_cons, List.length_nil]; omega) ?_)
  have et : 55 :: 44 :: (((dec a ++ [45] ++ dec b) ++ [58]) ++ dec s) = 55 :: 44 :: runText a b s := by simp [runText]
  rw [et, parse_PR _ (by simp [runText]; omega), PR_run a b s (by omega) (by omega) (by omega)]
  refine Ev.bind (Ev.now _) ?_
  have wrong : bad (itB a b s) = true → Ev (fun k => gangerlaw06_IndexesRuns.j0 k (a : Int) (b : Int) (s : Int) (final [⟨0, 7, 7, 1, false⟩, itB a b s]).2.2.1 (final [⟨0, 7, 7, 1, false⟩, itB a b s]).2.2.2 true (final [⟨0, 7, 7, 1, false⟩, itB a b s]).1 (final [⟨0, 7, 7, 1, false⟩, itB a b s]).2.1) true := by
    intro hb
    have e7 : bad ⟨0, 7, 7, 1, false⟩ = false := by decide
    have hf : [(⟨0, 7, 7, 1, false⟩ : S53), itB a b s].find? bad = some (itB a b s) := by
      rw [List.find?_cons_of_neg (by rw [e7]; simp), List.find?_cons_of_pos hb]
    have hfin : final [(⟨0, 7, 7, 1, false⟩ : S53), itB a b s] = ([], 0, 2, 2) := by rw [final, hf]; rfl
    rw [hfin]
    dsimp only
    refine Ev.step (fun k => by rw [gangerlaw06_IndexesRuns.j0]) ?_
    refine ev_pos rfl (ev_pos rfl (ev_pos rfl (ev_pos rfl ?_)))
    exact hk
  have hbad := bad_itB a b s
  by_cases c1 : (a : Int) > b
  · refine ev_pos c1 (wrong ?_)
    rw [hbad, decide_eq_true (by omega : b < a)]; simp
  · refine ev_neg c1 ?_
    by_cases c2 : (s : Int) = 0
    · refine ev_pos c2 (wrong ?_)
      rw [hbad, decide_eq_true (by omega : s = 0)]; simp
    · refine ev_neg c2 ?_
      by_cases c3 : (b : Int) > 1000
      · refine ev_pos c3 (wrong ?_)
        rw [hbad, decide_eq_true (by omega : 1000 < b)]; simp
      · refine ev_neg c3 ?_
        by_cases c4 : (s : Int) > 1000
        · rw [decide_eq_true c4]
          refine wrong ?_
          rw [hbad, decide_eq_true (by omega : 1000 < s)]; simp
        · rw [decide_eq_false c4]
          have hb : bad (itB a b s) = false := by
            rw [hbad, decide_eq_false (by omega), decide_eq_false (by omega), decide_eq_false (by omega), decide_eq_false (by omega), decide_eq_false (by omega)]; rfl
          have e7 : bad ⟨0, 7, 7, 1, false⟩ = false := by decide
          have hf : [(⟨0, 7, 7, 1, false⟩ : S53), itB a b s].find? bad = none := by
            rw [List.find?_cons_of_neg (by rw [e7]; simp), List.find?_cons_of_neg (by rw [hb]; simp)]; rfl
          have hh : hit [(⟨0, 7, 7, 1, false⟩ : S53), itB a b s] = want a b s := by
            funext j
            have e4 : (itB a b s).f4 = false := rfl
            simp only [hit, List.any_cons, List.any_nil, inI7, e4, Bool.not_false, Bool.true_and, Bool.or_false, want]
          have hm : (7 : Int) ∈ listOf (want a b s) := (mem_listOf _ _).2 ⟨7, by omega, rfl, rfl⟩
          rw [final, hf, hh]
          dsimp only
          refine Ev.step (fun k => by rw [gangerlaw06_IndexesRuns.j0]) ?_
          refine ev_neg (by simp) (ev_pos rfl (ev_pos rfl ?_))
          have hne : (((listOf (want a b s)).length : Int) == 0) = false := by
            refine beq_eq_false_iff_ne.2 fun h => ?_
            have := List.length_pos_of_mem hm
            omega
          rw [hne]
          refine Ev.step (fun k => by rw [gangerlaw06_IndexesRuns.j1]) (ev_neg (by simp) ?_)
          exact runs_l0 a b s (by omega) (by omega) (by omega) _ 1001 0 (by omega)
end Go.Proofs.YtpkococfmohmiaaDoor.Pure
