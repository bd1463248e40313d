/- What the reference's print computes: number by number. -/
import Derived.Test.YtpkococfmohmiaaDoorIdxText
import Derived.Test.YtpkococfmohmiaaDoorIdxTail
import Derived.Test.YtpkococfmohmiaaDoorP0
import Derived.Test.YtpkococfmohmiaaDoorP9
namespace Go.Proofs.YtpkococfmohmiaaDoor.Idx
open Go.RowKit Go.Proofs.YtpkococfmohmiaaDoorW.PrintWords Go.Proofs.YtpkococfmohmiaaDoorW.PrintLast Go.Proofs.YtpkococfmohmiaaDoorW.PrintMore Go.Proofs.YtpkococfmohmiaaDoor.P
set_option linter.unusedVariables false
set_option linter.unusedSimpArgs false
/-- number by number, behind another one -/
def pt : Option Int → List Int → List UInt8
  | _, [] => []
  | pr, x :: r => (if pr ≠ some (x - 1) ∧ pr.isSome then [44] else []) ++ (if pr ≠ some (x - 1) then dec x.toNat else if r.head? ≠ some (x + 1) then 45 :: dec x.toNat else []) ++ pt (some x) r
theorem runs_cons : ∀ (r : List Int) (x : Int), ∃ b q, runs (x :: r) = (x, b) :: q ∧ x ≤ b := fun r x => ⟨_, _, runs_head r x, by omega⟩
theorem pt_runs : ∀ (r : List Int) (x b : Int) (q : List (Int × Int)) (pr : Option Int), runs (x :: r) = (x, b) :: q →
    pt pr (x :: r) = if pr ≠ some (x - 1) then (if pr.isSome then [44] else []) ++ tx (x, b) ++ tailT q else 45 :: dec b.toNat ++ tailT q
  | [], x, b, q, pr, h => by
    simp only [runs, addRun, List.cons.injEq, Prod.mk.injEq, true_and] at h
    obtain ⟨rfl, rfl⟩ := h
    by_cases hp : pr = some (x - 1)
    · simp [pt, hp, tailT]
    · simp [pt, hp, tailT, tx]
  | y :: r, x, b, q, pr, h => by
    obtain ⟨b', q', e', hle⟩ := runs_cons r y
    have ih := pt_runs r y b' q' (some x) e'
    rw [runs, e', addRun] at h
    rw [pt, ih]
    by_cases hy : y = x + 1
    · rw [if_pos hy] at h
      simp only [List.cons.injEq, Prod.mk.injEq, true_and] at h
      obtain ⟨rfl, rfl⟩ := h
      have hb : ¬ x = b' := by omega
      by_cases hp : pr = some (x - 1)
      · simp [hp, hy]
      · simp [hp, hy, tx, hb]
    · rw [if_neg hy] at h
      simp only [List.cons.injEq, Prod.mk.injEq, true_and] at h
      obtain ⟨rfl, rfl⟩ := h
      have hxy : ¬ x = y - 1 := by omega
      by_cases hp : pr = some (x - 1)
      · simp [hp, hy, hxy, tailT]
      · simp [hp, hy, hxy, tailT, tx]
theorem body_pt (l : List Int) : body (runs l) = pt none l := by
  cases l with
  | nil => rfl
  | cons x r =>
    obtain ⟨b, q, e, hle⟩ := runs_cons r x
    rw [pt_runs r x b q none e, e, body_cons]
    simp
theorem rprint_l0 (m : Int) (hm : 0 ≤ m) (hm2 : m ≤ 1000) : ∀ (r pre : List Int) (out : List UInt8), (pre ++ r).length ≤ 100000 → Small (pre ++ r) → out.length ≤ 6 * pre.length →
    Ev (fun k => gangerref06_Print.l0 k (mk out) (pre.length : Int) (pre ++ r) m) (mk (out ++ pt pre.getLast? r ++ limT m), 0)
  | [], pre, out, hl, hs, ho => by
    simp only [List.append_nil] at hl
    refine Ev.step (fun k => by rw [gangerref06_Print.l0]) ?_
    refine ev_neg (by simp) ?_
    rw [pt, List.append_nil]
    by_cases h : m > 0
    · refine ev_pos h (ev_pos (by rw [mk_size]; omega) ?_)
      have := dec_len4 hm2
      have e : mk out ++ (⟨#[37]⟩ : ByteArray) = mk (out ++ [37]) := mk_append out [37]
      rw [e]
      refine Ev.bind (digits_int hm hm2) (ev_pos (by rw [mk_size, mk_size]; simp; omega) ?_)
      rw [mk_append, limT, if_pos h, List.append_assoc]; exact Ev.now _
    · refine ev_neg h ?_
      rw [limT, if_neg h, List.append_nil]; exact Ev.now _
  | x :: r, pre, out, hl, hs, ho => by
    have hx := hs x (by simp)
    have hlen : (pre ++ x :: r).length = pre.length + 1 + r.length := by simp; omega
    have ih := fun out' (h : out'.length ≤ 6 * (pre.length + 1)) => rprint_l0 m hm hm2 r (pre ++ [x]) out' (by simpa using hl) (by simpa using hs) (by simpa using h)
    simp only [List.append_assoc, List.singleton_append, List.getLast?_append, List.getLast?_singleton, Option.some_or] at ih
    have hw1 : wrap64 ((pre.length : Int) + 1) = ((pre ++ [x]).length : Int) := by rw [w64 (by omega)]; simp
    have hrx : rd (pre ++ x :: r) ((pre.length : Nat) : Int) = x := rd_get (by simp)
    have l4 := dec_len4 hx.2
    -- the number's own text, with what is known of it
    have J4 : ∀ (out' : List UInt8) (f l : Bool), out'.length ≤ 6 * pre.length + 1 → Ev (fun k => gangerref06_Print.j4 k (mk out') (pre.length : Int) f l (pre ++ x :: r) m) (mk (out' ++ ((if f = true then dec x.toNat else if l = true then 45 :: dec x.toNat else []) ++ pt (some x) r) ++ limT m), 0) := by
      intro out' f l ho'
      refine Ev.step (fun k => by rw [gangerref06_Print.j4]) ?_
      rw [hrx, hw1]
      cases f with
      | true =>
        refine ev_pos rfl (ev_pos (by omega) (ev_pos (by omega) (Ev.bind (digits_int hx.1 hx.2) (ev_pos (by rw [mk_size, mk_size]; omega) ?_))))
        rw [mk_append]
        have := ih (out' ++ dec x.toNat) (by simp; omega)
        simpa using this
      | false =>
        refine ev_neg (by simp) ?_
        cases l with
        | true =>
          have e : mk out' ++ (⟨#[45]⟩ : ByteArray) = mk (out' ++ [45]) := mk_append out' [45]
          rw [e]
          refine ev_pos rfl (ev_pos (by rw [mk_size]; omega) (ev_pos (by omega) (ev_pos (by omega) (Ev.bind (digits_int hx.1 hx.2) (ev_pos (by rw [mk_size, mk_size]; simp; omega) ?_)))))
          rw [mk_append]
          have := ih (out' ++ [45] ++ dec x.toNat) (by simp; omega)
          simpa using this
        | false =>
          refine ev_neg (by simp) ?_
          have := ih out' (by omega)
          simpa using this
    have J2 : ∀ (f l : Bool), f = decide (pre.getLast? ≠ some (x - 1)) → l = decide (r.head? ≠ some (x + 1)) → Ev (fun k => gangerref06_Print.j2 k (mk out) (pre.length : Int) f l (pre ++ x :: r) m) (mk (out ++ pt pre.getLast? (x :: r) ++ limT m), 0) := by
      intro f l hf hl'
      refine Ev.step (fun k => by rw [gangerref06_Print.j2]) ?_
      have hpt : pt pre.getLast? (x :: r) = (if f = true ∧ pre ≠ [] then [44] else []) ++ ((if f = true then dec x.toNat else if l = true then 45 :: dec x.toNat else []) ++ pt (some x) r) := by
        rw [pt, hf, hl', List.append_assoc]
        congr 1
        · simp
        · simp
      have J3 : ∀ (c : Bool), c = (f && decide (pre ≠ [])) → Ev (fun k => gangerref06_Print.j3 k (mk out) (pre.length : Int) f l c (pre ++ x :: r) m) (mk (out ++ pt pre.getLast? (x :: r) ++ limT m), 0) := by
        intro c hc
        refine Ev.step (fun k => by rw [gangerref06_Print.j3]) ?_
        rw [hpt]
        cases c with
        | true =>
          have e : mk out ++ (⟨#[44]⟩ : ByteArray) = mk (out ++ [44]) := mk_append out [44]
          have hc' : f = true ∧ pre ≠ [] := by simpa using hc.symm
          rw [if_pos hc', e]
          refine ev_pos rfl (ev_pos (by rw [mk_size]; omega) ?_)
          have := J4 (out ++ [44]) f l (by simp; omega)
          simpa using this
        | false =>
          have hc' : ¬ (f = true ∧ pre ≠ []) := by
            intro h; rw [h.1, decide_eq_true h.2] at hc; cases hc
          rw [if_neg hc']
          refine ev_neg (by simp) ?_
          have := J4 out f l (by omega)
          simpa using this
      cases f with
      | true =>
        refine ev_pos rfl (J3 _ ?_)
        rw [Bool.true_and]
        refine decide_eq_decide.2 ?_
        rw [← List.length_pos_iff]; omega
      | false => exact ev_neg (by simp) (J3 _ rfl)
    have J1 : ∀ f : Bool, f = decide (pre.getLast? ≠ some (x - 1)) → Ev (fun k => gangerref06_Print.j1 k (mk out) (pre.length : Int) f (pre ++ x :: r) m) (mk (out ++ pt pre.getLast? (x :: r) ++ limT m), 0) := by
      intro f hf
      refine Ev.step (fun k => by rw [gangerref06_Print.j1]) ?_
      have hw2 : wrap64 ((pre.length : Int) + 1) = ((pre.length + 1 : Nat) : Int) := by rw [w64 (by omega)]; omega
      rw [hw2]
      cases r with
      | nil =>
        refine ev_pos (by simp) ?_
        exact J2 f true hf (by simp)
      | cons y r =>
        refine ev_neg (by simp; omega) (ev_pos (by omega) (ev_pos (by simp; omega) (ev_pos (by omega) (ev_pos (by simp; omega) ?_))))
        have hry : rd (pre ++ x :: y :: r) ((pre.length + 1 : Nat) : Int) = y := rd_get (by simp)
        rw [hry, hrx, w64 (by omega)]
        refine J2 f _ hf ?_
        rw [List.head?_cons]
        by_cases e : y = x + 1
        · simp [e]
        · simp [e, bne]
    refine Ev.step (fun k => by rw [gangerref06_Print.l0]) ?_
    refine ev_pos (by omega) ?_
    rcases List.eq_nil_or_concat pre with rfl | ⟨q, y, rfl⟩
    · refine ev_pos rfl ?_
      exact J1 true (by simp)
    · rw [List.concat_eq_append] at *
      have hq : wrap64 (((q ++ [y]).length : Int) - 1) = (q.length : Int) := by rw [w64 (by simp at hl ⊢; omega)]; simp
      rw [hq]
      refine ev_neg (by simp; omega) (ev_pos (by omega) (ev_pos (by simp; omega) (ev_pos (by omega) ?_)))
      have hr : rd (q ++ [y] ++ x :: r) ((q.length : Nat) : Int) = y := rd_get (by simp)
      rw [hr, hrx, w64 (by omega)]
      refine J1 _ ?_
      rw [List.getLast?_append, List.getLast?_singleton, Option.some_or]
      by_cases e : y = x - 1
      · simp [e]
      · simp [e, bne]
theorem rprint_eq (l : List Int) (m : Int) (hl : l.length < 100000) : Ev (fun k => gangerref06_Print.f k l m) (if okA l m then (mk (text l m), 0) else (mk [], 2)) := by
  unfold gangerref06_Print.f
  refine Ev.bind (rcheck_ok l m (by omega)) ?_
  by_cases h : okA l m
  · obtain ⟨h1, h2, h3, h4⟩ := ok_parts h
    rw [if_pos h, if_pos h]
    refine ev_pos rfl ?_
    have := rprint_l0 m h2 h3 l [] [] (by simp; omega) (by simpa using good_small l (-1) (by omega) h4) (by simp)
    rw [text, body_pt]
    exact this
  · rw [if_neg h, if_neg h]
    exact ev_neg (by simp) (Ev.now _)
end Go.Proofs.YtpkococfmohmiaaDoor.Idx
