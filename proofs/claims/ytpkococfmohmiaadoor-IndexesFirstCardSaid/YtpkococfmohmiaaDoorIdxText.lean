/- Runs of indexes, and their text; what the library's print computes. -/
import Derived.Test.YtpkococfmohmiaaDoorIdxDig
import Derived.Test.YtpkococfmohmiaaDoorP0
import Derived.Test.YtpkococfmohmiaaDoorP3
import Derived.Test.YtpkococfmohmiaaDoorP4
import Derived.Test.YtpkococfmohmiaaDoorP8
namespace Go.Proofs.YtpkococfmohmiaaDoor.Idx
open Go.RowKit Go.Proofs.YtpkococfmohmiaaDoorW.PrintWords Go.Proofs.YtpkococfmohmiaaDoorW.PrintLast Go.Proofs.YtpkococfmohmiaaDoorW.PrintMore Go.Proofs.YtpkococfmohmiaaDoor.P
set_option linter.unusedVariables false
set_option linter.unusedSimpArgs false
def addRun (x : Int) : List (Int × Int) → List (Int × Int)
  | [] => [(x, x)]
  | (a, b) :: q => if a = x + 1 then (x, b) :: q else (x, x) :: (a, b) :: q
/-- the runs of a rising list -/
def runs : List Int → List (Int × Int)
  | [] => []
  | x :: r => addRun x (runs r)
def tx (p : Int × Int) : List UInt8 := if p.1 = p.2 then dec p.1.toNat else dec p.1.toNat ++ 45 :: dec p.2.toNat
def body (q : List (Int × Int)) : List UInt8 := Lib.join (q.map tx) [44]
def limT (m : Int) : List UInt8 := if 0 < m then 37 :: dec m.toNat else []
def text (l : List Int) (m : Int) : List UInt8 := body (runs l) ++ limT m
/-- how many follow, one by one -/
def rl : Int → List Int → Nat
  | _, [] => 0
  | x, y :: r => if y = x + 1 then rl y r + 1 else 0
theorem rl_le : ∀ (r : List Int) (x : Int), rl x r ≤ r.length
  | [], x => by simp [rl]
  | y :: r, x => by
    rw [rl]
    split
    · have := rl_le r y; simp; omega
    · simp
theorem runs_head : ∀ (r : List Int) (x : Int), runs (x :: r) = (x, x + (rl x r : Int)) :: runs (r.drop (rl x r))
  | [], x => by simp [runs, addRun, rl]
  | y :: r, x => by
    have ih := runs_head r y
    rw [runs, ih, addRun, rl]
    by_cases h : y = x + 1
    · rw [if_pos h, if_pos h, List.drop_succ_cons]
      congr 2
      omega
    · rw [if_neg h, if_neg h, List.drop_zero, ih]
      simp
theorem rl_get : ∀ (r : List Int) (x : Int), (x :: r)[rl x r]? = some (x + (rl x r : Int))
  | [], x => by simp [rl]
  | y :: r, x => by
    rw [rl]
    by_cases h : y = x + 1
    · rw [if_pos h, List.getElem?_cons_succ, rl_get r y]
      congr 1; omega
    · rw [if_neg h]; simp
def Small (l : List Int) : Prop := ∀ x ∈ l, 0 ≤ x ∧ x ≤ 1000
theorem good_small : ∀ (l : List Int) (p : Int), -1 ≤ p → good p l = true → Small l
  | [], p, hp, h => by intro x hx; cases hx
  | y :: r, p, hp, h => by
    rw [good] at h
    simp only [Bool.and_eq_true, decide_eq_true_eq] at h
    obtain ⟨⟨h1, h2⟩, h3⟩ := h
    intro x hx
    rcases List.mem_cons.1 hx with e | e
    · subst e; omega
    · exact good_small r y (by omega) h3 x e
theorem good_len : ∀ (l : List Int) (p : Int), good p l = true → p ≤ 1000 → (l.length : Int) ≤ 1000 - p
  | [], p, h, hp => by simp; omega
  | y :: r, p, h, hp => by
    rw [good] at h
    simp only [Bool.and_eq_true, decide_eq_true_eq] at h
    obtain ⟨⟨h1, h2⟩, h3⟩ := h
    have := good_len r y h3 (by omega)
    simp only [List.length_cons]; omega
theorem itoa_int {x : Int} (h0 : 0 ≤ x) (h1 : x ≤ 1000) : strconv_Itoa_29.f x = some (mk (dec x.toNat)) := by
  have := itoa_nat x.toNat (by omega)
  rwa [Int.toNat_of_nonneg h0] at this
theorem digits_int {x : Int} (h0 : 0 ≤ x) (h1 : x ≤ 1000) : Ev (fun k => gangerref06_Digits.f k x) (mk (dec x.toNat)) := by
  have := digits_eq x.toNat (by omega)
  rwa [Int.toNat_of_nonneg h0] at this
theorem dec_len4 {x : Int} (h1 : x ≤ 1000) : (dec x.toNat).length ≤ 4 := dec_len 4 x.toNat (by omega) (by omega)
theorem rd_get {l : List Int} {i : Nat} {x : Int} (h : l[i]? = some x) : rd l (i : Int) = x := by
  unfold rd; simp [List.getD, h]
theorem mk_lit (l : List UInt8) : (⟨l.toArray⟩ : ByteArray) = mk l := rfl
/-- the walk to a run's end -/
theorem print_l1 (acc : List ByteArray) (L : List Int) (m : Int) (R : ByteArray × Int) : ∀ (s pre : List Int) (y : Int), (pre ++ y :: s).length < 1000000 → Small (pre ++ y :: s) →
    Ev (fun k => indexes_Print.j2 k acc (pre ++ y :: s) ((pre.length + 1 + rl y s : Nat) : Int) L m) R →
    Ev (fun k => indexes_Print.l1 k acc (pre ++ y :: s) ((pre.length + 1 : Nat) : Int) L m) R
  | [], pre, y, hl, hs, h => by
    refine Ev.step (fun k => by rw [indexes_Print.l1]) ?_
    refine ev_neg (by simp) ?_
    simpa [rl] using h
  | z :: s, pre, y, hl, hs, h => by
    refine Ev.step (fun k => by rw [indexes_Print.l1]) ?_
    have hw : wrap64 (((pre.length + 1 : Nat) : Int) - 1) = ((pre.length : Nat) : Int) := by rw [w64 (by simp at hl; omega)]; omega
    rw [hw]
    refine ev_pos (by simp; omega) (ev_pos (by omega) (ev_pos (by omega) (ev_pos (by simp; omega) ?_)))
    have r1 : rd (pre ++ y :: z :: s) ((pre.length + 1 : Nat) : Int) = z := rd_get (by simp)
    have r2 : rd (pre ++ y :: z :: s) ((pre.length : Nat) : Int) = y := rd_get (by simp)
    have hy := hs y (by simp)
    rw [r1, r2, w64 (by omega)]
    rw [rl] at h
    by_cases e : z = y + 1
    · refine ev_pos e ?_
      rw [if_pos e] at h
      have ih := print_l1 acc L m R s (pre ++ [y]) z (by simpa using hl) (by simpa using hs) (by
        simp only [List.length_append, List.length_singleton, List.append_assoc, List.singleton_append]
        rw [show pre.length + 1 + 1 + rl z s = pre.length + 1 + (rl z s + 1) by omega]
        exact h)
      have hw2 : wrap64 (((pre.length + 1 : Nat) : Int) + 1) = (((pre ++ [y]).length + 1 : Nat) : Int) := by rw [w64 (by simp at hl; omega)]; simp
      rw [hw2]
      simpa using ih
    · refine ev_neg e ?_
      rw [if_neg e] at h
      exact h
theorem join_snoc (acc : List (List UInt8)) (a : List UInt8) (q : List (List UInt8)) : Lib.join (acc ++ [a] ++ q) [44] = Lib.join (acc ++ a :: q) [44] := by simp
def jn (acc : List ByteArray) (q : List (Int × Int)) : List UInt8 := Lib.join (acc.map (·.data.toList) ++ q.map tx) [44]
theorem jn_snoc (acc : List ByteArray) (a : Int × Int) (q : List (Int × Int)) : jn (acc ++ [mk (tx a)]) q = jn acc (a :: q) := by simp [jn, mk]
theorem joinTail_len : ∀ (l : List (List UInt8)), (∀ x ∈ l, x.length ≤ 9) → (Lib.joinTail [44] l).length ≤ 10 * l.length
  | [], h => by simp [Lib.joinTail]
  | a :: l, h => by
    have ih := joinTail_len l (fun x hx => h x (List.mem_cons_of_mem _ hx))
    have ha := h a (List.mem_cons_self ..)
    simp [Lib.joinTail] at ih ⊢; omega
theorem join_len (l : List (List UInt8)) (h : ∀ x ∈ l, x.length ≤ 9) : (Lib.join l [44]).length ≤ 10 * l.length := by
  cases l with
  | nil => simp [Lib.join_nil]
  | cons a l =>
    rw [Lib.join_cons]
    have ih := joinTail_len l (fun x hx => h x (List.mem_cons_of_mem _ hx))
    have ha := h a (List.mem_cons_self ..)
    simp; omega
theorem join_f (acc : List ByteArray) (h1 : acc.length ≤ 1000000) (h2 : ∀ x ∈ acc, x.size ≤ 9) : strings_Join.f acc (⟨#[44]⟩ : ByteArray) = some (mk (jn acc [])) := by
  unfold strings_Join.f
  have hl := join_len (acc.map (·.data.toList)) (by
    intro x hx
    obtain ⟨y, hy, rfl⟩ := List.mem_map.1 hx
    exact h2 y hy)
  have e : (⟨#[44]⟩ : ByteArray).data.toList = [44] := rfl
  rw [if_pos (by omega), e, if_pos (by simp at hl; omega)]
  simp [jn, mk]
theorem tx_len {a : Int × Int} (h1 : a.1 ≤ 1000) (h2 : a.2 ≤ 1000) : (tx a).length ≤ 9 := by
  unfold tx
  have := dec_len4 h1
  have := dec_len4 h2
  split
  · omega
  · simp; omega
theorem print_l0 (L : List Int) (m : Int) (hm : 0 ≤ m) (hm2 : m ≤ 1000) : ∀ (i : Nat) (l : List Int) (acc : List ByteArray), l.length ≤ i → acc.length + l.length ≤ 100000 → Small l → (∀ x ∈ acc, x.size ≤ 9) →
    Ev (fun k => indexes_Print.l0 k acc l L m) (mk (jn acc (runs l) ++ limT m), 0) := by
  have base : ∀ (acc : List ByteArray), acc.length ≤ 100000 → (∀ x ∈ acc, x.size ≤ 9) → Ev (fun k => indexes_Print.l0 k acc [] L m) (mk (jn acc (runs []) ++ limT m), 0) := by
    intro acc ha hacc
    refine Ev.step (fun k => by rw [indexes_Print.l0]) ?_
    refine ev_neg (by simp) ?_
    rw [join_f acc (by omega) hacc]
    refine Ev.bind (Ev.now _) ?_
    have hl : (jn acc []).length ≤ 1000000 := by
      have := join_len (acc.map (·.data.toList)) (by
        intro x hx
        obtain ⟨y, hy, rfl⟩ := List.mem_map.1 hx
        exact hacc y hy)
      simp [jn] at this ⊢; omega
    by_cases h : m > 0
    · refine ev_pos h ?_
      rw [itoa_int hm hm2]
      have := dec_len4 hm2
      refine Ev.bind (Ev.now _) (ev_pos (by rw [mk_size]; omega) ?_)
      have e : (⟨#[37]⟩ : ByteArray) ++ mk (dec m.toNat) = mk (37 :: dec m.toNat) := mk_append [37] _
      rw [e, mk_append]
      refine ev_pos (by rw [mk_size, mk_size]; simp; omega) ?_
      rw [limT, if_pos h]; exact Ev.now _
    · refine ev_neg h ?_
      rw [limT, if_neg h, List.append_nil]; exact Ev.now _
  intro i
  induction i with
  | zero =>
    intro l acc h1 h2 h3 h4
    obtain rfl : l = [] := List.length_eq_zero_iff.1 (by omega)
    exact base acc (by omega) h4
  | succ i ih =>
    intro l acc h1 h2 h3 h4
    cases l with
    | nil => exact base acc (by omega) h4
    | cons x r =>
      simp only [List.length_cons] at h1 h2
      refine Ev.step (fun k => by rw [indexes_Print.l0]) ?_
      refine ev_pos (by simp) ?_
      refine print_l1 acc L m _ r [] x (by simp; omega) (by simpa using h3) ?_
      simp only [List.nil_append, List.length_nil, Nat.zero_add]
      have hrl := rl_le r x
      have hx := h3 x (List.mem_cons_self ..)
      have hget := rl_get r x
      have hz : 0 ≤ x + (rl x r : Int) ∧ x + (rl x r : Int) ≤ 1000 := h3 _ (List.mem_of_getElem? hget)
      have hr0 : rd (x :: r) 0 = x := rfl
      have hdrop : (x :: r).drop (1 + rl x r) = r.drop (rl x r) := by rw [Nat.add_comm, List.drop_succ_cons]
      have hsm : Small (r.drop (rl x r)) := fun y hy => h3 y (List.mem_cons_of_mem _ (List.mem_of_mem_drop hy))
      have next : ∀ t, t = mk (tx (x, x + (rl x r : Int))) → Ev (fun k => indexes_Print.l0 k (acc ++ [t]) ((x :: r).drop (((1 + rl x r : Nat) : Int)).toNat) L m) (mk (jn acc (runs (x :: r)) ++ limT m), 0) := by
        intro t ht
        rw [Int.toNat_natCast, hdrop, runs_head, ← jn_snoc, ← ht]
        refine ih (r.drop (rl x r)) (acc ++ [t]) (by rw [List.length_drop]; omega) (by simp; omega) hsm ?_
        intro y hy
        rcases List.mem_append.1 hy with h | h
        · exact h4 y h
        · rw [List.mem_singleton.1 h, ht, mk_size]; exact tx_len (by simp; omega) (by simp; omega)
      refine Ev.step (fun k => by rw [indexes_Print.j2]) ?_
      refine ev_pos (by simp) ?_
      rw [hr0, itoa_int hx.1 hx.2]
      refine Ev.bind (Ev.now _) ?_
      by_cases h : ((1 + rl x r : Nat) : Int) > 1
      · refine ev_pos h ?_
        have hw : wrap64 (((1 + rl x r : Nat) : Int) - 1) = ((rl x r : Nat) : Int) := by rw [w64 (by omega)]; omega
        rw [hw]
        refine ev_pos (by omega) (ev_pos (by simp; omega) ?_)
        rw [rd_get hget, itoa_int hz.1 hz.2]
        have l1 := dec_len4 hx.2
        have l2 := dec_len4 hz.2
        refine Ev.bind (Ev.now _) (ev_pos (by rw [mk_size]; omega) ?_)
        have e : (⟨#[45]⟩ : ByteArray) ++ mk (dec (x + (rl x r : Int)).toNat) = mk (45 :: dec (x + (rl x r : Int)).toNat) := mk_append [45] _
        rw [e, mk_append]
        refine ev_pos (by rw [mk_size, mk_size]; simp; omega) (ev_pos (by omega) (ev_pos (by omega) (ev_pos (by simp; omega) ?_)))
        exact next _ (by rw [tx, if_neg (by simp; omega)])
      · refine ev_neg h (ev_pos (by omega) (ev_pos (by omega) (ev_pos (by simp; omega) ?_)))
        exact next _ (by rw [tx, if_pos (by simp; omega)])
/-- may they be? -/
def okA (l : List Int) (m : Int) : Prop := ¬ (l = [] ∨ m < 0 ∨ m > 1000 ∨ good (-1) l = false)
instance (l : List Int) (m : Int) : Decidable (okA l m) := by unfold okA; infer_instance
theorem check_ok (l : List Int) (m : Int) (hl : l.length < 1000000) : Ev (fun k => indexes_Check.f k l m) (if okA l m then 0 else 2) := by
  have := check_eq l m hl
  unfold okA
  rw [ite_not]
  exact this
theorem rcheck_ok (l : List Int) (m : Int) (hl : l.length < 1000000) : Ev (fun k => gangerref06_Check.f k l m) (if okA l m then 0 else 2) := by
  have := rcheck_eq l m hl
  unfold okA
  rw [ite_not]
  exact this
theorem ok_parts {l : List Int} {m : Int} (h : okA l m) : l ≠ [] ∧ 0 ≤ m ∧ m ≤ 1000 ∧ good (-1) l = true := by
  unfold okA at h
  refine ⟨fun q => h (Or.inl q), ?_, ?_, ?_⟩
  · apply Int.not_lt.1; intro q; exact h (Or.inr (Or.inl q))
  · apply Int.not_lt.1; intro q; exact h (Or.inr (Or.inr (Or.inl q)))
  · cases e : good (-1) l with
    | true => rfl
    | false => exact absurd (Or.inr (Or.inr (Or.inr e))) h
theorem print_eq (l : List Int) (m : Int) (hl : l.length < 1000000) : Ev (fun k => indexes_Print.f k l m) (if okA l m then (mk (text l m), 0) else (mk [], 2)) := by
  unfold indexes_Print.f
  refine Ev.bind (check_ok l m hl) ?_
  by_cases h : okA l m
  · obtain ⟨h1, h2, h3, h4⟩ := ok_parts h
    rw [if_pos h, if_pos h]
    refine ev_pos rfl ?_
    have hlen := good_len l (-1) h4 (by omega)
    have hC : slices_Clone_int_int.f l = some l := by
      unfold slices_Clone_int_int.f
      simp; omega
    rw [hC]
    refine Ev.bind (Ev.now _) ?_
    have := print_l0 l m h2 h3 l.length l [] (by omega) (by simp; omega) (good_small l (-1) (by omega) h4) (by simp)
    exact this
  · rw [if_neg h, if_neg h]
    exact ev_neg (by simp) (Ev.now _)
end Go.Proofs.YtpkococfmohmiaaDoor.Idx
