/- cut to what one law reaches -/
import Derived.Test.YtfccdngejfnmkaaDoorQfNumCut
import Derived.Test.YtfccdngejfnmkaaDoorQfP0
import Derived.Test.YtfccdngejfnmkaaDoorQfP1
import Derived.Test.YtfccdngejfnmkaaDoorQfP2
import Derived.Test.YtfccdngejfnmkaaDoorQfP3
import Derived.Test.YtfccdngejfnmkaaDoorQfP7
namespace Go.Proofs.YtfccdngejfnmkaaDoor.Shr
open Go.RowKit Go.Proofs.YtfccdngejfnmkaaDoorW.PrintWords Go.Proofs.YtfccdngejfnmkaaDoorW.PrintLast Go.Proofs.YtfccdngejfnmkaaDoorW.PrintMore Go.Proofs.YtfccdngejfnmkaaDoor.P Go.Proofs.YtfccdngejfnmkaaDoor.NumM
set_option linter.unusedVariables false
set_option linter.unusedSimpArgs false
theorem ev_pos {α : Type} {c : Prop} [Decidable c] {f g : Nat → Option α} {r : α} (hc : c) (h : Ev f r) : Ev (fun k => if c then f k else g k) r := by simpa only [if_pos hc] using h
theorem ev_neg {α : Type} {c : Prop} [Decidable c] {f g : Nat → Option α} {r : α} (hc : ¬ c) (h : Ev g r) : Ev (fun k => if c then f k else g k) r := by simpa only [if_neg hc] using h
theorem known_ev : Ev (fun k => gangerlaw11_known.f k) true := Ev.of (fun k => gangerlaw11_known.mono k) (k := 80) (by decide +kernel)
theorem hk : Ev (fun n => (gangerlaw11_known.f n).bind fun t => some t) true := Ev.bind known_ev (Ev.now _)
/-- is a text among texts? -/
def hasT (l : List ByteArray) (a : ByteArray) : Bool := l.any fun x => decide (a.toList = x.toList)
theorem rdOf_mid {α : Type} (d : α) (p : List α) (x : α) (r : List α) : rdOf d (p ++ x :: r) (p.length : Int) = x := by
  unfold rdOf; simp [List.getD]
theorem rd37_mid (p : List S37) (x : S37) (r : List S37) : rd_T37 (p ++ x :: r) (p.length : Int) = x := by
  unfold rd_T37; simp [List.getD]
theorem wsucc {α : Type} (p : List α) (x : α) (h : p.length < 1000000) : wrap64 ((p.length : Int) + 1) = ((p ++ [x]).length : Int) := by rw [w64 (by omega)]; simp
theorem index_l0 (a : ByteArray) : ∀ (s p : List ByteArray), (p ++ s).length < 1000000 → ∃ r, Ev (fun k => slices_Index_string_string.l0 k (p ++ s) a ((p ++ s).length : Int) (p.length : Int)) r ∧ decide (r ≥ 0) = hasT s a
  | [], p, h => ⟨-1, by
      refine Ev.step (fun k => by rw [slices_Index_string_string.l0]) ?_
      exact ev_neg (by simp) (Ev.now _), by simp [hasT]⟩
  | x :: s, p, h => by
    by_cases e : a.toList = x.toList
    · refine ⟨(p.length : Int), ?_, by simp [hasT, e]⟩
      refine Ev.step (fun k => by rw [slices_Index_string_string.l0]) ?_
      refine ev_pos (by simp; omega) (ev_pos (by omega) (ev_pos (by simp; omega) ?_))
      rw [rdOf_mid]
      exact ev_pos e (Ev.now _)
    · obtain ⟨r, h1, h2⟩ := index_l0 a s (p ++ [x]) (by simpa using h)
      refine ⟨r, ?_, by rw [h2]; simp [hasT, e]⟩
      refine Ev.step (fun k => by rw [slices_Index_string_string.l0]) ?_
      refine ev_pos (by simp; omega) (ev_pos (by omega) (ev_pos (by simp; omega) ?_))
      rw [rdOf_mid]
      refine ev_neg e ?_
      rw [wsucc p x (by simp at h; omega)]
      simpa using h1
theorem contains_ev (l : List ByteArray) (a : ByteArray) (h : l.length < 1000000) : Ev (fun k => slices_Contains_string_string.f k l a) (hasT l a) := by
  obtain ⟨r, h1, h2⟩ := index_l0 a l [] (by simpa using h)
  unfold slices_Contains_string_string.f
  have h1' : Ev (fun k => slices_Index_string_string.f k l a) r := h1
  refine Ev.bind h1' ?_
  rw [h2]; exact Ev.now _
def NameOk (s : ByteArray) : Bool := nameAt (s.size + 1) s 0
theorem name_f {s : ByteArray} (h : s.size ≤ 300) : script_Name.f s = some (NameOk s) := by
  unfold script_Name.f; rw [if_pos (by omega)]; rfl
def namesOk : List ByteArray → List ByteArray → Bool
  | p, [] => true
  | p, x :: r => NameOk x && !hasT p x && namesOk (p ++ [x]) r
theorem names_l0 : ∀ (s p : List ByteArray), (p ++ s).length < 1000000 → (∀ x ∈ s, x.size ≤ 300) → Ev (fun k => conf_names.l0 k (p ++ s) (p ++ s) ((p ++ s).length : Int) (p.length : Int)) (namesOk p s)
  | [], p, h, hs => by
    refine Ev.step (fun k => by rw [conf_names.l0]) ?_
    exact ev_neg (by simp) (Ev.now _)
  | x :: s, p, h, hs => by
    refine Ev.step (fun k => by rw [conf_names.l0]) ?_
    refine ev_pos (by simp; omega) (ev_pos (by omega) (ev_pos (by simp; omega) ?_))
    rw [rdOf_mid, name_f (hs x (List.mem_cons_self ..)), namesOk]
    refine Ev.bind (Ev.now _) ?_
    cases hn : NameOk x with
    | false => exact ev_neg (by simp) (Ev.now _)
    | true =>
      refine ev_pos rfl (ev_pos (by simp; omega) ?_)
      have ht : (p ++ x :: s).take ((p.length : Nat) : Int).toNat = p := by simp
      rw [ht]
      refine Ev.bind (contains_ev p x (by simp at h; omega)) ?_
      cases hc : hasT p x with
      | true => exact ev_pos rfl (Ev.now _)
      | false =>
        refine ev_neg (by simp) ?_
        have ih := names_l0 s (p ++ [x]) (by simpa using h) (fun y hy => hs y (List.mem_cons_of_mem _ hy))
        rw [wsucc p x (by simp at h; omega)]
        simpa using ih
theorem names_ev (l : List ByteArray) (h : l.length < 1000000) (hs : ∀ x ∈ l, x.size ≤ 300) : Ev (fun k => conf_names.f k l) (namesOk [] l) := names_l0 l [] (by simpa using h) hs
def accOk : List S37 → List S37 → Bool
  | p, [] => true
  | p, a :: r => inB a.f2 1 1048576 && (((p.length : Int) == 0) == (a.f1.toList == [])) && (p.isEmpty || hasT (p.map (·.f0)) a.f1) && accOk (p ++ [a]) r
theorem in_eq (n lo hi : Int) : conf_in.f n lo hi = some (inB n lo hi) := by
  unfold conf_in.f inB
  by_cases h : n ≥ lo
  · rw [if_pos h, decide_eq_true (show lo ≤ n from h)]; rfl
  · rw [if_neg h, decide_eq_false (show ¬ lo ≤ n from h)]; rfl
theorem accounts_l0 : ∀ (s p : List S37), (p ++ s).length < 1000000 → (∀ x ∈ p ++ s, x.f0.size ≤ 300) →
    Ev (fun k => conf_accounts.l0 k (p ++ s) (p.map (·.f0)) (p ++ s) ((p ++ s).length : Int) (p.length : Int)) (accOk p s && inB ((p ++ s).length : Int) 1 50 && namesOk [] ((p ++ s).map (·.f0)))
  | [], p, h, hs => by
    refine Ev.step (fun k => by rw [conf_accounts.l0]) ?_
    refine ev_neg (by simp) ?_
    rw [in_eq, accOk, Bool.true_and]
    refine Ev.bind (Ev.now _) ?_
    simp only [List.append_nil] at hs h ⊢
    cases hb : inB (p.length : Int) 1 50 with
    | false => exact ev_neg (by simp) (Ev.now _)
    | true =>
      refine ev_pos rfl (Ev.bind (names_ev (p.map (·.f0)) (by simpa using h) (fun x hx => ?_)) ?_)
      · obtain ⟨y, hy, rfl⟩ := List.mem_map.1 hx
        exact hs y hy
      · exact Ev.now _
  | a :: s, p, h, hs => by
    have hp : p.length < 1000000 := by simp at h; omega
    have ih := accounts_l0 s (p ++ [a]) (by simpa using h) (by simpa using hs)
    simp only [List.map_append, List.map_cons, List.map_nil, List.append_assoc, List.singleton_append] at ih
    refine Ev.step (fun k => by rw [conf_accounts.l0]) ?_
    refine ev_pos (by simp; omega) (ev_pos (by omega) (ev_pos (by simp; omega) ?_))
    rw [rd37_mid, in_eq, accOk]
    refine Ev.bind (Ev.now _) ?_
    cases hb : inB a.f2 1 1048576 with
    | false => exact ev_neg (by simp) (Ev.now _)
    | true =>
      refine ev_pos rfl ?_
      cases he : (((p.length : Int) == 0) == (a.f1.toList == [])) with
      | false =>
        refine ev_pos (by simp only [bne, he]; rfl) ?_
        exact Ev.now _
      | true =>
        refine ev_neg (by simp only [bne, he]; simp) ?_
        rw [wsucc p a hp]
        by_cases h0 : (p.length : Int) > 0
        · refine ev_pos h0 (Ev.bind (contains_ev (p.map (·.f0)) a.f1 (by simpa using hp)) ?_)
          have hne : p.isEmpty = false := by cases p with
            | nil => simp at h0
            | cons _ _ => rfl
          rw [hne]
          cases hc : hasT (p.map (·.f0)) a.f1 with
          | false => exact ev_neg (by simp) (Ev.now _)
          | true =>
            refine ev_pos rfl (ev_pos (by simp; omega) ?_)
            simpa using ih
        · refine ev_neg h0 (ev_pos (by simp; omega) ?_)
          have hnil : p = [] := List.length_eq_zero_iff.1 (by omega)
          subst hnil
          simpa using ih
/-- accounts that may be -/
def TOK (l : List S37) : Bool := accOk [] l && inB (l.length : Int) 1 50 && namesOk [] (l.map (·.f0))
theorem accounts_ev (l : List S37) (h : l.length < 1000000) (hs : ∀ x ∈ l, x.f0.size ≤ 300) : Ev (fun k => conf_accounts.f k l) (TOK l) := accounts_l0 l [] (by simpa using h) (by simpa using hs)
theorem parts_x : Ev (fun k => conf_parts.f k [(⟨(⟨#[120]⟩ : ByteArray), 0, 0, 1⟩ : S56)]) true := Ev.of (fun k => conf_parts.mono _ k) (k := 30) (by decide +kernel)
theorem classes_x : Ev (fun k => conf_classes.f k [(⟨(⟨#[120]⟩ : ByteArray), 0, 1⟩ : S59)]) true := Ev.of (fun k => conf_classes.mono _ k) (k := 30) (by decide +kernel)
theorem right_l0 : ∀ (s p : List Int), (p ++ s).length < 1000000 → Ev (fun k => share_right.l0 k (p ++ s) ((p ++ s).length : Int) (p.length : Int)) (if s.all (fun x => decide (0 ≤ x)) = true then 0 else 2)
  | [], p, h => by
    refine Ev.step (fun k => by rw [share_right.l0]) ?_
    exact ev_neg (by simp) (Ev.now _)
  | x :: s, p, h => by
    refine Ev.step (fun k => by rw [share_right.l0]) ?_
    refine ev_pos (by simp; omega) (ev_pos (by omega) (ev_pos (by simp; omega) ?_))
    have hr : rd (p ++ x :: s) ((p.length : Nat) : Int) = x := by unfold rd; simp [List.getD]
    rw [hr, List.all_cons]
    by_cases h0 : x < 0
    · refine ev_pos h0 ?_
      rw [decide_eq_false (by omega : ¬ 0 ≤ x)]; exact Ev.now _
    · refine ev_neg h0 ?_
      have ih := right_l0 s (p ++ [x]) (by simpa using h)
      rw [decide_eq_true (by omega : 0 ≤ x), Bool.true_and, wsucc p x (by simp at h; omega)]
      simpa using ih
/-- why accounts and what they used may not be -/
def rightE (l : List S37) (own : List Int) : Int := if TOK l = true then (if own.length = l.length then (if own.all (fun x => decide (0 ≤ x)) = true then 0 else 2) else 2) else 100
theorem right_ev (l : List S37) (own : List Int) (h : l.length < 1000000) (ho : own.length < 1000000) (hs : ∀ x ∈ l, x.f0.size ≤ 300) : Ev (fun k => share_right.f k l own) (rightE l own) := by
  unfold share_right.f rightE
  have hc : Ev (fun k => conf_Check.f k 1 1 1 0 0 0 0 0 0 [(⟨(⟨#[120]⟩ : ByteArray), 0, 0, 1⟩ : S56)] [(⟨(⟨#[120]⟩ : ByteArray), 0, 1⟩ : S59)] l) (if TOK l = true then 0 else 100) := by
    unfold conf_Check.f
    refine ev_pos (by decide) (ev_pos (by decide) (Ev.bind parts_x (ev_pos rfl (Ev.bind classes_x (ev_pos rfl (Ev.bind (accounts_ev l h hs) (Ev.now _)))))))
  refine Ev.bind hc ?_
  cases ht : TOK l with
  | false => exact ev_neg (by simp) (Ev.now _)
  | true =>
    refine ev_pos (by simp) ?_
    by_cases hl : own.length = l.length
    · rw [if_pos rfl, if_pos hl]
      refine ev_pos (by omega) ?_
      exact right_l0 own [] (by simpa using ho)
    · rw [if_pos rfl, if_neg hl]
      exact ev_neg (by omega) (Ev.now _)
/-- more than is looked at -/
theorem many_l0 : ∀ (s p : List S37), (p ++ s).length < 1000000 → ∃ b, Ev (fun k => gangerlaw11_many.l0 k (p ++ s) (p.length : Int)) b ∧ (b = false → ∀ x ∈ s, x.f0.size ≤ 300 ∧ x.f1.size ≤ 300)
  | [], p, h => ⟨false, by
      refine Ev.step (fun k => by rw [gangerlaw11_many.l0]) ?_
      exact ev_neg (by simp) (Ev.now _), by simp⟩
  | x :: s, p, h => by
    by_cases h1 : (x.f0.size : Int) > 300
    · refine ⟨true, ?_, fun q => by cases q⟩
      refine Ev.step (fun k => by rw [gangerlaw11_many.l0]) ?_
      refine ev_pos (by simp; omega) (ev_pos (by omega) ?_)
      rw [rd37_mid]
      exact ev_pos h1 (Ev.now _)
    · by_cases h2 : (x.f1.size : Int) > 300
      · refine ⟨true, ?_, fun q => by cases q⟩
        refine Ev.step (fun k => by rw [gangerlaw11_many.l0]) ?_
        refine ev_pos (by simp; omega) (ev_pos (by omega) ?_)
        rw [rd37_mid]
        exact ev_neg h1 (ev_pos h2 (Ev.now _))
      · obtain ⟨b, hb, hf⟩ := many_l0 s (p ++ [x]) (by simpa using h)
        refine ⟨b, ?_, fun q y hy => ?_⟩
        · refine Ev.step (fun k => by rw [gangerlaw11_many.l0]) ?_
          refine ev_pos (by simp; omega) (ev_pos (by omega) ?_)
          rw [rd37_mid, wsucc p x (by simp at h; omega)]
          refine ev_neg h1 (ev_neg h2 ?_)
          simpa using hb
        · rcases List.mem_cons.1 hy with e | e
          · subst e; omega
          · exact hf q y e
theorem many_ev (l : List S37) (own : List Int) : ∃ b, Ev (fun k => gangerlaw11_many.f k l own) b ∧ (b = false → l.length ≤ 60 ∧ own.length ≤ 100 ∧ ∀ x ∈ l, x.f0.size ≤ 300 ∧ x.f1.size ≤ 300) := by
  unfold gangerlaw11_many.f
  have J : Ev (fun k => gangerlaw11_many.j0 k l true) true := by
    refine Ev.step (fun k => by rw [gangerlaw11_many.j0]) ?_
    exact ev_pos rfl (Ev.now _)
  by_cases h1 : (l.length : Int) > 60
  · exact ⟨true, ev_pos h1 J, fun q => by cases q⟩
  · by_cases h2 : (own.length : Int) > 100
    · refine ⟨true, ev_neg h1 ?_, fun q => by cases q⟩
      rw [decide_eq_true h2]; exact J
    · obtain ⟨b, hb, hf⟩ := many_l0 l [] (by simp; omega)
      refine ⟨b, ev_neg h1 ?_, fun q => ⟨by omega, by omega, hf q⟩⟩
      rw [decide_eq_false h2]
      refine Ev.step (fun k => by rw [gangerlaw11_many.j0]) ?_
      exact ev_neg (by simp) hb
end Go.Proofs.YtfccdngejfnmkaaDoor.Shr
