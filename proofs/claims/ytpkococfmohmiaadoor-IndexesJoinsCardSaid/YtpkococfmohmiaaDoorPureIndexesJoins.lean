import Derived.Test.YtpkococfmohmiaaDoorIdxFacts
import Derived.Test.YtpkococfmohmiaaDoorIdxHas
import Derived.Test.YtpkococfmohmiaaDoorP0
import Derived.Test.YtpkococfmohmiaaDoorP2
import Derived.Test.YtpkococfmohmiaaDoorP12
namespace Go.Proofs.YtpkococfmohmiaaDoor.Pure
open Go.RowKit Go.Proofs.YtpkococfmohmiaaDoorW.PrintWords Go.Proofs.YtpkococfmohmiaaDoorW.PrintLast Go.Proofs.YtpkococfmohmiaaDoorW.PrintMore Go.Proofs.YtpkococfmohmiaaDoor.P Go.Proofs.YtpkococfmohmiaaDoor.Idx
set_option linter.unusedVariables false
set_option linter.unusedSimpArgs false
/-- but for its place -/
def strip (x : S53) : S53 := { x with f0 := 0 }
def SameOut : Except Nat (List S53) → Except Nat (List S53) → Prop
  | .error _, .error _ => True
  | .ok a, .ok b => a.map strip = b.map strip
  | _, _ => False
theorem strip_numN {x y : S53} (h : strip x = strip y) (p n : Int) : strip (numN x p n) = strip (numN y p n) := by
  obtain ⟨a0, a1, a2, a3, a4⟩ := x
  obtain ⟨b0, b1, b2, b3, b4⟩ := y
  simp only [strip, S53.mk.injEq, true_and] at h
  obtain ⟨rfl, rfl, rfl, rfl⟩ := h
  unfold numN
  split
  · rfl
  · split <;> rfl
theorem strip_f4 {x y : S53} (h : strip x = strip y) : x.f4 = y.f4 := by
  have e := congrArg S53.f4 h
  exact e
theorem sameOut_econs {x y : S53} (h : strip x = strip y) {a b : Except Nat (List S53)} (hab : SameOut a b) : SameOut (econs x a) (econs y b) := by
  cases a with
  | error e => cases b with
    | error e' => trivial
    | ok l => exact hab.elim
  | ok k => cases b with
    | error e' => exact hab.elim
    | ok l =>
      simp only [SameOut, econs, List.map_cons] at hab ⊢
      rw [h, hab]
theorem scan_shift : ∀ (r : List UInt8) (i j : Nat) (x y : S53) (p d n : Nat), strip x = strip y → SameOut (scan r i x p d n) (scan r j y p d n)
  | [], i, j, x, y, p, d, n, h => by
    rw [scan, scan]
    split
    · trivial
    · simp only [SameOut, List.map_cons, List.map_nil]
      rw [strip_numN h]
  | c :: r, i, j, x, y, p, d, n, h => by
    rw [scan, scan, ← strip_f4 h]
    split
    · split
      · trivial
      · exact scan_shift r _ _ x y _ _ _ h
    · split
      · trivial
      · split
        · exact scan_shift r _ _ _ _ _ _ _ (strip_numN h _ _)
        · split
          · exact scan_shift r _ _ _ _ _ _ _ (strip_numN h _ _)
          · split
            · exact sameOut_econs (strip_numN h _ _) (scan_shift r _ _ _ _ _ _ _ rfl)
            · trivial
def glue (a : List S53) : Except Nat (List S53) → Except Nat (List S53)
  | .error e => .error e
  | .ok b => .ok (a ++ b)
theorem econs_glue (x : S53) (a : List S53) (e : Except Nat (List S53)) : econs x (glue a e) = glue (x :: a) e := by cases e <;> rfl
theorem scan_join (b : List UInt8) : ∀ (a : List UInt8) (pos : Nat) (x : S53) (p d n : Nat) (la : List S53), scan a pos x p d n = .ok la → (∀ y ∈ la, y.f4 = false) → scan (a ++ 44 :: b) pos x p d n = glue la (scan b (pos + a.length + 1) (itemAt 44 (pos + a.length)) 0 0 0)
  | [], pos, x, p, d, n, la, h, h4 => by
    rw [scan] at h
    by_cases hd : d = 0
    · rw [if_pos hd] at h; cases h
    · rw [if_neg hd] at h
      cases h
      have hx : x.f4 = false := by rw [← n4 x p n]; exact h4 _ (List.mem_singleton.2 rfl)
      have n1 : ¬ isD 44 = true := by decide
      rw [List.nil_append, scan, if_neg n1, if_neg hd, if_neg (by simp), if_neg (by simp), if_pos ⟨Or.inl rfl, hx⟩]
      simp only [List.length_nil, Nat.add_zero]
      cases scan b (pos + 1) (itemAt 44 pos) 0 0 0 <;> rfl
  | c :: a, pos, x, p, d, n, la, h, h4 => by
    have e : pos + (c :: a).length = pos + 1 + a.length := by simp; omega
    rw [scan] at h
    rw [List.cons_append, scan, e]
    split
    · rename_i c1
      rw [if_pos c1] at h
      split
      · rename_i c2
        rw [if_pos c2] at h; cases h
      · rename_i c2
        rw [if_neg c2] at h
        exact scan_join b a _ _ _ _ _ la h h4
    · rename_i c1
      rw [if_neg c1] at h
      split
      · rename_i c2
        rw [if_pos c2] at h; cases h
      · rename_i c2
        rw [if_neg c2] at h
        split
        · rename_i c3
          rw [if_pos c3] at h
          exact scan_join b a _ _ _ _ _ la h h4
        · rename_i c3
          rw [if_neg c3] at h
          split
          · rename_i c4
            rw [if_pos c4] at h
            exact scan_join b a _ _ _ _ _ la h h4
          · rename_i c4
            rw [if_neg c4] at h
            split
            · rename_i c5
              rw [if_pos c5] at h
              cases q : scan a (pos + 1) (itemAt c pos) 0 0 0 with
              | error z => rw [q] at h; cases h
              | ok l' =>
                rw [q] at h
                cases h
                rw [scan_join b a _ _ _ _ _ l' q (fun y hy => h4 y (List.mem_cons_of_mem _ hy)), econs_glue]
            · rename_i c5
              rw [if_neg c5] at h; cases h
theorem bad_strip (x : S53) : bad (strip x) = bad x := rfl
theorem lim_pos : ∀ (l : List S53) (m : Int), (∀ x ∈ l, bad x = false) → (∀ x ∈ l, Fine x) → (0 < m ∨ ∃ x ∈ l, x.f4 = true) → 0 < lim l m
  | [], m, _, _, h => by
    rcases h with h | ⟨x, hx, _⟩
    · exact h
    · cases hx
  | y :: r, m, hb, hf, h => by
    rw [lim]
    refine lim_pos r _ (fun x hx => hb x (List.mem_cons_of_mem _ hx)) (fun x hx => hf x (List.mem_cons_of_mem _ hx)) ?_
    have b := hb y (List.mem_cons_self ..)
    have f := (hf y (List.mem_cons_self ..)).1
    by_cases h4 : y.f4 = true
    · rw [if_pos h4]
      rw [bad, if_pos h4] at b
      simp at b
      exact Or.inl (by omega)
    · rw [if_neg h4]
      rcases h with h | ⟨x, hx, hx4⟩
      · exact Or.inl h
      · rcases List.mem_cons.1 hx with q | q
        · subst q; exact absurd hx4 h4
        · exact Or.inr ⟨x, q, hx4⟩
theorem lim_none : ∀ (l : List S53) (m : Int), (∀ x ∈ l, x.f4 = false) → lim l m = m
  | [], m, _ => rfl
  | y :: r, m, h => by
    rw [lim, h y (List.mem_cons_self ..)]
    exact lim_none r m (fun x hx => h x (List.mem_cons_of_mem _ hx))
/-- what it means that a text says something without a limit -/
theorem PR_items {s : List UInt8} (h : (PR s).2.2.2 = 0) (hm : ¬ (PR s).2.1 > 0) : ∃ l, scan s 0 x0 0 0 0 = .ok l ∧ (∀ x ∈ l, bad x = false) ∧ (∀ x ∈ l, x.f4 = false) ∧ PR s = (listOf (hit l), 0, 0, 0) := by
  unfold PR at h hm ⊢
  cases e : scan s 0 x0 0 0 0 with
  | error q => rw [e] at h; simp [say] at h
  | ok l =>
    rw [e] at h hm
    have hF := scan_fine s 0 x0 0 0 0 l (by simp [x0, Fine]) e
    simp only [say, List.nil_append] at h hm ⊢
    unfold final at h hm ⊢
    cases hf : l.find? bad with
    | some x => rw [hf] at h; simp at h
    | none =>
      rw [hf] at h hm
      have hall := find_all hf
      have h4 : ∀ x ∈ l, x.f4 = false := by
        intro x hx
        cases h4 : x.f4 with
        | false => rfl
        | true => exact absurd (lim_pos l 0 hall hF (Or.inr ⟨x, hx, h4⟩)) hm
      exact ⟨l, rfl, hall, h4, by rw [lim_none l 0 h4]⟩
theorem hit_strip : ∀ (a b : List S53), a.map strip = b.map strip → hit a = hit b := by
  intro a b h
  funext j
  have e : ∀ l : List S53, hit l j = hit (l.map strip) j := by
    intro l
    unfold hit
    rw [List.any_map]
    rfl
  rw [e a, e b, h]
theorem all_strip {P : S53 → Bool} (hP : ∀ x, P (strip x) = P x) {a b : List S53} (h : a.map strip = b.map strip) (ha : ∀ x ∈ a, P x = false) : ∀ x ∈ b, P x = false := by
  intro x hx
  have : strip x ∈ a.map strip := by rw [h]; exact List.mem_map_of_mem hx
  obtain ⟨y, hy, e⟩ := List.mem_map.1 this
  rw [← hP x, ← e, hP y]
  exact ha y hy
/-- two texts, with a comma between -/
theorem PR_join {a b : List UInt8} {la lb : List S53} (ha : scan a 0 x0 0 0 0 = .ok la) (hb : scan b 0 x0 0 0 0 = .ok lb) (a1 : ∀ x ∈ la, bad x = false) (a2 : ∀ x ∈ la, x.f4 = false) (b1 : ∀ x ∈ lb, bad x = false) (b2 : ∀ x ∈ lb, x.f4 = false) :
    PR (a ++ 44 :: b) = (listOf fun j => hit la j || hit lb j, 0, 0, 0) := by
  unfold PR
  rw [scan_join b a 0 x0 0 0 0 la ha a2]
  have hs := scan_shift b 0 (0 + a.length + 1) x0 (itemAt 44 (0 + a.length)) 0 0 0 rfl
  rw [hb] at hs
  cases e : scan b (0 + a.length + 1) (itemAt 44 (0 + a.length)) 0 0 0 with
  | error q => rw [e] at hs; exact hs.elim
  | ok l' =>
    rw [e] at hs
    have hs' : lb.map strip = l'.map strip := hs
    have c1 : ∀ x ∈ l', bad x = false := all_strip (P := bad) bad_strip hs' b1
    have c2 : ∀ x ∈ l', x.f4 = false := all_strip (P := S53.f4) (fun _ => rfl) hs' b2
    have hn : (la ++ l').find? bad = none := find_none fun x hx => by
      rcases List.mem_append.1 hx with h | h
      · exact a1 x h
      · exact c1 x h
    have h4 : ∀ x ∈ la ++ l', x.f4 = false := fun x hx => by
      rcases List.mem_append.1 hx with h | h
      · exact a2 x h
      · exact c2 x h
    have hh : hit (la ++ l') = fun j => hit la j || hit lb j := by
      funext j
      rw [hit_strip lb l' hs']
      simp [hit]
    simp only [glue, say, List.nil_append]
    rw [final, hn]
    dsimp only
    rw [hh, lim_none _ 0 h4]
theorem joins_l0 (p q : Nat → Bool) (m1 m2 m3 : Int) : ∀ (i n : Nat), n + i = 1001 → Ev (fun k => gangerlaw06_IndexesJoins.l0 k (n : Int) (listOf p) m1 (listOf q) m2 (listOf fun j => p j || q j) m3) true
  | 0, n, h => by
    refine Ev.step (fun k => by rw [gangerlaw06_IndexesJoins.l0]) ?_
    refine ev_neg (by omega) ?_
    exact hk
  | i + 1, n, h => by
    refine Ev.step (fun k => by rw [gangerlaw06_IndexesJoins.l0]) ?_
    have l1 := listOf_len p
    have l2 := listOf_len q
    have l3 := listOf_len fun j => p j || q j
    have dm : ∀ P : Nat → Bool, decide ((n : Int) ∈ listOf P) = P n := by
      intro P
      cases hP : P n with
      | true => exact decide_eq_true ((mem_listOf P n).2 ⟨n, by omega, hP, rfl⟩)
      | false =>
        refine decide_eq_false fun hm => ?_
        obtain ⟨j, _, h2, h3⟩ := (mem_listOf P n).1 hm
        have : n = j := by omega
        subst this
        rw [hP] at h2; cases h2
    have h1 := has_eq (listOf p) m1 n (by omega)
    have h2 := has_eq (listOf q) m2 n (by omega)
    have h3 := has_eq (listOf fun j => p j || q j) m3 n (by omega)
    rw [dm] at h1 h2 h3
    have ih := joins_l0 p q m1 m2 m3 i (n + 1) (by omega)
    have hw : wrap64 ((n : Int) + 1) = ((n + 1 : Nat) : Int) := by rw [w64 (by omega)]; omega
    refine ev_pos (by omega) (Ev.bind h3 (Ev.bind h1 ?_))
    rw [hw]
    cases hp : p n with
    | true => exact ev_pos rfl (ev_neg (by simp) ih)
    | false => exact ev_neg (by simp) (Ev.bind h2 (ev_neg (by simp) ih))
theorem IndexesJoins : gangerlaw06_IndexesJoins.Pure := by
  intro a0 a1 _ _
  refine Ev.rounds ?_
  obtain ⟨a, rfl⟩ : ∃ s, a0 = mk s := ⟨_, mk_self a0⟩
  obtain ⟨b, rfl⟩ : ∃ s, a1 = mk s := ⟨_, mk_self a1⟩
  unfold gangerlaw06_IndexesJoins.f
  have out : Ev (fun k => gangerlaw06_IndexesJoins.j0 k (mk a) (mk b) true) true := by
    refine Ev.step (fun k => by rw [gangerlaw06_IndexesJoins.j0]) (ev_pos rfl ?_)
    exact hk
  have out1 : ∀ z1 z2 z3 z4, Ev (fun k => gangerlaw06_IndexesJoins.j1 k (mk a) (mk b) true z1 z2 z3 z4) true := by
    intro z1 z2 z3 z4
    refine Ev.step (fun k => by rw [gangerlaw06_IndexesJoins.j1]) (ev_pos rfl ?_)
    exact hk
  by_cases h : ((mk a).size : Int) > 300
  · exact ev_pos h out
  · refine ev_neg h ?_
    by_cases h6 : ((mk b).size : Int) > 300
    · rw [decide_eq_true h6]; exact out
    · rw [decide_eq_false h6]
      have ha : a.length ≤ 300 := by rw [mk_size] at h; omega
      have hb : b.length ≤ 300 := by rw [mk_size] at h6; omega
      refine Ev.step (fun k => by rw [gangerlaw06_IndexesJoins.j0]) (ev_neg (by simp) ?_)
      rw [parse_PR a (by omega), parse_PR b (by omega)]
      refine Ev.bind (Ev.now _) (Ev.bind (Ev.now _) ?_)
      by_cases e1 : (PR a).2.2.2 = 0
      · refine ev_pos e1 ?_
        by_cases e2 : (PR b).2.2.2 = 0
        · refine ev_pos e2 ?_
          by_cases m1 : (PR a).2.1 > 0
          · exact ev_pos m1 (out1 _ _ _ _)
          · refine ev_neg m1 ?_
            by_cases m2 : (PR b).2.1 > 0
            · rw [decide_eq_true m2]; exact out1 _ _ _ _
            · rw [decide_eq_false m2]
              obtain ⟨la, sa, a1, a2, pa⟩ := PR_items e1 m1
              obtain ⟨lb, sb, b1, b2, pb⟩ := PR_items e2 m2
              have zab := PR_join sa sb a1 a2 b1 b2
              have zba := PR_join sb sa b1 b2 a1 a2
              have ec : (fun j => hit lb j || hit la j) = fun j => hit la j || hit lb j := by funext j; rw [Bool.or_comm]
              rw [ec] at zba
              refine Ev.step (fun k => by rw [gangerlaw06_IndexesJoins.j1]) (ev_neg (by simp) ?_)
              have c1 : (mk a ++ (⟨#[44]⟩ : ByteArray)) ++ mk b = mk (a ++ 44 :: b) := by
                have : mk a ++ (⟨#[44]⟩ : ByteArray) = mk (a ++ [44]) := mk_append a [44]
                rw [this, mk_append]; simp
              have c2 : (mk b ++ (⟨#[44]⟩ : ByteArray)) ++ mk a = mk (b ++ 44 :: a) := by
                have : mk b ++ (⟨#[44]⟩ : ByteArray) = mk (b ++ [44]) := mk_append b [44]
                rw [this, mk_append]; simp
              have s1 : (mk a ++ (⟨#[44]⟩ : ByteArray)).size = a.length + 1 := by
                have : mk a ++ (⟨#[44]⟩ : ByteArray) = mk (a ++ [44]) := mk_append a [44]
                rw [this, mk_size]; simp
              have s2 : (mk b ++ (⟨#[44]⟩ : ByteArray)).size = b.length + 1 := by
                have : mk b ++ (⟨#[44]⟩ : ByteArray) = mk (b ++ [44]) := mk_append b [44]
                rw [this, mk_size]; simp
              rw [c1, c2, s1, s2, mk_size, mk_size, parse_PR (a ++ 44 :: b) (by simp; omega), parse_PR (b ++ 44 :: a) (by simp; omega), zab, zba, pa, pb]
              have hl := listOf_len fun j => hit la j || hit lb j
              refine ev_pos (by omega) (ev_pos (by omega) (Ev.bind (Ev.now _) ?_))
              refine ev_pos (by omega) (ev_pos (by omega) (Ev.bind (Ev.now _) ?_))
              dsimp only
              refine ev_pos rfl (ev_pos rfl (Ev.bind (same_refl _ _ (by omega)) ?_))
              refine Ev.step (fun k => by rw [gangerlaw06_IndexesJoins.j2]) (ev_neg (by simp) ?_)
              exact joins_l0 (hit la) (hit lb) 0 0 0 1001 0 (by omega)
        · exact ev_neg e2 (out1 _ _ _ _)
      · exact ev_neg e1 (out1 _ _ _ _)
end Go.Proofs.YtpkococfmohmiaaDoor.Pure
