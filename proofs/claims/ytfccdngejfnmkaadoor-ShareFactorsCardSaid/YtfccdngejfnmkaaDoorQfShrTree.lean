/- cut to what one law reaches -/
import Derived.Test.YtfccdngejfnmkaaDoorQfShrBase
import Derived.Test.YtfccdngejfnmkaaDoorQfP0
import Derived.Test.YtfccdngejfnmkaaDoorQfP1
import Derived.Test.YtfccdngejfnmkaaDoorQfP3
namespace Go.Proofs.YtfccdngejfnmkaaDoor.Shr
open Go.RowKit Go.Proofs.YtfccdngejfnmkaaDoorW.PrintWords Go.Proofs.YtfccdngejfnmkaaDoorW.PrintLast Go.Proofs.YtfccdngejfnmkaaDoorW.PrintMore Go.Proofs.YtfccdngejfnmkaaDoor.P Go.Proofs.YtfccdngejfnmkaaDoor.NumM
set_option linter.unusedVariables false
set_option linter.unusedSimpArgs false
theorem tl (s : ByteArray) : s.toList = s.data.toList := ByteArray.toList_eq ..
theorem hasT_iff (l : List ByteArray) (a : ByteArray) : hasT l a = true ↔ ∃ x ∈ l, a.data.toList = x.data.toList := by
  unfold hasT
  rw [List.any_eq_true]
  constructor
  · rintro ⟨x, hx, h⟩
    refine ⟨x, hx, ?_⟩
    have := of_decide_eq_true h
    rwa [tl, tl] at this
  · rintro ⟨x, hx, h⟩
    exact ⟨x, hx, decide_eq_true (by rw [tl, tl]; exact h)⟩
theorem nameOk_ne {s : ByteArray} (h : NameOk s = true) : s.data.toList ≠ [] := by
  intro e
  have hs : s.size = 0 := by
    show s.data.size = 0
    rw [← Array.length_toList, e]; rfl
  unfold NameOk at h
  rw [hs, nameAt, if_neg (by omega), tl, e] at h
  simp at h
/-- what is known of the places of names behind p -/
def Mem (p : List S37) (m : List (List UInt8 × Int)) : Prop := lk m [] = -1 ∧ ∀ (j : Nat) (b : S37), p[j]? = some b → lk m b.f0.data.toList = (j : Int)
theorem plc_tree : ∀ (s p : List S37) (m : List (List UInt8 × Int)), accOk p s = true → namesOk (p.map (·.f0)) (s.map (·.f0)) = true → Mem p m →
    (plc s p.length m).length = s.length ∧ ∀ i a, s[i]? = some a → ∃ u, (plc s p.length m)[i]? = some u ∧ (p.length + i = 0 → u = -1) ∧ (0 < p.length + i → ∃ (j : Nat) (b : S37), u = (j : Int) ∧ j < p.length + i ∧ (p ++ s)[j]? = some b ∧ a.f1.data.toList = b.f0.data.toList)
  | [], p, m, _, _, _ => ⟨rfl, fun i a h => by simp at h⟩
  | a :: s, p, m, hA, hN, hM => by
    rw [accOk] at hA
    simp only [Bool.and_eq_true] at hA
    obtain ⟨⟨⟨hb, he⟩, hp⟩, hA⟩ := hA
    rw [List.map_cons, namesOk] at hN
    simp only [Bool.and_eq_true] at hN
    obtain ⟨⟨hn, hd⟩, hN⟩ := hN
    have hne := nameOk_ne hn
    have hM2 : Mem (p ++ [a]) ((a.f0.data.toList, (p.length : Int)) :: m) := by
      refine ⟨by rw [lk, if_neg hne]; exact hM.1, fun j b hj => ?_⟩
      by_cases hlt : j < p.length
      · rw [List.getElem?_append_left hlt] at hj
        have hne2 : a.f0.data.toList ≠ b.f0.data.toList := by
          intro e
          have : hasT (p.map (·.f0)) a.f0 = true := (hasT_iff _ _).2 ⟨b.f0, List.mem_map_of_mem (List.mem_of_getElem? hj), e⟩
          rw [this] at hd; cases hd
        rw [lk, if_neg hne2]
        exact hM.2 j b hj
      · rw [List.getElem?_append_right (by omega)] at hj
        have hj0 : j - p.length = 0 := by
          rcases Nat.eq_zero_or_pos (j - p.length) with h | h
          · exact h
          · rw [List.getElem?_eq_none (by simp; omega)] at hj; cases hj
        rw [hj0] at hj
        simp at hj
        subst hj
        rw [lk, if_pos rfl]
        omega
    have hN' : namesOk ((p ++ [a]).map (·.f0)) (s.map (·.f0)) = true := by simpa using hN
    have ih := plc_tree s (p ++ [a]) _ hA hN' hM2
    have hlen : (p ++ [a]).length = p.length + 1 := by simp
    rw [hlen] at ih
    refine ⟨by rw [plc, List.length_cons, List.length_cons, ih.1], fun i x hx => ?_⟩
    rw [plc]
    cases i with
    | zero =>
      simp only [List.getElem?_cons_zero, Option.some.injEq] at hx
      subst hx
      refine ⟨_, rfl, fun h0 => ?_, fun h0 => ?_⟩
      · have hp0 : p.length = 0 := by omega
        rw [hp0] at he
        have : a.f1.toList = [] := by
          cases q : a.f1.toList with
          | nil => rfl
          | cons _ _ => rw [q] at he; simp at he
        rw [tl] at this
        rw [this]; exact hM.1
      · have hpe : p.isEmpty = false := by cases p with
          | nil => simp at h0
          | cons _ _ => rfl
        rw [hpe, Bool.false_or] at hp
        obtain ⟨y, hy, e⟩ := (hasT_iff _ _).1 hp
        obtain ⟨b, hb2, rfl⟩ := List.mem_map.1 hy
        obtain ⟨j, hj⟩ := List.mem_iff_getElem?.1 hb2
        have hjl : j < p.length := by
          rcases Nat.lt_or_ge j p.length with h | h
          · exact h
          · rw [List.getElem?_eq_none h] at hj; cases hj
        refine ⟨j, b, ?_, by omega, ?_, e⟩
        · rw [e]; exact hM.2 j b hj
        · rw [List.getElem?_append_left hjl]; exact hj
    | succ i =>
      rw [List.getElem?_cons_succ] at hx ⊢
      obtain ⟨u, h1, h2, h3⟩ := ih.2 i x hx
      refine ⟨u, h1, fun q => by omega, fun _ => ?_⟩
      obtain ⟨j, b, g1, g2, g3, g4⟩ := h3 (by omega)
      exact ⟨j, b, g1, by omega, by simpa using g3, g4⟩
theorem mem0 : Mem [] [([], -1)] := ⟨rfl, fun j b hj => by simp at hj⟩
/-- each account's parent's place -/
def ups (l : List S37) : List Int := plc l 0 [([], -1)]
theorem tok_parts {l : List S37} (h : TOK l = true) : accOk [] l = true ∧ (1 ≤ l.length ∧ l.length ≤ 50) ∧ namesOk [] (l.map (·.f0)) = true := by
  unfold TOK at h
  simp only [Bool.and_eq_true] at h
  refine ⟨h.1.1, ?_, h.2⟩
  have := h.1.2
  unfold inB at this
  simp at this
  omega
theorem ups_len {l : List S37} (h : TOK l = true) : (ups l).length = l.length := (plc_tree l [] _ (tok_parts h).1 (tok_parts h).2.2 mem0).1
theorem ups_at {l : List S37} (h : TOK l = true) (i : Nat) (a : S37) (ha : l[i]? = some a) : ∃ u, (ups l)[i]? = some u ∧ (i = 0 → u = -1) ∧ (0 < i → ∃ (j : Nat) (b : S37), u = (j : Int) ∧ j < i ∧ l[j]? = some b ∧ a.f1.data.toList = b.f0.data.toList) := by
  obtain ⟨u, h1, h2, h3⟩ := (plc_tree l [] _ (tok_parts h).1 (tok_parts h).2.2 mem0).2 i a ha
  refine ⟨u, h1, fun q => h2 (by simpa using q), fun q => ?_⟩
  obtain ⟨j, b, g1, g2, g3, g4⟩ := h3 (by simpa using q)
  exact ⟨j, b, g1, by simpa using g2, by simpa using g3, g4⟩
theorem acc_shares : ∀ (s p : List S37), accOk p s = true → ∀ a ∈ s, 1 ≤ a.f2 ∧ a.f2 ≤ 1048576
  | [], p, _, a, ha => by cases ha
  | x :: s, p, h, a, ha => by
    rw [accOk] at h
    simp only [Bool.and_eq_true] at h
    rcases List.mem_cons.1 ha with e | e
    · subst e
      have := h.1.1.1
      unfold inB at this
      simp at this
      exact this
    · exact acc_shares s _ h.2 a e
theorem shares {l : List S37} (h : TOK l = true) : ∀ a ∈ l, 1 ≤ a.f2 ∧ a.f2 ≤ 1048576 := acc_shares l [] (tok_parts h).1
theorem names_apart : ∀ (s p : List ByteArray), namesOk p s = true → ∀ (i j : Nat) (a b : ByteArray), s[i]? = some a → s[j]? = some b → i < j → a.data.toList ≠ b.data.toList
  | [], p, _, i, j, a, b, hi, _, _ => by simp at hi
  | x :: s, p, h, i, j, a, b, hi, hj, hlt => by
    rw [namesOk] at h
    simp only [Bool.and_eq_true] at h
    obtain ⟨j, rfl⟩ : ∃ q, j = q + 1 := ⟨j - 1, by omega⟩
    rw [List.getElem?_cons_succ] at hj
    cases i with
    | zero =>
      simp only [List.getElem?_cons_zero, Option.some.injEq] at hi
      subst hi
      intro e
      -- b stands behind x: its own test has x ahead of it
      have key : ∀ (s p : List ByteArray), namesOk p s = true → x ∈ p → ∀ y ∈ s, x.data.toList ≠ y.data.toList := by
        intro s
        induction s with
        | nil => intro p _ _ y hy; cases hy
        | cons z s ih =>
          intro p hp hx y hy
          rw [namesOk] at hp
          simp only [Bool.and_eq_true] at hp
          rcases List.mem_cons.1 hy with q | q
          · subst q
            intro e2
            have : hasT p y = true := (hasT_iff _ _).2 ⟨x, hx, e2.symm⟩
            have h3 := hp.1.2
            rw [this] at h3; cases h3
          · exact ih (p ++ [z]) hp.2 (List.mem_append_left _ hx) y q
      exact key s (p ++ [x]) h.2 (by simp) b (List.mem_of_getElem? hj) e
    | succ i =>
      rw [List.getElem?_cons_succ] at hi
      exact names_apart s (p ++ [x]) h.2 i j a b hi hj (by omega)
theorem names_inj {l : List S37} (h : TOK l = true) {i j : Nat} {a b : S37} (hi : l[i]? = some a) (hj : l[j]? = some b) (e : a.f0.data.toList = b.f0.data.toList) : i = j := by
  have key := names_apart (l.map (·.f0)) [] (tok_parts h).2.2
  have gi : (l.map (·.f0))[i]? = some a.f0 := by rw [List.getElem?_map, hi]; rfl
  have gj : (l.map (·.f0))[j]? = some b.f0 := by rw [List.getElem?_map, hj]; rfl
  rcases Nat.lt_trichotomy i j with q | q | q
  · exact absurd e (key i j _ _ gi gj q)
  · exact q
  · exact absurd e.symm (key j i _ _ gj gi q)
/-- whose child an account is, is told by its parent's name -/
theorem child_iff {l : List S37} (h : TOK l = true) {i j : Nat} {a b : S37} (hi : l[i]? = some a) (hj : l[j]? = some b) : (ups l)[j]? = some (i : Int) ↔ b.f1.data.toList = a.f0.data.toList := by
  obtain ⟨u, hu, h0, h1⟩ := ups_at h j b hj
  constructor
  · intro e
    rw [hu] at e
    obtain rfl := Option.some.inj e
    have hj0 : 0 < j := by
      rcases Nat.eq_zero_or_pos j with q | q
      · have := h0 q; omega
      · exact q
    obtain ⟨j', b', g1, g2, g3, g4⟩ := h1 hj0
    have : j' = i := by omega
    subst this
    rw [hi] at g3
    rw [g4, Option.some.inj g3]
  · intro e
    rcases Nat.eq_zero_or_pos j with q | q
    · exfalso
      have ha : NameOk a.f0 = true := by
        have hmem : a.f0 ∈ l.map (·.f0) := List.mem_map_of_mem (List.mem_of_getElem? hi)
        have key : ∀ (s p : List ByteArray), namesOk p s = true → ∀ y ∈ s, NameOk y = true := by
          intro s
          induction s with
          | nil => intro p _ y hy; cases hy
          | cons z s ih =>
            intro p hp y hy
            rw [namesOk] at hp
            simp only [Bool.and_eq_true] at hp
            rcases List.mem_cons.1 hy with q | q
            · subst q; exact hp.1.1
            · exact ih _ hp.2 y q
        exact key _ [] (tok_parts h).2.2 _ hmem
      subst q
      have hb : b.f1.toList = [] := by
        have hA := (tok_parts h).1
        cases l with
        | nil => simp at hj
        | cons x s =>
          simp only [List.getElem?_cons_zero, Option.some.injEq] at hj
          subst hj
          rw [accOk] at hA
          simp only [Bool.and_eq_true] at hA
          have he := hA.1.1.2
          cases q : x.f1.toList with
          | nil => rfl
          | cons _ _ => rw [q] at he; simp at he
      rw [tl] at hb
      exact nameOk_ne ha (by rw [← e]; exact hb)
    · obtain ⟨j', b', g1, g2, g3, g4⟩ := h1 q
      have : j' = i := names_inj h g3 hi (by rw [← g4]; exact e)
      subst this
      rw [hu, g1]
theorem places_f {l : List S37} (hs : ∀ x ∈ l, x.f0.size ≤ 300 ∧ x.f1.size ≤ 300) (hl : l.length ≤ 60) : share_places.f l = some (ups l) := by
  unfold share_places.f
  rw [if_pos ⟨by omega, fun a ha => by have := hs a ha; omega⟩]; rfl
end Go.Proofs.YtfccdngejfnmkaaDoor.Shr
