/- Sums without a bound, and what they come to. -/
import Derived.Test.YtfccdngejfnmkaaDoorShrParts
import Derived.Test.YtfccdngejfnmkaaDoorP0
namespace Go.Proofs.YtfccdngejfnmkaaDoor.Shr
open Go.RowKit Go.Proofs.YtfccdngejfnmkaaDoorW.PrintWords Go.Proofs.YtfccdngejfnmkaaDoorW.PrintLast Go.Proofs.YtfccdngejfnmkaaDoorW.PrintMore Go.Proofs.YtfccdngejfnmkaaDoor.P Go.Proofs.YtfccdngejfnmkaaDoor.NumM
set_option linter.unusedVariables false
set_option linter.unusedSimpArgs false
/-- the children's part -/
def cs (i : Int) : List Int → List Int → Int
  | v :: us, o :: os => (if v = i then o else 0) + cs i us os
  | _, _ => 0
def smE (us : List Int) : List Int → Nat → List Int
  | [], _ => []
  | o :: os, i => (o + cs (i : Int) (us.drop (i + 1)) (smE us os (i + 1))) :: smE us os (i + 1)
def N0 (l : List Int) : Prop := ∀ x ∈ l, 0 ≤ x
theorem cs_nn (i : Int) : ∀ (us os : List Int), N0 os → 0 ≤ cs i us os
  | [], os, h => by simp [cs]
  | v :: us, [], h => by simp [cs]
  | v :: us, o :: os, h => by
    have h0 := h o (List.mem_cons_self ..)
    have ih := cs_nn i us os (fun x hx => h x (List.mem_cons_of_mem _ hx))
    rw [cs]
    split <;> omega
theorem smE_nn (us : List Int) : ∀ (os : List Int) (i : Nat), N0 os → N0 (smE us os i)
  | [], i, h => by intro x hx; cases hx
  | o :: os, i, h => by
    have ih := smE_nn us os (i + 1) (fun x hx => h x (List.mem_cons_of_mem _ hx))
    have h0 := h o (List.mem_cons_self ..)
    have := cs_nn (i : Int) (us.drop (i + 1)) _ ih
    intro x hx
    rw [smE] at hx
    rcases List.mem_cons.1 hx with e | e
    · omega
    · exact ih x e
theorem cut_add {a b : Int} (ha : 0 ≤ a) (hb : 0 ≤ b) : cutoff (cutoff a + cutoff b) = cutoff (a + b) := by
  unfold cutoff
  repeat' split
  all_goals omega
theorem inn_cut (i : Int) : ∀ (us os : List Int) (a : Int), N0 os → 0 ≤ a → inn i us (os.map cutoff) (cutoff a) = cutoff (a + cs i us os)
  | [], os, a, h, ha => by simp [inn, cs]
  | v :: us, [], a, h, ha => by simp [inn, cs]
  | v :: us, o :: os, a, h, ha => by
    have h0 := h o (List.mem_cons_self ..)
    have hr : N0 os := fun x hx => h x (List.mem_cons_of_mem _ hx)
    rw [List.map_cons, inn, cs]
    by_cases e : v = i
    · rw [if_pos e, if_pos e, cut_add ha h0, inn_cut i us os (a + o) hr (by omega), Int.add_assoc]
    · rw [if_neg e, if_neg e, inn_cut i us os a hr ha, Int.zero_add]
theorem cut_id {a : Int} (h : 0 ≤ a ∧ a ≤ 9223372036854775807) : cutoff a = a := by
  unfold cutoff; rw [if_neg (by omega), if_neg (by omega)]
theorem sm_cut (us : List Int) : ∀ (os : List Int) (i : Nat), NN os → sm us os i = (smE us os i).map cutoff
  | [], i, h => rfl
  | o :: os, i, h => by
    have hr : NN os := fun x hx => h x (List.mem_cons_of_mem _ hx)
    have h0 := h o (List.mem_cons_self ..)
    have ih := sm_cut us os (i + 1) hr
    have hE := smE_nn us os (i + 1) (fun x hx => (hr x hx).1)
    rw [sm, smE, List.map_cons, ih]
    congr 1
    have := inn_cut (i : Int) (us.drop (i + 1)) (smE us os (i + 1)) o hE h0.1
    rw [cut_id h0] at this
    exact this
/-- those whose parents stand ahead of a place -/
def rootSum (t : Int) : List Int → List Int → Int
  | v :: us, o :: os => (if v < t then o else 0) + rootSum t us os
  | _, _ => 0
theorem root_split (t : Int) : ∀ (us os : List Int), rootSum (t + 1) us os = rootSum t us os + cs t us os
  | [], os => by simp [rootSum, cs]
  | v :: us, [] => by simp [rootSum, cs]
  | v :: us, o :: os => by
    rw [rootSum, rootSum, cs, root_split t us os]
    by_cases h1 : v < t
    · rw [if_pos (by omega), if_pos h1, if_neg (by omega)]; omega
    · by_cases h2 : v = t
      · rw [if_pos (by omega), if_neg h1, if_pos h2]; omega
      · rw [if_neg (by omega), if_neg h1, if_neg h2]; omega
/-- in a tree the roots together have all -/
theorem roots_all (us : List Int) (hup : ∀ (j : Nat) (u : Int), us[j]? = some u → u < (j : Int)) : ∀ (os : List Int) (i : Nat), i + os.length = us.length → rootSum (i : Int) (us.drop i) (smE us os i) = os.sum
  | [], i, h => by
    rw [smE]
    cases us.drop i <;> simp [rootSum]
  | o :: os, i, h => by
    simp only [List.length_cons] at h
    have hi : i < us.length := by omega
    have ih := roots_all us hup os (i + 1) (by omega)
    have hu := hup i us[i] (List.getElem?_eq_getElem hi)
    have e : ((i + 1 : Nat) : Int) = (i : Int) + 1 := by omega
    rw [e, root_split] at ih
    rw [List.drop_eq_getElem_cons hi, smE, rootSum, if_pos hu, List.sum_cons]
    omega
theorem root_zero : ∀ (us os : List Int), (∀ u ∈ us, 0 ≤ u) → rootSum 0 us os = 0
  | [], os, h => by simp [rootSum]
  | v :: us, [], h => by simp [rootSum]
  | v :: us, o :: os, h => by
    have := h v (List.mem_cons_self ..)
    rw [rootSum, if_neg (by omega), root_zero us os (fun x hx => h x (List.mem_cons_of_mem _ hx))]; rfl
theorem ups_up {l : List S37} (h : TOK l = true) : ∀ (j : Nat) (u : Int), (ups l)[j]? = some u → u < (j : Int) ∧ (0 < j → 0 ≤ u) := by
  intro j u hu
  have hj : j < l.length := by
    rw [← ups_len h]
    rcases Nat.lt_or_ge j (ups l).length with q | q
    · exact q
    · rw [List.getElem?_eq_none q] at hu; cases hu
  obtain ⟨v, g1, g2, g3⟩ := ups_at h j l[j] (List.getElem?_eq_getElem hj)
  rw [hu] at g1
  obtain rfl := Option.some.inj g1
  rcases Nat.eq_zero_or_pos j with q | q
  · have := g2 q
    exact ⟨by omega, fun w => by omega⟩
  · obtain ⟨i, b, k1, k2, _⟩ := g3 q
    exact ⟨by omega, fun _ => by omega⟩
/-- the first one's sum is everybody's -/
theorem first_all {l : List S37} {own : List Int} (h : TOK l = true) (how : own.length = l.length) : ∃ e r, smE (ups l) own 0 = e :: r ∧ e = own.sum := by
  have hl := (tok_parts h).2.1
  cases own with
  | nil => simp at how; omega
  | cons o os =>
    refine ⟨_, _, rfl, ?_⟩
    have hR := roots_all (ups l) (fun j u hu => (ups_up h j u hu).1) (o :: os) 0 (by rw [ups_len h]; omega)
    have hul := ups_len h
    have hne : 0 < (ups l).length := by omega
    rw [List.drop_zero] at hR
    have hd : ups l = (ups l)[0] :: (ups l).drop 1 := by
      have := List.drop_eq_getElem_cons hne
      rwa [List.drop_zero] at this
    have hu0 := (ups_up h 0 _ (List.getElem?_eq_getElem hne)).1
    have hz : rootSum ((0 : Nat) : Int) ((ups l).drop 1) (smE (ups l) os (0 + 1)) = 0 := by
      refine root_zero _ _ (fun u hu => ?_)
      obtain ⟨j, hj⟩ := List.mem_iff_getElem?.1 hu
      rw [List.getElem?_drop] at hj
      exact (ups_up h (1 + j) u hj).2 (by omega)
    have key : rootSum ((0 : Nat) : Int) (ups l) (smE (ups l) (o :: os) 0) = (o + cs ((0 : Nat) : Int) ((ups l).drop (0 + 1)) (smE (ups l) os (0 + 1))) + rootSum ((0 : Nat) : Int) ((ups l).drop 1) (smE (ups l) os (0 + 1)) := by
      rw [smE]
      conv => lhs; rw [hd]
      rw [rootSum, if_pos hu0, ← hd]
    rw [key, hz] at hR
    omega
theorem smE_drop (us : List Int) : ∀ (t : Nat) (os : List Int) (i : Nat), (smE us os i).drop t = smE us (os.drop t) (i + t)
  | 0, os, i => by simp
  | t + 1, [], i => by simp [smE]
  | t + 1, o :: os, i => by
    rw [smE, List.drop_succ_cons, List.drop_succ_cons, smE_drop us t os (i + 1), show i + 1 + t = i + (t + 1) by omega]
theorem smE_at (us own : List Int) (i : Nat) (h : i < own.length) : (smE us own 0)[i]? = some (own[i] + cs (i : Int) (us.drop (i + 1)) (smE us (own.drop (i + 1)) (i + 1))) := by
  have hd := smE_drop us i own 0
  rw [Nat.zero_add, List.drop_eq_getElem_cons h, smE] at hd
  have : ((smE us own 0).drop i)[0]? = (smE us own 0)[i]? := by rw [List.getElem?_drop]; simp
  rw [← this, hd]; rfl
/-- one's own more is one's sum more -/
theorem smE_more (us own : List Int) (k : Nat) (h : k < own.length) (d : Int) : ∃ e, (smE us own 0)[k]? = some e ∧ (smE us (own.set k (own[k] + d)) 0)[k]? = some (e + d) := by
  refine ⟨_, smE_at us own k h, ?_⟩
  rw [smE_at us (own.set k (own[k] + d)) k (by simpa using h)]
  rw [List.getElem_set_self, List.drop_set_of_lt (by omega)]
  congr 1
  omega
theorem sum_set : ∀ (l : List Int) (k : Nat) (h : k < l.length) (d : Int), (l.set k (l[k] + d)).sum = l.sum + d
  | x :: l, 0, h, d => by simp; omega
  | x :: l, k + 1, h, d => by
    have := sum_set l k (by simpa using h) d
    simp only [List.set_cons_succ, List.sum_cons, List.getElem_cons_succ]
    omega
theorem get_of {l : List Int} {i : Nat} (h : i < l.length) : l[i]? = some (rd l (i : Int)) := by
  have := rd_in (l := l) (u := (i : Int)) (by omega) (by omega)
  rwa [Int.toNat_natCast] at this
theorem rd_map_cut {l : List Int} {i : Nat} (h : i < l.length) : rd (l.map cutoff) (i : Int) = cutoff (rd l (i : Int)) := by
  refine rd_get? ?_
  rw [List.getElem?_map, get_of h]; rfl
theorem cut_low {e b : Int} (h0 : 0 ≤ e) (h : cutoff e ≤ b) (hb : b < 9223372036854775807) : cutoff e = e := by
  unfold cutoff at h ⊢
  split
  · omega
  · split
    · rename_i q1 q2; rw [if_neg q1, if_pos q2] at h; omega
    · rfl
theorem smE_len (us : List Int) : ∀ (os : List Int) (i : Nat), (smE us os i).length = os.length
  | [], i => rfl
  | o :: os, i => by rw [smE, List.length_cons, List.length_cons, smE_len us os (i + 1)]
theorem mem_le_sum : ∀ (l : List Int), N0 l → ∀ x ∈ l, x ≤ l.sum
  | [], h, x, hx => by cases hx
  | a :: l, h, x, hx => by
    have ha := h a (List.mem_cons_self ..)
    have hr : N0 l := fun y hy => h y (List.mem_cons_of_mem _ hy)
    have hs : 0 ≤ l.sum := by
      cases l with
      | nil => simp
      | cons b l => exact Int.le_trans (hr b (List.mem_cons_self ..)) (mem_le_sum (b :: l) hr b (List.mem_cons_self ..))
    rw [List.sum_cons]
    rcases List.mem_cons.1 hx with e | e
    · omega
    · have := mem_le_sum l hr x e; omega
/-- one has used more: one's sum, and the first one's, are as much more -/
theorem more_sums {l : List S37} {own : List Int} (h : OOK l own) (k : Nat) (hk : k < own.length) (d : Int) (hd : 0 ≤ d ∧ d ≤ 65535) (h0 : rd (sums l own) 0 ≤ 1000000000000) :
    0 ≤ own[k] ∧ own[k] ≤ 1000000000000 ∧ OOK l (own.set k (own[k] + d)) ∧ rd (sums l (own.set k (own[k] + d))) 0 = rd (sums l own) 0 + d ∧ rd (sums l (own.set k (own[k] + d))) (k : Int) = rd (sums l own) (k : Int) + d := by
  obtain ⟨h1, h2, h3⟩ := h
  have hN : N0 own := fun x hx => (h3 x hx).1
  have hn := (tok_parts h1).2.1
  obtain ⟨f1, f2, f3, f4⟩ := sums_facts ⟨h1, h2, h3⟩
  have hz : ((0 : Nat) : Int) = 0 := rfl
  have hE := smE_nn (ups l) own 0 hN
  have hEl := smE_len (ups l) own 0
  have eqs : sums l own = (smE (ups l) own 0).map cutoff := sm_cut (ups l) own 0 h3
  obtain ⟨e, r, he, hes⟩ := first_all h1 h2
  have he0 : rd (smE (ups l) own 0) ((0 : Nat) : Int) = own.sum := by rw [he, ← hes]; rfl
  have w0 : rd (sums l own) 0 = cutoff own.sum := by
    rw [eqs, ← hz, rd_map_cut (by omega), he0]
  have hs0 : 0 ≤ own.sum := by
    have := mem_le_sum own hN _ (List.getElem_mem hk)
    have := hN _ (List.getElem_mem hk)
    omega
  have w0' : rd (sums l own) 0 = own.sum := by rw [w0]; rw [w0] at h0; exact cut_low hs0 h0 (by omega)
  have hk0 := hN _ (List.getElem_mem hk)
  have hk1 := mem_le_sum own hN _ (List.getElem_mem hk)
  obtain ⟨ek, g1, g2⟩ := smE_more (ups l) own k hk d
  have hek : rd (smE (ups l) own 0) (k : Int) = ek := rd_get? g1
  have hek0 : 0 ≤ ek := hE _ (List.mem_of_getElem? g1)
  have wk : rd (sums l own) (k : Int) = cutoff ek := by rw [eqs, rd_map_cut (by omega), hek]
  have hle := sums_first ⟨h1, h2, h3⟩ (get_of (i := 0) (by omega)) k _ (get_of (i := k) (by omega))
  rw [hz, wk] at hle
  have wk' : rd (sums l own) (k : Int) = ek := by rw [wk]; exact cut_low hek0 (Int.le_trans hle h0) (by omega)
  have hcek : cutoff ek = ek := by rw [← wk]; exact wk'
  have ho' : OOK l (own.set k (own[k] + d)) := by
    refine ⟨h1, by rw [List.length_set]; exact h2, fun x hx => ?_⟩
    rcases List.mem_or_eq_of_mem_set hx with q | q
    · exact h3 x q
    · omega
  have eqs' : sums l (own.set k (own[k] + d)) = (smE (ups l) (own.set k (own[k] + d)) 0).map cutoff := sm_cut (ups l) _ 0 ho'.2.2
  have hEl' := smE_len (ups l) (own.set k (own[k] + d)) 0
  rw [List.length_set] at hEl'
  obtain ⟨e', r', he', hes'⟩ := first_all h1 ho'.2.1
  rw [sum_set own k hk d] at hes'
  have he0' : rd (smE (ups l) (own.set k (own[k] + d)) 0) ((0 : Nat) : Int) = own.sum + d := by rw [he', ← hes']; rfl
  refine ⟨hk0, by omega, ho', ?_, ?_⟩
  · rw [eqs', ← hz, rd_map_cut (by omega), he0', hz, w0', cut_id (by omega)]
  · rw [eqs', rd_map_cut (by omega), rd_get? g2, wk', cut_id (by omega)]
theorem part_more {w0 n d : Int} (h0 : 0 ≤ n) (h1 : n ≤ w0) (hd : 0 ≤ d) : partOf w0 n ≤ partOf (w0 + d) (n + d) := by
  unfold partOf
  by_cases q : 0 < w0
  · rw [if_pos q, if_pos (by omega)]
    have a1 : n * 65536 / w0 * w0 ≤ n * 65536 := Int.ediv_mul_le _ (by omega)
    have a2 : n * 65536 / w0 ≤ 65536 := Int.ediv_le_of_le_mul q (by omega)
    have a3 : n * 65536 / w0 * d ≤ 65536 * d := Int.mul_le_mul_of_nonneg_right a2 hd
    refine Int.le_ediv_of_mul_le (by omega) ?_
    rw [Int.mul_add]
    omega
  · rw [if_neg q]
    split
    · exact Int.ediv_nonneg (by omega) (by omega)
    · omega
theorem fac_less {n p p' : Int} (hn : 0 ≤ n) (hp : 0 ≤ p) (hle : p ≤ p') : fac n p' ≤ fac n p := by
  unfold fac
  by_cases q : 0 < n + p
  · rw [if_pos q, if_pos (by omega)]
    refine Int.le_ediv_of_mul_le q ?_
    have b0 : 0 ≤ 65536 * n / (n + p') := Int.ediv_nonneg (by omega) (by omega)
    exact Int.le_trans (Int.mul_le_mul_of_nonneg_left (by omega) b0) (Int.ediv_mul_le _ (by omega))
  · obtain rfl : n = 0 := by omega
    rw [if_neg q]
    split
    · rw [Int.mul_zero, Int.zero_ediv]; omega
    · omega
theorem fac_unit {n p : Int} (hn : 0 ≤ n) (hp : 0 ≤ p) : 0 ≤ fac n p ∧ fac n p ≤ 65536 := by
  unfold fac
  split
  · exact ⟨Int.ediv_nonneg (by omega) (by omega), Int.ediv_le_of_le_mul (by omega) (by rw [Int.mul_add]; omega)⟩
  · omega
theorem fac_nought {n w0 : Int} (hn : 0 < n) : fac n (partOf w0 0) = 65536 := by
  have : partOf w0 0 = 0 := by
    unfold partOf
    split
    · rw [Int.zero_mul, Int.zero_ediv]
    · rfl
  rw [this]
  unfold fac
  rw [if_pos (by omega), Int.add_zero, Int.mul_ediv_cancel _ (by omega)]
theorem fac_at {l : List S37} {own : List Int} (h : OOK l own) {i : Nat} (hi : i < l.length) : rd (factors l own) (i : Int) = fac (rd (norms l) i) (partOf (rd (sums l own) 0) (rd (sums l own) i)) := by
  obtain ⟨n1, n2, n3, n4⟩ := norms_facts h.1
  obtain ⟨f1, f2, f3, f4⟩ := sums_facts h
  have hn := get_of (l := norms l) (i := i) (by omega)
  have hw := get_of (l := sums l own) (i := i) (by omega)
  have hp : (parts (sums l own))[i]? = some (partOf (rd (sums l own) 0) (rd (sums l own) i)) := by unfold parts; rw [List.getElem?_map, hw]; rfl
  exact rd_get? (facs_at _ _ i _ _ hn hp)
theorem fac_len {l : List S37} {own : List Int} (h : OOK l own) : (factors l own).length = l.length := by
  unfold factors
  rw [facs_len _ _ (by rw [(norms_facts h.1).1, (parts_unit h).1]), (norms_facts h.1).1]
end Go.Proofs.YtfccdngejfnmkaaDoor.Shr
