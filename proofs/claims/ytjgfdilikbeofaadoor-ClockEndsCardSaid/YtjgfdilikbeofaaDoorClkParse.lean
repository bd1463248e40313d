/- What the program reads out of a text is what the text's parts and signs say. -/
import Derived.Test.YtjgfdilikbeofaaDoorClkToks
import Derived.Test.YtjgfdilikbeofaaDoorP0
import Derived.Test.YtjgfdilikbeofaaDoorP1
import Derived.Test.YtjgfdilikbeofaaDoorP2
import Derived.Test.YtjgfdilikbeofaaDoorP4
namespace Go.Proofs.YtjgfdilikbeofaaDoor.Clk
open Go.RowKit Go.Proofs.YtjgfdilikbeofaaDoorW.PrintWords Go.Proofs.YtjgfdilikbeofaaDoorW.PrintLast Go.Proofs.YtjgfdilikbeofaaDoorW.PrintMore Go.Proofs.YtjgfdilikbeofaaDoor.P
set_option linter.unusedVariables false
set_option linter.unusedSimpArgs false
/-! ### one sign -/
theorem idx_none (c : UInt8) : ∀ l : List UInt8, c ∉ l → Lib.index l [c] = -1
  | [], _ => rfl
  | b :: l, h => by
    have hb : ¬ c = b := fun e => h (by simp [e])
    have hl := idx_none c l (fun e => h (by simp [e]))
    unfold Lib.index
    simp [hb, hl]
theorem idx_at (c : UInt8) (r : List UInt8) : ∀ d : List UInt8, c ∉ d → Lib.index (d ++ c :: r) [c] = d.length
  | [], _ => by simp [Lib.index]
  | b :: l, h => by
    have hb : ¬ c = b := fun e => h (by simp [e])
    have hl := idx_at c r l (fun e => h (by simp [e]))
    rw [List.cons_append, Lib.index, hl]
    simp [hb]
    try omega
def sp (c : UInt8) : List UInt8 → List (List UInt8)
  | [] => [[]]
  | b :: r => if b = c then [] :: sp c r else hdc b (sp c r)
theorem sp_none (c : UInt8) : ∀ l : List UInt8, c ∉ l → sp c l = [l]
  | [], _ => rfl
  | b :: l, h => by
    have hb : ¬ b = c := fun e => h (by simp [e])
    rw [sp, if_neg hb, sp_none c l (fun e => h (by simp [e]))]; rfl
theorem sp_at (c : UInt8) (r : List UInt8) : ∀ d : List UInt8, c ∉ d → sp c (d ++ c :: r) = d :: sp c r
  | [], _ => by simp [sp]
  | b :: l, h => by
    have hb : ¬ b = c := fun e => h (by simp [e])
    rw [List.cons_append, sp, if_neg hb, sp_at c r l (fun e => h (by simp [e]))]; rfl
theorem split_sp (c : UInt8) : ∀ (n : Nat) (l : List UInt8), l.length ≤ n → Lib.splitK [c] 0 (Lib.count l [c]) l = sp c l ∧ (sp c l).length = Lib.count l [c] + 1
  | n, l, hn => by
    by_cases h : c ∈ l
    · obtain ⟨d, r, rfl, hd⟩ := List.eq_append_cons_of_mem h
      have hi := idx_at c r d hd
      have hc := Lib.count_hit (s := d ++ c :: r) (sub := [c]) (by simp) hi
      have hdr : (d ++ c :: r).drop (d.length + [c].length) = r := by
        rw [show d.length + [c].length = (d ++ [c]).length by simp, show d ++ c :: r = (d ++ [c]) ++ r by simp, List.drop_left]
      rw [hdr] at hc
      have hr : r.length ≤ n - 1 := by simp at hn; omega
      have hn1 : n - 1 < n := by simp at hn; omega
      obtain ⟨h1, h2⟩ := split_sp c (n - 1) r hr
      rw [hc, Nat.add_comm, Lib.splitK, hi, Int.toNat_natCast, hdr, sp_at c r d hd]
      constructor
      · rw [if_neg (by simp), h1]
        congr 1
        simp
      · simp [h2]
    · rw [Lib.count_miss (idx_none c l h), sp_none c l h]
      exact ⟨rfl, rfl⟩
  termination_by n l hn => n
theorem split_mk (c : UInt8) (l : List UInt8) (hl : l.length ≤ 1000000) : strings_Split.f (mk l) (mk [c]) = some ((sp c l).map mk) := by
  unfold strings_Split.f
  rw [if_pos (by rw [mk_size]; omega), if_pos (by rw [mk_size]; simp)]
  congr 1
  have h := Lib.splitB_data (mk [c]) 0 (Lib.countB (mk l) (mk [c])) (mk l)
  have h2 := (split_sp c l.length l (Nat.le_refl _)).1
  have h3 : (Lib.splitB (mk [c]) 0 (Lib.countB (mk l) (mk [c])) (mk l)).map (·.data.toList) = sp c l := h.trans h2
  rw [← h3, List.map_map]
  have : (mk ∘ fun x : ByteArray => x.data.toList) = id := by funext x; exact (mk_self x).symm
  rw [this, List.map_id]
theorem count_mk (c : UInt8) (l : List UInt8) (hl : l.length ≤ 1000000) : strings_Count.f (mk l) (mk [c]) = some (((sp c l).length : Int) - 1) := by
  unfold strings_Count.f
  rw [if_pos (by rw [mk_size]; omega), if_pos (by rw [mk_size]; simp)]
  have h2 := (split_sp c l.length l (Nat.le_refl _)).2
  have : Lib.countB (mk l) (mk [c]) = Lib.count l [c] := rfl
  rw [this, h2]
  congr 1
  omega
theorem cut_none (l : List UInt8) (hl : l.length ≤ 1000000) (h : (45 : UInt8) ∉ l) : strings_Cut.f (mk l) (mk [45]) = some (mk l, mk [], false) := by
  unfold strings_Cut.f
  rw [if_pos (by rw [mk_size]; omega)]
  have : Lib.cut (mk l).data.toList (mk [45]).data.toList = (l, [], false) := by
    show Lib.cut l [45] = _
    unfold Lib.cut
    rw [idx_none 45 l h, if_neg (by omega)]
  rw [this]; rfl
theorem cut_at (d r : List UInt8) (hl : (d ++ 45 :: r).length ≤ 1000000) (h : (45 : UInt8) ∉ d) : strings_Cut.f (mk (d ++ 45 :: r)) (mk [45]) = some (mk d, mk r, true) := by
  unfold strings_Cut.f
  rw [if_pos (by rw [mk_size]; omega)]
  have : Lib.cut (mk (d ++ 45 :: r)).data.toList (mk [45]).data.toList = (d, r, true) := by
    show Lib.cut (d ++ 45 :: r) [45] = _
    unfold Lib.cut
    rw [idx_at 45 r d h, if_pos (by omega)]
    have : (d ++ 45 :: r).drop (d.length + 1) = r := by
      rw [show d.length + 1 = (d ++ [(45 : UInt8)]).length by simp, show d ++ 45 :: r = (d ++ [45]) ++ r by simp, List.drop_left]
    simp [this]
  rw [this]; rfl
/-! ### parts and signs -/
theorem toks_cons {c : UInt8} (r : List UInt8) : ∀ d : List UInt8, (45 : UInt8) ∉ d → (58 : UInt8) ∉ d → (c = 45 ∨ c = 58) → toks (d ++ c :: r) = (d :: (toks r).1, c :: (toks r).2)
  | [], _, _, hc => by simp [toks, hc]
  | b :: l, h1, h2, hc => by
    have hb : ¬ (b = 45 ∨ b = 58) := by
      rintro (e | e)
      · exact h1 (by simp [e])
      · exact h2 (by simp [e])
    rw [List.cons_append, toks, if_neg hb, toks_cons r l (fun e => h1 (by simp [e])) (fun e => h2 (by simp [e])) hc]; rfl
theorem toks_end : ∀ d : List UInt8, (45 : UInt8) ∉ d → (58 : UInt8) ∉ d → toks d = ([d], [])
  | [], _, _ => rfl
  | b :: l, h1, h2 => by
    have hb : ¬ (b = 45 ∨ b = 58) := by
      rintro (e | e)
      · exact h1 (by simp [e])
      · exact h2 (by simp [e])
    rw [toks, if_neg hb, toks_end l (fun e => h1 (by simp [e])) (fun e => h2 (by simp [e]))]; rfl
theorem toks_sp : ∀ l : List UInt8, (45 : UInt8) ∉ l → toks l = (sp 58 l, List.replicate ((sp 58 l).length - 1) 58)
  | [], _ => rfl
  | b :: l, h => by
    have hb : ¬ b = 45 := fun e => h (by simp [e])
    have ih := toks_sp l (fun e => h (by simp [e]))
    obtain ⟨p, q, hpq⟩ := toks_ne l
    have e1 : (toks l).1 = sp 58 l := by rw [ih]
    rw [e1] at hpq
    rw [toks, sp, ih]
    by_cases h8 : b = 58
    · simp only [h8, or_true, if_true]
      rw [hpq]; simp [List.replicate_succ]
    · simp only [hb, h8, or_self, if_false]
      rw [hpq]; simp [hdc]
/-- a sign 45 in the text is one of the signs -/
theorem toks_mem : ∀ l : List UInt8, (45 : UInt8) ∈ l → (45 : UInt8) ∈ (toks l).2
  | [], h => by cases h
  | b :: l, h => by
    rw [toks]
    rcases List.mem_cons.mp h with e | e
    · rw [if_pos (Or.inl e.symm)]; simp [e]
    · split
      · exact List.mem_cons_of_mem _ (toks_mem l e)
      · exact toks_mem l e
theorem num_bad {l : List UInt8} {c : UInt8} (hc : c ∈ l) (hd : isD c = false) : num l = none := by
  unfold num
  rw [if_neg]
  rintro ⟨_, _, h⟩
  have := List.all_eq_true.mp h c hc
  rw [hd] at this; cases this
theorem nums_bad {ps : List (List UInt8)} {p : List UInt8} (hp : p ∈ ps) (h : num p = none) : nums ps = none := by
  induction ps with
  | nil => cases hp
  | cons q r ih =>
    rw [nums]
    rcases List.mem_cons.mp hp with e | e
    · rw [← e, h]
    · rw [ih e]
      cases num q <;> rfl
theorem sp_mem (c x : UInt8) (hx : x ≠ c) : ∀ l : List UInt8, x ∈ l → ∃ p ∈ sp c l, x ∈ p
  | [], h => by cases h
  | b :: l, h => by
    rw [sp]
    rcases List.mem_cons.mp h with e | e
    · rw [if_neg (by rw [← e]; exact hx)]
      cases hs : sp c l with
      | nil => exact ⟨_, List.mem_cons_self, by simp [e]⟩
      | cons p q => exact ⟨_, List.mem_cons_self, by simp [e]⟩
    · obtain ⟨p, hp, hxp⟩ := sp_mem c x hx l e
      split
      · exact ⟨p, List.mem_cons_of_mem _ hp, hxp⟩
      · cases hs : sp c l with
        | nil => rw [hs] at hp; cases hp
        | cons p0 q =>
          rw [hs] at hp
          rcases List.mem_cons.mp hp with e2 | e2
          · exact ⟨b :: p0, List.mem_cons_self, by rw [← e2]; exact List.mem_cons_of_mem _ hxp⟩
          · exact ⟨p, List.mem_cons_of_mem _ e2, hxp⟩
theorem nums_spec {ps : List (List UInt8)} {l : List Int} (h : nums ps = some l) : l.length = ps.length ∧ ∀ x ∈ l, 0 ≤ x ∧ x ≤ 999999 := by
  induction ps generalizing l with
  | nil =>
    obtain rfl := Option.some.inj h
    exact ⟨rfl, by simp⟩
  | cons p r ih =>
    rw [nums] at h
    cases hn : num p with
    | none => rw [hn] at h; cases h
    | some n =>
      rw [hn] at h
      obtain ⟨m, hm, rfl⟩ := Option.map_eq_some_iff.mp h
      obtain ⟨h1, h2⟩ := ih hm
      have := num_lt hn
      refine ⟨by simp [h1], fun x hx => ?_⟩
      rcases List.mem_cons.mp hx with rfl | hx
      · omega
      · exact h2 x hx
/-! ### the program's reading -/
theorem l0_eq (a : ByteArray) (has : Bool) (d : Int) (r : Int × Int) (N : Nat) (hN : N ≤ 1000001) : ∀ (todo done : List (List UInt8)) (ok : Bool) (xs : List Int), (done ++ todo).length = N → xs.length = done.length →
    (ok = true → ∀ l, nums todo = some l → Ev (fun k => clock_Parse.j2 k a has d (xs ++ l) (decide (((xs ++ l).length : Int) > 3))) r) → ((ok = false ∨ nums todo = none) → r = (0, 60)) →
    Ev (fun k => clock_Parse.l0 k a has d ok xs ((done ++ todo).map mk) (N : Int) (done.length : Int)) r
  | [], done, ok, xs, hL, hx, h1, h2 => by
    rw [List.append_nil] at hL
    refine Ev.step (f := fun k => if ok = true then clock_Parse.j2 k a has d xs (decide ((xs.length : Int) > 3)) else clock_Parse.j2 k a has d xs true) (fun k => ?_) ?_
    · rw [clock_Parse.l0, if_neg (by omega)]
    · cases ok with
      | true =>
        have := h1 rfl [] rfl
        rw [List.append_nil] at this
        simpa using this
      | false =>
        rw [h2 (Or.inl rfl)]
        exact ev_at 1 fun k => rfl
  | p :: r', done, ok, xs, hL, hx, h1, h2 => by
    obtain ⟨n, b, hp, hn0, hn1⟩ := part_eq p
    have hlen : done.length < N := by simp at hL; omega
    have hr : rdOf ByteArray.empty ((done ++ p :: r').map mk) (done.length : Int) = mk p := by
      unfold rdOf; simp [List.getD]
    have hL' : ((done ++ [p]) ++ r').length = N := by simpa using hL
    have ih := fun ok' xs' hxs h1' h2' => l0_eq a has d r N hN r' (done ++ [p]) ok' xs' hL' hxs h1' h2'
    refine Ev.step (f := fun k => clock_Parse.l0 k a has d (if ok = true then b else false) (xs ++ [n]) (((done ++ [p]) ++ r').map mk) (N : Int) ((done ++ [p]).length : Int)) (fun k => ?_) ?_
    · rw [clock_Parse.l0, if_pos (by omega), if_pos (by omega), if_pos (by rw [List.length_map, hL]; omega), hr, hp]
      simp only [Option.bind_some]
      rw [w64 (x := (done.length : Int) + 1) (by omega)]
      rw [show (done.length : Int) + 1 = ((done ++ [p]).length : Int) by simp, show (done ++ [p]) ++ r' = done ++ p :: r' by simp]
      have hxl : xs.length < 17592186044416 := by rw [hx]; omega
      cases ok with
      | true => simp only [if_pos hxl, if_true]
      | false => simp only [if_pos hxl, Bool.false_eq_true, if_false]
    · refine ih _ _ (by simp [hx]) ?_ ?_
      · intro hok l hl
        cases ok with
        | false => simp at hok
        | true =>
          simp only [if_true] at hok
          cases hnp : num p with
          | none => rw [hn0 hnp] at hok; cases hok
          | some m =>
            obtain ⟨e1, e2⟩ := hn1 m hnp
            have := h1 rfl (n :: l) (by rw [nums, hnp, hl, e1]; rfl)
            simpa using this
      · intro hbad
        cases ok with
        | false => exact h2 (Or.inl rfl)
        | true =>
          refine h2 (Or.inr ?_)
          simp only [if_true] at hbad
          rw [nums]
          rcases hbad with hb | hb
          · cases hnp : num p with
            | none => rfl
            | some m => rw [(hn1 m hnp).2] at hb; cases hb
          · rw [hb]; cases num p <;> rfl
/-- what three numbers behind the days say -/
def fin3 (has long : Bool) (d x y z : Int) : Int × Int :=
  if (has = true ∧ x > 23) ∨ (long = true ∧ y > 59) ∨ z > 59 then (0, 2) else if 86400 * d + 3600 * x + 60 * y + z < 1 ∨ 86400 * d + 3600 * x + 60 * y + z > 1073741824 then (0, 2) else (86400 * d + 3600 * x + 60 * y + z, 0)
theorem j5_eq (d x y z : Int) (hd : 0 ≤ d ∧ d ≤ 999999) (hx : 0 ≤ x ∧ x ≤ 999999) (hy : 0 ≤ y ∧ y ≤ 999999) (hz : 0 ≤ z ∧ z ≤ 999999) (b : Bool) (k : Nat) :
    clock_Parse.j5 (k + 1) d [x, y, z] b = some (if b = true then (0, 2) else if 86400 * d + 3600 * x + 60 * y + z < 1 ∨ 86400 * d + 3600 * x + 60 * y + z > 1073741824 then (0, 2) else (86400 * d + 3600 * x + 60 * y + z, 0)) := by
  rw [clock_Parse.j5]
  have e0 : rd [x, y, z] 0 = x := rfl
  have e1 : rd [x, y, z] 1 = y := rfl
  have e2 : rd [x, y, z] 2 = z := rfl
  rw [e0, e1, e2]
  have hw : wrap64 ((wrap64 ((wrap64 ((wrap64 (86400 * d)) + (wrap64 (3600 * x)))) + (wrap64 (60 * y)))) + z) = 86400 * d + 3600 * x + 60 * y + z := by
    rw [w64 (x := 86400 * d) (by omega), w64 (x := 3600 * x) (by omega), w64 (x := 60 * y) (by omega), w64 (x := 86400 * d + 3600 * x) (by omega), w64 (x := 86400 * d + 3600 * x + 60 * y) (by omega), w64 (by omega)]
  rw [hw]
  cases b with
  | true => rfl
  | false =>
    simp only [Bool.false_eq_true, if_false]
    rw [if_pos (by simp), if_pos (by simp), if_pos (by simp)]
    by_cases h1 : 86400 * d + 3600 * x + 60 * y + z < 1
    · rw [if_pos h1, if_pos (Or.inl h1)]
    · by_cases h2 : 86400 * d + 3600 * x + 60 * y + z > 1073741824
      · rw [if_neg h1, if_pos h2, if_pos (Or.inr h2)]
      · rw [if_neg h1, if_neg h2, if_neg (by omega)]
theorem j4_eq (has long : Bool) (d x y z : Int) (hd : 0 ≤ d ∧ d ≤ 999999) (hx : 0 ≤ x ∧ x ≤ 999999) (hy : 0 ≤ y ∧ y ≤ 999999) (hz : 0 ≤ z ∧ z ≤ 999999) (k : Nat) :
    clock_Parse.j4 (k + 2) has d [x, y, z] long = some (fin3 has long d x y z) := by
  rw [clock_Parse.j4]
  have e0 : rd [x, y, z] 0 = x := rfl
  have e1 : rd [x, y, z] 1 = y := rfl
  have e2 : rd [x, y, z] 2 = z := rfl
  have p0 : (0 : Int) < (([x, y, z] : List Int).length : Int) := by simp
  have p1 : (1 : Int) < (([x, y, z] : List Int).length : Int) := by simp
  have p2 : (2 : Int) < (([x, y, z] : List Int).length : Int) := by simp
  rw [e0, e1, e2]
  simp only [if_pos p0, if_pos p1, if_pos p2, j5_eq d x y z hd hx hy hz, fin3]
  cases has <;> cases long <;> by_cases h1 : x > 23 <;> by_cases h2 : y > 59 <;> by_cases h3 : z > 59 <;> simp [h1, h2, h3]
theorem j3_eq (l : List UInt8) (hl : l.length ≤ 1000000) (has : Bool) (d x y z : Int) (hd : 0 ≤ d ∧ d ≤ 999999) (hx : 0 ≤ x ∧ x ≤ 999999) (hy : 0 ≤ y ∧ y ≤ 999999) (hz : 0 ≤ z ∧ z ≤ 999999) (k : Nat) :
    clock_Parse.j3 (k + 3) (mk l) has d [x, y, z] = some (fin3 has (decide ((sp 58 l).length = 3) || has) d x y z) := by
  rw [clock_Parse.j3, show (⟨#[58]⟩ : ByteArray) = mk [58] from rfl, count_mk 58 l hl]
  simp only [Option.bind_some]
  rw [j4_eq has true d x y z hd hx hy hz, j4_eq has has d x y z hd hx hy hz]
  by_cases h : (sp 58 l).length = 3
  · rw [if_pos (by rw [h]; rfl)]; simp [h]
  · rw [if_neg (by omega)]; simp [h]
theorem rpa (d h m s : Int) (wrong : Bool) (n : Int) (hn : n = ((d * 24 + h) * 60 + m) * 60 + s) (w2 : Prop) [Decidable w2] (hw : w2 ↔ (wrong = true ∨ s > 59)) (h0 : 0 ≤ n) :
    rpAll d h m s wrong = if w2 then (0, 2) else if n < 1 ∨ n > 1073741824 then (0, 2) else (n, 0) := by
  unfold rpAll
  rw [← hn]
  by_cases h1 : w2
  · rw [if_pos h1, if_pos ((hw.mp h1).elim Or.inl (fun e => Or.inr (Or.inl e)))]
  · have h2 : ¬ (wrong = true ∨ s > 59) := fun e => h1 (hw.mpr e)
    rw [if_neg h1]
    by_cases h3 : n < 1 ∨ n > 1073741824
    · rw [if_pos h3, if_pos (by omega)]
    · rw [if_neg h3, if_neg]
      rintro (e | e | e | e)
      · exact h2 (Or.inl e)
      · exact h2 (Or.inr e)
      · omega
      · omega
theorem parse_eq (l : List UInt8) (hl : l.length ≤ 1000000) : Ev (fun k => clock_Parse.f k (mk l)) (PT (toks l).1 (toks l).2) := by
  unfold clock_Parse.f
  rw [show (⟨#[45]⟩ : ByteArray) = mk [45] from rfl]
  by_cases h45 : (45 : UInt8) ∈ l
  · obtain ⟨D, R, rfl, hD⟩ := List.eq_append_cons_of_mem h45
    rw [cut_at D R hl hD]
    simp only [Option.bind_some, if_true]
    obtain ⟨d, b, hp, hn0, hn1⟩ := part_eq D
    have hR : R.length ≤ 1000000 := by simp at hl; omega
    refine Ev.step (f := fun k => clock_Parse.l0 k (mk (D ++ 45 :: R)) true d b [] ((sp 58 R).map mk) ((sp 58 R).length : Int) 0) (fun k => ?_) ?_
    · rw [clock_Parse.j0, hp, show (⟨#[58]⟩ : ByteArray) = mk [58] from rfl, split_mk 58 R hR]
      simp
    · have hlen := (split_sp 58 R.length R (Nat.le_refl _)).2
      have hc := Lib.countB_le (mk [58]) (by decide) R.length (mk R) (Nat.le_refl _)
      have hc' : Lib.count R [58] ≤ R.length := hc
      refine l0_eq (mk (D ++ 45 :: R)) true d _ (sp 58 R).length (by omega) (sp 58 R) [] b [] rfl rfl ?_ ?_
      · intro hb L hL
        cases hnD : num D with
        | none => rw [hn0 hnD] at hb; cases hb
        | some m =>
          obtain ⟨rfl, _⟩ := hn1 m hnD
          have hm := num_lt hnD
          have h58 : (58 : UInt8) ∉ D := fun h => by rw [num_bad h rfl] at hnD; cases hnD
          have hR45 : (45 : UInt8) ∉ R := fun h => by
            obtain ⟨p, hp1, hp2⟩ := sp_mem 58 45 (by decide) R h
            rw [nums_bad hp1 (num_bad hp2 rfl)] at hL
            cases hL
          rw [toks_cons R D hD h58 (Or.inl rfl), toks_sp R hR45]
          obtain ⟨hL1, hL2⟩ := nums_spec hL
          unfold PT
          simp only [List.length_cons, nums, hnD, hL, Option.map_some, List.nil_append]
          by_cases h3 : L.length > 3
          · rw [if_pos (by omega)]
            refine ev_at 1 fun k => ?_
            rw [clock_Parse.j2, if_pos (decide_eq_true (by omega))]
          · rw [if_neg (by omega)]
            have key : ∀ x y z, L ++ [0, 0] = x :: y :: z :: (L ++ [0, 0]).drop 3 → (0 ≤ x ∧ x ≤ 999999) → (0 ≤ y ∧ y ≤ 999999) → (0 ≤ z ∧ z ≤ 999999) → Ev (fun k => clock_Parse.j2 k (mk (D ++ 45 :: R)) true (m : Int) L (decide ((L.length : Int) > 3))) (fin3 true true m x y z) := by
              intro x y z hxyz hx hy hz
              refine ev_at 4 fun k => ?_
              rw [show k + 4 = (k + 3) + 1 by omega, clock_Parse.j2, if_neg (by simp; omega), if_pos rfl]
              simp only [Option.bind_some]
              rw [if_pos (by simp; omega), if_pos (by rw [hxyz]; simp; omega)]
              have : (L ++ [0, 0]).take (3 : Int).toNat = [x, y, z] := by rw [hxyz]; rfl
              rw [this, j3_eq _ hl true m x y z (by omega) hx hy hz k, Bool.or_true]
            match L, h3, hL1, hL2, key with
            | [], _, h, _, _ =>
              obtain ⟨p, q, hpq⟩ := toks_ne R
              rw [toks_sp R hR45] at hpq
              simp only at hpq
              rw [hpq] at h; cases h
            | [x], _, h, hb, key =>
              have hx := hb x (by simp)
              have := key x 0 0 rfl hx (by omega) (by omega)
              have hs : mk (45 :: List.replicate ((sp 58 R).length - 1) 58) = mk [45] := by rw [← h]; rfl
              rw [hs]
              refine Eq.mp (congrArg _ ?_) this
              show _ = rpAll m x 0 0 (decide ((0 : Int) > 59) || decide (x > 23))
              rw [rpa m x 0 0 _ (86400 * m + 3600 * x + 60 * 0 + 0) (by omega) (x > 23) (by simp) (by omega)]
              unfold fin3
              simp
            | [x, y], _, h, hb, key =>
              have hx := hb x (by simp)
              have hy := hb y (by simp)
              have := key x y 0 rfl hx hy (by omega)
              have hs : mk (45 :: List.replicate ((sp 58 R).length - 1) 58) = mk [45, 58] := by rw [← h]; rfl
              rw [hs]
              refine Eq.mp (congrArg _ ?_) this
              show _ = rpAll m x y 0 (decide (y > 59) || decide (x > 23))
              rw [rpa m x y 0 _ (86400 * m + 3600 * x + 60 * y + 0) (by omega) (x > 23 ∨ y > 59) (by simp; omega) (by omega)]
              unfold fin3
              simp
            | [x, y, z], _, h, hb, key =>
              have hx := hb x (by simp)
              have hy := hb y (by simp)
              have hz := hb z (by simp)
              have := key x y z rfl hx hy hz
              have hs : mk (45 :: List.replicate ((sp 58 R).length - 1) 58) = mk [45, 58, 58] := by rw [← h]; rfl
              rw [hs]
              refine Eq.mp (congrArg _ ?_) this
              show _ = rpAll m x y z (decide (y > 59) || decide (x > 23))
              rw [rpa m x y z _ (86400 * m + 3600 * x + 60 * y + z) (by omega) (x > 23 ∨ y > 59 ∨ z > 59) (by simp; omega) (by omega)]
              unfold fin3
              simp
            | _ :: _ :: _ :: _ :: _, h, _, _, _ => simp at h
      · intro hbad
        -- a part that is none, of the days or behind them
        by_cases h58 : (58 : UInt8) ∈ D
        · obtain ⟨D1, D2, rfl, hD1⟩ := List.eq_append_cons_of_mem h58
          have h451 : (45 : UInt8) ∉ D1 := fun h => hD (by simp [h])
          rw [show (D1 ++ 58 :: D2) ++ 45 :: R = D1 ++ 58 :: (D2 ++ 45 :: R) by simp, toks_cons _ D1 h451 hD1 (Or.inr rfl)]
          have hm := toks_mem (D2 ++ 45 :: R) (by simp)
          unfold PT
          split
          · rfl
          · split
            · rfl
            · generalize hT : (toks (D2 ++ 45 :: R)).2 = T at hm
              have n0 : ∀ x : List UInt8, mk (58 :: T) = mk x → 58 :: T = x := fun x e => by have := congrArg (fun b : ByteArray => b.data.toList) e; exact this
              unfold rpFin
              rw [if_neg (fun e => by cases n0 [] e), if_neg (fun e => by cases n0 [58] e; cases hm), if_neg (fun e => by cases n0 [58, 58] e; simp at hm), if_neg (fun e => by cases n0 [45] e), if_neg (fun e => by cases n0 [45, 58] e), if_neg (fun e => by cases n0 [45, 58, 58] e)]
        · rw [toks_cons R D hD h58 (Or.inl rfl)]
          by_cases hR45 : (45 : UInt8) ∈ R
          · have hm := toks_mem R hR45
            unfold PT
            split
            · rfl
            · split
              · rfl
              · generalize hT : (toks R).2 = T at hm
                have n0 : ∀ x : List UInt8, mk (45 :: T) = mk x → 45 :: T = x := fun x e => by have := congrArg (fun b : ByteArray => b.data.toList) e; exact this
                unfold rpFin
                rw [if_neg (fun e => by cases n0 [] e), if_neg (fun e => by cases n0 [58] e), if_neg (fun e => by cases n0 [58, 58] e), if_neg (fun e => by cases n0 [45] e; cases hm), if_neg (fun e => by cases n0 [45, 58] e; simp at hm), if_neg (fun e => by cases n0 [45, 58, 58] e; simp at hm)]
          · rw [toks_sp R hR45]
            unfold PT
            split
            · rfl
            · have : nums (D :: sp 58 R) = none := by
                rcases hbad with hb | hb
                · exact nums_bad List.mem_cons_self (by
                    cases hnD : num D with
                    | none => rfl
                    | some m => rw [(hn1 m hnD).2] at hb; cases hb)
                · rw [nums, hb]; cases num D <;> rfl
              simp only [this]
  · rw [cut_none l hl h45]
    simp only [Option.bind_some, Bool.false_eq_true, if_false]
    refine Ev.step (f := fun k => clock_Parse.l0 k (mk l) false 0 true [] ((sp 58 l).map mk) ((sp 58 l).length : Int) 0) (fun k => ?_) ?_
    · rw [clock_Parse.j0, show clock_part.f (⟨#[48]⟩ : ByteArray) = some (0, true) from by decide +kernel, show (⟨#[58]⟩ : ByteArray) = mk [58] from rfl, split_mk 58 l hl]
      simp
    · have hlen := (split_sp 58 l.length l (Nat.le_refl _)).2
      have hc := Lib.countB_le (mk [58]) (by decide) l.length (mk l) (Nat.le_refl _)
      have hc' : Lib.count l [58] ≤ l.length := hc
      rw [toks_sp l h45]
      refine l0_eq (mk l) false 0 _ (sp 58 l).length (by omega) (sp 58 l) [] true [] rfl rfl ?_ ?_
      · intro _ L hL
        obtain ⟨hL1, hL2⟩ := nums_spec hL
        unfold PT
        simp only [hL, List.nil_append]
        by_cases h3 : L.length > 3
        · refine ev_at 1 fun k => ?_
          rw [clock_Parse.j2, if_pos (decide_eq_true (by omega))]
          by_cases h4 : (sp 58 l).length > 4
          · rw [if_pos h4]
          · rw [if_neg h4]
            have h44 : (sp 58 l).length = 4 := by omega
            rw [h44]
            show some ((0 : Int), (60 : Int)) = some (rpFin _ _ _ _ (mk [58, 58, 58]))
            have n0 : ∀ x : List UInt8, mk [58, 58, 58] = mk x → [58, 58, 58] = x := fun x e => by have := congrArg (fun b : ByteArray => b.data.toList) e; exact this
            unfold rpFin
            rw [if_neg (fun e => by cases n0 [] e), if_neg (fun e => by cases n0 [58] e), if_neg (fun e => by cases n0 [58, 58] e), if_neg (fun e => by cases n0 [45] e), if_neg (fun e => by cases n0 [45, 58] e), if_neg (fun e => by cases n0 [45, 58, 58] e)]
        · rw [if_neg (by omega)]
          match L, h3, hL1, hL2 with
          | [], _, h, _ =>
            obtain ⟨p, q, hpq⟩ := toks_ne l
            rw [toks_sp l h45] at hpq
            simp only at hpq
            rw [hpq] at h; cases h
          | [x], _, h, hb =>
            have hx := hb x (by simp)
            have hs : mk (List.replicate ((sp 58 l).length - 1) 58) = mk [] := by rw [← h]; rfl
            rw [hs]
            refine ev_at 4 fun k => ?_
            rw [show k + 4 = (k + 3) + 1 by omega, clock_Parse.j2, if_neg (by simp), if_neg (by simp), if_pos (by simp), if_pos (by simp)]
            show clock_Parse.j3 (k + 3) (mk l) false 0 [0, x, 0] = some (rpAll 0 0 x 0 false)
            rw [j3_eq l hl false 0 0 x 0 (by omega) (by omega) hx (by omega) k]
            rw [rpa 0 0 x 0 false (86400 * 0 + 3600 * 0 + 60 * x + 0) (by omega) False (by simp) (by omega)]
            have : ¬ (sp 58 l).length = 3 := by rw [← h]; simp
            unfold fin3
            simp [this]
          | [x, y], _, h, hb =>
            have hx := hb x (by simp)
            have hy := hb y (by simp)
            have hs : mk (List.replicate ((sp 58 l).length - 1) 58) = mk [58] := by rw [← h]; rfl
            rw [hs]
            refine ev_at 4 fun k => ?_
            rw [show k + 4 = (k + 3) + 1 by omega, clock_Parse.j2, if_neg (by simp), if_neg (by simp), if_neg (by simp), if_pos (by simp), if_pos (by simp), if_pos (by simp)]
            show clock_Parse.j3 (k + 3) (mk l) false 0 [0, x, y] = some (rpAll 0 0 x y false)
            rw [j3_eq l hl false 0 0 x y (by omega) (by omega) hx hy k]
            rw [rpa 0 0 x y false (86400 * 0 + 3600 * 0 + 60 * x + y) (by omega) (y > 59) (by simp) (by omega)]
            have : ¬ (sp 58 l).length = 3 := by rw [← h]; simp
            unfold fin3
            simp [this]
          | [x, y, z], _, h, hb =>
            have hx := hb x (by simp)
            have hy := hb y (by simp)
            have hz := hb z (by simp)
            have hs : mk (List.replicate ((sp 58 l).length - 1) 58) = mk [58, 58] := by rw [← h]; rfl
            rw [hs]
            refine ev_at 4 fun k => ?_
            rw [show k + 4 = (k + 3) + 1 by omega, clock_Parse.j2, if_neg (by simp), if_neg (by simp), if_neg (by simp), if_neg (by simp)]
            show clock_Parse.j3 (k + 3) (mk l) false 0 [x, y, z] = some (rpAll 0 x y z (decide (y > 59)))
            rw [j3_eq l hl false 0 x y z (by omega) hx hy hz k]
            rw [rpa 0 x y z _ (86400 * 0 + 3600 * x + 60 * y + z) (by omega) (y > 59 ∨ z > 59) (by simp) (by omega)]
            have : (sp 58 l).length = 3 := by rw [← h]; rfl
            unfold fin3
            simp [this]
          | _ :: _ :: _ :: _ :: _, h, _, _ => simp at h
      · intro hbad
        rcases hbad with hb | hb
        · cases hb
        · unfold PT
          simp only [hb]
          split <;> rfl
end Go.Proofs.YtjgfdilikbeofaaDoor.Clk
