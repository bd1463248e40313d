import Derived.Test.YtjgfdilikbeofaaDoorClkForm
import Derived.Test.YtjgfdilikbeofaaDoorP0
import Derived.Test.YtjgfdilikbeofaaDoorP8
namespace Go.Proofs.YtjgfdilikbeofaaDoor.Pure
open Go.RowKit Go.Proofs.YtjgfdilikbeofaaDoorW.PrintWords Go.Proofs.YtjgfdilikbeofaaDoorW.PrintLast Go.Proofs.YtjgfdilikbeofaaDoorW.PrintMore Go.Proofs.YtjgfdilikbeofaaDoor.P Go.Proofs.YtjgfdilikbeofaaDoor.Clk
set_option linter.unusedVariables false
set_option linter.unusedSimpArgs false
/-! ### texts' order -/
theorem less_irr : ∀ l : List UInt8, Op.bytesLess l l = false
  | [] => rfl
  | c :: l => by simp [Op.bytesLess, less_irr l]
theorem less_app : ∀ (a b x y : List UInt8), a.length = b.length → Op.bytesLess (a ++ x) (b ++ y) = (Op.bytesLess a b || (decide (a = b) && Op.bytesLess x y))
  | [], [], x, y, _ => by simp [Op.bytesLess]
  | c :: a, d :: b, x, y, h => by
    have ih := less_app a b x y (by simpa using h)
    simp only [List.cons_append, Op.bytesLess, ih]
    by_cases h1 : c < d
    · simp [h1]
    · by_cases h2 : c = d
      · subst h2; simp [h1]
      · have h3 : (c == d) = false := by simpa using h2
        simp [h1, h2, h3]
theorem less_one (i j : Nat) (hi : i < 10) (hj : j < 10) : Op.bytesLess [UInt8.ofNat (48 + i)] [UInt8.ofNat (48 + j)] = decide (i < j) := by
  have e1 := toNat_dg hi
  have e2 := toNat_dg hj
  by_cases h : i < j
  · have : UInt8.ofNat (48 + i) < UInt8.ofNat (48 + j) := by rw [UInt8.lt_iff_toNat_lt, e1, e2]; omega
    simp only [Op.bytesLess, this, h]; simp
  · have : ¬ UInt8.ofNat (48 + i) < UInt8.ofNat (48 + j) := by rw [UInt8.lt_iff_toNat_lt, e1, e2]; omega
    simp only [Op.bytesLess, this, h]; simp
theorem dec_inj {m n : Nat} (h : dec m = dec n) : m = n := by
  have := congrArg (fun l => val l 0) h
  simpa [dec_val] using this
theorem less_dec : ∀ (m n : Nat), (dec m).length = (dec n).length → Op.bytesLess (dec m) (dec n) = decide (m < n) := by
  intro m
  induction m using Nat.strongRecOn with
  | ind m ih =>
    intro n hl
    by_cases hm : m < 10
    · by_cases hn : n < 10
      · rw [dec_small hm, dec_small hn]; exact less_one m n hm hn
      · rw [dec_small hm, dec_big hn] at hl
        have := List.length_pos_iff.2 (dec_ne (n / 10))
        rw [List.length_append] at hl
        simp only [List.length_cons, List.length_nil] at hl
        omega
    · by_cases hn : n < 10
      · rw [dec_small hn, dec_big hm] at hl
        have := List.length_pos_iff.2 (dec_ne (m / 10))
        rw [List.length_append] at hl
        simp only [List.length_cons, List.length_nil] at hl
        omega
      · rw [dec_big hm, dec_big hn] at hl ⊢
        have hl' : (dec (m / 10)).length = (dec (n / 10)).length := by simpa using hl
        rw [less_app _ _ _ _ hl', ih (m / 10) (by omega) (n / 10) hl', less_one _ _ (by omega) (by omega)]
        by_cases he : dec (m / 10) = dec (n / 10)
        · have := dec_inj he
          rw [decide_eq_true he]
          by_cases h1 : m < n
          · rw [decide_eq_true h1]; simp; omega
          · rw [decide_eq_false h1]; simp; omega
        · have hne : m / 10 ≠ n / 10 := fun e => he (by rw [e])
          rw [decide_eq_false he]
          by_cases h1 : m < n
          · rw [decide_eq_true h1]; simp; omega
          · rw [decide_eq_false h1]; simp; omega
theorem two_inj {s t : Nat} (hs : s < 100) (ht : t < 100) (h : two s = two t) : s = t := by
  have := num_two hs
  rw [h, num_two ht] at this
  exact (Option.some.inj this).symm
theorem less_two (s t : Nat) (hs : s < 100) (ht : t < 100) : Op.bytesLess (two s) (two t) = decide (s < t) := by
  have e : ∀ t, t < 100 → two t = [UInt8.ofNat (48 + t / 10), UInt8.ofNat (48 + t % 10)] := by
    intro t ht
    unfold two
    by_cases h : t < 10
    · rw [if_pos h, dec_small h, show t / 10 = 0 by omega, show t % 10 = t by omega]; rfl
    · rw [if_neg h, dec_big h, dec_small (by omega)]; rfl
  rw [e s hs, e t ht]
  have := less_app [UInt8.ofNat (48 + s / 10)] [UInt8.ofNat (48 + t / 10)] [UInt8.ofNat (48 + s % 10)] [UInt8.ofNat (48 + t % 10)] rfl
  rw [show [UInt8.ofNat (48 + s / 10), UInt8.ofNat (48 + s % 10)] = [UInt8.ofNat (48 + s / 10)] ++ [UInt8.ofNat (48 + s % 10)] from rfl, show [UInt8.ofNat (48 + t / 10), UInt8.ofNat (48 + t % 10)] = [UInt8.ofNat (48 + t / 10)] ++ [UInt8.ofNat (48 + t % 10)] from rfl, this]
  rw [less_one _ _ (by omega) (by omega), less_one _ _ (by omega) (by omega)]
  have hq : ([UInt8.ofNat (48 + s / 10)] = [UInt8.ofNat (48 + t / 10)]) ↔ s / 10 = t / 10 := by
    constructor
    · intro h
      have h2 := congrArg UInt8.toNat (List.cons.inj h).1
      rw [toNat_dg (by omega), toNat_dg (by omega)] at h2
      omega
    · intro h; rw [h]
  have hq' : decide ([UInt8.ofNat (48 + s / 10)] = [UInt8.ofNat (48 + t / 10)]) = decide (s / 10 = t / 10) := decide_eq_decide.mpr hq
  rw [hq']
  by_cases h1 : s < t
  · rw [decide_eq_true h1]; simp; omega
  · rw [decide_eq_false h1]; simp; omega
theorem hms_len (n : Nat) : (hms n).length = 8 := by
  have l1 := two_len (t := n / 3600 % 24) (by omega)
  have l2 := two_len (t := n / 60 % 60) (by omega)
  have l3 := two_len (t := n % 60) (by omega)
  unfold hms; simp [l1, l2, l3]
theorem less_hms (m n : Nat) : Op.bytesLess (hms m) (hms n) = decide (m % 86400 < n % 86400) := by
  have l1 : ∀ m, (two (m / 3600 % 24)).length = 2 := fun m => two_len (by omega)
  have l2 : ∀ m, (two (m / 60 % 60)).length = 2 := fun m => two_len (by omega)
  unfold hms
  rw [less_app _ _ _ _ (by rw [l1, l1])]
  rw [show (58 : UInt8) :: (two (m / 60 % 60) ++ 58 :: two (m % 60)) = [58] ++ (two (m / 60 % 60) ++ 58 :: two (m % 60)) from rfl, show (58 : UInt8) :: (two (n / 60 % 60) ++ 58 :: two (n % 60)) = [58] ++ (two (n / 60 % 60) ++ 58 :: two (n % 60)) from rfl]
  rw [less_app [58] [58] _ _ rfl, less_app _ _ _ _ (by rw [l2, l2])]
  rw [show (58 : UInt8) :: two (m % 60) = [58] ++ two (m % 60) from rfl, show (58 : UInt8) :: two (n % 60) = [58] ++ two (n % 60) from rfl, less_app [58] [58] _ _ rfl, less_irr]
  rw [less_two _ _ (by omega) (by omega), less_two _ _ (by omega) (by omega), less_two _ _ (by omega) (by omega)]
  have q : ∀ s t, s < 100 → t < 100 → (two s = two t ↔ s = t) := fun s t hs ht => ⟨two_inj hs ht, fun e => by rw [e]⟩
  have q1 : decide (two (m / 3600 % 24) = two (n / 3600 % 24)) = decide (m / 3600 % 24 = n / 3600 % 24) := decide_eq_decide.mpr (q _ _ (by omega) (by omega))
  have q2 : decide (two (m / 60 % 60) = two (n / 60 % 60)) = decide (m / 60 % 60 = n / 60 % 60) := decide_eq_decide.mpr (q _ _ (by omega) (by omega))
  rw [q1, q2]
  clear q1 q2 q l1 l2
  have em : m % 86400 = (m / 3600 % 24) * 3600 + (m / 60 % 60) * 60 + m % 60 := by omega
  have en : n % 86400 = (n / 3600 % 24) * 3600 + (n / 60 % 60) * 60 + n % 60 := by omega
  rw [em, en]
  have a1 : m / 60 % 60 < 60 := by omega
  have a2 : m % 60 < 60 := by omega
  have b1 : n / 60 % 60 < 60 := by omega
  have b2 : n % 60 < 60 := by omega
  clear em en
  revert a1 a2 b1 b2
  generalize m / 3600 % 24 = x1
  generalize m / 60 % 60 = x2
  generalize m % 60 = x3
  generalize n / 3600 % 24 = y1
  generalize n / 60 % 60 = y2
  generalize n % 60 = y3
  intro a1 a2 b1 b2
  by_cases h1 : x1 * 3600 + x2 * 60 + x3 < y1 * 3600 + y2 * 60 + y3
  · rw [decide_eq_true h1]; simp; omega
  · rw [decide_eq_false h1]; simp; omega
theorem PS_inj {m n : Nat} (h1 : 1 ≤ m) (h2 : m ≤ 1073741824) (h3 : 1 ≤ n) (h4 : n ≤ 1073741824) (h : PS m = PS n) : m = n := by
  have e1 := PT_PS m h1 h2
  rw [h, PT_PS n h3 h4] at e1
  have := (Prod.mk.inj e1).1
  omega
theorem less_PS {m n : Nat} (h2 : m ≤ 1073741824) (h4 : n ≤ 1073741824) (hl : (PS m).length = (PS n).length) : Op.bytesLess (PS m) (PS n) = decide (m < n) := by
  have lm := hms_len m
  have ln := hms_len n
  unfold PS at hl ⊢
  by_cases hm : m / 86400 > 0
  · rw [if_pos hm] at hl ⊢
    by_cases hn : n / 86400 > 0
    · rw [if_pos hn] at hl ⊢
      have hl' : (dec (m / 86400)).length = (dec (n / 86400)).length := by simp [lm, ln] at hl; exact hl
      rw [less_app _ _ _ _ hl', less_dec _ _ hl', show (45 : UInt8) :: hms m = [45] ++ hms m from rfl, show (45 : UInt8) :: hms n = [45] ++ hms n from rfl, less_app [45] [45] _ _ rfl, less_irr, less_hms]
      have q : dec (m / 86400) = dec (n / 86400) ↔ m / 86400 = n / 86400 := ⟨dec_inj, fun e => by rw [e]⟩
      have q' : decide (dec (m / 86400) = dec (n / 86400)) = decide (m / 86400 = n / 86400) := decide_eq_decide.mpr q
      rw [q']
      by_cases h1 : m < n
      · rw [decide_eq_true h1]; simp; omega
      · rw [decide_eq_false h1]; simp; omega
    · rw [if_neg hn] at hl
      simp [lm, ln] at hl
  · rw [if_neg hm] at hl ⊢
    by_cases hn : n / 86400 > 0
    · rw [if_pos hn] at hl
      simp [lm, ln] at hl
    · rw [if_neg hn, less_hms, Nat.mod_eq_of_lt (by omega), Nat.mod_eq_of_lt (by omega)]
theorem PS_ne (n : Nat) : PS n ≠ [] := by
  intro e
  have l := hms_len n
  unfold PS at e
  split at e
  · simp at e
  · rw [e] at l; cases l
theorem apart_bad (a b : Int) (s t : List UInt8) (h : s = [] ∨ t = []) : Ev (fun k => gangerlaw07_ClockApart.j0 k a b (mk s) (mk t) true) true := by
  refine Ev.step (fun k => by rw [gangerlaw07_ClockApart.j0]) ?_
  simp only [if_true, mk_toList]
  refine ev_ite (fun _ => hk) (fun h1 => ?_)
  exact ev_pos (h.elim (fun e => absurd e h1) id) hk
theorem ClockApart : gangerlaw07_ClockApart.Pure := by
  intro a b w0 w1
  have ha := wf64 w0
  have hb := wf64 w1
  clear w0 w1
  refine Ev.rounds ?_
  unfold gangerlaw07_ClockApart.f
  have c0 : ((0 : Int) = 0) := rfl
  have c2 : ¬ ((2 : Int) = 0) := by decide
  by_cases h1 : a < 1 ∨ a > 1073741824
  · refine Ev.bind (print_bad a h1) ?_
    by_cases h2 : b < 1 ∨ b > 1073741824
    · refine Ev.bind (print_bad b h2) ?_
      simp only [if_neg c2]
      exact apart_bad a b [] [] (Or.inl rfl)
    · obtain ⟨n, rfl⟩ : ∃ n : Nat, b = n := ⟨b.toNat, by omega⟩
      refine Ev.bind (print_ok n (by omega) (by omega)) ?_
      simp only [if_neg c2]
      exact apart_bad a n [] _ (Or.inl rfl)
  · obtain ⟨m, rfl⟩ : ∃ n : Nat, a = n := ⟨a.toNat, by omega⟩
    refine Ev.bind (print_ok m (by omega) (by omega)) ?_
    by_cases h2 : b < 1 ∨ b > 1073741824
    · refine Ev.bind (print_bad b h2) ?_
      simp only [if_true]
      exact apart_bad m b _ [] (Or.inr rfl)
    · obtain ⟨n, rfl⟩ : ∃ n : Nat, b = n := ⟨b.toNat, by omega⟩
      refine Ev.bind (print_ok n (by omega) (by omega)) ?_
      have cb : (((0 : Int) != 0) : Bool) = false := rfl
      simp only [if_true, cb]
      refine Ev.step (fun k => by rw [gangerlaw07_ClockApart.j0]) ?_
      simp only [Bool.false_eq_true, if_false, mk_toList, mk_size]
      have he : ((PS m == PS n) != ((m : Int) == (n : Int))) = false := by
        by_cases e : m = n
        · subst e; simp
        · have e1 : (PS m == PS n) = false := by
            rw [beq_eq_false_iff_ne]; intro h; exact e (PS_inj (by omega) (by omega) (by omega) (by omega) h)
          have e2 : ((m : Int) == (n : Int)) = false := by rw [beq_eq_false_iff_ne]; omega
          rw [e1, e2]; rfl
      simp only [he, Bool.false_eq_true, if_false]
      refine ev_ite (fun hl => ?_) (fun _ => hk)
      rw [less_PS (by omega) (by omega) (by omega)]
      refine ev_pos ?_ hk
      have : decide ((m : Int) < (n : Int)) = decide (m < n) := decide_eq_decide.mpr (by omega)
      rw [this]; simp
end Go.Proofs.YtjgfdilikbeofaaDoor.Pure
