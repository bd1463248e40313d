/- Numbers' digits, and the text of a time limit: what the program prints, what the document prints, and how it is read again. -/
import Derived.Test.YtjgfdilikbeofaaDoorClkParse
import Derived.Test.YtjgfdilikbeofaaDoorP0
import Derived.Test.YtjgfdilikbeofaaDoorP2
import Derived.Test.YtjgfdilikbeofaaDoorP3
import Derived.Test.YtjgfdilikbeofaaDoorP4
import Derived.Test.YtjgfdilikbeofaaDoorP5
namespace Go.Proofs.YtjgfdilikbeofaaDoor.Clk
open Go.RowKit Go.Proofs.YtjgfdilikbeofaaDoorW.PrintWords Go.Proofs.YtjgfdilikbeofaaDoorW.PrintLast Go.Proofs.YtjgfdilikbeofaaDoorW.PrintMore Go.Proofs.YtjgfdilikbeofaaDoor.P
set_option linter.unusedVariables false
set_option linter.unusedSimpArgs false
abbrev dec := Lib.decDigits
theorem dec_small {n : Nat} (h : n < 10) : dec n = [UInt8.ofNat (48 + n)] := by
  rw [dec, Lib.decDigits, dif_pos h]
theorem dec_big {n : Nat} (h : ¬ n < 10) : dec n = dec (n / 10) ++ [UInt8.ofNat (48 + n % 10)] := by
  rw [dec, Lib.decDigits, dif_neg h]
theorem toNat_dg {n : Nat} (h : n < 10) : (UInt8.ofNat (48 + n)).toNat = 48 + n := by
  simp [UInt8.toNat_ofNat]; omega
theorem strOne (x : Int) (n : Nat) (h : n < 10) (hx : x = 48 + (n : Int)) : strOfNums [(wrap64 x) % 256] = mk [UInt8.ofNat (48 + n)] := by
  have : (wrap64 x) % 256 = ((48 + n : Nat) : Int) := by rw [w64 (by omega)]; omega
  rw [this]
  show mk [UInt8.ofNat (((48 + n : Nat) : Int)).toNat] = _
  rw [Int.toNat_natCast]
theorem digits_eq : ∀ n : Nat, n ≤ 1000000000000000000 → Ev (fun k => gangerref06_Digits.f k (n : Int)) (mk (dec n)) := by
  intro n
  induction n using Nat.strongRecOn with
  | ind n ih =>
    intro hn
    by_cases h : n < 10
    · refine ev_at 1 fun k => ?_
      rw [gangerref06_Digits.f, if_pos (by omega), strOne _ n h rfl, dec_small h]
    · refine Ev.step (f := fun k => (gangerref06_Digits.f k ((n / 10 : Nat) : Int)).bind fun t => if t.size + (mk [UInt8.ofNat (48 + n % 10)]).size ≤ 9223372036854775807 then some (t ++ mk [UInt8.ofNat (48 + n % 10)]) else none) (fun k => ?_) ?_
      · rw [gangerref06_Digits.f, if_neg (by omega)]
        have e1 : wrap64 (Int.tdiv (n : Int) 10) = ((n / 10 : Nat) : Int) := by
          rw [Int.tdiv_eq_ediv_of_nonneg (by omega), w64 (by omega)]; omega
        have e2 : Int.tmod (n : Int) 10 = ((n % 10 : Nat) : Int) := by
          rw [Int.tmod_eq_emod_of_nonneg (by omega)]; omega
        rw [e1, e2]
        simp only [Option.bind_some]
        rw [strOne _ (n % 10) (by omega) rfl]
      · have hlen : (dec (n / 10)).length ≤ 1000 := by
          rw [dec, Lib.decDigits_length]
          have hp := Lib.lt_pow_nDigits (n / 10)
          by_cases hz : n / 10 = 0
          · omega
          · rcases Nat.lt_or_ge (Lib.nDigits (n / 10)) 1000 with h' | h'
            · omega
            · exfalso
              have hlow : ∀ u : Nat, 10 ≤ u → 10 ^ (Lib.nDigits u - 1) ≤ u := by
                intro u
                induction u using Nat.strongRecOn with
                | ind u ihu =>
                  intro hu
                  rw [Lib.nDigits_big (by omega)]
                  by_cases h10 : 10 ≤ u / 10
                  · have := ihu (u / 10) (by omega) h10
                    have hpos := Lib.nDigits_pos (u / 10)
                    rw [Nat.add_sub_cancel, show Lib.nDigits (u / 10) = (Lib.nDigits (u / 10) - 1) + 1 by omega, Nat.pow_succ]
                    omega
                  · rw [Lib.nDigits_small (by omega)]; omega
              by_cases h10 : 10 ≤ n / 10
              · have h1 := hlow (n / 10) h10
                have h2 : 10 ^ 20 ≤ 10 ^ (Lib.nDigits (n / 10) - 1) := Nat.pow_le_pow_right (by omega) (by omega)
                omega
              · rw [Lib.nDigits_small (by omega)] at h'; omega
        refine Ev.bind (ih (n / 10) (by omega) (by omega)) ?_
        rw [if_pos (by rw [mk_size, mk_size]; simp; omega), mk_append, dec_big h]
        exact Ev.now _
theorem val_snoc (c : UInt8) : ∀ (l : List UInt8) (m : Nat), val (l ++ [c]) m = 10 * val l m + (c.toNat - 48)
  | [], m => rfl
  | b :: l, m => by rw [List.cons_append, val, val_snoc c l]; rfl
theorem isD_dg {n : Nat} (h : n < 10) : isD (UInt8.ofNat (48 + n)) = true := by
  simp only [isD, toNat_dg h]; simp; omega
theorem dec_all : ∀ n : Nat, (dec n).all isD = true := by
  intro n
  induction n using Nat.strongRecOn with
  | ind n ih =>
    by_cases h : n < 10
    · rw [dec_small h, List.all_cons, isD_dg h]; rfl
    · rw [dec_big h, List.all_append, ih (n / 10) (by omega), List.all_cons, isD_dg (show n % 10 < 10 by omega)]; rfl
theorem dec_val : ∀ n : Nat, val (dec n) 0 = n := by
  intro n
  induction n using Nat.strongRecOn with
  | ind n ih =>
    by_cases h : n < 10
    · rw [dec_small h, val, val, toNat_dg h]; omega
    · rw [dec_big h, val_snoc, ih (n / 10) (by omega), toNat_dg (by omega)]; omega
theorem dec_len : ∀ (k n : Nat), 1 ≤ k → n < 10 ^ k → (dec n).length ≤ k := by
  intro k
  induction k with
  | zero => intro n h; omega
  | succ k ih =>
    intro n _ hn
    by_cases h : n < 10
    · rw [dec_small h]; simp
    · rw [dec_big h]
      have hk : 1 ≤ k := by
        rcases Nat.eq_zero_or_pos k with h0 | h0
        · subst h0; simp at hn; omega
        · exact h0
      have := ih (n / 10) hk (by rw [Nat.pow_succ] at hn; omega)
      simp; omega
theorem dec_ne (n : Nat) : dec n ≠ [] := by
  by_cases h : n < 10
  · rw [dec_small h]; simp
  · rw [dec_big h]; simp
theorem num_dec {n : Nat} (h : n ≤ 999999) : num (dec n) = some n := by
  unfold num
  rw [if_pos ⟨dec_ne n, dec_len 6 n (by omega) (by omega), dec_all n⟩, dec_val]
theorem nod {l : List UInt8} (h : l.all isD = true) {c : UInt8} (hc : isD c = false) : c ∉ l := fun hm => by
  have := List.all_eq_true.mp h c hm
  rw [hc] at this; cases this
def two (t : Nat) : List UInt8 := if t < 10 then 48 :: dec t else dec t
theorem two_all (t : Nat) : (two t).all isD = true := by
  unfold two
  split
  · rw [List.all_cons, dec_all]; rfl
  · exact dec_all t
theorem two_len {t : Nat} (h : t < 100) : (two t).length = 2 := by
  unfold two
  split
  · rename_i h1; rw [dec_small h1]; rfl
  · rename_i h1; rw [dec_big h1, dec_small (by omega)]; rfl
theorem num_two {t : Nat} (h : t < 100) : num (two t) = some t := by
  have hv : val (two t) 0 = t := by
    unfold two
    split
    · rw [val]; exact dec_val t
    · exact dec_val t
  unfold num
  have hne : two t ≠ [] := fun e => by
    have := two_len h
    rw [e] at this
    cases this
  have hl : (two t).length ≤ 6 := by rw [two_len h]; omega
  rw [if_pos ⟨hne, hl, two_all t⟩, hv]
def hms (n : Nat) : List UInt8 := two (n / 3600 % 24) ++ 58 :: (two (n / 60 % 60) ++ 58 :: two (n % 60))
def PS (n : Nat) : List UInt8 := if n / 86400 > 0 then dec (n / 86400) ++ 45 :: hms n else hms n
theorem itoa_nat (n : Nat) (h : n ≤ 1000000000000000000) : strconv_Itoa_25.f (n : Int) = some (mk (dec n)) := by
  unfold strconv_Itoa_25.f
  rw [if_pos (by omega), if_pos (by omega)]
  unfold Lib.itoa
  rw [if_neg (by omega)]; rfl
theorem ctwo (t : Nat) (h : t < 100) : clock_two.f (t : Int) = some (mk (two t)) := by
  unfold clock_two.f two
  rw [itoa_nat t (by omega)]
  by_cases h1 : t < 10
  · rw [if_pos (by omega), if_pos h1]
    simp only [Option.bind_some]
    have := dec_len 1 t (by omega) (by omega)
    rw [if_pos (by rw [mk_size]; omega), show (⟨#[48]⟩ : ByteArray) = mk [48] from rfl, mk_append]; rfl
  · rw [if_neg (by omega), if_neg h1]; rfl
theorem rtwo (t : Nat) (h : t < 100) : Ev (fun k => gangerref07_two.f k (t : Int)) (mk (two t)) := by
  unfold gangerref07_two.f two
  by_cases h1 : t < 10
  · have e : (t : Int) < 10 := by omega
    simp only [if_pos e, if_pos h1]
    refine Ev.bind (digits_eq t (by omega)) ?_
    have := dec_len 1 t (by omega) (by omega)
    rw [if_pos (by rw [mk_size]; omega), show (⟨#[48]⟩ : ByteArray) = mk [48] from rfl, mk_append]
    exact Ev.now _
  · have e : ¬ (t : Int) < 10 := by omega
    simp only [if_neg e, if_neg h1]
    exact Ev.bind (digits_eq t (by omega)) (Ev.now _)
theorem tdn (n m : Nat) : Int.tdiv (n : Int) (m : Int) = ((n / m : Nat) : Int) := by
  rw [Int.tdiv_eq_ediv_of_nonneg (by omega)]; omega
theorem tmn (n m : Nat) : Int.tmod (n : Int) (m : Int) = ((n % m : Nat) : Int) := by
  rw [Int.tmod_eq_emod_of_nonneg (by omega)]; omega
theorem wn (n : Nat) (h : n ≤ 9223372036854775807) : wrap64 (n : Int) = (n : Int) := w64 (by omega)
theorem hms_glue (n : Nat) : (((mk (two (n / 3600 % 24)) ++ (⟨#[58]⟩ : ByteArray)) ++ mk (two (n / 60 % 60))) ++ (⟨#[58]⟩ : ByteArray)) ++ mk (two (n % 60)) = mk (hms n) := by
  rw [show (⟨#[58]⟩ : ByteArray) = mk [58] from rfl, mk_append, mk_append, mk_append, mk_append]
  unfold hms
  congr 1
  simp
theorem print_ok (n : Nat) (h1 : 1 ≤ n) (h2 : n ≤ 1073741824) : Ev (fun k => clock_Print.f k (n : Int)) (mk (PS n), 0) := by
  refine ev_at 1 fun k => ?_
  rw [clock_Print.f, if_neg (by omega), clock_Print.j0, if_neg (by simp; omega)]
  have e1 : Int.tdiv (n : Int) 3600 = ((n / 3600 : Nat) : Int) := tdn n 3600
  have e2 : Int.tdiv (n : Int) 60 = ((n / 60 : Nat) : Int) := tdn n 60
  have e3 : Int.tdiv (n : Int) 86400 = ((n / 86400 : Nat) : Int) := tdn n 86400
  have e4 : Int.tmod (n : Int) 60 = ((n % 60 : Nat) : Int) := tmn n 60
  have e5 : Int.tmod ((n / 3600 : Nat) : Int) 24 = ((n / 3600 % 24 : Nat) : Int) := tmn _ 24
  have e6 : Int.tmod ((n / 60 : Nat) : Int) 60 = ((n / 60 % 60 : Nat) : Int) := tmn _ 60
  rw [e1, e2, e3, e4, wn (n / 3600) (by omega), wn (n / 60) (by omega), wn (n / 86400) (by omega), e5, e6, ctwo _ (by omega), ctwo _ (by omega), ctwo _ (by omega)]
  have l1 := two_len (t := n / 3600 % 24) (by omega)
  have l2 := two_len (t := n / 60 % 60) (by omega)
  have l3 := two_len (t := n % 60) (by omega)
  simp only [Option.bind_some, hms_glue]
  have s58 : (⟨#[58]⟩ : ByteArray) = mk [58] := rfl
  have s45 : (⟨#[45]⟩ : ByteArray) = mk [45] := rfl
  simp only [s58, s45, mk_append, mk_size, List.length_append, List.length_cons, List.length_nil, l1, l2, l3]
  rw [if_pos (by omega), if_pos (by omega), if_pos (by omega), if_pos (by omega)]
  unfold PS
  by_cases hd : n / 86400 > 0
  · have ld := dec_len 6 (n / 86400) (by omega) (by omega)
    have lh : (hms n).length = 8 := by unfold hms; simp [l1, l2, l3]
    rw [if_pos (by omega), if_pos hd, itoa_nat _ (by omega)]
    simp only [Option.bind_some, mk_size, mk_append, List.length_append, List.length_cons, List.length_nil, lh]
    rw [if_pos (by omega), if_pos (by omega)]
    congr 2
    simp [hms, mk]
  · rw [if_neg (by omega), if_neg hd]
    try simp [hms, mk]
theorem print_bad (a : Int) (h : a < 1 ∨ a > 1073741824) : Ev (fun k => clock_Print.f k a) (mk [], 2) := by
  refine ev_at 1 fun k => ?_
  rw [clock_Print.f]
  by_cases h1 : a < 1
  · rw [if_pos h1, clock_Print.j0, if_pos rfl]; rfl
  · rw [if_neg h1, clock_Print.j0, if_pos (decide_eq_true (by omega))]; rfl
theorem rprint_bad (a : Int) (h : a < 1 ∨ a > 1073741824) : Ev (fun k => gangerref07_Print.f k a) (mk [], 2) := by
  refine ev_at 1 fun k => ?_
  rw [gangerref07_Print.f]
  by_cases h1 : a < 1
  · rw [if_pos h1, gangerref07_Print.j0, if_pos rfl]; rfl
  · rw [if_neg h1, gangerref07_Print.j0, if_pos (decide_eq_true (by omega))]; rfl
theorem wsub (a m : Nat) (ha : a ≤ 2000000000) : wrap64 ((a : Int) - wrap64 (((a / m : Nat) : Int) * (m : Int))) = ((a % m : Nat) : Int) := by
  have h := Nat.div_add_mod a m
  have e : ((a / m : Nat) : Int) * (m : Int) = ((m * (a / m) : Nat) : Int) := by rw [Int.natCast_mul, Int.mul_comm]
  rw [e]
  generalize m * (a / m) = t at h
  rw [w64 (x := (t : Int)) (by omega), w64 (by omega)]
  omega
theorem rprint_ok (n : Nat) (h1 : 1 ≤ n) (h2 : n ≤ 1073741824) : Ev (fun k => gangerref07_Print.f k (n : Int)) (mk (PS n), 0) := by
  have hb : decide ((n : Int) > 1073741824) = false := decide_eq_false (by omega)
  have hf : ∀ k, gangerref07_Print.f k (n : Int) = gangerref07_Print.j0 k (n : Int) false := fun k => by rw [gangerref07_Print.f, if_neg (by omega), hb]
  refine Ev.congr hf ?_
  have l1 := two_len (t := n / 3600 % 24) (by omega)
  have l2 := two_len (t := n / 60 % 60) (by omega)
  have l3 := two_len (t := n % 60) (by omega)
  have e4 : Int.tmod (n : Int) 60 = ((n % 60 : Nat) : Int) := tmn n 60
  have q1 : wrap64 ((n : Int) - ((n % 60 : Nat) : Int)) = ((n - n % 60 : Nat) : Int) := by rw [w64 (by omega)]; omega
  have q2 : wrap64 (Int.tdiv ((n - n % 60 : Nat) : Int) 60) = ((n / 60 : Nat) : Int) := by
    clear q1 e4 hf hb
    have := tdn (n - n % 60) 60
    rw [show ((60 : Nat) : Int) = 60 from rfl] at this
    rw [this, wn _ (by omega)]; omega
  have q3 : wrap64 (Int.tdiv ((n / 60 : Nat) : Int) 60) = ((n / 3600 : Nat) : Int) := by
    clear q1 q2 e4 hf hb
    have := tdn (n / 60) 60
    rw [show ((60 : Nat) : Int) = 60 from rfl] at this
    rw [this, wn _ (by omega), Nat.div_div_eq_div_mul]
  have q4 : wrap64 (Int.tdiv ((n / 3600 : Nat) : Int) 24) = ((n / 86400 : Nat) : Int) := by
    clear q1 q2 q3 e4 hf hb
    have := tdn (n / 3600) 24
    rw [show ((24 : Nat) : Int) = 24 from rfl] at this
    rw [this, wn _ (by omega), Nat.div_div_eq_div_mul]
  have q5 : wrap64 (((n / 3600 : Nat) : Int) - wrap64 (((n / 86400 : Nat) : Int) * 24)) = ((n / 3600 % 24 : Nat) : Int) := by
    have := wsub (n / 3600) 24 (Nat.le_trans (Nat.div_le_self _ _) (Nat.le_trans h2 (by decide)))
    rw [Nat.div_div_eq_div_mul] at this
    exact this
  have q6 : wrap64 (((n / 60 : Nat) : Int) - wrap64 (((n / 3600 : Nat) : Int) * 60)) = ((n / 60 % 60 : Nat) : Int) := by
    have := wsub (n / 60) 60 (Nat.le_trans (Nat.div_le_self _ _) (Nat.le_trans h2 (by decide)))
    rw [Nat.div_div_eq_div_mul] at this
    exact this
  apply Ev.step
  · intro k
    rw [gangerref07_Print.j0, if_neg (by decide), e4, q1, q2, q3, q4, q5, q6]
  · clear q1 q2 q3 q4 q5 q6 e4 hf hb
    refine Ev.bind (rtwo _ (by omega)) ?_
    have s58 : (⟨#[58]⟩ : ByteArray) = mk [58] := rfl
    have s45 : (⟨#[45]⟩ : ByteArray) = mk [45] := rfl
    have p1 : (mk (two (n / 3600 % 24))).size + 1 ≤ 9223372036854775807 := by rw [mk_size]; omega
    simp only [if_pos p1]
    refine Ev.bind (rtwo _ (by omega)) ?_
    have p2 : (mk (two (n / 3600 % 24)) ++ (⟨#[58]⟩ : ByteArray)).size + (mk (two (n / 60 % 60))).size ≤ 9223372036854775807 := by rw [s58, mk_append, mk_size, mk_size]; simp; omega
    have p3 : ((mk (two (n / 3600 % 24)) ++ (⟨#[58]⟩ : ByteArray)) ++ mk (two (n / 60 % 60))).size + 1 ≤ 9223372036854775807 := by rw [s58, mk_append, mk_append, mk_size]; simp; omega
    simp only [if_pos p2, if_pos p3]
    refine Ev.bind (rtwo _ (by omega)) ?_
    have p4 : (((mk (two (n / 3600 % 24)) ++ (⟨#[58]⟩ : ByteArray)) ++ mk (two (n / 60 % 60))) ++ (⟨#[58]⟩ : ByteArray)).size + (mk (two (n % 60))).size ≤ 9223372036854775807 := by rw [s58, mk_append, mk_append, mk_append, mk_size, mk_size]; simp; omega
    simp only [if_pos p4, hms_glue]
    have lh : (hms n).length = 8 := by unfold hms; simp [l1, l2, l3]
    unfold PS
    by_cases hd : n / 86400 > 0
    · have hd' : ((n / 86400 : Nat) : Int) > 0 := by omega
      have ld := dec_len 6 (n / 86400) (by omega) (by omega)
      simp only [if_pos hd', if_pos hd]
      refine Ev.bind (digits_eq _ (by omega)) ?_
      have p5 : (mk (dec (n / 86400))).size + 1 ≤ 9223372036854775807 := by rw [mk_size]; omega
      have p6 : (mk (dec (n / 86400) ++ [45])).size + (mk (hms n)).size ≤ 9223372036854775807 := by rw [mk_size, mk_size]; simp; omega
      simp only [if_pos p5, s45, mk_append]
      simp only [if_pos p6]
      have e : dec (n / 86400) ++ [45] ++ hms n = dec (n / 86400) ++ 45 :: hms n := by simp
      rw [e]
      exact Ev.now _
    · have hd' : ¬ ((n / 86400 : Nat) : Int) > 0 := by omega
      simp only [if_neg hd', if_neg hd]
      exact Ev.now _
/-! ### read again -/
theorem toks_hms (n : Nat) : toks (hms n) = ([two (n / 3600 % 24), two (n / 60 % 60), two (n % 60)], [58, 58]) := by
  have a1 := two_all (n / 3600 % 24)
  have a2 := two_all (n / 60 % 60)
  have a3 := two_all (n % 60)
  unfold hms
  rw [toks_cons _ _ (nod a1 rfl) (nod a1 rfl) (Or.inr rfl), toks_cons _ _ (nod a2 rfl) (nod a2 rfl) (Or.inr rfl), toks_end _ (nod a3 rfl) (nod a3 rfl)]
theorem PT_hms (n : Nat) (h1 : 1 ≤ n) (h2 : n < 86400) : PT (toks (hms n)).1 (toks (hms n)).2 = ((n : Int), 0) := by
  rw [toks_hms]
  unfold PT
  simp only [nums, num_two (show n / 3600 % 24 < 100 by omega), num_two (show n / 60 % 60 < 100 by omega), num_two (show n % 60 < 100 by omega), Option.map_some]
  rw [if_neg (by simp)]
  show rpAll 0 ((n / 3600 % 24 : Nat) : Int) ((n / 60 % 60 : Nat) : Int) ((n % 60 : Nat) : Int) (decide (((n / 60 % 60 : Nat) : Int) > 59)) = _
  rw [rpa 0 _ _ _ _ (n : Int) (by omega) False (by simp; omega) (by omega), if_neg (fun h => h), if_neg (by omega)]
theorem PT_PS (n : Nat) (h1 : 1 ≤ n) (h2 : n ≤ 1073741824) : PT (toks (PS n)).1 (toks (PS n)).2 = ((n : Int), 0) := by
  unfold PS
  by_cases hd : n / 86400 > 0
  · rw [if_pos hd]
    have a0 := dec_all (n / 86400)
    rw [toks_cons _ _ (nod a0 rfl) (nod a0 rfl) (Or.inl rfl), toks_hms]
    unfold PT
    simp only [nums, num_dec (show n / 86400 ≤ 999999 by omega), num_two (show n / 3600 % 24 < 100 by omega), num_two (show n / 60 % 60 < 100 by omega), num_two (show n % 60 < 100 by omega), Option.map_some]
    rw [if_neg (by simp)]
    show rpAll ((n / 86400 : Nat) : Int) ((n / 3600 % 24 : Nat) : Int) ((n / 60 % 60 : Nat) : Int) ((n % 60 : Nat) : Int) (decide (((n / 60 % 60 : Nat) : Int) > 59) || decide (((n / 3600 % 24 : Nat) : Int) > 23)) = _
    rw [rpa _ _ _ _ _ (n : Int) (by omega) False (by simp; omega) (by omega), if_neg (fun h => h), if_neg (by omega)]
  · rw [if_neg hd]
    exact PT_hms n h1 (by omega)
theorem PS_len (n : Nat) (h2 : n ≤ 1073741824) : (PS n).length ≤ 20 := by
  have l1 := two_len (t := n / 3600 % 24) (by omega)
  have l2 := two_len (t := n / 60 % 60) (by omega)
  have l3 := two_len (t := n % 60) (by omega)
  have lh : (hms n).length = 8 := by unfold hms; simp [l1, l2, l3]
  have ld := dec_len 6 (n / 86400) (by omega) (by omega)
  unfold PS
  split
  · simp [lh]; omega
  · omega
/-- what is read is a limit, or nought -/
theorem rpAll_range (d h m s : Int) (b : Bool) (n e : Int) (h0 : 0 ≤ d) (h1 : 0 ≤ h) (h2 : 0 ≤ m) (h3 : 0 ≤ s) (H : rpAll d h m s b = (n, e)) : (e = 0 ∧ 1 ≤ n ∧ n ≤ 1073741824) ∨ (e ≠ 0 ∧ n = 0) := by
  unfold rpAll at H
  split at H
  · obtain ⟨rfl, rfl⟩ := Prod.mk.inj H
    exact Or.inr ⟨by decide, rfl⟩
  · rename_i hc
    obtain ⟨rfl, rfl⟩ := Prod.mk.inj H
    refine Or.inl ⟨rfl, ?_, ?_⟩
    · have : ¬ ((d * 24 + h) * 60 + m) * 60 + s = 0 := fun e => hc (Or.inr (Or.inr (Or.inl e)))
      omega
    · have : ¬ ((d * 24 + h) * 60 + m) * 60 + s > 1073741824 := fun e => hc (Or.inr (Or.inr (Or.inr e)))
      omega
theorem getD_nn {l : List Int} (h : ∀ x ∈ l, 0 ≤ x ∧ x ≤ 999999) (i : Nat) : 0 ≤ l.getD i 0 := by
  rw [List.getD_eq_getElem?_getD]
  cases e : l[i]? with
  | none => simp
  | some x => simp; exact (h x (List.mem_of_getElem? e)).1
theorem PT_range (l : List UInt8) (n e : Int) (H : PT (toks l).1 (toks l).2 = (n, e)) : (e = 0 ∧ 1 ≤ n ∧ n ≤ 1073741824) ∨ (e ≠ 0 ∧ n = 0) := by
  unfold PT at H
  split at H
  · obtain ⟨rfl, rfl⟩ := Prod.mk.inj H
    exact Or.inr ⟨by decide, rfl⟩
  · split at H
    · obtain ⟨rfl, rfl⟩ := Prod.mk.inj H
      exact Or.inr ⟨by decide, rfl⟩
    · rename_i L hL
      have hn := (nums_spec hL).2
      have g := getD_nn hn
      unfold rpFin at H
      split at H
      · exact rpAll_range _ _ _ _ _ _ _ (by omega) (by omega) (g 0) (by omega) H
      split at H
      · exact rpAll_range _ _ _ _ _ _ _ (by omega) (by omega) (g 0) (g 1) H
      split at H
      · exact rpAll_range _ _ _ _ _ _ _ (by omega) (g 0) (g 1) (g 2) H
      split at H
      · exact rpAll_range _ _ _ _ _ _ _ (g 0) (g 1) (g 2) (g 3) H
      split at H
      · exact rpAll_range _ _ _ _ _ _ _ (g 0) (g 1) (g 2) (g 3) H
      split at H
      · exact rpAll_range _ _ _ _ _ _ _ (g 0) (g 1) (g 2) (g 3) H
      · obtain ⟨rfl, rfl⟩ := Prod.mk.inj H
        exact Or.inr ⟨by decide, rfl⟩
theorem known_ev : Ev (fun k => gangerlaw07_known.f k) true := by
  unfold gangerlaw07_known.f
  have P : ∀ (l : List UInt8) (r : Int × Int), l.length ≤ 1000000 → PT (toks l).1 (toks l).2 = r → Ev (fun k => clock_Parse.f k (mk l)) r := fun l r h1 h2 => h2 ▸ parse_eq l h1
  refine Ev.bind (P [57, 48] (5400, 0) (by decide) (by decide +kernel)) ?_
  refine Ev.bind (P [49, 45, 50] (93600, 0) (by decide) (by decide +kernel)) ?_
  refine Ev.bind (P [48, 58, 51, 48] (30, 0) (by decide) (by decide +kernel)) ?_
  refine Ev.bind (P [49, 58, 54, 48] (0, 2) (by decide) (by decide +kernel)) ?_
  refine Ev.bind (P [49, 58] (0, 60) (by decide) (by decide +kernel)) ?_
  refine Ev.bind (print_ok 93600 (by decide) (by decide)) ?_
  refine Ev.bind (print_ok 5400 (by decide) (by decide)) ?_
  have t1 : (mk (PS 93600)).toList = ([49, 45, 48, 50, 58, 48, 48, 58, 48, 48] : List UInt8) := by rw [mk_toList]; decide +kernel
  have t2 : (mk (PS 5400)).toList = ([48, 49, 58, 51, 48, 58, 48, 48] : List UInt8) := by rw [mk_toList]; decide +kernel
  simp only [t1, t2, if_true]
  exact Ev.congr (fun k => by decide +kernel) (Ev.now true)
theorem hk : Ev (fun n => (gangerlaw07_known.f n).bind fun t => some t) true := Ev.bind known_ev (Ev.now _)
end Go.Proofs.YtjgfdilikbeofaaDoor.Clk
