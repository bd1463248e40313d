/- What is printed is read again; lists that rise. -/
import Derived.Test.YtpkococfmohmiaaDoorIdxText
import Derived.Test.YtpkococfmohmiaaDoorIdxSay
import Derived.Test.YtpkococfmohmiaaDoorP0
import Derived.Test.YtpkococfmohmiaaDoorP2
namespace Go.Proofs.YtpkococfmohmiaaDoor.Idx
open Go.RowKit Go.Proofs.YtpkococfmohmiaaDoorW.PrintWords Go.Proofs.YtpkococfmohmiaaDoorW.PrintLast Go.Proofs.YtpkococfmohmiaaDoorW.PrintMore Go.Proofs.YtpkococfmohmiaaDoor.P
set_option linter.unusedVariables false
set_option linter.unusedSimpArgs false
/-! ### lists that rise -/
theorem good_mono {p q : Int} (h : q ≤ p) : ∀ {l : List Int}, good p l = true → good q l = true
  | [], _ => rfl
  | x :: r, hg => by
    rw [good] at hg ⊢
    simp only [Bool.and_eq_true, decide_eq_true_eq] at hg ⊢
    exact ⟨⟨by omega, hg.1.2⟩, hg.2⟩
theorem good_gt : ∀ {l : List Int} {p x : Int}, good p l = true → x ∈ l → p < x ∧ x ≤ 1000
  | y :: r, p, x, hg, hx => by
    rw [good] at hg
    simp only [Bool.and_eq_true, decide_eq_true_eq] at hg
    rcases List.mem_cons.1 hx with e | e
    · subst e; exact hg.1
    · have := good_gt hg.2 e; omega
theorem good_ext : ∀ {l s : List Int} {p q : Int}, good p l = true → good q s = true → (∀ x, x ∈ l ↔ x ∈ s) → l = s
  | [], [], p, q, _, _, _ => rfl
  | [], y :: s, p, q, _, _, h => by have := (h y).2 (List.mem_cons_self ..); cases this
  | x :: l, [], p, q, _, _, h => by have := (h x).1 (List.mem_cons_self ..); cases this
  | x :: l, y :: s, p, q, h1, h2, h => by
    rw [good] at h1 h2
    simp only [Bool.and_eq_true, decide_eq_true_eq] at h1 h2
    have e : x = y := by
      rcases List.mem_cons.1 ((h x).1 (List.mem_cons_self ..)) with a | a
      · exact a
      · rcases List.mem_cons.1 ((h y).2 (List.mem_cons_self ..)) with b | b
        · exact b.symm
        · have := good_gt h2.2 a
          have := good_gt h1.2 b
          omega
    subst e
    rw [good_ext h1.2 h2.2 (fun z => ?_)]
    constructor
    · intro hz
      rcases List.mem_cons.1 ((h z).1 (List.mem_cons_of_mem _ hz)) with a | a
      · have := good_gt h1.2 hz; omega
      · exact a
    · intro hz
      rcases List.mem_cons.1 ((h z).2 (List.mem_cons_of_mem _ hz)) with a | a
      · have := good_gt h2.2 hz; omega
      · exact a
theorem good_range (p : Nat → Bool) : ∀ (k n : Nat), n + k ≤ 1001 → good ((n : Int) - 1) (((List.range' n k).filter p).map fun j : Nat => (j : Int)) = true
  | 0, n, h => by simp [good]
  | k + 1, n, h => by
    have ih := good_range p k (n + 1) (by omega)
    rw [List.range'_succ, List.filter_cons]
    by_cases hp : p n = true
    · rw [if_pos hp, List.map_cons, good]
      have e : ((n + 1 : Nat) : Int) - 1 = (n : Int) := by omega
      rw [e] at ih
      rw [ih, decide_eq_true (by omega), decide_eq_true (by omega)]; rfl
    · rw [if_neg hp]
      exact good_mono (by omega) ih
theorem good_listOf (p : Nat → Bool) : good (-1) (listOf p) = true := by
  have := good_range p 1001 0 (by omega)
  rw [listOf, List.range_eq_range']
  exact this
theorem mem_listOf (p : Nat → Bool) (x : Int) : x ∈ listOf p ↔ ∃ j : Nat, j < 1001 ∧ p j = true ∧ x = (j : Int) := by
  unfold listOf
  rw [List.mem_map]
  constructor
  · rintro ⟨j, hj, rfl⟩
    rw [List.mem_filter, List.mem_range] at hj
    exact ⟨j, hj.1, hj.2, rfl⟩
  · rintro ⟨j, h1, h2, rfl⟩
    exact ⟨j, by rw [List.mem_filter, List.mem_range]; exact ⟨h1, h2⟩, rfl⟩
theorem listOf_eq {p : Nat → Bool} {l : List Int} (hg : good (-1) l = true) (h : ∀ j : Nat, j < 1001 → (p j = true ↔ (j : Int) ∈ l)) : listOf p = l := by
  refine good_ext (good_listOf p) hg fun x => ?_
  rw [mem_listOf]
  constructor
  · rintro ⟨j, h1, h2, rfl⟩
    exact (h j h1).1 h2
  · intro hx
    have := good_gt hg hx
    have e : x = (x.toNat : Int) := by omega
    exact ⟨x.toNat, by omega, (h x.toNat (by omega)).2 (by rw [← e]; exact hx), e⟩
/-! ### runs -/
def inRun (j : Int) (p : Int × Int) : Bool := decide (p.1 ≤ j) && decide (j ≤ p.2)
def RunOk (q : List (Int × Int)) : Prop := ∀ p ∈ q, 0 ≤ p.1 ∧ p.1 ≤ p.2 ∧ p.2 ≤ 1000
theorem any_addRun (x j : Int) : ∀ q : List (Int × Int), (∀ p ∈ q, p.1 ≤ p.2) → (addRun x q).any (inRun j) = (decide (j = x) || q.any (inRun j))
  | [], _ => by
    simp only [addRun, List.any_cons, List.any_nil, inRun, Bool.or_false]
    by_cases h : j = x
    · simp [h]
    · rw [decide_eq_false h]
      by_cases h2 : x ≤ j
      · rw [decide_eq_false (by omega : ¬ j ≤ x), Bool.and_false]
      · rw [decide_eq_false h2, Bool.false_and]
  | (a, b) :: q, hq => by
    have hab : a ≤ b := hq (a, b) (List.mem_cons_self ..)
    rw [addRun]
    by_cases e : a = x + 1
    · rw [if_pos e, List.any_cons, List.any_cons, ← Bool.or_assoc]
      congr 1
      simp only [inRun]
      by_cases h : j = x
      · subst h; simp; omega
      · rw [decide_eq_false h, Bool.false_or]
        congr 1
        exact decide_eq_decide.2 (by omega)
    · rw [if_neg e, List.any_cons]
      congr 1
      simp only [inRun]
      by_cases h : j = x
      · simp [h]
      · rw [decide_eq_false h]
        by_cases h2 : x ≤ j
        · rw [decide_eq_false (by omega : ¬ j ≤ x), Bool.and_false]
        · rw [decide_eq_false h2, Bool.false_and]
theorem runs_le : ∀ (l : List Int), ∀ p ∈ runs l, p.1 ≤ p.2
  | [], p, hp => by cases hp
  | x :: r, p, hp => by
    have ih := runs_le r
    rw [runs] at hp
    cases e : runs r with
    | nil => rw [e] at hp; simp [addRun] at hp; subst hp; simp
    | cons a q =>
      obtain ⟨a, b⟩ := a
      rw [e] at hp ih
      have hab := ih (a, b) (List.mem_cons_self ..)
      rw [addRun] at hp
      split at hp
      · rcases List.mem_cons.1 hp with h | h
        · subst h; simp at *; omega
        · exact ih p (List.mem_cons_of_mem _ h)
      · rcases List.mem_cons.1 hp with h | h
        · subst h; simp
        · exact ih p h
theorem runs_any (j : Int) : ∀ (l : List Int), (runs l).any (inRun j) = decide (j ∈ l)
  | [] => by simp [runs]
  | x :: r => by
    rw [runs, any_addRun x j _ (runs_le r), runs_any j r]
    by_cases h : j = x
    · simp [h]
    · simp [h]
theorem runs_ok {l : List Int} (h : Small l) : RunOk (runs l) := by
  intro p hp
  have hle := runs_le l p hp
  have m1 : p.1 ∈ l := by
    have := runs_any p.1 l
    rw [List.any_eq_true.2 ⟨p, hp, by simp [inRun, hle]⟩] at this
    exact of_decide_eq_true this.symm
  have m2 : p.2 ∈ l := by
    have := runs_any p.2 l
    rw [List.any_eq_true.2 ⟨p, hp, by simp [inRun, hle]⟩] at this
    exact of_decide_eq_true this.symm
  exact ⟨(h _ m1).1, hle, (h _ m2).2⟩
/-! ### digits are read -/
theorem dec_head : ∀ n : Nat, 0 < n → ∃ c r, dec n = c :: r ∧ 0 < c.toNat - 48 := by
  intro n
  induction n using Nat.strongRecOn with
  | ind n ih =>
    intro hn
    by_cases h : n < 10
    · exact ⟨_, _, dec_small h, by rw [toNat_dg h]; omega⟩
    · obtain ⟨c, r, e, hc⟩ := ih (n / 10) (by omega) (by omega)
      exact ⟨c, r ++ [UInt8.ofNat (48 + n % 10)], by rw [dec_big h, e]; rfl, hc⟩
theorem scan_more (r : List UInt8) (x : S53) (p : Nat) : ∀ (ds : List UInt8) (pos d v : Nat), ds.all isD = true → d + ds.length ≤ 4 → 0 < d → 0 < v → scan (ds ++ r) pos x p d v = scan r (pos + ds.length) x p (d + ds.length) (val ds v)
  | [], pos, d, v, _, _, _, _ => rfl
  | c :: ds, pos, d, v, h1, h2, h3, h4 => by
    rw [List.all_cons, Bool.and_eq_true] at h1
    simp only [List.length_cons] at h2
    rw [List.cons_append, scan, if_pos h1.1, if_neg (by omega), scan_more r x p ds (pos + 1) (d + 1) _ h1.2 (by omega) (by omega) (by omega), val]
    simp only [List.length_cons]
    rw [show pos + 1 + ds.length = pos + (ds.length + 1) by omega, show d + 1 + ds.length = d + (ds.length + 1) by omega]
theorem scan_dec (n : Nat) (hn : n < 10000) (r : List UInt8) (pos : Nat) (x : S53) (p : Nat) : scan (dec n ++ r) pos x p 0 0 = scan r (pos + (dec n).length) x p (dec n).length n := by
  by_cases h0 : n = 0
  · subst h0
    rw [dec_small (by omega)]
    simp only [List.singleton_append, List.length_singleton]
    rw [scan, if_pos (isD_dg (n := 0) (by omega)), if_neg (by omega)]
    rfl
  · obtain ⟨c, ds, e, hc⟩ := dec_head n (by omega)
    have hall := dec_all n
    have hval := dec_val n
    have hlen := dec_len 4 n (by omega) (by omega)
    rw [e] at hall hval hlen ⊢
    rw [List.all_cons, Bool.and_eq_true] at hall
    simp only [List.length_cons] at hlen
    rw [List.cons_append, scan, if_pos hall.1, if_neg (by omega), scan_more r x p ds (pos + 1) (0 + 1) _ hall.2 (by omega) (by omega) (by omega)]
    rw [val] at hval
    rw [hval]
    simp only [List.length_cons]
    rw [show pos + 1 + ds.length = pos + (ds.length + 1) by omega, show 0 + 1 + ds.length = ds.length + 1 by omega]
/-- a text's end, a comma or the limit's sign -/
def Ends (r : List UInt8) : Prop := r = [] ∨ (∃ t, r = 44 :: t) ∨ ∃ t, r = 37 :: t
theorem scan_fin {r : List UInt8} (h : Ends r) (pos : Nat) {x : S53} (hx : x.f4 = false) (p d n : Nat) (hd : d ≠ 0) : scan r pos x p d n = fin r pos (numN x p n) := by
  have n1 : ¬ isD 44 = true := by decide
  have n2 : ¬ isD 37 = true := by decide
  rcases h with rfl | ⟨t, rfl⟩ | ⟨t, rfl⟩
  · rw [scan, if_neg hd, fin]
  · rw [scan, if_neg n1, if_neg hd, fin]; simp [hx]
  · rw [scan, if_neg n2, if_neg hd, fin]; simp [hx]
theorem dlen (n : Nat) : (dec n).length ≠ 0 := fun h => dec_ne n (List.length_eq_zero_iff.1 h)
theorem toNat_cast {z : Int} (h : 0 ≤ z) : ((z.toNat : Nat) : Int) = z := Int.toNat_of_nonneg h
theorem scan_tx {r : List UInt8} (h : Ends r) (pos : Nat) {x : S53} (hx : x.f4 = false) (p : Int × Int) (h1 : 0 ≤ p.1) (h2 : p.1 ≤ 1000) (h3 : 0 ≤ p.2) (h4 : p.2 ≤ 1000) : scan (tx p ++ r) pos x 0 0 0 = fin r (pos + (tx p).length) ⟨x.f0, p.1, p.2, 1, false⟩ := by
  unfold tx
  split
  · rename_i e
    rw [scan_dec _ (by omega), scan_fin h _ hx 0 _ _ (dlen _), ← e, ← hx]
    simp [numN, toNat_cast h1]
  · have n1 : ¬ isD 45 = true := by decide
    rw [List.append_assoc, scan_dec _ (by omega), List.cons_append, scan, if_neg n1, if_neg (dlen _), if_pos ⟨rfl, rfl, hx⟩, scan_dec _ (by omega), scan_fin h _ (by simpa [numN] using hx) 1 _ _ (dlen _), ← hx]
    simp only [List.length_append, List.length_cons]
    simp [numN, toNat_cast h1, toNat_cast h3]
    congr 1; omega
theorem scan_tx3 (a b s : Nat) (h1 : a < 10000) (h2 : b < 10000) (h3 : s < 10000) {r : List UInt8} (h : Ends r) (pos : Nat) {x : S53} (hx : x.f4 = false) : ∃ e, scan (dec a ++ 45 :: (dec b ++ 58 :: (dec s ++ r))) pos x 0 0 0 = fin r e ⟨x.f0, a, b, s, false⟩ := by
  have n1 : ¬ isD 45 = true := by decide
  have n2 : ¬ isD 58 = true := by decide
  rw [scan_dec _ h1, scan, if_neg n1, if_neg (dlen _), if_pos ⟨rfl, rfl, hx⟩, scan_dec _ h2, scan, if_neg n2, if_neg (dlen _), if_neg (by simp), if_pos ⟨rfl, rfl⟩, scan_dec _ h3, scan_fin h _ (by simpa [numN] using hx) 2 _ _ (dlen _), ← hx]
  exact ⟨_, rfl⟩
end Go.Proofs.YtpkococfmohmiaaDoor.Idx
