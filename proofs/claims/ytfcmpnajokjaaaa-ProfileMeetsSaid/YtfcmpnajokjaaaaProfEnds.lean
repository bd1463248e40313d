/- The reference's ticks and levels, and levels that are alike are one. -/
import Derived.Test.YtfcmpnajokjaaaaProfUniq
import Derived.Test.YtfcmpnajokjaaaaP0
import Derived.Test.YtfcmpnajokjaaaaP5
import Derived.Test.YtfcmpnajokjaaaaP8
import Derived.Test.YtfcmpnajokjaaaaP9
namespace Go.Proofs.Ytfcmpnajokjaaaa.Prof
open Go.RowKit Go.Proofs.YtfcmpnajokjaaaaW.PrintWords Go.Proofs.YtfcmpnajokjaaaaW.PrintLast Go.Proofs.YtfcmpnajokjaaaaW.PrintMore Go.Proofs.Ytfcmpnajokjaaaa.P
theorem rd_midI (p : List Int) (x : Int) (r : List Int) : rd (p ++ x :: r) (p.length : Int) = x := by
  unfold rd; simp
/-- a tick put where it belongs -/
def ins (t : Int) : List Int → List Int
  | [] => [t]
  | y :: r => if y < t then y :: ins t r else if y = t then y :: r else t :: y :: r
def Up (l : List Int) : Prop := l.Pairwise (· < ·)
theorem mem_ins (t y : Int) : ∀ l : List Int, y ∈ ins t l ↔ y = t ∨ y ∈ l
  | [] => by simp [ins]
  | z :: r => by
    unfold ins
    split
    · rw [List.mem_cons, mem_ins t y r, List.mem_cons]
      constructor
      · rintro (h | h | h)
        · exact .inr (.inl h)
        · exact .inl h
        · exact .inr (.inr h)
      · rintro (h | h | h)
        · exact .inr (.inl h)
        · exact .inl h
        · exact .inr (.inr h)
    · split
      · rename_i e
        rw [List.mem_cons]
        constructor
        · exact .inr
        · rintro (h | h)
          · exact .inl (h.trans e.symm)
          · exact h
      · rw [List.mem_cons]
theorem up_ins (t : Int) : ∀ l : List Int, Up l → Up (ins t l)
  | [], _ => by simp [ins, Up]
  | z :: r, h => by
    obtain ⟨h1, h2⟩ := List.pairwise_cons.1 h
    unfold ins
    split
    · refine List.pairwise_cons.2 ⟨fun y hy => ?_, up_ins t r h2⟩
      rcases (mem_ins t y r).1 hy with rfl | hy
      · assumption
      · exact h1 y hy
    · split
      · exact h
      · refine List.pairwise_cons.2 ⟨fun y hy => ?_, h⟩
        rcases List.mem_cons.1 hy with rfl | hy
        · omega
        · have := h1 y hy; omega
theorem len_ins (t : Int) : ∀ l : List Int, (ins t l).length ≤ l.length + 1
  | [] => by simp [ins]
  | z :: r => by
    unfold ins
    split
    · have := len_ins t r; simp; omega
    · split <;> simp
def endsF (from_ : Int) (out : List Int) (l : List S39) : List Int := l.foldl (fun out x => if x.f0 ≤ from_ then out else ins x.f0 out) out
theorem mem_endsF (f y : Int) : ∀ (l : List S39) (out : List Int), y ∈ endsF f out l ↔ y ∈ out ∨ ∃ x ∈ l, x.f0 = y ∧ f < x.f0
  | [], out => by simp [endsF]
  | x :: r, out => by
    unfold endsF
    rw [List.foldl_cons]
    by_cases c : x.f0 ≤ f
    · rw [if_pos c]
      have := mem_endsF f y r out
      unfold endsF at this
      rw [this]
      constructor
      · rintro (h | ⟨z, h1, h2⟩)
        · exact .inl h
        · exact .inr ⟨z, by simp [h1], h2⟩
      · rintro (h | ⟨z, h1, h2, h3⟩)
        · exact .inl h
        · rcases List.mem_cons.1 h1 with rfl | h1
          · omega
          · exact .inr ⟨z, h1, h2, h3⟩
    · rw [if_neg c]
      have := mem_endsF f y r (ins x.f0 out)
      unfold endsF at this
      rw [this, mem_ins]
      constructor
      · rintro ((h | h) | ⟨z, h1, h2⟩)
        · exact .inr ⟨x, by simp, h.symm, by omega⟩
        · exact .inl h
        · exact .inr ⟨z, by simp [h1], h2⟩
      · rintro (h | ⟨z, h1, h2, h3⟩)
        · exact .inl (.inr h)
        · rcases List.mem_cons.1 h1 with rfl | h1
          · exact .inl (.inl h2.symm)
          · exact .inr ⟨z, h1, h2, h3⟩
theorem up_endsF (f : Int) : ∀ (l : List S39) (out : List Int), Up out → Up (endsF f out l)
  | [], out, h => h
  | x :: r, out, h => by
    unfold endsF
    rw [List.foldl_cons]
    split
    · exact up_endsF f r out h
    · exact up_endsF f r _ (up_ins _ _ h)
theorem len_endsF (f : Int) : ∀ (l : List S39) (out : List Int), (endsF f out l).length ≤ out.length + l.length
  | [], out => by simp [endsF]
  | x :: r, out => by
    unfold endsF
    rw [List.foldl_cons]
    split
    · have := len_endsF f r out; unfold endsF at this; simp; omega
    · have := len_endsF f r (ins x.f0 out); unfold endsF at this; have := len_ins x.f0 out; simp; omega
theorem up_ext : ∀ a b : List Int, Up a → Up b → (∀ y, y ∈ a ↔ y ∈ b) → a = b
  | [], [], _, _, _ => rfl
  | [], z :: b, _, _, h => by have := (h z).2 (by simp); simp at this
  | z :: a, [], _, _, h => by have := (h z).1 (by simp); simp at this
  | x :: a, y :: b, ha, hb, h => by
    obtain ⟨a1, a2⟩ := List.pairwise_cons.1 ha
    obtain ⟨b1, b2⟩ := List.pairwise_cons.1 hb
    have e : x = y := by
      rcases List.mem_cons.1 ((h x).1 (by simp)) with e | e
      · exact e
      · rcases List.mem_cons.1 ((h y).2 (by simp)) with e' | e'
        · exact e'.symm
        · have := b1 x e; have := a1 y e'; omega
    subst e
    rw [up_ext a b a2 b2 (fun z => by
      constructor
      · intro hz
        rcases List.mem_cons.1 ((h z).1 (by simp [hz])) with e | e
        · have := a1 z hz; omega
        · exact e
      · intro hz
        rcases List.mem_cons.1 ((h z).2 (by simp [hz])) with e | e
        · have := b1 z hz; omega
        · exact e)]
theorem ends_l1 (a b : List S39) (f i t : Int) (v : List Int) (out : List Int) (hl : out.length < 100000) : ∀ (suf pre : List Int), pre ++ suf = out → Ev (fun k => gangerref05_ends.l0 k a b f (pre ++ ins t suf) (wrap64 (i + 1))) v →
    Ev (fun k => gangerref05_ends.l1 k a b f out i t pre (pre.length : Int)) v
  | [], pre, e, h => by
    rw [List.append_nil] at e
    subst e
    refine Ev.step (fun k => by rw [gangerref05_ends.l1]) ?_
    simp only [Int.lt_irrefl, if_false, show pre.length < 17592186044416 by omega, if_true, Option.bind_some, show (0 : Int) ≤ (pre.length : Int) by omega, Int.le_refl, Int.toNat_natCast, List.drop_length, List.append_nil, List.length_nil, Nat.add_zero, show (pre ++ [t]).length < 17592186044416 by simp; omega]
    exact h
  | y :: r, pre, e, h => by
    refine Ev.step (fun k => by rw [gangerref05_ends.l1]) ?_
    have hle : pre.length + 1 + r.length = out.length := by rw [← e]; simp; omega
    have hlt : (pre.length : Int) < (out.length : Int) := by omega
    have hw : wrap64 ((pre.length : Int) + 1) = ((pre ++ [y]).length : Int) := by rw [w64 (by omega)]; simp
    have hrd : rd out (pre.length : Int) = y := by rw [← e]; exact rd_midI pre y r
    have hdr : out.drop pre.length = y :: r := by rw [← e]; simp
    unfold ins at h
    simp only [if_pos hlt, hrd, hw, show (0 : Int) ≤ (pre.length : Int) by omega, if_true, show pre.length < 17592186044416 by omega]
    by_cases c : y < t
    · simp only [if_pos c] at h ⊢
      exact ends_l1 a b f i t v out hl r (pre ++ [y]) (by rw [← e]; simp) (by simpa using h)
    · by_cases d : y = t
      · simp only [if_neg c, if_pos d] at h ⊢
        rw [e] at h
        exact h
      · simp only [if_neg c, if_neg d, show (pre.length : Int) ≤ (out.length : Int) by omega, if_true, Option.bind_some, Int.toNat_natCast, hdr, show (pre ++ [t]).length + (y :: r).length < 17592186044416 by simp; omega] at h ⊢
        simpa using h
theorem ends_j1 (a b : List S39) (f i : Int) (x : S39) (v : List Int) (out : List Int) (hl : out.length < 100000) (h : Ev (fun k => gangerref05_ends.l0 k a b f (if x.f0 ≤ f then out else ins x.f0 out) (wrap64 (i + 1))) v) :
    Ev (fun k => gangerref05_ends.j1 k a b f out i x.f0) v := by
  refine Ev.step (fun k => by rw [gangerref05_ends.j1]) ?_
  by_cases c : x.f0 ≤ f
  · simp only [if_pos c] at h ⊢; exact h
  · simp only [if_neg c] at h ⊢
    exact ends_l1 a b f i x.f0 v out hl out [] rfl h
theorem ends_b (a b : List S39) (f : Int) (ha : a.length < 10000) (hb : b.length < 10000) : ∀ (s q : List S39) (out : List Int), q ++ s = b → out.length + s.length < 100000 →
    Ev (fun k => gangerref05_ends.l0 k a b f out ((a.length + q.length : Nat) : Int)) (endsF f out s)
  | [], q, out, e, hl => by
    rw [List.append_nil] at e
    subst e
    refine Ev.step (fun k => by rw [gangerref05_ends.l0]) ?_
    have hw : wrap64 ((a.length : Int) + (q.length : Int)) = ((a.length + q.length : Nat) : Int) := by rw [w64 (by omega)]; simp
    simp only [hw, Int.lt_irrefl, if_false]
    exact Ev.now _
  | x :: r, q, out, e, hl => by
    have hq : q.length + 1 + r.length = b.length := by rw [← e]; simp; omega
    refine Ev.step (fun k => by rw [gangerref05_ends.l0]) ?_
    have hw : wrap64 ((a.length : Int) + (b.length : Int)) = ((a.length + b.length : Nat) : Int) := by rw [w64 (by omega)]; simp
    have hw2 : wrap64 (((a.length + q.length : Nat) : Int) - (a.length : Int)) = (q.length : Int) := by rw [w64 (by omega)]; omega
    have hw3 : wrap64 (((a.length + q.length : Nat) : Int) + 1) = ((a.length + (q ++ [x]).length : Nat) : Int) := by rw [w64 (by omega)]; simp; omega
    have hrd : rd_T39 b (q.length : Int) = x := by rw [← e]; exact rd_mid q x r
    simp only [hw, hw2, show ((a.length + q.length : Nat) : Int) < ((a.length + b.length : Nat) : Int) by omega, if_true, show ¬ ((a.length + q.length : Nat) : Int) < (a.length : Int) by omega, if_false, show (0 : Int) ≤ (q.length : Int) by omega, show (q.length : Int) < (b.length : Int) by omega, hrd]
    refine ends_j1 a b f _ x _ out (by omega) ?_
    rw [hw3]
    have hl' : (if x.f0 ≤ f then out else ins x.f0 out).length + r.length < 100000 := by
      have := len_ins x.f0 out
      simp at hl
      split <;> omega
    exact ends_b a b f ha hb r (q ++ [x]) _ (by rw [← e]; simp) hl'
theorem ends_a (a b : List S39) (f : Int) (ha : a.length < 10000) (hb : b.length < 10000) : ∀ (s q : List S39) (out : List Int), q ++ s = a → out.length + s.length + b.length < 100000 →
    Ev (fun k => gangerref05_ends.l0 k a b f out (q.length : Int)) (endsF f (endsF f out s) b)
  | [], q, out, e, hl => by
    rw [List.append_nil] at e
    subst e
    exact ends_b q b f ha hb b [] out rfl (by simpa using hl)
  | x :: r, q, out, e, hl => by
    have hq : q.length + 1 + r.length = a.length := by rw [← e]; simp; omega
    refine Ev.step (fun k => by rw [gangerref05_ends.l0]) ?_
    have hw : wrap64 ((a.length : Int) + (b.length : Int)) = ((a.length + b.length : Nat) : Int) := by rw [w64 (by omega)]; simp
    have hw3 : wrap64 ((q.length : Int) + 1) = ((q ++ [x]).length : Int) := by rw [w64 (by omega)]; simp
    have hrd : rd_T39 a (q.length : Int) = x := by rw [← e]; exact rd_mid q x r
    simp only [hw, show (q.length : Int) < ((a.length + b.length : Nat) : Int) by omega, if_true, show (q.length : Int) < (a.length : Int) by omega, show (0 : Int) ≤ (q.length : Int) by omega, hrd]
    refine ends_j1 a b f _ x _ out (by omega) ?_
    rw [hw3]
    have hl' : (if x.f0 ≤ f then out else ins x.f0 out).length + r.length + b.length < 100000 := by
      have := len_ins x.f0 out
      simp at hl
      split <;> omega
    exact ends_a a b f ha hb r (q ++ [x]) _ (by rw [← e]; simp) hl'
def ends (a b : List S39) (f : Int) : List Int := endsF f (endsF f [f] a) b
theorem ends_ev (a b : List S39) (f : Int) (ha : a.length < 10000) (hb : b.length < 10000) : Ev (fun k => gangerref05_ends.f k a b f) (ends a b f) := by
  unfold gangerref05_ends.f
  exact ends_a a b f ha hb a [] [f] rfl (by simp; omega)
theorem up_ends (a b : List S39) (f : Int) : Up (ends a b f) := up_endsF f b _ (up_endsF f a _ (by simp [Up]))
theorem mem_ends (a b : List S39) (f y : Int) : y ∈ ends a b f ↔ y = f ∨ (∃ x ∈ a, x.f0 = y ∧ f < x.f0) ∨ (∃ x ∈ b, x.f0 = y ∧ f < x.f0) := by
  unfold ends
  rw [mem_endsF, mem_endsF, List.mem_singleton, or_assoc]
theorem len_ends (a b : List S39) (f : Int) : (ends a b f).length ≤ 1 + a.length + b.length := by
  have h1 := len_endsF f b (endsF f [f] a)
  have h2 := len_endsF f a [f]
  unfold ends
  simp at h2
  omega
theorem up_ticks {l : List S39} (h : Rise l) : Up (l.map (·.f0)) := List.pairwise_map.2 h
/-- the reference's levels: alike ones are one -/
theorem of_l (q : List S39) (hl : q.length < 100000) : ∀ (s p : List S39) (acc : List S39) (pr : Option Int), p ++ s = q → acc.length ≤ p.length → ((acc = [] ∧ pr = none) ∨ (∃ a y, acc = a ++ [y] ∧ pr = some y.f1)) →
    Ev (fun k => gangerref05_of.l0 k (q.map (·.f0)) (q.map (·.f1)) acc (p.length : Int)) (acc ++ cfA pr s)
  | [], p, acc, pr, e, hla, hp => by
    rw [List.append_nil] at e
    subst e
    refine Ev.step (fun k => by rw [gangerref05_of.l0]) ?_
    simp only [List.length_map, Int.lt_irrefl, if_false, cfA, List.append_nil]
    exact Ev.now _
  | x :: r, p, acc, pr, e, hla, hp => by
    have hq : p.length + 1 + r.length = q.length := by rw [← e]; simp; omega
    have hw : wrap64 ((p.length : Int) + 1) = ((p ++ [x]).length : Int) := by rw [w64 (by omega)]; simp
    have hr0 : rd (q.map (·.f0)) (p.length : Int) = x.f0 := by
      have := rd_midI (p.map (·.f0)) x.f0 (r.map (·.f0))
      rw [List.length_map] at this
      rw [← e, List.map_append, List.map_cons]; exact this
    have hr1 : rd (q.map (·.f1)) (p.length : Int) = x.f1 := by
      have := rd_midI (p.map (·.f1)) x.f1 (r.map (·.f1))
      rw [List.length_map] at this
      rw [← e, List.map_append, List.map_cons]; exact this
    refine Ev.step (fun k => by rw [gangerref05_of.l0]) ?_
    have ih := fun acc pr => of_l q hl r (p ++ [x]) acc pr (by rw [← e]; simp)
    simp only [List.length_map, show (p.length : Int) < (q.length : Int) by omega, if_true, show (0 : Int) ≤ (p.length : Int) by omega, hr0, hr1, hw, show acc.length < 8796093022208 by omega]
    have hx : (⟨x.f0, x.f1⟩ : S39) = x := rfl
    have happ : Ev (fun k => gangerref05_of.l0 k (q.map (·.f0)) (q.map (·.f1)) (acc ++ [x]) ((p ++ [x]).length : Int)) (acc ++ ([x] ++ cfA (some x.f1) r)) := by
      have := ih (acc ++ [x]) (some x.f1) (by simp; omega) (.inr ⟨acc, x, rfl, rfl⟩)
      rwa [List.append_assoc] at this
    rw [cfA]
    rcases hp with ⟨rfl, rfl⟩ | ⟨a, y, rfl, rfl⟩
    · simp only [List.length_nil, show ((0 : Nat) : Int) = 0 from rfl, if_true]
      rw [if_neg (by simp)]
      exact happ
    · have hla' : a.length + 1 = (a ++ [y]).length := by simp
      have hw2 : wrap64 (((a ++ [y]).length : Int) - 1) = (a.length : Int) := by rw [w64 (by omega)]; omega
      simp only [show ¬ ((a ++ [y]).length : Int) = 0 by omega, if_false, hw2, show (0 : Int) ≤ (a.length : Int) by omega, if_true, show (a.length : Int) < ((a ++ [y]).length : Int) by omega, rd_mid]
      by_cases c : y.f1 = x.f1
      · simp only [if_pos c]
        rw [if_pos (by rw [c]), List.nil_append]
        have := ih (a ++ [y]) (some y.f1) (by simp at hla ⊢; omega) (.inr ⟨a, y, rfl, rfl⟩)
        rwa [c] at this
      · simp only [if_neg c]
        rw [if_neg (fun h => c (by injection h))]
        exact happ
theorem of_ev (q : List S39) (hl : q.length < 100000) : Ev (fun k => gangerref05_of.f k (q.map (·.f0)) (q.map (·.f1))) (cf q) := by
  unfold gangerref05_of.f
  exact of_l q hl q [] [] none rfl (by simp) (.inl ⟨rfl, rfl⟩)
theorem cfA_sub : ∀ (l : List S39) (p : Option Int), List.Sublist (cfA p l) l
  | [], p => by simp [cfA]
  | x :: r, p => by
    unfold cfA
    split
    · exact List.Sublist.cons x (cfA_sub r _)
    · exact List.Sublist.cons_cons x (cfA_sub r _)
theorem cf_mem {l : List S39} {z : S39} (h : z ∈ cf l) : z ∈ l := (cfA_sub l none).subset h
theorem cf_rise {l : List S39} (h : Rise l) : Rise (cf l) := List.Pairwise.sublist (cfA_sub l none) h
theorem cfA_adj : ∀ (l : List S39) (y : S39), Adj (y :: cfA (some y.f1) l)
  | [], y => by simp [cfA, Adj]
  | x :: r, y => by
    unfold cfA
    by_cases c : y.f1 = x.f1
    · rw [if_pos (by rw [c]), ← c]
      exact cfA_adj r y
    · rw [if_neg (fun h => c (by injection h))]
      exact ⟨c, cfA_adj r x⟩
theorem cf_cons (x : S39) (r : List S39) : cf (x :: r) = x :: cfA (some x.f1) r := by
  unfold cf
  rw [cfA, if_neg (by simp)]
  rfl
theorem cfA_stp (t : Int) : ∀ (l : List S39) (v : Int), Rise l → stpA v (cfA (some v) l) t = stpA v l t
  | [], v, _ => rfl
  | x :: r, v, h => by
    obtain ⟨h1, h2⟩ := List.pairwise_cons.1 h
    unfold cfA
    have e : stpA v (x :: r) t = stpA (if x.f0 ≤ t then x.f1 else v) r t := rfl
    rw [e]
    by_cases c : v = x.f1
    · subst c
      rw [if_pos rfl, ite_self]
      exact cfA_stp t r _ h2
    · rw [if_neg (fun h => c (by injection h))]
      show stpA (if x.f0 ≤ t then x.f1 else v) (cfA (some x.f1) r) t = _
      by_cases d : x.f0 ≤ t
      · rw [if_pos d]; exact cfA_stp t r _ h2
      · rw [if_neg d, stpA_no (fun y hy => by have := h1 y ((cfA_sub r _).subset hy); omega), stpA_no (fun y hy => by have := h1 y hy; omega)]
theorem cf_stp {l : List S39} (h : Rise l) (t : Int) : stp (cf l) t = stp l t := by
  cases l with
  | nil => rfl
  | cons x r =>
    rw [cf_cons]
    obtain ⟨h1, h2⟩ := List.pairwise_cons.1 h
    show stpA (if x.f0 ≤ t then x.f1 else 0) (cfA (some x.f1) r) t = stpA (if x.f0 ≤ t then x.f1 else 0) r t
    by_cases d : x.f0 ≤ t
    · rw [if_pos d]; exact cfA_stp t r _ h2
    · rw [if_neg d, stpA_no (fun y hy => by have := h1 y ((cfA_sub r _).subset hy); omega), stpA_no (fun y hy => by have := h1 y hy; omega)]
theorem cf_valid {x : S39} {r : List S39} (h : Rise (x :: r)) (ho : ∀ z ∈ x :: r, ok1 z) : Valid (cf (x :: r)) :=
  ⟨by rw [cf_cons]; simp, fun z hz => ho z (cf_mem hz), cf_rise h, by rw [cf_cons]; exact cfA_adj r x⟩
theorem cfA_id : ∀ (l : List S39) (y : S39), Adj (y :: l) → cfA (some y.f1) l = l
  | [], y, _ => rfl
  | x :: r, y, h => by
    unfold cfA
    rw [if_neg (fun e => h.1 (by injection e)), cfA_id r x h.2]
    rfl
theorem cf_id {l : List S39} (h : Adj l) : cf l = l := by
  cases l with
  | nil => rfl
  | cons x r => rw [cf_cons, cfA_id r x h]
theorem cf_len (l : List S39) : (cf l).length ≤ l.length := (cfA_sub l none).length_le
end Go.Proofs.Ytfcmpnajokjaaaa.Prof
