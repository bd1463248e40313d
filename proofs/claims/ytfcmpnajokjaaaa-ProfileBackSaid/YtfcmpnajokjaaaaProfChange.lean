/- More, or fewer, at some ticks: both sides, and what comes out. -/
import Derived.Test.YtfcmpnajokjaaaaProfEnds
import Derived.Test.YtfcmpnajokjaaaaProfMore
import Derived.Test.YtfcmpnajokjaaaaP0
import Derived.Test.YtfcmpnajokjaaaaP2
import Derived.Test.YtfcmpnajokjaaaaP4
import Derived.Test.YtfcmpnajokjaaaaP5
import Derived.Test.YtfcmpnajokjaaaaP9
import Derived.Test.YtfcmpnajokjaaaaP10
namespace Go.Proofs.Ytfcmpnajokjaaaa.Prof
open Go.RowKit Go.Proofs.YtfcmpnajokjaaaaW.PrintWords Go.Proofs.YtfcmpnajokjaaaaW.PrintLast Go.Proofs.YtfcmpnajokjaaaaW.PrintMore Go.Proofs.Ytfcmpnajokjaaaa.P
theorem stp_dup (A r : List S39) (x y : S39) (s : Int) (h : x.f0 ≤ y.f0) (h1 : y.f1 = x.f1) : stp (A ++ x :: y :: r) s = stp (A ++ x :: r) s := by
  unfold stp stpA
  rw [List.foldl_append, List.foldl_append, List.foldl_cons, List.foldl_cons, List.foldl_cons]
  congr 1
  split <;> split <;> omega
theorem insert_f (A r : List S39) (x y : S39) (hl : (A ++ x :: r).length < 10000) : api_Level_40.f (A ++ x :: r) (((A ++ [x]).length : Nat) : Int) [y] = some (A ++ x :: y :: r) := by
  have e : A ++ x :: r = (A ++ [x]) ++ r := by simp
  have hlen : (A ++ x :: r).length = (A ++ [x]).length + r.length := by rw [e, List.length_append]
  unfold api_Level_40.f
  have h1 : (A ++ [x]).length = A.length + 1 := by simp
  rw [if_pos (by omega), if_pos (by simp), if_pos (by omega), if_pos (by omega), if_pos (by omega), Int.toNat_natCast, e, List.take_left, List.drop_left]
  simp
theorem cut_ev (p1 r1 : List S39) (w : S39) (t : Int) (hl : (p1 ++ w :: r1).length < 9000) (hr : Rise (p1 ++ w :: r1)) (ho : ∀ z ∈ p1 ++ w :: r1, ok1 z) (hw : w.f0 ≤ t) (ht : t ≤ 1099511627776) :
    ∃ m y r, y.f0 = t ∧ Ev (fun k => profile_cut.f k (p1 ++ w :: r1) t) (p1 ++ (m ++ y :: r), (((p1 ++ m).length : Nat) : Int)) ∧ Rise (p1 ++ (m ++ y :: r)) ∧ (∀ z ∈ m, w.f0 ≤ z.f0 ∧ z.f0 < t) ∧ (w.f0 < t → ∃ m', m = w :: m') ∧
      (∀ s, stp (p1 ++ (m ++ y :: r)) s = stp (p1 ++ w :: r1) s) ∧ (∀ u, (∃ z ∈ p1 ++ (m ++ y :: r), z.f0 = u) ↔ u = t ∨ ∃ z ∈ p1 ++ w :: r1, z.f0 = u) ∧ (∀ z ∈ p1 ++ (m ++ y :: r), ok1 z) ∧ (p1 ++ (m ++ y :: r)).length ≤ (p1 ++ w :: r1).length + 1 := by
  have hrw : Rise (w :: r1) := (List.pairwise_append.1 hr).2.1
  obtain ⟨p0, x, r, e, hx, hz⟩ := split r1 w t hrw hw
  have el : p1 ++ w :: r1 = (p1 ++ p0) ++ x :: r := by rw [e]; simp
  have hxo : ok1 x := ho x (by rw [el]; simp)
  have hwo : ok1 w := ho w (by simp)
  have hrp : Rise (p0 ++ x :: r) := by rw [← e]; exact hrw
  have hp0 : ∀ z ∈ p0, w.f0 ≤ z.f0 ∧ z.f0 < x.f0 := fun z hz' => ⟨head_le hrw z (by rw [e]; simp [hz']), (List.pairwise_append.1 hrp).2.2 z hz' x (by simp)⟩
  have hfind : Ev (fun k => profile_find.f k (p1 ++ w :: r1) t) (((p1 ++ p0).length : Nat) : Int) := by
    rw [el]
    exact find_ev (p1 ++ p0) x r t (by rw [← el]; omega) (by rw [← el]; exact hr) (fun z hz' => by have := ho z (by rw [el]; exact hz'); unfold ok1 at this; omega) (by unfold ok1 at hwo; omega) hx hz
  have hidx : ((p1 ++ p0).length : Int) < ((p1 ++ w :: r1).length : Int) := by rw [el]; simp; omega
  have hrd : rd_T39 (p1 ++ w :: r1) (((p1 ++ p0).length : Nat) : Int) = x := by rw [el]; exact rd_mid (p1 ++ p0) x r
  by_cases c : x.f0 = t
  · refine ⟨p0, x, r, c, ?_, ?_, fun z hz' => by have := hp0 z hz'; omega, fun hlt => ?_, ?_, ?_, ?_, ?_⟩
    · unfold profile_cut.f
      refine Ev.bind hfind ?_
      simp only [show (0 : Int) ≤ (((p1 ++ p0).length : Nat) : Int) by omega, hidx, if_true, hrd, if_pos c]
      rw [← e]
      exact Ev.now _
    · rw [← e]; exact hr
    · cases p0 with
      | nil => simp only [List.nil_append, List.cons.injEq] at e; rw [e.1] at hlt; omega
      | cons a p0 => simp only [List.cons_append, List.cons.injEq] at e; exact ⟨p0, by rw [e.1]⟩
    · rw [← e]; exact fun _ => rfl
    · intro u
      rw [← e]
      constructor
      · exact .inr
      · rintro (rfl | h)
        · exact ⟨x, by rw [el]; simp, c⟩
        · exact h
    · rw [← e]; exact ho
    · rw [← e]; omega
  · have e2 : p1 ++ ((p0 ++ [x]) ++ (⟨t, x.f1⟩ : S39) :: r) = (p1 ++ p0) ++ x :: (⟨t, x.f1⟩ : S39) :: r := by simp
    have hmem : ∀ z, z ∈ p1 ++ ((p0 ++ [x]) ++ (⟨t, x.f1⟩ : S39) :: r) ↔ z = ⟨t, x.f1⟩ ∨ z ∈ p1 ++ w :: r1 := fun z => by
      rw [e2, el]
      simp only [List.mem_append, List.mem_cons]
      constructor
      · rintro (h | h | h | h)
        · exact .inr (.inl h)
        · exact .inr (.inr (.inl h))
        · exact .inl h
        · exact .inr (.inr (.inr h))
      · rintro (h | h | h | h)
        · exact .inr (.inr (.inl h))
        · exact .inl h
        · exact .inr (.inl h)
        · exact .inr (.inr (.inr h))
    refine ⟨p0 ++ [x], ⟨t, x.f1⟩, r, rfl, ?_, ?_, fun z hz' => ?_, fun hlt => ?_, ?_, ?_, ?_, ?_⟩
    · unfold profile_cut.f
      refine Ev.bind hfind ?_
      have hw1 : wrap64 ((((p1 ++ p0).length : Nat) : Int) + 1) = ((((p1 ++ p0) ++ [x]).length : Nat) : Int) := by
        have : (p1 ++ p0).length + 1 + r.length = (p1 ++ w :: r1).length := by rw [el]; simp; omega
        rw [w64 (by omega)]; simp; omega
      simp only [show (0 : Int) ≤ (((p1 ++ p0).length : Nat) : Int) by omega, hidx, if_true, hrd, if_neg c, hw1]
      rw [el, insert_f (p1 ++ p0) r x ⟨t, x.f1⟩ (by rw [← el]; omega)]
      simp only [Option.bind_some]
      rw [e2, ← List.append_assoc]
      exact Ev.now _
    · rw [e2]
      rw [el] at hr
      refine List.pairwise_append.2 ⟨(List.pairwise_append.1 hr).1, ?_, ?_⟩
      · have h2 := (List.pairwise_append.1 hr).2.1
        refine List.pairwise_cons.2 ⟨fun z hz' => ?_, List.pairwise_cons.2 ⟨hz, (List.pairwise_cons.1 h2).2⟩⟩
        rcases List.mem_cons.1 hz' with rfl | hz'
        · simp; omega
        · exact (List.pairwise_cons.1 h2).1 z hz'
      · intro a ha b hb
        have h3 := (List.pairwise_append.1 hr).2.2 a ha
        rcases List.mem_cons.1 hb with rfl | hb
        · exact h3 b (by simp)
        · rcases List.mem_cons.1 hb with rfl | hb
          · have := h3 x (by simp); simp; omega
          · exact h3 b (by simp [hb])
    · rcases List.mem_append.1 hz' with h | h
      · have := hp0 z h; omega
      · have : z = x := by simpa using h
        rw [this]
        exact ⟨head_le hrw x (by rw [e]; simp), by omega⟩
    · cases p0 with
      | nil => simp only [List.nil_append, List.cons.injEq] at e; exact ⟨[], by rw [e.1]; rfl⟩
      | cons a p0 => simp only [List.cons_append, List.cons.injEq] at e; exact ⟨p0 ++ [x], by rw [e.1]; rfl⟩
    · intro s
      rw [e2, el]
      exact stp_dup _ _ _ _ _ hx rfl
    · intro u
      constructor
      · rintro ⟨z, h1, rfl⟩
        rcases (hmem z).1 h1 with rfl | h
        · exact .inl rfl
        · exact .inr ⟨z, h, rfl⟩
      · rintro (rfl | ⟨z, h, rfl⟩)
        · exact ⟨⟨u, x.f1⟩, (hmem _).2 (.inl rfl), rfl⟩
        · exact ⟨z, (hmem z).2 (.inr h), rfl⟩
    · intro z h
      rcases (hmem z).1 h with rfl | h
      · unfold ok1 at hxo hwo ⊢; simp; omega
      · exact ho z h
    · rw [e2, el]; simp; omega
def inR (v : Int) : Bool := decide (0 ≤ v ∧ v ≤ 1099511627776)
theorem chg_l (n : Int) (hn : -1099511627776 ≤ n ∧ n ≤ 1099511627776) (post : List S39) : ∀ (s pre : List S39), (∀ z ∈ s, ok1 z) → (pre ++ (s ++ post)).length < 10000 →
    Ev (fun k => profile_Change.l0 k n (pre ++ (s ++ post)) (((pre ++ s).length : Nat) : Int) ((pre.length : Nat) : Int)) (if s.all (fun z => inR (z.f1 + n)) = true then (cf (pre ++ (s.map (fun z => (⟨z.f0, z.f1 + n⟩ : S39)) ++ post)), 0) else ([], 5))
  | [], pre, ho, hl => by
    refine Ev.step (fun k => by rw [profile_Change.l0]) ?_
    simp only [List.append_nil, Int.lt_irrefl, if_false, List.all_nil, if_true, profile_compact.f, Option.bind_some, List.nil_append, List.map_nil]
    exact Ev.now _
  | z :: r, pre, ho, hl => by
    have hz := ho z (by simp)
    unfold ok1 at hz
    have hlen : pre.length + 1 + r.length ≤ (pre ++ (z :: r ++ post)).length := by simp; omega
    have hl1 : ((pre.length : Nat) : Int) < (((pre ++ z :: r).length : Nat) : Int) := by simp; omega
    have hl2 : ((pre.length : Nat) : Int) < (((pre ++ (z :: r ++ post)).length : Nat) : Int) := by omega
    have hw : wrap64 (((pre.length : Nat) : Int) + 1) = (((pre ++ [(⟨z.f0, z.f1 + n⟩ : S39)]).length : Nat) : Int) := by rw [w64 (by omega)]; simp
    have hrd : rd_T39 (pre ++ (z :: r ++ post)) ((pre.length : Nat) : Int) = z := rd_mid pre z (r ++ post)
    have hset : (pre ++ (z :: r ++ post)).set pre.length (⟨z.f0, z.f1 + n⟩ : S39) = pre ++ (⟨z.f0, z.f1 + n⟩ : S39) :: (r ++ post) := by simp
    have hlen2 : (pre ++ z :: r).length = ((pre ++ [(⟨z.f0, z.f1 + n⟩ : S39)]) ++ r).length := by simp
    refine Ev.step (fun k => by rw [profile_Change.l0]) ?_
    simp only [if_pos hl1, if_pos hl2, show (0 : Int) ≤ ((pre.length : Nat) : Int) by omega, if_true, hrd, show wrap64 (z.f1 + n) = z.f1 + n from w64 (by omega), Int.toNat_natCast, hset, Option.bind_some, rd_mid, hw, List.all_cons, List.map_cons]
    simp only [hlen2]
    have ih := chg_l n hn post r (pre ++ [(⟨z.f0, z.f1 + n⟩ : S39)]) (fun q hq => ho q (by simp [hq])) (by simpa using hl)
    by_cases c1 : z.f1 + n < 0
    · simp only [if_pos c1]
      rw [show inR (z.f1 + n) = false by unfold inR; rw [decide_eq_false]; omega, Bool.false_and, if_neg (by simp)]
      exact Ev.now _
    by_cases c2 : z.f1 + n > 1099511627776
    · simp only [if_neg c1, if_pos c2]
      rw [show inR (z.f1 + n) = false by unfold inR; rw [decide_eq_false]; omega, Bool.false_and, if_neg (by simp)]
      exact Ev.now _
    · simp only [if_neg c1, if_neg c2]
      rw [show inR (z.f1 + n) = true by unfold inR; rw [decide_eq_true]; omega, Bool.true_and]
      simp only [List.append_assoc, List.singleton_append, List.cons_append, List.nil_append] at ih ⊢
      exact ih
def shiftV (f len n u : Int) : Int := if f ≤ u ∧ u < f + len then n else 0
theorem rchg_l (l : List S39) (hl : l.length < 10000) (hv : Valid l) (f len n : Int) (hf : 0 ≤ f ∧ f ≤ 1099511627776) (hlen : 0 ≤ len ∧ len ≤ 1099511627776) (hn : -1099511627776 ≤ n ∧ n ≤ 1099511627776) (at_ : List Int) (hat : at_.length < 100000) (v : List S39) : ∀ (s p : List Int), p ++ s = at_ →
    Ev (fun k => gangerref05_of.f k at_ (at_.map (fun u => stp l u + shiftV f len n u))) v →
    Ev (fun k => gangerref05_Change.l0 k l f len n at_ (p.map (fun u => stp l u + shiftV f len n u)) (p.length : Int)) (if s.all (fun u => inR (stp l u + shiftV f len n u)) = true then (v, 0) else ([], 5))
  | [], p, e, h => by
    rw [List.append_nil] at e
    subst e
    refine Ev.step (fun k => by rw [gangerref05_Change.l0]) ?_
    simp only [Int.lt_irrefl, if_false, List.all_nil, if_true]
    exact Ev.bind h (Ev.now _)
  | u :: s, p, e, h => by
    have hq : p.length + 1 + s.length = at_.length := by rw [← e]; simp; omega
    have hw : wrap64 ((p.length : Int) + 1) = ((p ++ [u]).length : Int) := by rw [w64 (by omega)]; simp
    have hrd : rd at_ (p.length : Int) = u := by rw [← e]; exact rd_midI p u s
    have hst := stp_bd hv.2.1 u
    have ih := rchg_l l hl hv f len n hf hlen hn at_ hat v s (p ++ [u]) (by rw [← e]; simp) h
    rw [List.map_append, List.map_cons, List.map_nil] at ih
    refine Ev.step (fun k => by rw [gangerref05_Change.l0]) ?_
    simp only [show (p.length : Int) < (at_.length : Int) by omega, if_true, show (0 : Int) ≤ (p.length : Int) by omega, hrd, show wrap64 (f + len) = f + len from w64 (by omega)]
    refine Ev.bind (rat_ok (by omega) hv u) ?_
    have key : Ev (fun k => gangerref05_Change.j2 k l f len n at_ (p.map (fun u => stp l u + shiftV f len n u)) (p.length : Int) (stp l u) (decide (f ≤ u ∧ u < f + len))) (if (u :: s).all (fun u => inR (stp l u + shiftV f len n u)) = true then (v, 0) else ([], 5)) := by
      refine Ev.step (fun k => by rw [gangerref05_Change.j2]) ?_
      rw [List.all_cons]
      by_cases c : f ≤ u ∧ u < f + len
      · have hs : shiftV f len n u = n := if_pos c
        rw [hs] at ih ⊢
        simp only [decide_eq_true c, if_true, show wrap64 (stp l u + n) = stp l u + n from w64 (by omega), List.length_map, show p.length < 17592186044416 by omega, hw]
        by_cases c1 : stp l u + n < 0
        · simp only [if_pos c1]
          rw [show inR (stp l u + n) = false by unfold inR; rw [decide_eq_false]; omega, Bool.false_and, if_neg (by simp)]
          exact Ev.now _
        by_cases c2 : stp l u + n > 1099511627776
        · simp only [if_neg c1, if_pos c2]
          rw [show inR (stp l u + n) = false by unfold inR; rw [decide_eq_false]; omega, Bool.false_and, if_neg (by simp)]
          exact Ev.now _
        · simp only [if_neg c1, if_neg c2]
          rw [show inR (stp l u + n) = true by unfold inR; rw [decide_eq_true]; omega, Bool.true_and]
          exact ih
      · have hs : shiftV f len n u = 0 := if_neg c
        rw [hs, Int.add_zero] at ih ⊢
        simp only [decide_eq_false c, Bool.false_eq_true, if_false, if_neg (show ¬ stp l u < 0 by omega), if_neg (show ¬ stp l u > 1099511627776 by omega), List.length_map, show p.length < 17592186044416 by omega, if_true, hw]
        rw [show inR (stp l u) = true by unfold inR; rw [decide_eq_true]; omega, Bool.true_and]
        exact ih
    by_cases c : u ≥ f
    · simp only [if_pos c]
      rw [show decide (f ≤ u ∧ u < f + len) = decide (u < f + len) from decide_eq_decide.2 (by omega)] at key
      exact key
    · simp only [if_neg c]
      rw [decide_eq_false (show ¬ (f ≤ u ∧ u < f + len) by omega)] at key
      exact key
def cArg (x0 f len n : Int) : Prop := x0 ≤ f ∧ f ≤ 1099511627776 ∧ 1 ≤ len ∧ len ≤ 1099511627776 - f ∧ -1099511627776 ≤ n ∧ n ≤ 1099511627776
def addL (f len n : Int) (z : S39) : S39 := ⟨z.f0, z.f1 + shiftV f len n z.f0⟩
theorem change_core {x : S39} {r : List S39} (hl : (x :: r).length < 5000) (hv : Valid (x :: r)) {f len n : Int} (ha : cArg x.f0 f len n) :
    ∃ q : List S39, Rise q ∧ (∀ z ∈ q, ok1 z) ∧ q.length ≤ (x :: r).length + 2 ∧ (∀ s, stp q s = stp (x :: r) s) ∧ (∀ u, (∃ z ∈ q, z.f0 = u) ↔ u = f + len ∨ u = f ∨ ∃ z ∈ x :: r, z.f0 = u) ∧
      (let v := if q.all (fun z => inR (addL f len n z).f1) = true then (cf (q.map (addL f len n)), (0 : Int)) else ([], 5);
        Ev (fun k => profile_Change.f k (x :: r) f len n) v ∧ Ev (fun k => gangerref05_Change.f k (x :: r) f len n) v) := by
  unfold cArg at ha
  obtain ⟨a1, a2, a3, a4, a5, a6⟩ := ha
  have hx := hv.bd x (by simp)
  obtain ⟨p1, y1, r1, hy1, c1, hr1, hp1, _, hs1, ht1, ho1, hl1⟩ := cut_ev [] r x f (by simp at hl ⊢; omega) hv.2.2.1 hv.2.1 a1 a2
  simp only [List.nil_append] at c1 hr1 hp1 hs1 ht1 ho1 hl1
  obtain ⟨m, y2, r2, hy2, c2, hr2, hm, hm', hs2, ht2, ho2, hl2⟩ := cut_ev p1 r1 y1 (f + len) (by omega) hr1 ho1 (by omega) (by omega)
  obtain ⟨m', rfl⟩ := hm' (by omega)
  have hp1f : ∀ z ∈ p1, z.f0 < f := fun z hz => by have := hp1 z hz; omega
  have hr2f : ∀ z ∈ y2 :: r2, f + len ≤ z.f0 := fun z hz => by
    have := head_le (List.pairwise_append.1 (List.pairwise_append.1 hr2).2.1).2.1 z hz; omega
  have hshift1 : ∀ z ∈ p1, addL f len n z = z := fun z hz => by
    have := hp1f z hz
    unfold addL shiftV; rw [if_neg (by omega), Int.add_zero]
  have hshift2 : ∀ z ∈ y1 :: m', addL f len n z = ⟨z.f0, z.f1 + n⟩ := fun z hz => by
    have := hm z hz
    unfold addL shiftV; rw [if_pos (by omega)]
  have hshift3 : ∀ z ∈ y2 :: r2, addL f len n z = z := fun z hz => by
    have := hr2f z hz
    unfold addL shiftV; rw [if_neg (by omega), Int.add_zero]
  have hmapQ : (p1 ++ ((y1 :: m') ++ y2 :: r2)).map (addL f len n) = p1 ++ ((y1 :: m').map (fun z => (⟨z.f0, z.f1 + n⟩ : S39)) ++ y2 :: r2) := by
    rw [List.map_append, List.map_append]
    congr 1
    · conv => rhs; rw [← List.map_id p1]
      exact List.map_congr_left hshift1
    · congr 1
      · exact List.map_congr_left hshift2
      · conv => rhs; rw [← List.map_id (y2 :: r2)]
        exact List.map_congr_left hshift3
  have hin : ∀ z, ok1 z → inR z.f1 = true := fun z hz => by unfold ok1 at hz; unfold inR; rw [decide_eq_true]; omega
  have hall : (p1 ++ ((y1 :: m') ++ y2 :: r2)).all (fun z => inR (addL f len n z).f1) = (y1 :: m').all (fun z => inR (z.f1 + n)) := by
    rw [List.all_append, List.all_append]
    have b1 : p1.all (fun z => inR (addL f len n z).f1) = true := List.all_eq_true.2 (fun z hz => by rw [hshift1 z hz]; exact hin z (ho2 z (by simp [hz])))
    have b3 : (y2 :: r2).all (fun z => inR (addL f len n z).f1) = true := List.all_eq_true.2 (fun z hz => by rw [hshift3 z hz]; exact hin z (ho2 z (by rcases List.mem_cons.1 hz with rfl | hz <;> simp [*])))
    have b2 : (y1 :: m').all (fun z => inR (addL f len n z).f1) = (y1 :: m').all (fun z => inR (z.f1 + n)) := by
      rw [Bool.eq_iff_iff, List.all_eq_true, List.all_eq_true]
      constructor
      · intro h z hz; have := h z hz; rwa [hshift2 z hz] at this
      · intro h z hz; rw [hshift2 z hz]; exact h z hz
    rw [b1, b2, b3, Bool.true_and, Bool.and_true]
  have hstp : ∀ s, stp (p1 ++ ((y1 :: m') ++ y2 :: r2)) s = stp (x :: r) s := fun s => (hs2 s).trans (hs1 s)
  have hticks : ∀ u, (∃ z ∈ p1 ++ ((y1 :: m') ++ y2 :: r2), z.f0 = u) ↔ u = f + len ∨ u = f ∨ ∃ z ∈ x :: r, z.f0 = u := fun u => by rw [ht2, ht1]
  refine ⟨p1 ++ ((y1 :: m') ++ y2 :: r2), hr2, ho2, by omega, hstp, hticks, ?_, ?_⟩
  · rw [hall, hmapQ]
    unfold profile_Change.f
    refine Ev.bind (check_ok (by omega) hv) ?_
    simp only [if_true, show 0 < ((x :: r).length : Int) by rw [List.length_cons]; omega, rd_zero, if_neg (show ¬ f < x.f0 by omega), if_neg (show ¬ f > 1099511627776 by omega), if_neg (show ¬ len < 1 by omega), show wrap64 (1099511627776 - f) = 1099511627776 - f from w64 (by omega), if_neg (show ¬ len > 1099511627776 - f by omega), if_neg (show ¬ n < -1099511627776 by omega), if_neg (show ¬ n > 1099511627776 by omega)]
    rw [clone_f (x :: r) (by omega)]
    simp only [Option.bind_some, show wrap64 (f + len) = f + len from w64 (by omega)]
    refine Ev.bind c1 ?_
    refine Ev.bind c2 ?_
    exact chg_l n ⟨a5, a6⟩ (y2 :: r2) (y1 :: m') p1 (fun z hz => ho2 z (by rw [List.mem_append, List.mem_append]; exact .inr (.inl hz))) (by omega)
  · unfold gangerref05_Change.f
    refine Ev.bind (rcheck_ok (by omega) hv) ?_
    simp only [if_true, show 0 < ((x :: r).length : Int) by rw [List.length_cons]; omega, rd_zero, if_neg (show ¬ f < x.f0 by omega), if_neg (show ¬ f > 1099511627776 by omega), if_neg (show ¬ len < 1 by omega), show wrap64 (1099511627776 - f) = 1099511627776 - f from w64 (by omega), if_neg (show ¬ len > 1099511627776 - f by omega), if_neg (show ¬ n < -1099511627776 by omega), decide_eq_false (show ¬ n > 1099511627776 by omega)]
    refine Ev.step (fun k => by rw [gangerref05_Change.j0]) ?_
    simp only [Bool.false_eq_true, if_false, show 0 < ((x :: r).length : Int) by rw [List.length_cons]; omega, if_true, rd_zero, show wrap64 (f + len) = f + len from w64 (by omega)]
    refine Ev.bind (ends_ev (x :: r) _ x.f0 (by omega) (by simp)) ?_
    have hat : ends (x :: r) [⟨f, 0⟩, ⟨f + len, 0⟩] x.f0 = (p1 ++ ((y1 :: m') ++ y2 :: r2)).map (·.f0) := by
      refine up_ext _ _ (up_ends _ _ _) (up_ticks hr2) (fun u => ?_)
      rw [mem_ends]
      have : u ∈ (p1 ++ ((y1 :: m') ++ y2 :: r2)).map (·.f0) ↔ ∃ z ∈ p1 ++ ((y1 :: m') ++ y2 :: r2), z.f0 = u := List.mem_map
      rw [this, hticks]
      constructor
      · rintro (rfl | ⟨z, h1, h2, _⟩ | ⟨z, h1, rfl, _⟩)
        · exact .inr (.inr ⟨x, by simp, rfl⟩)
        · exact .inr (.inr ⟨z, h1, h2⟩)
        · simp only [List.mem_cons, List.not_mem_nil, or_false] at h1
          rcases h1 with rfl | rfl
          · exact .inr (.inl rfl)
          · exact .inl rfl
      · rintro (rfl | rfl | ⟨z, h1, rfl⟩)
        · exact .inr (.inr ⟨⟨f + len, 0⟩, by simp, rfl, by simp; omega⟩)
        · rcases Decidable.em (u = x.f0) with c | c
          · exact .inl c
          · exact .inr (.inr ⟨⟨u, 0⟩, by simp, rfl, by simp; omega⟩)
        · rcases Decidable.em (z.f0 = x.f0) with c | c
          · exact .inl c
          · exact .inr (.inl ⟨z, h1, rfl, by have := head_le hv.2.2.1 z h1; omega⟩)
    have hfr : ∀ z ∈ p1 ++ ((y1 :: m') ++ y2 :: r2), stp (x :: r) z.f0 + shiftV f len n z.f0 = (addL f len n z).f1 := fun z hz => by
      rw [← hstp, stp_mem hr2 hz]; rfl
    have hfree : (ends (x :: r) [⟨f, 0⟩, ⟨f + len, 0⟩] x.f0).map (fun u => stp (x :: r) u + shiftV f len n u) = ((p1 ++ ((y1 :: m') ++ y2 :: r2)).map (addL f len n)).map (·.f1) := by
      rw [hat, List.map_map, List.map_map]
      exact List.map_congr_left hfr
    have hat2 : ends (x :: r) [⟨f, 0⟩, ⟨f + len, 0⟩] x.f0 = ((p1 ++ ((y1 :: m') ++ y2 :: r2)).map (addL f len n)).map (·.f0) := by
      rw [hat, List.map_map]; exact List.map_congr_left (fun z _ => rfl)
    have hal : (ends (x :: r) [⟨f, 0⟩, ⟨f + len, 0⟩] x.f0).all (fun u => inR (stp (x :: r) u + shiftV f len n u)) = (p1 ++ ((y1 :: m') ++ y2 :: r2)).all (fun z => inR (addL f len n z).f1) := by
      rw [hat, List.all_map, Bool.eq_iff_iff, List.all_eq_true, List.all_eq_true]
      constructor
      · intro h z hz; have := h z hz; simp only [Function.comp_apply] at this; rwa [hfr z hz] at this
      · intro h z hz; simp only [Function.comp_apply]; rw [hfr z hz]; exact h z hz
    have hle := len_ends (x :: r) [⟨f, 0⟩, ⟨f + len, 0⟩] x.f0
    have hres := rchg_l (x :: r) (by omega) hv f len n (by omega) (by omega) ⟨a5, a6⟩ (ends (x :: r) [⟨f, 0⟩, ⟨f + len, 0⟩] x.f0) (by simp at hle hl ⊢; omega) (cf ((p1 ++ ((y1 :: m') ++ y2 :: r2)).map (addL f len n))) (ends (x :: r) [⟨f, 0⟩, ⟨f + len, 0⟩] x.f0) [] rfl (by
      rw [hfree, hat2]
      exact of_ev _ (by rw [List.length_map]; omega))
    rw [hal] at hres
    exact hres
theorem change_arg {x : S39} {r : List S39} (hl : (x :: r).length < 5000) (hv : Valid (x :: r)) {f len n : Int} (ha : ¬ cArg x.f0 f len n) : Ev (fun k => profile_Change.f k (x :: r) f len n) ([], 2) ∧ Ev (fun k => gangerref05_Change.f k (x :: r) f len n) ([], 2) := by
  have hx := hv.bd x (by simp)
  have j : Ev (fun k => gangerref05_Change.j0 k (x :: r) f len n true) ([], 2) := by
    refine Ev.step (fun k => by rw [gangerref05_Change.j0]) ?_
    simp only [if_true]; exact Ev.now _
  unfold cArg at ha
  unfold profile_Change.f gangerref05_Change.f
  constructor
  · refine Ev.bind (check_ok (by omega) hv) ?_
    simp only [if_true, show 0 < ((x :: r).length : Int) by rw [List.length_cons]; omega, rd_zero]
    by_cases c1 : f < x.f0
    · simp only [if_pos c1]; exact Ev.now _
    by_cases c2 : f > 1099511627776
    · simp only [if_neg c1, if_pos c2]; exact Ev.now _
    by_cases c3 : len < 1
    · simp only [if_neg c1, if_neg c2, if_pos c3]; exact Ev.now _
    rw [show wrap64 (1099511627776 - f) = 1099511627776 - f from w64 (by omega)]
    by_cases c4 : len > 1099511627776 - f
    · simp only [if_neg c1, if_neg c2, if_neg c3, if_pos c4]; exact Ev.now _
    by_cases c5 : n < -1099511627776
    · simp only [if_neg c1, if_neg c2, if_neg c3, if_neg c4, if_pos c5]; exact Ev.now _
    by_cases c6 : n > 1099511627776
    · simp only [if_neg c1, if_neg c2, if_neg c3, if_neg c4, if_neg c5, if_pos c6]; exact Ev.now _
    · exact absurd (by omega) ha
  · refine Ev.bind (rcheck_ok (by omega) hv) ?_
    simp only [if_true, show 0 < ((x :: r).length : Int) by rw [List.length_cons]; omega, rd_zero]
    by_cases c1 : f < x.f0
    · simp only [if_pos c1]; exact j
    by_cases c2 : f > 1099511627776
    · simp only [if_neg c1, if_pos c2]; exact j
    by_cases c3 : len < 1
    · simp only [if_neg c1, if_neg c2, if_pos c3]; exact j
    rw [show wrap64 (1099511627776 - f) = 1099511627776 - f from w64 (by omega)]
    by_cases c4 : len > 1099511627776 - f
    · simp only [if_neg c1, if_neg c2, if_neg c3, if_pos c4]; exact j
    by_cases c5 : n < -1099511627776
    · simp only [if_neg c1, if_neg c2, if_neg c3, if_neg c4, if_pos c5]; exact j
    by_cases c6 : n > 1099511627776
    · simp only [if_neg c1, if_neg c2, if_neg c3, if_neg c4, if_neg c5, decide_eq_true c6]; exact j
    · exact absurd (by omega) ha
theorem change_inv {l : List S39} (hl : l.length < 5000) (hv : ¬ Valid l) (f len n : Int) : Ev (fun k => profile_Change.f k l f len n) ([], 50) ∧ Ev (fun k => gangerref05_Change.f k l f len n) ([], 50) := by
  unfold profile_Change.f gangerref05_Change.f
  refine ⟨Ev.bind (check_no (by omega) hv) ?_, Ev.bind (rcheck_no (by omega) hv) ?_⟩
  all_goals
    simp only [show ¬ (50 : Int) = 0 by decide, if_false]
    exact Ev.now _
/-- what a change comes to -/
theorem change_spec {x : S39} {r : List S39} (hl : (x :: r).length < 5000) (hv : Valid (x :: r)) (f len n : Int) :
    ∃ v : List S39 × Int, Ev (fun k => profile_Change.f k (x :: r) f len n) v ∧ Ev (fun k => gangerref05_Change.f k (x :: r) f len n) v ∧ v.1.length ≤ (x :: r).length + 2 ∧
      (v.2 = 0 → cArg x.f0 f len n ∧ Valid v.1 ∧ (∃ y r', v.1 = y :: r' ∧ y.f0 = x.f0) ∧ ∀ s, x.f0 ≤ s → stp v.1 s = stp (x :: r) s + shiftV f len n s) ∧
      (cArg x.f0 f len n → (∀ s, f ≤ s → s < f + len → 0 ≤ stp (x :: r) s + n ∧ stp (x :: r) s + n ≤ 1099511627776) → v.2 = 0) := by
  by_cases ha : cArg x.f0 f len n
  case neg =>
    obtain ⟨h1, h2⟩ := change_arg hl hv ha
    exact ⟨_, h1, h2, by simp, fun h => by simp at h, fun h => absurd h ha⟩
  obtain ⟨q, hr, ho, hlq, hs, ht, h1, h2⟩ := change_core hl hv ha
  have hrQ : Rise (q.map (addL f len n)) := List.pairwise_map.2 hr
  by_cases hall : q.all (fun z => inR (addL f len n z).f1) = true
  · rw [if_pos hall] at h1 h2
    refine ⟨_, h1, h2, ?_, fun _ => ⟨ha, ?_⟩, fun _ _ => rfl⟩
    · have := cf_len (q.map (addL f len n))
      rw [List.length_map] at this
      show (cf (q.map (addL f len n))).length ≤ _
      omega
    · have hoQ : ∀ z ∈ q.map (addL f len n), ok1 z := fun z hz => by
        obtain ⟨w, hw, rfl⟩ := List.mem_map.1 hz
        have e1 := ho w hw
        have e2 := List.all_eq_true.1 hall w hw
        unfold inR at e2
        have e3 := of_decide_eq_true e2
        unfold ok1 at e1 ⊢
        exact ⟨e1.1, e1.2.1, e3.1, e3.2⟩
      obtain ⟨zx, hzx, hzx0⟩ := (ht x.f0).2 (.inr (.inr ⟨x, by simp, rfl⟩))
      cases q with
      | nil => simp at hzx
      | cons h t =>
        rw [List.map_cons] at hrQ hoQ
        have hh : h.f0 = x.f0 := by
          have e1 := head_le hr zx hzx
          have e2 : x.f0 ≤ h.f0 := by
            rcases (ht h.f0).1 ⟨h, by simp, rfl⟩ with e | e | ⟨z, hz, e⟩
            · unfold cArg at ha; omega
            · unfold cArg at ha; omega
            · have := head_le hv.2.2.1 z hz; omega
          omega
        refine ⟨?_, ?_, ?_⟩
        · rw [List.map_cons]; exact cf_valid hrQ hoQ
        · rw [List.map_cons, cf_cons]; exact ⟨_, _, rfl, hh⟩
        · intro s hsx
          rw [cf_stp (by rw [List.map_cons]; exact hrQ), ← hs s]
          obtain ⟨P, u, R, e, hu, hR⟩ := split' hr hzx (show zx.f0 ≤ s by omega)
          rw [e, List.map_append, List.map_cons, stp_mid (x := addL f len n u) hu (fun y hy => by
            obtain ⟨w, hw, rfl⟩ := List.mem_map.1 hy
            exact hR w hw), stp_mid hu hR]
          show u.f1 + shiftV f len n u.f0 = u.f1 + shiftV f len n s
          obtain ⟨zf, hzf, hzf0⟩ := (ht f).2 (.inr (.inl rfl))
          obtain ⟨zg, hzg, hzg0⟩ := (ht (f + len)).2 (.inl rfl)
          rw [e] at hzf hzg hr
          have k1 : f ≤ s → f ≤ u.f0 := fun hfs => by have := tick_le hr hR hzf (by omega); omega
          have k2 : f + len ≤ s → f + len ≤ u.f0 := fun hfs => by have := tick_le hr hR hzg (by omega); omega
          congr 1
          unfold shiftV
          by_cases c : f ≤ u.f0 ∧ u.f0 < f + len
          · rw [if_pos c, if_pos]
            refine ⟨by omega, ?_⟩
            rcases Decidable.em (s < f + len) with d | d
            · exact d
            · have := k2 (by omega); omega
          · rw [if_neg c, if_neg]
            intro hc
            exact c ⟨k1 hc.1, by omega⟩
  · rw [if_neg hall] at h1 h2
    refine ⟨_, h1, h2, by simp, fun h => by simp at h, fun _ hrange => ?_⟩
    exfalso
    refine hall (List.all_eq_true.2 (fun z hz => ?_))
    have e1 := ho z hz
    unfold inR
    refine decide_eq_true ?_
    show 0 ≤ z.f1 + shiftV f len n z.f0 ∧ z.f1 + shiftV f len n z.f0 ≤ 1099511627776
    rw [← stp_mem hr hz, hs]
    unfold shiftV
    split
    · rename_i c; exact hrange _ c.1 c.2
    · have := stp_bd hv.2.1 z.f0
      omega
end Go.Proofs.Ytfcmpnajokjaaaa.Prof
