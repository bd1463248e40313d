/- From now on: both sides. -/
import Derived.Test.YtfcmpnajokjaaaaProfEnds
import Derived.Test.YtfcmpnajokjaaaaP0
import Derived.Test.YtfcmpnajokjaaaaP4
import Derived.Test.YtfcmpnajokjaaaaP9
import Derived.Test.YtfcmpnajokjaaaaP10
import Derived.Test.YtfcmpnajokjaaaaP14
namespace Go.Proofs.Ytfcmpnajokjaaaa.Prof
open Go.RowKit Go.Proofs.YtfcmpnajokjaaaaW.PrintWords Go.Proofs.YtfcmpnajokjaaaaW.PrintLast Go.Proofs.YtfcmpnajokjaaaaW.PrintMore Go.Proofs.Ytfcmpnajokjaaaa.P
theorem rtrim_l (l : List S39) (hl : l.length < 10000) (hv : Valid l) (at_ : List Int) (hat : at_.length < 100000) (v : List S39) : ∀ (s p : List Int), p ++ s = at_ → Ev (fun k => gangerref05_of.f k at_ (at_.map (stp l))) v →
    Ev (fun k => gangerref05_Trim.l0 k l at_ (p.map (stp l)) (p.length : Int)) (v, 0)
  | [], p, e, h => by
    rw [List.append_nil] at e
    subst e
    refine Ev.step (fun k => by rw [gangerref05_Trim.l0]) ?_
    simp only [Int.lt_irrefl, if_false]
    exact Ev.bind h (Ev.now _)
  | x :: r, p, e, h => by
    have hq : p.length + 1 + r.length = at_.length := by rw [← e]; simp; omega
    have hw : wrap64 ((p.length : Int) + 1) = ((p ++ [x]).length : Int) := by rw [w64 (by omega)]; simp
    have hrd : rd at_ (p.length : Int) = x := by rw [← e]; exact rd_midI p x r
    refine Ev.step (fun k => by rw [gangerref05_Trim.l0]) ?_
    simp only [show (p.length : Int) < (at_.length : Int) by omega, if_true, show (0 : Int) ≤ (p.length : Int) by omega, hrd, hw, List.length_map, show p.length < 17592186044416 by omega]
    refine Ev.bind (rat_ok (by omega) hv x) ?_
    have := rtrim_l l hl hv at_ hat v r (p ++ [x]) (by rw [← e]; simp) h
    rwa [List.map_append] at this
theorem clone_f (l : List S39) (h : l.length < 10000) : api_Level_35.f l = some l := by
  unfold api_Level_35.f
  simp only [Option.bind_some, List.length_nil, Nat.zero_add, List.nil_append]
  rw [if_pos (by omega)]
/-- a rising list is told by its ticks and by what it says there -/
theorem rise_map {l : List S39} (h : Rise l) : l.map (·.f1) = (l.map (·.f0)).map (stp l) := by
  rw [List.map_map]
  exact List.map_congr_left (fun x hx => (stp_mem h hx).symm)
theorem adj_suf : ∀ (p l : List S39), Adj (p ++ l) → Adj l
  | [], l, h => h
  | [a], l, h => by
    cases l with
    | nil => trivial
    | cons x r => exact h.2
  | a :: b :: p, l, h => adj_suf (b :: p) l h.2
theorem trim_ok {x : S39} {r : List S39} (hl : (x :: r).length < 10000) (hv : Valid (x :: r)) {now : Int} (h0 : x.f0 ≤ now) (h1 : now ≤ 1099511627776) :
    ∃ o, Ev (fun k => profile_Trim.f k (x :: r) now) (o, 0) ∧ Ev (fun k => gangerref05_Trim.f k (x :: r) now) (o, 0) ∧ Valid o ∧ o.length ≤ (x :: r).length ∧ ∀ t, now ≤ t → stp o t = stp (x :: r) t := by
  have hx := hv.bd x (by simp)
  obtain ⟨p, y, q, e, hy, hz⟩ := split r x now hv.2.2.1 h0
  have hym : y ∈ x :: r := by rw [e]; simp
  have hok := hv.2.1 y hym
  have hrq : Rise (p ++ y :: q) := by rw [← e]; exact hv.2.2.1
  have hryq : Rise (y :: q) := (List.pairwise_append.1 hrq).2.1
  have hro : Rise (⟨now, y.f1⟩ :: q) := List.pairwise_cons.2 ⟨hz, (List.pairwise_cons.1 hryq).2⟩
  have hadj : Adj (y :: q) := by
    have := hv.2.2.2
    rw [e] at this
    exact adj_suf p _ this
  have hadjo : Adj (⟨now, y.f1⟩ :: q) := by
    cases q with
    | nil => trivial
    | cons b q => exact hadj
  have hvo : Valid (⟨now, y.f1⟩ :: q) := ⟨by simp, fun z hz' => by
    rcases List.mem_cons.1 hz' with rfl | hz'
    · unfold ok1 at hok ⊢; simp; omega
    · exact hv.2.1 z (by rw [e]; simp [hz']), hro, hadjo⟩
  have hlen : (y :: q).length ≤ (x :: r).length := by rw [e]; simp
  have hstp : ∀ t, now ≤ t → stp (⟨now, y.f1⟩ :: q) t = stp (x :: r) t := fun t ht => by
    obtain ⟨p', u, r', e', hu, hr'⟩ := split q ⟨now, y.f1⟩ t hro ht
    rw [e', stp_mid hu hr']
    cases p' with
    | nil =>
      simp only [List.nil_append, List.cons.injEq] at e'
      obtain ⟨rfl, rfl⟩ := e'
      rw [e, stp_mid (by omega) hr']
    | cons a p' =>
      simp only [List.cons_append, List.cons.injEq] at e'
      rw [e, e'.2, show p ++ y :: (p' ++ u :: r') = (p ++ y :: p') ++ u :: r' by simp, stp_mid hu hr']
  refine ⟨⟨now, y.f1⟩ :: q, ?_, ?_, hvo, by simpa using hlen, hstp⟩
  · unfold profile_Trim.f
    refine Ev.bind (check_ok (by omega) hv) ?_
    simp only [if_true, show 0 < ((x :: r).length : Int) by rw [List.length_cons]; omega, rd_zero, if_neg (show ¬ now < x.f0 by omega), decide_eq_false (show ¬ now > 1099511627776 by omega)]
    refine Ev.step (fun k => by rw [profile_Trim.j0]) ?_
    simp only [Bool.false_eq_true, if_false]
    have hl' := hl
    have hv' := hv
    rw [e] at hl' hv' ⊢
    refine Ev.bind (find_ev p y q _ (by omega) hrq hv'.bd (by omega) hy hz) ?_
    simp only [show (0 : Int) ≤ (p.length : Int) by omega, if_true, show (p.length : Int) ≤ ((p ++ y :: q).length : Int) by simp; omega, Int.toNat_natCast, List.drop_left]
    rw [clone_f (y :: q) (by rw [e] at hlen; omega)]
    simp only [Option.bind_some, show 0 < ((y :: q).length : Int) by rw [List.length_cons]; omega, if_true, rd_zero, Int.toNat_zero, List.set_cons_zero]
    exact Ev.now _
  · unfold gangerref05_Trim.f
    refine Ev.bind (rcheck_ok (by omega) hv) ?_
    simp only [if_true, show 0 < ((x :: r).length : Int) by rw [List.length_cons]; omega, rd_zero, if_neg (show ¬ now < x.f0 by omega), decide_eq_false (show ¬ now > 1099511627776 by omega)]
    refine Ev.step (fun k => by rw [gangerref05_Trim.j0]) ?_
    simp only [Bool.false_eq_true, if_false]
    refine Ev.bind (ends_ev (x :: r) [] now hl (by simp)) ?_
    have hle := len_ends (x :: r) [] now
    have hticks : ends (x :: r) [] now = (⟨now, y.f1⟩ :: q : List S39).map (·.f0) := by
      refine up_ext _ _ (up_ends _ _ _) (up_ticks hro) (fun u => ?_)
      rw [mem_ends]
      constructor
      · rintro (rfl | ⟨z, h1, rfl, h3⟩ | ⟨z, h1, _⟩)
        · simp
        · refine List.mem_map.2 ⟨z, ?_, rfl⟩
          rw [e] at h1
          rcases List.mem_append.1 h1 with h1 | h1
          · have := (List.pairwise_append.1 hrq).2.2 z h1 y (by simp); omega
          · rcases List.mem_cons.1 h1 with rfl | h1
            · omega
            · simp [h1]
        · simp at h1
      · intro hu
        obtain ⟨z, h1, rfl⟩ := List.mem_map.1 hu
        rcases List.mem_cons.1 h1 with rfl | h1
        · exact .inl rfl
        · exact .inr (.inl ⟨z, by rw [e]; simp [h1], rfl, hz z h1⟩)
    have hfree : (ends (x :: r) [] now).map (stp (x :: r)) = (⟨now, y.f1⟩ :: q : List S39).map (·.f1) := by
      rw [hticks, rise_map hro]
      refine List.map_congr_left (fun u hu => ?_)
      obtain ⟨z, h1, rfl⟩ := List.mem_map.1 hu
      exact (hstp z.f0 (head_le hro z h1)).symm
    refine rtrim_l (x :: r) hl hv _ (by simp at hle hl ⊢; omega) _ (ends (x :: r) [] now) [] rfl ?_
    rw [hfree, hticks]
    have h := of_ev (⟨now, y.f1⟩ :: q) (by simp at hlen hl ⊢; omega)
    rwa [cf_id hadjo] at h
theorem trim_no {l : List S39} (hl : l.length < 10000) {now : Int} (h : ¬ Valid l ∨ now > 1099511627776 ∨ ∃ x r, l = x :: r ∧ now < x.f0) : ∃ e, e ≠ 0 ∧ Ev (fun k => profile_Trim.f k l now) ([], e) ∧ Ev (fun k => gangerref05_Trim.f k l now) ([], e) := by
  have j1 : Ev (fun k => profile_Trim.j0 k l now true) ([], 2) := by
    refine Ev.step (fun k => by rw [profile_Trim.j0]) ?_
    simp only [if_true]; exact Ev.now _
  have j2 : Ev (fun k => gangerref05_Trim.j0 k l now true) ([], 2) := by
    refine Ev.step (fun k => by rw [gangerref05_Trim.j0]) ?_
    simp only [if_true]; exact Ev.now _
  unfold profile_Trim.f gangerref05_Trim.f
  by_cases hv : Valid l
  · refine ⟨2, by decide, ?_, ?_⟩
    · refine Ev.bind (check_ok (by omega) hv) ?_
      obtain ⟨x, r, rfl⟩ := hv.cons
      simp only [if_true, show 0 < ((x :: r).length : Int) by rw [List.length_cons]; omega, rd_zero]
      by_cases c : now < x.f0
      · simp only [if_pos c]; exact j1
      · have : now > 1099511627776 := by
          rcases h with h | h | ⟨y, r', e, h⟩
          · exact absurd hv h
          · exact h
          · injection e with e1 _; rw [← e1] at h; exact absurd h c
        simp only [if_neg c, decide_eq_true this]; exact j1
    · refine Ev.bind (rcheck_ok (by omega) hv) ?_
      obtain ⟨x, r, rfl⟩ := hv.cons
      simp only [if_true, show 0 < ((x :: r).length : Int) by rw [List.length_cons]; omega, rd_zero]
      by_cases c : now < x.f0
      · simp only [if_pos c]; exact j2
      · have : now > 1099511627776 := by
          rcases h with h | h | ⟨y, r', e, h⟩
          · exact absurd hv h
          · exact h
          · injection e with e1 _; rw [← e1] at h; exact absurd h c
        simp only [if_neg c, decide_eq_true this]; exact j2
  · refine ⟨50, by decide, ?_, ?_⟩
    · refine Ev.bind (check_no (by omega) hv) ?_
      simp only [show ¬ (50 : Int) = 0 by decide, if_false]; exact Ev.now _
    · refine Ev.bind (rcheck_no (by omega) hv) ?_
      simp only [show ¬ (50 : Int) = 0 by decide, if_false]; exact Ev.now _
/-- writing over what came out -/
theorem spoilt_l : ∀ (n : Nat) (l : List S39) (i : Nat), i + n = l.length → l.length < 100000 → ∃ o, Ev (fun k => gangerlaw05_spoilt.l0 k l (i : Int)) o
  | 0, l, i, e, hl => by
    refine ⟨l, ?_⟩
    refine Ev.step (fun k => by rw [gangerlaw05_spoilt.l0]) ?_
    simp only [show ¬ (i : Int) < (l.length : Int) by omega, if_false]
    exact Ev.now _
  | n + 1, l, i, e, hl => by
    obtain ⟨o, h⟩ := spoilt_l n ((l.set i (⟨(-7), (rd_T39 l i).f1⟩ : S39)).set i (⟨(rd_T39 (l.set i (⟨(-7), (rd_T39 l i).f1⟩ : S39)) i).f0, (-7)⟩ : S39)) (i + 1) (by simp; omega) (by simpa using hl)
    refine ⟨o, ?_⟩
    refine Ev.step (fun k => by rw [gangerlaw05_spoilt.l0]) ?_
    have hw : wrap64 ((i : Int) + 1) = ((i + 1 : Nat) : Int) := by rw [w64 (by omega)]; simp
    simp only [show (i : Int) < (l.length : Int) by omega, show (0 : Int) ≤ (i : Int) by omega, if_true, Option.bind_some, Int.toNat_natCast, hw]
    exact h
theorem spoilt_ev (l : List S39) (hl : l.length < 100000) : ∃ o, Ev (fun k => gangerlaw05_spoilt.f k l) o := by
  unfold gangerlaw05_spoilt.f
  exact spoilt_l l.length l 0 (by omega) hl
end Go.Proofs.Ytfcmpnajokjaaaa.Prof
