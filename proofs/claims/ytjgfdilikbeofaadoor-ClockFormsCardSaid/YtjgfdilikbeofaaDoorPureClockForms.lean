import Derived.Test.YtjgfdilikbeofaaDoorClkForm
import Derived.Test.YtjgfdilikbeofaaDoorP0
import Derived.Test.YtjgfdilikbeofaaDoorP3
import Derived.Test.YtjgfdilikbeofaaDoorP7
namespace Go.Proofs.YtjgfdilikbeofaaDoor.Pure
open Go.RowKit Go.Proofs.YtjgfdilikbeofaaDoorW.PrintWords Go.Proofs.YtjgfdilikbeofaaDoorW.PrintLast Go.Proofs.YtjgfdilikbeofaaDoorW.PrintMore Go.Proofs.YtjgfdilikbeofaaDoor.P Go.Proofs.YtjgfdilikbeofaaDoor.Clk
set_option linter.unusedVariables false
set_option linter.unusedSimpArgs false
theorem forms_j1 (d h m s : Nat) (hd : d < 1000) (hh : h < 24) (hm : m < 60) (hs : s < 60) :
    Ev (fun k => gangerlaw07_ClockForms.j1 k (m : Int) (s : Int) (mk (dec d)) (mk (dec h)) (mk (dec m)) ((((d * 24 + h) * 60 + m) * 60 + s : Nat) : Int) false) true := by
  have ld := dec_len 6 d (by omega) (by omega)
  have lh := dec_len 6 h (by omega) (by omega)
  have lm := dec_len 6 m (by omega) (by omega)
  refine Ev.step (fun k => by rw [gangerlaw07_ClockForms.j1]) ?_
  simp only [Bool.false_eq_true, if_false, s45, s58, mk_append, mk_size, List.length_append, List.length_cons, List.length_nil]
  refine ev_pos (by omega) ?_
  refine ev_pos (by omega) ?_
  refine ev_pos (by omega) ?_
  refine ev_pos (by omega) ?_
  have e1 : wrap64 ((((((d * 24 + h) * 60 + m) * 60 + s : Nat) : Int)) - (s : Int)) = ((((d * 24 + h) * 60 + m) * 60 : Nat) : Int) := by rw [w64 (by omega)]; omega
  have e2 : wrap64 ((s : Int) + wrap64 (60 * (m : Int))) = ((60 * m + s : Nat) : Int) := by rw [w64 (x := 60 * (m : Int)) (by omega), w64 (by omega)]; omega
  have e3 : wrap64 (((((d * 24 + h) * 60 + m) * 60 : Nat) : Int) - wrap64 (60 * (m : Int))) = (((d * 24 + h) * 3600 : Nat) : Int) := by rw [w64 (x := 60 * (m : Int)) (by omega), w64 (by omega)]; omega
  simp only [e1, e2, e3]
  clear e1 e2 e3
  refine Ev.bind (parse_is _ (by simp; omega) _ ((pf_dhm d h m (by omega) (by omega) (by omega) _ (by simp)).trans (rpv _ _ _ _ _ ((((d * 24 + h) * 60 + m) * 60 : Nat) : Int) (by simp; omega) (by omega) (by omega) (by omega) (by omega)))) ?_
  refine Ev.bind (parse_is _ (by simp; omega) _ ((pf_dh d h (by omega) (by omega) _ (by simp)).trans (rpv _ _ _ _ _ (((d * 24 + h) * 3600 : Nat) : Int) (by simp; omega) (by omega) (by omega) (by omega) (by omega)))) ?_
  have K2 : Ev (fun k => if ((((d * 24 + h) * 60 + m) * 60 + s : Nat) : Int) = ((60 * m + s : Nat) : Int) then ((gangerlaw07_known.f k).bind fun t236 => (some t236)) else (if (if (((d * 24 + h) * 3600 : Nat) : Int) = 0 then ((0 : Int), (2 : Int)) else ((((d * 24 + h) * 3600 : Nat) : Int), 0)).1 = (((d * 24 + h) * 3600 : Nat) : Int) then (if (if (((d * 24 + h) * 3600 : Nat) : Int) = 0 then ((0 : Int), (2 : Int)) else ((((d * 24 + h) * 3600 : Nat) : Int), 0)).2 = 0 then ((gangerlaw07_known.f k).bind fun t237 => (some t237)) else (none)) else (none))) true := by
    refine ev_ite (fun _ => hk) (fun hne => ?_)
    have hz : ¬ (((d * 24 + h) * 3600 : Nat) : Int) = 0 := by omega
    simp only [if_neg hz, if_true]
    exact hk
  by_cases hz : ((((d * 24 + h) * 60 + m) * 60 : Nat) : Int) = 0
  · have c1 : (0 : Int) = ((((d * 24 + h) * 60 + m) * 60 : Nat) : Int) := hz.symm
    have c2 : ¬ ((2 : Int) = 0) := by decide
    have c3 : ¬ (((((d * 24 + h) * 60 + m) * 60 + s : Nat) : Int)) > (s : Int) := by omega
    simp only [if_pos hz, if_pos c1, if_neg c2, if_neg c3]
    exact K2
  · simp only [if_neg hz, if_true]
    exact K2
theorem ClockForms : gangerlaw07_ClockForms.Pure := by
  intro a0 a1 a2 a3 w0 w1 w2 w3
  have b0 := wfu16 w0
  have b1 := wfu16 w1
  have b2 := wfu16 w2
  have b3 := wfu16 w3
  clear w0 w1 w2 w3
  obtain ⟨x0, rfl⟩ : ∃ n : Nat, a0 = n := ⟨a0.toNat, by omega⟩
  obtain ⟨x1, rfl⟩ : ∃ n : Nat, a1 = n := ⟨a1.toNat, by omega⟩
  obtain ⟨x2, rfl⟩ : ∃ n : Nat, a2 = n := ⟨a2.toNat, by omega⟩
  obtain ⟨x3, rfl⟩ : ∃ n : Nat, a3 = n := ⟨a3.toNat, by omega⟩
  refine Ev.rounds ?_
  unfold gangerlaw07_ClockForms.f
  have m0 := wtm x0 1000 (by omega) (by omega)
  have m1 := wtm x1 24 (by omega) (by omega)
  have m2 := wtm x2 60 (by omega) (by omega)
  have m3 := wtm x3 60 (by omega) (by omega)
  rw [show ((1000 : Nat) : Int) = 1000 from rfl] at m0
  rw [show ((24 : Nat) : Int) = 24 from rfl] at m1
  rw [show ((60 : Nat) : Int) = 60 from rfl] at m2 m3
  simp only [m0, m1, m2, m3]
  clear m0 m1 m2 m3 b0 b1 b2 b3
  have hd : x0 % 1000 < 1000 := Nat.mod_lt _ (by omega)
  have hh : x1 % 24 < 24 := Nat.mod_lt _ (by omega)
  have hm : x2 % 60 < 60 := Nat.mod_lt _ (by omega)
  have hs : x3 % 60 < 60 := Nat.mod_lt _ (by omega)
  generalize x0 % 1000 = d at *
  generalize x1 % 24 = h at *
  generalize x2 % 60 = m at *
  generalize x3 % 60 = s at *
  have q1 : wrap64 (wrap64 ((d : Int) * 24) + (h : Int)) = ((d * 24 + h : Nat) : Int) := by rw [w64 (x := (d : Int) * 24) (by omega), w64 (by omega)]; omega
  have q2 : Int.tmod ((d * 24 + h : Nat) : Int) 10000 = (((d * 24 + h) % 10000 : Nat) : Int) := tmn _ 10000
  have q3 : wrap64 (wrap64 ((((d * 24 + h) % 10000 : Nat) : Int) * 60) + (m : Int)) = (((d * 24 + h) % 10000 * 60 + m : Nat) : Int) := by
    clear q1 q2
    rw [w64 (x := (((d * 24 + h) % 10000 : Nat) : Int) * 60) (by omega), w64 (by omega)]; omega
  have q4 : wrap64 (wrap64 ((((d * 24 + h : Nat)) : Int) * 60) + (m : Int)) = (((d * 24 + h) * 60 + m : Nat) : Int) := by
    clear q1 q2 q3
    rw [w64 (x := ((d * 24 + h : Nat) : Int) * 60) (by omega), w64 (by omega)]; omega
  have q5 : wrap64 (wrap64 (((((d * 24 + h) * 60 + m : Nat)) : Int) * 60) + (s : Int)) = ((((d * 24 + h) * 60 + m) * 60 + s : Nat) : Int) := by
    clear q1 q2 q3 q4
    rw [w64 (x := (((d * 24 + h) * 60 + m : Nat) : Int) * 60) (by omega), w64 (by omega)]; omega
  simp only [q1, q2, q3, q4, q5]
  have hj : ∀ (c e : Int), (d * 24 + h < 10000 → c = ((((d * 24 + h) * 60 + m) * 60 + s : Nat) : Int) ∧ e = 0) → Ev (fun k => gangerlaw07_ClockForms.j0 k (d : Int) (h : Int) (m : Int) (s : Int) (mk (dec d)) (mk (dec h)) (mk (dec m)) c e ((((d * 24 + h) * 60 + m) * 60 + s : Nat) : Int) false) true := by
    intro c e hce
    refine Ev.step (fun k => by rw [gangerlaw07_ClockForms.j0]) ?_
    simp only [Bool.false_eq_true, if_false, q1, q4]
    clear q1 q2 q3 q4 q5
    have J := forms_j1 d h m s hd hh hm hs
    refine ev_ite (fun h1 => ev_ite (fun h2 => ?_) (fun h2 => J)) (fun h1 => J)
    obtain ⟨rfl, rfl⟩ := hce (by omega)
    simp only [if_true]
    exact J
  clear q1 q2 q3 q4 q5
  have ld := dec_len 6 d (by omega) (by omega)
  have lh := dec_len 6 h (by omega) (by omega)
  have lm := dec_len 6 m (by omega) (by omega)
  have ls := dec_len 6 s (by omega) (by omega)
  have lD := dec_len 6 (d * 24 + h) (by omega) (by omega)
  have lM := dec_len 6 ((d * 24 + h) % 10000 * 60 + m) (by omega) (by omega)
  refine Ev.bind (digits_eq d (by omega)) ?_
  refine Ev.bind (digits_eq h (by omega)) ?_
  refine Ev.bind (digits_eq m (by omega)) ?_
  refine Ev.bind (digits_eq s (by omega)) ?_
  simp only [s45, s58, mk_append, mk_size, List.length_append, List.length_cons, List.length_nil]
  refine ev_pos (by omega) ?_
  refine ev_pos (by omega) ?_
  refine ev_pos (by omega) ?_
  refine ev_pos (by omega) ?_
  refine ev_pos (by omega) ?_
  refine ev_pos (by omega) ?_
  refine Ev.bind (parse_is _ (by simp; omega) _ ((pf_dhms d h m s (by omega) (by omega) (by omega) (by omega) _ (by simp)).trans (rpv _ _ _ _ _ ((((d * 24 + h) * 60 + m) * 60 + s : Nat) : Int) (by simp; omega) (by omega) (by omega) (by omega) (by omega)))) ?_
  refine Ev.bind (digits_eq _ (by omega)) ?_
  simp only [mk_append, mk_size, List.length_append, List.length_cons, List.length_nil]
  refine ev_pos (by omega) ?_
  refine ev_pos (by omega) ?_
  refine ev_pos (by omega) ?_
  refine ev_pos (by omega) ?_
  refine Ev.bind (parse_is _ (by simp; omega) _ ((pf_hms (d * 24 + h) m s (by omega) (by omega) (by omega) _ (by simp)).trans (rpv _ _ _ _ _ ((((d * 24 + h) * 60 + m) * 60 + s : Nat) : Int) (by simp; omega) (by omega) (by omega) (by omega) (by omega)))) ?_
  refine Ev.bind (digits_eq _ (by omega)) ?_
  simp only [mk_append, mk_size, List.length_append, List.length_cons, List.length_nil]
  refine ev_pos (by omega) ?_
  refine ev_pos (by omega) ?_
  refine Ev.bind (parse_is _ (by simp; omega) _ ((pf_ms ((d * 24 + h) % 10000 * 60 + m) s (by omega) (by omega) _ (by simp)).trans (rpv _ _ _ _ _ ((((d * 24 + h) % 10000 * 60 + m) * 60 + s : Nat) : Int) rfl (by omega) (by omega) (by omega) (by omega)))) ?_
  refine ev_ite (fun hz => ?_) (fun hz => ?_)
  · simp only [if_pos hz, if_true]
    exact hk
  · simp only [if_neg hz, if_true]
    have hb : (((0 : Int) != 0) : Bool) = false := rfl
    simp only [hb]
    refine hj _ _ (fun hlt => ?_)
    have he : ((((d * 24 + h) % 10000 * 60 + m) * 60 + s : Nat) : Int) = ((((d * 24 + h) * 60 + m) * 60 + s : Nat) : Int) := by rw [Nat.mod_eq_of_lt hlt]
    rw [he, if_neg hz]
    exact ⟨rfl, rfl⟩
end Go.Proofs.YtjgfdilikbeofaaDoor.Pure
