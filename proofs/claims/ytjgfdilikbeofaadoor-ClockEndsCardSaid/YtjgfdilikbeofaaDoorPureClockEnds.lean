import Derived.Test.YtjgfdilikbeofaaDoorClkEnds
import Derived.Test.YtjgfdilikbeofaaDoorP0
namespace Go.Proofs.YtjgfdilikbeofaaDoor.Clk
open Go.RowKit Go.Proofs.YtjgfdilikbeofaaDoorW.PrintWords Go.Proofs.YtjgfdilikbeofaaDoorW.PrintLast Go.Proofs.YtjgfdilikbeofaaDoorW.PrintMore Go.Proofs.YtjgfdilikbeofaaDoor.P
set_option linter.unusedVariables false
set_option linter.unusedSimpArgs false
theorem dec1 : dec 1 = [49] := by rw [dec_small (by omega)]; rfl
theorem dec0 : dec 0 = [48] := by rw [dec_small (by omega)]; rfl
theorem bt_ {p : Prop} [Decidable p] (h : p) : decide p = true := decide_eq_true h
theorem bf_ {p : Prop} [Decidable p] (h : ¬ p) : decide p = false := decide_eq_false h
theorem ends_all (n : Nat) (hn : n ≤ 65535) (w : World) (hG : Glob w) : Calls Tryd.prog 7 #[.int .u16 (n : Int)] w fun e w' => e = .returned (.bool true) ∧ Below w.heap.size w w' := by
  have ld := dec_len 6 n (by omega) (by omega)
  obtain ⟨K2, h2⟩ := digits_eq n (by omega)
  obtain ⟨K3, h3⟩ := parse_is (dec n) (by omega) _ (pf_m n (by omega))
  obtain ⟨K5, h5⟩ := parse_is ([49, 58] ++ dec n) (by simp; omega) _ (pf_ms 1 n (by omega) (by omega) _ (by rw [dec1]; rfl))
  obtain ⟨K7, h7⟩ := parse_is (([49, 58] ++ dec n) ++ [58, 48]) (by simp; omega) _ (pf_hms 1 n 0 (by omega) (by omega) (by omega) _ (by rw [dec1, dec0]; simp))
  obtain ⟨K9, h9⟩ := parse_is (dec n ++ [58, 48, 58, 49]) (by simp; omega) _ (pf_hms n 0 1 (by omega) (by omega) (by omega) _ (by rw [dec1, dec0]; simp))
  obtain ⟨K10, h10⟩ := parse_is ([49, 45] ++ dec n) (by simp; omega) _ (pf_dh 1 n (by omega) (by omega) _ (by rw [dec1]; rfl))
  obtain ⟨K23, h23⟩ := known_ev
  have B2 := h2 (K2 + K3 + K5 + K7 + K9 + K10 + K23) (by omega)
  have B3 := h3 (K2 + K3 + K5 + K7 + K9 + K10 + K23) (by omega)
  have B5 := h5 (K2 + K3 + K5 + K7 + K9 + K10 + K23) (by omega)
  have B7 := h7 (K2 + K3 + K5 + K7 + K9 + K10 + K23) (by omega)
  have B9 := h9 (K2 + K3 + K5 + K7 + K9 + K10 + K23) (by omega)
  have B10 := h10 (K2 + K3 + K5 + K7 + K9 + K10 + K23) (by omega)
  have B23 := h23 (K2 + K3 + K5 + K7 + K9 + K10 + K23) (by omega)
  generalize K2 + K3 + K5 + K7 + K9 + K10 + K23 = k at *
  clear h2 h3 h5 h7 h9 h10 h23
  have hw : wrap64 (n : Int) = (n : Int) := wn n (by omega)
  have x1 : (⟨#[49, 58]⟩ : ByteArray) = mk [49, 58] := rfl
  have x2 : (⟨#[58, 48]⟩ : ByteArray) = mk [58, 48] := rfl
  have x3 : (⟨#[58, 48, 58, 49]⟩ : ByteArray) = mk [58, 48, 58, 49] := rfl
  have x4 : (⟨#[49, 45]⟩ : ByteArray) = mk [49, 45] := rfl
  have s4 : 2 + (mk (dec n)).size ≤ 9223372036854775807 := by rw [mk_size]; omega
  have s6 : ((⟨#[49, 58]⟩ : ByteArray) ++ mk (dec n)).size + 2 ≤ 9223372036854775807 := by rw [x1, mk_append, mk_size]; simp; omega
  have s8 : (mk (dec n)).size + 4 ≤ 9223372036854775807 := by rw [mk_size]; omega
  rw [rpv _ _ _ _ _ ((60 * n : Nat) : Int) rfl (by omega) (by omega) (by omega) (by omega)] at B3
  rw [rpv _ _ _ _ _ ((3600 * n + 1 : Nat) : Int) (by simp) (by omega) (by omega) (by omega) (by omega)] at B9
  rw [← hw] at B2
  have e1 : wrap64 (60 * (n : Int)) = 60 * (n : Int) := w64 (by omega)
  have e2 : wrap64 (60 + (n : Int)) = 60 + (n : Int) := w64 (by omega)
  have e3 : wrap64 (3600 + 60 * (n : Int)) = 3600 + 60 * (n : Int) := w64 (by omega)
  have e4 : wrap64 (3600 * (n : Int)) = 3600 * (n : Int) := w64 (by omega)
  have e5 : wrap64 (3600 * (n : Int) + 1) = 3600 * (n : Int) + 1 := w64 (by omega)
  have e6 : wrap64 (86400 + 3600 * (n : Int)) = 86400 + 3600 * (n : Int) := w64 (by omega)
  rw [if_neg (by clear hw e1 e2 e3 e4 e5 e6; omega)] at B9
  rw [← mk_append, ← x1] at B5
  rw [← mk_append, ← mk_append, ← x1, ← x2] at B7
  rw [← mk_append, ← x3] at B9
  rw [← mk_append, ← x4] at B10
  by_cases hz : n = 0
  · subst hz
    rw [if_pos (by rfl)] at B3
    rw [rpv _ _ _ _ _ ((60 : Nat) : Int) rfl (by decide) (by decide) (by decide) (by decide), if_neg (by decide)] at B5
    rw [rpv _ _ _ _ _ ((3600 : Nat) : Int) (by decide) (by decide) (by decide) (by decide) (by decide), if_neg (by decide)] at B7
    rw [rpv _ _ _ _ _ ((86400 : Nat) : Int) (by decide) (by decide) (by decide) (by decide) (by decide), if_neg (by decide)] at B10
    exact endsA k _ w hG _ _ _ _ _ _ _ _ _ _ _ B2 B3 B5 B7 B9 B10 B23 s4 s6 s8 (by decide +kernel) (by decide +kernel) (by decide +kernel) (by decide +kernel) (by decide +kernel) (by decide +kernel) (by decide +kernel) (by decide +kernel) (by decide +kernel) (by decide +kernel) (by decide +kernel) (by decide +kernel) (by decide +kernel) (by decide +kernel) (by decide +kernel) (by decide +kernel) (by decide +kernel) (by decide +kernel) (by decide +kernel)
  · have z1 : ¬ (n : Int) = 0 := by omega
    have z2 : (0 : Int) < (n : Int) := by omega
    rw [if_neg (by clear hw e1 e2 e3 e4 e5 e6; omega)] at B3
    have q1 : ((n : Int) == 0) = false := beq_eq_false_iff_ne.mpr z1
    by_cases h24 : n < 24
    · rw [rpv _ _ _ _ _ ((60 + n : Nat) : Int) rfl (by omega) (by clear hw e1 e2 e3 e4 e5 e6; omega) (by omega) (by clear hw e1 e2 e3 e4 e5 e6; omega), if_neg (by clear hw e1 e2 e3 e4 e5 e6; omega)] at B5
      rw [rpv _ _ _ _ _ ((3600 + 60 * n : Nat) : Int) (bf_ (by clear hw e1 e2 e3 e4 e5 e6; omega)) (by omega) (by clear hw e1 e2 e3 e4 e5 e6; omega) (by omega) (by clear hw e1 e2 e3 e4 e5 e6; omega), if_neg (by clear hw e1 e2 e3 e4 e5 e6; omega)] at B7
      rw [rpv _ _ _ _ _ ((86400 + 3600 * n : Nat) : Int) (by simp; omega) (by omega) (by clear hw e1 e2 e3 e4 e5 e6; omega) (by omega) (by clear hw e1 e2 e3 e4 e5 e6; omega), if_neg (by clear hw e1 e2 e3 e4 e5 e6; omega)] at B10
      refine endsB k _ w hG _ _ _ _ _ _ _ _ _ _ _ B2 B3 B5 B7 B9 B10 B23 s4 s6 s8 ?_ ?_ ?_ ?_ ?_ ?_ ?_ ?_ ?_ ?_ ?_ ?_ ?_ ?_ ?_ ?_ ?_ ?_ ?_ ?_
      all_goals try simp only [hw, e1, e2, e3, e4, e5, e6]
      all_goals clear hw e1 e2 e3 e4 e5 e6 B2 B3 B5 B7 B9 B10 B23
      all_goals first
        | exact q1
        | rfl
        | exact bt_ (by omega)
        | exact bf_ (by omega)
        | exact beq_iff_eq.mpr (by omega)
    · by_cases h60 : n < 60
      · rw [rpv _ _ _ _ _ ((60 + n : Nat) : Int) rfl (by omega) (by clear hw e1 e2 e3 e4 e5 e6; omega) (by omega) (by clear hw e1 e2 e3 e4 e5 e6; omega), if_neg (by clear hw e1 e2 e3 e4 e5 e6; omega)] at B5
        rw [rpv _ _ _ _ _ ((3600 + 60 * n : Nat) : Int) (bf_ (by clear hw e1 e2 e3 e4 e5 e6; omega)) (by omega) (by clear hw e1 e2 e3 e4 e5 e6; omega) (by omega) (by clear hw e1 e2 e3 e4 e5 e6; omega), if_neg (by clear hw e1 e2 e3 e4 e5 e6; omega)] at B7
        rw [rpw _ _ _ _ _ (Or.inl (by simp; omega))] at B10
        refine endsC k _ w hG _ _ _ _ _ _ _ _ _ _ _ B2 B3 B5 B7 B9 B10 B23 s4 s6 s8 ?_ ?_ ?_ ?_ ?_ ?_ ?_ ?_ ?_ ?_ ?_ ?_ ?_ ?_ ?_ ?_ ?_ ?_ ?_
        all_goals try simp only [hw, e1, e2, e3, e4, e5, e6]
        all_goals clear hw e1 e2 e3 e4 e5 e6 B2 B3 B5 B7 B9 B10 B23
        all_goals first
          | exact q1
          | rfl
          | exact bt_ (by omega)
          | exact bf_ (by omega)
          | exact beq_iff_eq.mpr (by omega)
      · rw [rpw _ _ _ _ _ (Or.inr (by omega))] at B5
        rw [rpw _ _ _ _ _ (Or.inl (bt_ (by omega)))] at B7
        rw [rpw _ _ _ _ _ (Or.inl (by simp; omega))] at B10
        refine endsD k _ w hG _ _ _ _ _ _ _ _ _ _ _ B2 B3 B5 B7 B9 B10 B23 s4 s6 s8 ?_ ?_ ?_ ?_ ?_ ?_ ?_ ?_ ?_ ?_ ?_ ?_ ?_ ?_ ?_ ?_ ?_
        all_goals try simp only [hw, e1, e2, e3, e4, e5, e6]
        all_goals clear hw e1 e2 e3 e4 e5 e6 B2 B3 B5 B7 B9 B10 B23
        all_goals first
          | exact q1
          | rfl
          | exact bt_ (by omega)
          | exact bf_ (by omega)
          | exact beq_iff_eq.mpr (by omega)
end Go.Proofs.YtjgfdilikbeofaaDoor.Clk
namespace Go.Proofs.YtjgfdilikbeofaaDoor.P
open Go.RowKit Go.Proofs.YtjgfdilikbeofaaDoorW.PrintWords Go.Proofs.YtjgfdilikbeofaaDoorW.PrintLast Go.Proofs.YtjgfdilikbeofaaDoorW.PrintMore
theorem gangerlaw07_ClockEnds.walk (_ : True) (a0 : Int) (w : World) (hG : Glob w) (w0 : (Lit.int .u16 a0).wf = true) :
    Calls Tryd.prog 7 #[.int .u16 a0] w fun e w' => e = .returned (.bool true) ∧ Below w.heap.size w w' := by
  have h := Clk.wfu16 w0
  clear w0
  obtain ⟨n, rfl⟩ : ∃ n : Nat, a0 = n := ⟨a0.toNat, by omega⟩
  exact Clk.ends_all n (by omega) w hG
end Go.Proofs.YtjgfdilikbeofaaDoor.P
namespace Go.Proofs.YtjgfdilikbeofaaDoor.Pure
theorem ClockEnds : True := trivial
end Go.Proofs.YtjgfdilikbeofaaDoor.Pure
