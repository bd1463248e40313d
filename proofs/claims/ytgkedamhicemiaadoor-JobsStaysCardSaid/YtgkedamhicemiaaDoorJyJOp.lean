/- cut to what one law reaches -/
import Derived.Test.YtgkedamhicemiaaDoorJyJ3
import Derived.Test.YtgkedamhicemiaaDoorJyJ11
import Derived.Test.YtgkedamhicemiaaDoorJyOpensZ
import Derived.ProofKit
namespace Go.Proofs.YtgkedamhicemiaaDoor.P
open Go.RowKit Go.Proofs.YtgkedamhicemiaaDoorW.PrintWords Go.Proofs.YtgkedamhicemiaaDoorW.PrintLast Go.Proofs.YtgkedamhicemiaaDoorW.PrintMore
attribute [local go_sem] max2_int min2_int max_two min_two max_three min_three max_four min_four
set_option linter.unusedVariables false
set_option linter.unusedSimpArgs false
attribute [local go_sem] isSome_setCell
open Go.Proofs.YtgkedamhicemiaaDoor.OpensZ
abbrev op62G (l : List S70) : Prop := ∀ a ∈ l, szA a
theorem wf_u32 {n : Int} (h : (Lit.int .u32 n).wf = true) : 0 ≤ n ∧ n ≤ 4294967295 := by
  simpa [Lit.wf, IntKind.min, IntKind.max, IntKind.signed, IntKind.bits] using h
theorem b3 : Tryd.prog.bytesOf 3 = 8 := by kernel_rfl
theorem b5 : Tryd.prog.bytesOf 5 = 1 := by kernel_rfl
theorem b48 : Tryd.prog.bytesOf 48 = 4 := by kernel_rfl
theorem b105 : Tryd.prog.bytesOf 105 = 32 := by kernel_rfl
theorem op105 : Opn Tryd.prog 105 k105 (fun x => x.f1.length < 35184372088832) :=
  Opn.weaken (Opn.iso (fun x : S105 => (x.f0, x.f1)) (fun y => (⟨y.1, y.2⟩ : S105)) (fun _ => rfl) (Opn.struct Tryd.underlying105 (by kernel_rfl) (OpF.cons rfl (Opn.int Tryd.underlying3 (by kernel_rfl)) (OpF.one rfl (Opn.slice Tryd.underlying44 (by kernel_rfl) (Opn.int Tryd.underlying48 (by kernel_rfl))))))) (by
    intro x h
    obtain ⟨_, h, _⟩ := h
    rw [b48] at h
    dsimp only at h
    show x.f1.length < _
    omega)
theorem op36 : Opn Tryd.prog 36 k36 (fun x => x.f0.length < 17592186044416) :=
  Opn.weaken (Opn.iso (fun x : S36 => (x.f0, x.f1)) (fun y => (⟨y.1, y.2⟩ : S36)) (fun _ => rfl) (Opn.struct Tryd.underlying36 (by kernel_rfl) (OpF.cons rfl (Opn.slice Tryd.underlying34 (by kernel_rfl) (Opn.int Tryd.underlying3 (by kernel_rfl))) (OpF.one rfl (Opn.int Tryd.underlying3 (by kernel_rfl)))))) (by
    intro x h
    obtain ⟨⟨h, _⟩, _⟩ := h
    rw [b3] at h
    dsimp only at h
    show x.f0.length < _
    omega)
theorem op39 : Opn Tryd.prog 39 k39 (fun x => x.f1.length < 4398046511104 ∧ ∀ n ∈ x.f1, n.f1.length < 35184372088832) :=
  Opn.weaken (Opn.iso (fun x : S39 => (x.f0, x.f1)) (fun y => (⟨y.1, y.2⟩ : S39)) (fun _ => rfl) (Opn.struct Tryd.underlying39 (by kernel_rfl) (OpF.cons rfl (Opn.bool Tryd.underlying4 (by kernel_rfl)) (OpF.one rfl (Opn.slice Tryd.underlying37 (by kernel_rfl) op105))))) (by
    intro x h
    obtain ⟨_, h, g⟩ := h
    rw [b105] at h
    dsimp only at h
    exact ⟨by show x.f1.length < _; omega, g⟩)
theorem op41 : Opn Tryd.prog 41 k41 (szS) :=
  Opn.weaken (Opn.iso (fun x : S41 => (x.f0, x.f1, x.f2, x.f3, x.f4, x.f5, x.f6, x.f7, x.f8, x.f9, x.f10, x.f11, x.f12)) (fun y => (⟨y.1, y.2.1, y.2.2.1, y.2.2.2.1, y.2.2.2.2.1, y.2.2.2.2.2.1, y.2.2.2.2.2.2.1, y.2.2.2.2.2.2.2.1, y.2.2.2.2.2.2.2.2.1, y.2.2.2.2.2.2.2.2.2.1, y.2.2.2.2.2.2.2.2.2.2.1, y.2.2.2.2.2.2.2.2.2.2.2.1, y.2.2.2.2.2.2.2.2.2.2.2.2⟩ : S41)) (fun _ => rfl) (Opn.struct Tryd.underlying41 (by kernel_rfl) (OpF.cons rfl (Opn.string Tryd.underlying9 (by kernel_rfl)) (OpF.cons rfl (Opn.string Tryd.underlying9 (by kernel_rfl)) (OpF.cons rfl (Opn.string Tryd.underlying9 (by kernel_rfl)) (OpF.cons rfl (Opn.string Tryd.underlying9 (by kernel_rfl)) (OpF.cons rfl (Opn.int Tryd.underlying3 (by kernel_rfl)) (OpF.cons rfl (Opn.int Tryd.underlying3 (by kernel_rfl)) (OpF.cons rfl op36 (OpF.cons rfl op39 (OpF.cons rfl (Opn.int Tryd.underlying3 (by kernel_rfl)) (OpF.cons rfl (Opn.int Tryd.underlying3 (by kernel_rfl)) (OpF.cons rfl (Opn.bool Tryd.underlying4 (by kernel_rfl)) (OpF.cons rfl (Opn.bool Tryd.underlying4 (by kernel_rfl)) (OpF.one rfl (Opn.string Tryd.underlying9 (by kernel_rfl))))))))))))))))) (by
    intro x h
    obtain ⟨h0, h1, h2, h3, _, _, h6, h7, _, _, _, _, h12⟩ := h
    exact ⟨h0, h1, h2, h3, h6, h7.1, h7.2, h12⟩)
theorem op55 : Opn Tryd.prog 55 k55 (fun _ => True) :=
  Opn.weaken (Opn.iso (fun x : S55 => (x.f0, x.f1)) (fun y => (⟨y.1, y.2⟩ : S55)) (fun _ => rfl) (Opn.struct Tryd.underlying55 (by kernel_rfl) (OpF.cons rfl (Opn.int Tryd.underlying3 (by kernel_rfl)) (OpF.one rfl (Opn.int Tryd.underlying3 (by kernel_rfl)))))) (by
    exact fun _ _ => trivial)
theorem op68 : Opn Tryd.prog 68 k68 (fun x => 0 ≤ x.f1 ∧ x.f1 ≤ 4294967295) :=
  Opn.weaken (Opn.iso (fun x : S68 => (x.f0, x.f1, x.f2, x.f3, x.f4)) (fun y => (⟨y.1, y.2.1, y.2.2.1, y.2.2.2.1, y.2.2.2.2⟩ : S68)) (fun _ => rfl) (Opn.struct Tryd.underlying68 (by kernel_rfl) (OpF.cons rfl (Opn.int Tryd.underlying3 (by kernel_rfl)) (OpF.cons rfl (Opn.int Tryd.underlying48 (by kernel_rfl)) (OpF.cons rfl (Opn.int Tryd.underlying3 (by kernel_rfl)) (OpF.cons rfl op55 (OpF.one rfl (Opn.int Tryd.underlying3 (by kernel_rfl))))))))) (by
    intro x h
    obtain ⟨_, h, _⟩ := h
    exact wf_u32 h)
theorem op70 : Opn Tryd.prog 70 k70 (szA) :=
  Opn.weaken (Opn.iso (fun x : S70 => (x.f0, x.f1, x.f2, x.f3, x.f4)) (fun y => (⟨y.1, y.2.1, y.2.2.1, y.2.2.2.1, y.2.2.2.2⟩ : S70)) (fun _ => rfl) (Opn.struct Tryd.underlying70 (by kernel_rfl) (OpF.cons rfl (Opn.int Tryd.underlying3 (by kernel_rfl)) (OpF.cons rfl op41 (OpF.cons rfl (Opn.int Tryd.underlying3 (by kernel_rfl)) (OpF.cons rfl op68 (OpF.one rfl (Opn.bool Tryd.underlying4 (by kernel_rfl))))))))) (by
    intro x h
    obtain ⟨_, h, _, g, _⟩ := h
    exact ⟨h, g.1, g.2⟩)
theorem op62 : Opn Tryd.prog 62 (Kd.slice 70 k70) (fun l => ∀ a ∈ l, szA a) := Opn.weaken (Opn.slice Tryd.underlying62 (by kernel_rfl) op70) (fun _ h => h.2)
end Go.Proofs.YtgkedamhicemiaaDoor.P
