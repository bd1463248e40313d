/- cut to what one law reaches -/
import Derived.Test.YtgkedamhicemiaaDoorJrJ12
namespace Go.Proofs.YtgkedamhicemiaaDoor.P
open Go.RowKit Go.Proofs.YtgkedamhicemiaaDoorW.PrintWords Go.Proofs.YtgkedamhicemiaaDoorW.PrintLast Go.Proofs.YtgkedamhicemiaaDoorW.PrintMore
attribute [local go_sem] max2_int min2_int max_two min_two max_three min_three max_four min_four
set_option linter.unusedVariables false
set_option linter.unusedSimpArgs false
attribute [local go_sem] isSome_setCell
/-- one and the number's rest -/
def szz (m size : Int) : Int := wrap64 (1 + wrap64 ((IntKind.u64.wrap size).tmod m))
theorem szz_in (m size : Int) (h1 : 1 ≤ m) (h2 : m ≤ 1000) : 1 ≤ szz m size ∧ szz m size ≤ m := by
  unfold szz
  rw [IntKind.wrap_u64]
  have h0 : 0 ≤ size % 18446744073709551616 := Int.emod_nonneg _ (by omega)
  rw [Int.tmod_eq_emod_of_nonneg h0]
  generalize size % 18446744073709551616 = v at *
  have a1 : 0 ≤ v % m := Int.emod_nonneg _ (by omega)
  have a2 : v % m < m := Int.emod_lt_of_pos _ (by omega)
  generalize v % m = r at *
  have e2 : wrap64 r = r := by unfold wrap64; omega
  rw [e2]
  have e3 : wrap64 (1 + r) = 1 + r := by unfold wrap64; omega
  rw [e3]
  omega
def hspec : S41 := spc nmMain nmHigh 1 50 []
theorem hsz : szS hspec := spc_sz _ _ _ _ _ (by decide +kernel) (by decide +kernel) (by decide)
def hL1 : List S58 := newsK hspec 0 0 [] 1
def hL2 : List S58 := hL1 ++ newsK hspec 0 0 hL1 1
def hLn : Nat → List S58 | 0 => [] | 1 => hL1 | _ => hL2
theorem hlen : ∀ i, i ≤ 2 → (hLn i).length ≤ 500 := by
  intro i hi
  have h2 : i = 0 ∨ i = 1 ∨ i = 2 := by omega
  rcases h2 with rfl | rfl | rfl <;> decide +kernel
end Go.Proofs.YtgkedamhicemiaaDoor.P
