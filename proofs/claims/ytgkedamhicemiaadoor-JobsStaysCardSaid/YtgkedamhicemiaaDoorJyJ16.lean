/- cut to what one law reaches -/
import Derived.Test.YtgkedamhicemiaaDoorJyJ12
namespace Go.Proofs.YtgkedamhicemiaaDoor.P
open Go.RowKit Go.Proofs.YtgkedamhicemiaaDoorW.PrintWords Go.Proofs.YtgkedamhicemiaaDoorW.PrintLast Go.Proofs.YtgkedamhicemiaaDoorW.PrintMore
attribute [local go_sem] max2_int min2_int max_two min_two max_three min_three max_four min_four
set_option linter.unusedVariables false
set_option linter.unusedSimpArgs false
attribute [local go_sem] isSome_setCell
def hspec : S41 := spc nmMain nmHigh 1 50 []
theorem hsz : szS hspec := spc_sz _ _ _ _ _ (by decide +kernel) (by decide +kernel) (by decide)
def hL1 : List S58 := newsK hspec 0 0 [] 1
def hL2 : List S58 := hL1 ++ newsK hspec 0 0 hL1 1
def hLn : Nat → List S58 | 0 => [] | 1 => hL1 | _ => hL2
theorem hlen : ∀ i, i ≤ 2 → (hLn i).length ≤ 500 := by
  intro i hi
  have h2 : i = 0 ∨ i = 1 ∨ i = 2 := by omega
  rcases h2 with rfl | rfl | rfl <;> decide +kernel
end Go.Proofs.YtgkedamhicemiaaDoor.P
