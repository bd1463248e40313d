/- The machine's side of the laws of this seat: each function's plain form and its contract, written by a program of this session out of Lean's print of the loaded functions; no condition beyond what each statement says. -/
import Derived.Test.YtlcdlfnmofopgaaProg
import Derived.Test.YtlcdlfnmofopgaaShelf
import Derived.Below
import Derived.Deep.Draws
import Derived.Deep.AppendLies
import Derived.Maps.AppendAt
import Derived.OwnWalk
import Derived.Laws.BytesArg
import Derived.Laws.MakeOwn
import Derived.Laws.OwnMore
import Derived.Deep.OwnRows
import Derived.Tactics
import Derived.Lib.ConvBytes
import Derived.Laws.Slices
import Derived.WalkKit
import Derived.KernelRfl
import Derived.RowKit3
import Derived.Deep.LoopGhost
import Derived.Deep.QuietTactic
import Derived.BigQuiet
import Derived.WideLaws
import Derived.Deep.DeepCutAuto
import Derived.Deep.CutBlock
import Derived.Deep.RegionHeld3
import Derived.Laws.Rows
import Derived.Lib.AppendStr
import Derived.ArgAppend
import Derived.Laws.IdiomCopy
import Derived.OrdersHeld
import Derived.Laws.BitsLemmas
import Derived.RowKit
import Derived.Test.YtlcdlfnmofopgaaWWords
import Derived.Test.YtlcdlfnmofopgaaWLast
import Derived.Test.YtlcdlfnmofopgaaWTab
import Derived.Test.YtlcdlfnmofopgaaWFour
import Derived.Test.YtlcdlfnmofopgaaWQPut
import Derived.Test.YtlcdlfnmofopgaaWApart
import Derived.Test.YtlcdlfnmofopgaaWArr
import Derived.Test.YtlcdlfnmofopgaaWZeros
import Derived.Test.YtlcdlfnmofopgaaWFoot
import Derived.Test.YtlcdlfnmofopgaaWKept
import Derived.Test.YtlcdlfnmofopgaaWShare
import Derived.Test.YtlcdlfnmofopgaaWN
import Derived.Test.YtlcdlfnmofopgaaWFootNe
import Derived.Test.YtlcdlfnmofopgaaWAt
import Derived.Test.YtlcdlfnmofopgaaWEqStruct
import Derived.Test.YtlcdlfnmofopgaaWRepsOne
import Derived.Test.YtlcdlfnmofopgaaWInv
import Derived.Test.YtlcdlfnmofopgaaWInvWords
import Derived.Test.YtlcdlfnmofopgaaWGuard
import Derived.Test.YtlcdlfnmofopgaaWNEv
import Derived.Test.YtlcdlfnmofopgaaWMore
namespace Go.Proofs.Ytlcdlfnmofopgaa.P
open Go.RowKit Go.Proofs.YtlcdlfnmofopgaaW.PrintWords Go.Proofs.YtlcdlfnmofopgaaW.PrintLast Go.Proofs.YtlcdlfnmofopgaaW.PrintMore
attribute [local go_sem] max2_int min2_int max_two min_two max_three min_three max_four min_four   -- for this text's walks alone
set_option linter.unusedVariables false
set_option linter.unusedSimpArgs false



def errW : Option Int → Value
  | none => .nilIface
  | some c => .iface 0 (.int .i64 c)
theorem errW_none : errW none = .nilIface := rfl
theorem errW_some (c : Int) : errW (some c) = .iface 0 (.int .i64 c) := rfl

theorem isSome_setCell (w : World) (p : Addr) (x : Value) (q : Addr) : ((w.setCell p x).cell? q).isSome = (w.cell? q).isSome := by
  by_cases e : p = q
  · subst e
    cases h : w.cell? p with
    | some u => rw [World.cell?_setCell_same w p x h]; rfl
    | none =>
      simp only [World.setCell, World.cell?, Array.getElem?_modify, if_true] at h ⊢
      cases hb : w.heap[p.block]? with
      | none => simp
      | some o =>
        rw [hb] at h
        cases o <;> simp_all
  · rw [World.cell?_setCell_other w p q x e]

theorem info3 : (Try.prog.info? 3).map (fun i => (i.zero, i.size, i.bytes)) = some (some (.int .i64 0), 1, 8) := by kernel_rfl
-- the values' own types

end Go.Proofs.Ytlcdlfnmofopgaa.P
