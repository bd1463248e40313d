/- cut to what one law reaches -/
import Derived.Test.YtgkedamhicemiaaDoorRows
import Derived.Test.YtgkedamhicemiaaDoorCards
import Derived.Test.YtgkedamhicemiaaDoorTie
import Derived.Test.YtgkedamhicemiaaDoorJyGlob
import Derived.Test.YtgkedamhicemiaaDoorJyJOp
import Derived.Test.YtgkedamhicemiaaDoorJyJ20
import Derived.WalkKit
import Derived.ProofKit
import Derived.OpenShut
import Derived.ShutString
import Derived.ChangeOld
import Derived.Below
import Derived.SizedLaws
/- The machine's side of a law of this seat, by hand; no condition beyond what the statement says. -/
namespace Go.Proofs.YtgkedamhicemiaaDoor.jobsStays
open Go.ChangeShapes Go.WideShapes Go.ChangeAt Go.RowKit Go.Proofs.YtgkedamhicemiaaDoor.P Go.Proofs.YtgkedamhicemiaaDoor.OpensZ
open Go.Proofs.YtgkedamhicemiaaDoorW.PrintWords Go.Proofs.YtgkedamhicemiaaDoorW.PrintLast Go.Proofs.YtgkedamhicemiaaDoorW.PrintMore
open Go.ChangeMaps (open_string shut_string)
set_option linter.unusedVariables false
theorem own : ownKnob Tryd.prog.godebug = none := by kernel_rfl
theorem laidOut : laidOutB Tryd.prog = true := by kernel_rfl
set_option maxRecDepth 100000 in
theorem laid_met (os : Os) : laidMet Tryd.prog Rows.jobsStaysRow.laid ((Door.laidWorld os).forCall (fun _ _ => 0) ⟨#[], #[.slice none 0 0, .slice none 0 0], []⟩).memory :=
  laidMet_of_run' 8 (by kernel_rfl) (by kernel_rfl)
set_option maxRecDepth 100000 in
theorem reads (os : Os) {H : Type} (enc : TypeId × Value → H) : ∃ places, DataW.whole enc Tryd.prog ((Door.laidWorld os).forCall (fun _ _ => 0) ⟨#[], #[.slice none 0 0, .slice none 0 0], []⟩).memory Tryd.f5.params.toList Rows.jobsStaysSpec.vars false (#[.slice none 0 0, .slice none 0 0] : Array Value).toList 8 = some ([.nil, .nil], [], places) :=
  ⟨[], by kernel_rfl⟩
set_option maxRecDepth 100000 in
set_option maxHeartbeats 2000000 in
theorem lifted (os : Os) (started : os.Started) (H : Type) (enc : TypeId × Value → H) (F : Stop.Interp) :
    ReturnsInHanded {} Tryd.checked os 5 .any ((OpenSpec.ofChange Rows.jobsStaysSpec).preRow enc Tryd.prog Tryd.f5 Rows.jobsStaysRow.domain false Rows.jobsStaysRow.laid) (((OpenSpec.ofChange Rows.jobsStaysSpec).at F).post enc Tryd.prog Tryd.f5 false true false false) := by
  obtain ⟨places_, hx_⟩ := reads os enc
  refine returnsInHanded_of_row (C := Tryd.checked) (s := OpenSpec.ofChange Rows.jobsStaysSpec) own started (by kernel_rfl) Tryd.func5
    (witness_row_at (enc := enc) (C := Tryd.checked) false (Door.laidWorld os) #[.slice none 0 0, .slice none 0 0] rfl (by kernel_rfl) (by kernel_rfl) (by kernel_rfl)
      (OpenSpec.preRow_of_cond 8 hx_ (by kernel_rfl) (fun k hk => by cases hk) (by kernel_rfl) (laid_met os))) ?_
  intro W base args ds gs before hval0 hW hcnd _ hsz0 hL hS _
  have hG := Door.globOf hL hS
  show Calls _ _ args W fun e W' => ∃ v, e = .returned v ∧ Rows.jobsStaysSpec.post enc Tryd.prog Tryd.f5 false true false false W args v W'
  have hsz : (DataW.weightsEach Tryd.prog (Tryd.f5.params.toList ++ Rows.jobsStaysSpec.plain.varTypes Tryd.prog) (ds ++ gs)).all (· ≤ reachBytes) = true := hsz0
  have hval : ∀ (j : Nat) t v, Tryd.f5.params[j]? = some t → args[j]? = some v → Value.okWide Tryd.prog W .any base t v := hval0
  have hW' := hW
  obtain ⟨p, q, hA0, hV, rfl, hfz, hnd⟩ := hW
  have hA : DataW.TrodAll enc Tryd.prog W 0 (fun _ => true) true Tryd.f5.params.toList args.toList ds p := hA0
  rw [Tryd.params5] at hA hval hsz
  obtain ⟨v0, vs0, d0, ds0, p0, q0, hargs, rfl, rfl, h0, r0⟩ := trodAll_cons hA
  obtain ⟨v1, vs1, d1, ds1, p1, q1, rfl, rfl, rfl, h1, r1⟩ := trodAll_cons r0
  obtain ⟨rfl, rfl, rfl⟩ := trodAll_nil r1
  obtain rfl : args = #[v0, v1] := by cases args; simp_all
  obtain ⟨rfl, rfl⟩ := trodVars_none hV
  have hwt : ∀ (i : Nat) t d, ([62, 62] : List TypeId)[i]? = some t → ([d0, d1] : List (DataW H))[i]? = some d → ∀ n ∈ d.weights Tryd.prog t, n ≤ reachBytes := by
    intro i t d ht hd n hn
    have h1 := List.all_eq_true.mp hsz n (weightsEach_mem (i := i) (by exact ht) (by exact hd) n hn)
    simpa using h1
  obtain ⟨A0, len0, c0, rfl⟩ := okWide_slice Tryd.underlying62 (hval 0 62 v0 rfl rfl)
  have k0 := h0
  have lt0 : ∀ x ∈ p0, x.block < W.heap.size := by obtain ⟨m, hm⟩ := k0; exact DataW.trod_lt m _ _ _ hm
  obtain ⟨l0, hr0, hc0, g0, rfl⟩ : ∃ l, Kd.C k70 W A0 l.length l ∧ l.length ≤ c0 ∧ op62G l ∧ len0 = l.length := by
    obtain ⟨fuel, hf⟩ := h0
    obtain ⟨l, ⟨A', c', hcs, hc', hr'⟩, hG⟩ := op62.get enc W 0 (fun _ => true) true fuel _ _ hf (hwt 0 62 _ rfl rfl)
    simp [Value.cells] at hcs
    obtain ⟨rfl, rfl, rfl⟩ := hcs
    exact ⟨l, hr', hc', hG, rfl⟩
  obtain ⟨A1, len1, c1, rfl⟩ := okWide_slice Tryd.underlying62 (hval 1 62 v1 rfl rfl)
  have k1 := h1
  have lt1 : ∀ x ∈ p1, x.block < W.heap.size := by obtain ⟨m, hm⟩ := k1; exact DataW.trod_lt m _ _ _ hm
  obtain ⟨l1, hr1, hc1, g1, rfl⟩ : ∃ l, Kd.C k70 W A1 l.length l ∧ l.length ≤ c1 ∧ op62G l ∧ len1 = l.length := by
    obtain ⟨fuel, hf⟩ := h1
    obtain ⟨l, ⟨A', c', hcs, hc', hr'⟩, hG⟩ := op62.get enc W 0 (fun _ => true) true fuel _ _ hf (hwt 1 62 _ rfl rfl)
    simp [Value.cells] at hcs
    obtain ⟨rfl, rfl, rfl⟩ := hcs
    exact ⟨l, hr', hc', hG, rfl⟩
  clear hA0 hval0 hsz0 hsz hwt
  refine (stays_at l0 l1 A0 c0 A1 c1 hr0 g0 hr1 g1 hG).mono fun e W' ⟨he, bel⟩ => ?_
  subst he
  exact ⟨_, rfl, _, _, _, [], _, [], hW', trodAll_mk1 (shut_bool Tryd.underlying4 _), (trodAll_cons_mk (Below.trod laidOut (by kernel_rfl) (of_decide_eq_true (by kernel_rfl)) k0 bel lt0) (trodAll_cons_mk (Below.trod laidOut (by kernel_rfl) (of_decide_eq_true (by kernel_rfl)) k1 bel lt1) trodAll_mk0)), rfl, bel.frame _, fun h => by cases h⟩
theorem said : Rows.JobsStaysSaid :=
  OpenClaim.holds_of_cond 5 Tryd.f5 rfl rfl rfl rfl rfl rfl rfl ⟨rfl, rfl, rfl, rfl, rfl⟩ rfl rfl rfl rfl rfl (by kernel_rfl) Tryd.func5 (by kernel_rfl)
    (of_decide_eq_true (by kernel_rfl)) (by unfold Func.isWrapper; first | (rw [if_pos (by decide +kernel)]; kernel_rfl) | (rw [if_neg (by decide +kernel)]; exact ⟨rfl, rfl⟩))
    (fun os started H enc _ F => by rw [OpenClaim.pre_eq_preRow]; exact lifted os started H enc F)
theorem plain (f : FuncId) (fn : Func) (hf : Tryd.pinned.checked.prog.funcNamed "ganger/gangerlaw13.JobsStays" = some f) (hfn : Tryd.pinned.checked.prog.funcs[f]? = some fn) :
    false = Tryd.pinned.checked.prog.looks [] ∧ ∀ (j : Nat) t, fn.params[j]? = some t → Tryd.pinned.checked.prog.wantsStandIn t = false := by
  obtain rfl : f = 5 := Option.some.inj ((show Tryd.prog.funcNamed "ganger/gangerlaw13.JobsStays" = some 5 by kernel_rfl).symm.trans hf) |>.symm
  obtain rfl : fn = Tryd.f5 := (Option.some.inj (Tryd.func5.symm.trans hfn)).symm
  refine ⟨by kernel_rfl, fun j t ht => ?_⟩
  have hall : (Tryd.f5.params.all fun t => !Tryd.prog.wantsStandIn t) = true := by kernel_rfl
  have h2 := Array.all_eq_true_iff_forall_mem.mp hall t (Array.mem_of_getElem? ht)
  have h3 : Tryd.prog.wantsStandIn t = false := by simpa using h2
  exact h3
/- the claim card -/
theorem proved : Rows.JobsStaysCardSaid :=
  Claim7.holds_tied_plain_at .later [] _ _ _ _ said (fun _ h => by cases h) (by kernel_rfl) (fun _ h => by cases h) jobsStays_row_tie rfl ⟨rfl, rfl⟩ (by kernel_rfl) rfl plain (by kernel_rfl)
#print axioms proved
end Go.Proofs.YtgkedamhicemiaaDoor.jobsStays
namespace Go.Proofs.YtgkedamhicemiaaDoor
/-- The row, under a short name, for the claim. -/
theorem jobsStays_holds : Rows.JobsStaysCardSaid := jobsStays.proved
end Go.Proofs.YtgkedamhicemiaaDoor
