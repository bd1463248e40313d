/- cut to what one law reaches -/
import Derived.Test.YtfccdngejfnmkaaDoorRows
import Derived.Test.YtfccdngejfnmkaaDoorCards
import Derived.Test.YtfccdngejfnmkaaDoorTie
import Derived.Test.YtfccdngejfnmkaaDoorQfGlob
import Derived.Test.YtfccdngejfnmkaaDoorQfP16
import Derived.Test.YtfccdngejfnmkaaDoorQfPureShareFactors
import Derived.Test.YtfccdngejfnmkaaDoorQfOpens
import Derived.WalkKit
import Derived.ProofKit
import Derived.OpenShut
import Derived.ShutString
import Derived.ChangeOld
import Derived.Below
import Derived.SizedLaws
/- The machine's side of the laws of this seat: each function's plain form and its contract, written by a program of this session out of Lean's print of the loaded functions; no condition beyond what each statement says. -/
namespace Go.Proofs.YtfccdngejfnmkaaDoor.shareFactors
open Go.ChangeShapes Go.WideShapes Go.ChangeAt Go.RowKit Go.Proofs.YtfccdngejfnmkaaDoor.P Go.Proofs.YtfccdngejfnmkaaDoor.Opens
open Go.Proofs.YtfccdngejfnmkaaDoorW.PrintWords Go.Proofs.YtfccdngejfnmkaaDoorW.PrintLast Go.Proofs.YtfccdngejfnmkaaDoorW.PrintMore
open Go.ChangeMaps (open_string shut_string)
set_option linter.unusedVariables false
theorem own : ownKnob Tryd.prog.godebug = none := by kernel_rfl
theorem laidOut : laidOutB Tryd.prog = true := by kernel_rfl
theorem op37 : Opn Tryd.prog 37 k37 (fun x => ((x.f0.size ≤ maxLen) ∧ ((x.f1.size ≤ maxLen) ∧ ((Lit.int .i64 x.f2).wf = true)))) :=
  Opn.iso (fun x : S37 => (x.f0, x.f1, x.f2)) (fun y => (⟨y.1, y.2.1, y.2.2⟩ : S37)) (fun _ => rfl) (Opn.struct Tryd.underlying37 (by kernel_rfl) (OpF.cons rfl (Opn.string Tryd.underlying9 (by kernel_rfl)) (OpF.cons rfl (Opn.string Tryd.underlying9 (by kernel_rfl)) (OpF.one rfl (Opn.int Tryd.underlying3 (by kernel_rfl))))))
set_option maxRecDepth 100000 in
theorem laid_met (os : Os) : laidMet Tryd.prog Rows.shareFactorsRow.laid ((Door.laidWorld os).forCall (fun _ _ => 0) ⟨#[], #[.slice none 0 0, .slice none 0 0], []⟩).memory :=
  laidMet_of_run' 8 (by kernel_rfl) (by kernel_rfl)
set_option maxRecDepth 100000 in
theorem reads (os : Os) {H : Type} (enc : TypeId × Value → H) : ∃ places, DataW.whole enc Tryd.prog ((Door.laidWorld os).forCall (fun _ _ => 0) ⟨#[], #[.slice none 0 0, .slice none 0 0], []⟩).memory Tryd.f5.params.toList Rows.shareFactorsSpec.vars false (#[.slice none 0 0, .slice none 0 0] : Array Value).toList 8 = some ([.nil, .nil], [], places) :=
  ⟨[], by kernel_rfl⟩
set_option maxRecDepth 100000 in
set_option maxHeartbeats 2000000 in
theorem lifted (os : Os) (started : os.Started) (H : Type) (enc : TypeId × Value → H) (F : Stop.Interp) :
    ReturnsInHanded {} Tryd.checked os 5 .any ((OpenSpec.ofChange Rows.shareFactorsSpec).preRow enc Tryd.prog Tryd.f5 Rows.shareFactorsRow.domain false Rows.shareFactorsRow.laid) (((OpenSpec.ofChange Rows.shareFactorsSpec).at F).post enc Tryd.prog Tryd.f5 false true false false) := by
  obtain ⟨places_, hx_⟩ := reads os enc
  refine returnsInHanded_of_row (C := Tryd.checked) (s := OpenSpec.ofChange Rows.shareFactorsSpec) own started (by kernel_rfl) Tryd.func5
    (witness_row_at (enc := enc) (C := Tryd.checked) false (Door.laidWorld os) #[.slice none 0 0, .slice none 0 0] rfl (by kernel_rfl) (by kernel_rfl) (by kernel_rfl)
      (OpenSpec.preRow_of_cond 8 hx_ (by kernel_rfl) (fun k hk => by cases hk) (by kernel_rfl) (laid_met os))) ?_
  intro W base args ds gs before hval0 hW hcnd _ hsz0 hL hS _
  have hG := Door.globOf hL hS
  show Calls _ _ args W fun e W' => ∃ v, e = .returned v ∧ Rows.shareFactorsSpec.post enc Tryd.prog Tryd.f5 false true false false W args v W'
  have hsz : (DataW.weightsEach Tryd.prog (Tryd.f5.params.toList ++ Rows.shareFactorsSpec.plain.varTypes Tryd.prog) (ds ++ gs)).all (· ≤ reachBytes) = true := hsz0
  have hval : ∀ (j : Nat) t v, Tryd.f5.params[j]? = some t → args[j]? = some v → Value.okWide Tryd.prog W .any base t v := hval0
  have hW' := hW
  obtain ⟨p, q, hA0, hV, rfl, hfz, hnd⟩ := hW
  have hA : DataW.TrodAll enc Tryd.prog W 0 (fun _ => true) true Tryd.f5.params.toList args.toList ds p := hA0
  rw [Tryd.params5] at hA hval hsz
  obtain ⟨v0, vs0, d0, ds0, p0, q0, hargs, rfl, rfl, h0, r0⟩ := trodAll_cons hA
  obtain ⟨v1, vs1, d1, ds1, p1, q1, rfl, rfl, rfl, h1, r1⟩ := trodAll_cons r0
  obtain ⟨rfl, rfl, rfl⟩ := trodAll_nil r1
  obtain rfl : args = #[v0, v1] := by cases args; simp_all
  obtain ⟨rfl, rfl⟩ := trodVars_none hV
  obtain ⟨A0, len0, c0, rfl⟩ := okWide_slice Tryd.underlying22 (hval 0 22 v0 rfl rfl)
  have k0 := h0
  have lt0 : ∀ x ∈ p0, x.block < W.heap.size := by obtain ⟨m, hm⟩ := k0; exact DataW.trod_lt m _ _ _ hm
  obtain ⟨l0, hr0, hc0, g0, rfl⟩ : ∃ l, Kd.C k37 W A0 l.length l ∧ l.length ≤ c0 ∧ (l.length ≤ maxLen ∧ ∀ x1 ∈ l, ((x1.f0.size ≤ maxLen) ∧ ((x1.f1.size ≤ maxLen) ∧ ((Lit.int .i64 x1.f2).wf = true)))) ∧ len0 = l.length := by
    obtain ⟨fuel, hf⟩ := h0
    obtain ⟨l, ⟨A', c', hcs, hc', hr'⟩, hG⟩ := (show Opn Tryd.prog 22 (Kd.slice 37 k37) (fun l => (l.length ≤ maxLen ∧ ∀ x1 ∈ l, ((x1.f0.size ≤ maxLen) ∧ ((x1.f1.size ≤ maxLen) ∧ ((Lit.int .i64 x1.f2).wf = true))))) from (Opn.slice Tryd.underlying22 (by kernel_rfl) op37)).get enc W 0 (fun _ => true) true fuel _ _ hf
    simp [Value.cells] at hcs
    obtain ⟨rfl, rfl, rfl⟩ := hcs
    exact ⟨l, hr', hc', hG, rfl⟩
  obtain ⟨A1, len1, c1, rfl⟩ := okWide_slice Tryd.underlying23 (hval 1 23 v1 rfl rfl)
  have k1 := h1
  have lt1 : ∀ x ∈ p1, x.block < W.heap.size := by obtain ⟨m, hm⟩ := k1; exact DataW.trod_lt m _ _ _ hm
  obtain ⟨l1, hr1, hc1, g1, rfl⟩ : ∃ l, Kd.C (Kd.int .i64) W A1 l.length l ∧ l.length ≤ c1 ∧ (l.length ≤ maxLen ∧ ∀ x1 ∈ l, ((Lit.int .i64 x1).wf = true)) ∧ len1 = l.length := by
    obtain ⟨fuel, hf⟩ := h1
    obtain ⟨l, ⟨A', c', hcs, hc', hr'⟩, hG⟩ := (show Opn Tryd.prog 23 (Kd.slice 3 (Kd.int .i64)) (fun l => (l.length ≤ maxLen ∧ ∀ x1 ∈ l, ((Lit.int .i64 x1).wf = true))) from (Opn.slice Tryd.underlying23 (by kernel_rfl) (Opn.int Tryd.underlying3 (by kernel_rfl)))).get enc W 0 (fun _ => true) true fuel _ _ hf
    simp [Value.cells] at hcs
    obtain ⟨rfl, rfl, rfl⟩ := hcs
    exact ⟨l, hr', hc', hG, rfl⟩
  clear hA0 hval0 hsz0 hsz
  obtain ⟨k, hk⟩ := Pure.ShareFactors l0 l1 g0 g1
  refine (gangerlaw11_ShareFactors.calls k A0 c0 l0 A1 c1 l1 true W hG hr0 hc0 hr1 hc1 hk).mono fun e W' ⟨he, bel⟩ => ?_
  subst he
  exact ⟨_, rfl, _, _, _, [], _, [], hW', trodAll_mk1 (shut_bool Tryd.underlying4 _), (trodAll_cons_mk (Below.trod laidOut (by kernel_rfl) (of_decide_eq_true (by kernel_rfl)) k0 bel lt0) (trodAll_cons_mk (Below.trod laidOut (by kernel_rfl) (of_decide_eq_true (by kernel_rfl)) k1 bel lt1) trodAll_mk0)), rfl, bel.frame _, fun h => by cases h⟩
theorem said : Rows.ShareFactorsSaid :=
  OpenClaim.holds_of_cond 5 Tryd.f5 rfl rfl rfl rfl rfl rfl rfl ⟨rfl, rfl, rfl, rfl, rfl⟩ rfl rfl rfl rfl rfl (by kernel_rfl) Tryd.func5 (by kernel_rfl)
    (of_decide_eq_true (by kernel_rfl)) (by unfold Func.isWrapper; first | (rw [if_pos (by decide +kernel)]; kernel_rfl) | (rw [if_neg (by decide +kernel)]; exact ⟨rfl, rfl⟩))
    (fun os started H enc _ F => by rw [OpenClaim.pre_eq_preRow]; exact lifted os started H enc F)
theorem plain (f : FuncId) (fn : Func) (hf : Tryd.pinned.checked.prog.funcNamed "ganger/gangerlaw11.ShareFactors" = some f) (hfn : Tryd.pinned.checked.prog.funcs[f]? = some fn) :
    false = Tryd.pinned.checked.prog.looks [] ∧ ∀ (j : Nat) t, fn.params[j]? = some t → Tryd.pinned.checked.prog.wantsStandIn t = false := by
  obtain rfl : f = 5 := Option.some.inj ((show Tryd.prog.funcNamed "ganger/gangerlaw11.ShareFactors" = some 5 by kernel_rfl).symm.trans hf) |>.symm
  obtain rfl : fn = Tryd.f5 := (Option.some.inj (Tryd.func5.symm.trans hfn)).symm
  refine ⟨by kernel_rfl, fun j t ht => ?_⟩
  have hall : (Tryd.f5.params.all fun t => !Tryd.prog.wantsStandIn t) = true := by kernel_rfl
  have h2 := Array.all_eq_true_iff_forall_mem.mp hall t (Array.mem_of_getElem? ht)
  have h3 : Tryd.prog.wantsStandIn t = false := by simpa using h2
  exact h3
/- the claim card -/
theorem proved : Rows.ShareFactorsCardSaid :=
  Claim7.holds_tied_plain_at .later [] _ _ _ _ said (fun _ h => by cases h) (by kernel_rfl) (fun _ h => by cases h) shareFactors_row_tie rfl ⟨rfl, rfl⟩ (by kernel_rfl) rfl plain (by kernel_rfl)
#print axioms proved
end Go.Proofs.YtfccdngejfnmkaaDoor.shareFactors
namespace Go.Proofs.YtfccdngejfnmkaaDoor
/-- The row, under a short name, for the claim. -/
theorem shareFactors_holds : Rows.ShareFactorsCardSaid := shareFactors.proved
end Go.Proofs.YtfccdngejfnmkaaDoor
