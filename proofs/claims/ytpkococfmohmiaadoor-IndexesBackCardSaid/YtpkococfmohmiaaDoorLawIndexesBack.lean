/- The machine's side of the laws of this seat: each function's plain form and its contract, written by a program of this session out of Lean's print of the loaded functions; no condition beyond what each statement says. -/
import Derived.Test.YtpkococfmohmiaaDoorRows
import Derived.Test.YtpkococfmohmiaaDoorCards
import Derived.Test.YtpkococfmohmiaaDoorTie
import Derived.Test.YtpkococfmohmiaaDoorGlob
import Derived.Test.YtpkococfmohmiaaDoorP10
import Derived.Test.YtpkococfmohmiaaDoorPureIndexesBack
import Derived.Test.YtpkococfmohmiaaDoorOpens
import Derived.WalkKit
import Derived.ProofKit
import Derived.OpenShut
import Derived.ShutString
import Derived.ChangeOld
import Derived.Below
import Derived.SizedLaws
namespace Go.Proofs.YtpkococfmohmiaaDoor.indexesBack
open Go.ChangeShapes Go.WideShapes Go.ChangeAt Go.RowKit Go.Proofs.YtpkococfmohmiaaDoor.P Go.Proofs.YtpkococfmohmiaaDoor.Opens
open Go.Proofs.YtpkococfmohmiaaDoorW.PrintWords Go.Proofs.YtpkococfmohmiaaDoorW.PrintLast Go.Proofs.YtpkococfmohmiaaDoorW.PrintMore
open Go.ChangeMaps (open_string shut_string)
set_option linter.unusedVariables false
theorem own : ownKnob Tryd.prog.godebug = none := by kernel_rfl
theorem laidOut : laidOutB Tryd.prog = true := by kernel_rfl
theorem op25 : Opn Tryd.prog 25 k25 (fun x => ((x.f0.length ≤ maxLen ∧ ∀ x4 ∈ x.f0, ((Lit.int .i64 x4).wf = true)) ∧ ((Lit.int .i64 x.f1).wf = true))) :=
  Opn.iso (fun x : S25 => (x.f0, x.f1)) (fun y => (⟨y.1, y.2⟩ : S25)) (fun _ => rfl) (Opn.struct Tryd.underlying25 (by kernel_rfl) (OpF.cons rfl (Opn.slice Tryd.underlying23 (by kernel_rfl) (Opn.int Tryd.underlying3 (by kernel_rfl))) (OpF.one rfl (Opn.int Tryd.underlying3 (by kernel_rfl)))))
set_option maxRecDepth 100000 in
theorem laid_met (os : Os) : laidMet Tryd.prog Rows.indexesBackRow.laid ((Door.laidWorld os).forCall (fun _ _ => 0) ⟨#[], #[.agg #[.slice none 0 0, .int .i64 0], .string ByteArray.empty], []⟩).memory :=
  laidMet_of_run' 8 (by kernel_rfl) (by kernel_rfl)
set_option maxRecDepth 100000 in
theorem reads (os : Os) {H : Type} (enc : TypeId × Value → H) : ∃ places, DataW.whole enc Tryd.prog ((Door.laidWorld os).forCall (fun _ _ => 0) ⟨#[], #[.agg #[.slice none 0 0, .int .i64 0], .string ByteArray.empty], []⟩).memory Tryd.f5.params.toList Rows.indexesBackSpec.vars false (#[.agg #[.slice none 0 0, .int .i64 0], .string ByteArray.empty] : Array Value).toList 8 = some ([.agg [.nil, .lit (.int .i64 0)], .lit (.string [])], [], places) :=
  ⟨[], by kernel_rfl⟩
set_option maxRecDepth 100000 in
set_option maxHeartbeats 2000000 in
theorem lifted (os : Os) (started : os.Started) (H : Type) (enc : TypeId × Value → H) (F : Stop.Interp) :
    ReturnsInHanded {} Tryd.checked os 5 .any ((OpenSpec.ofChange Rows.indexesBackSpec).preRow enc Tryd.prog Tryd.f5 Rows.indexesBackRow.domain false Rows.indexesBackRow.laid) (((OpenSpec.ofChange Rows.indexesBackSpec).at F).post enc Tryd.prog Tryd.f5 false true false false) := by
  obtain ⟨places_, hx_⟩ := reads os enc
  refine returnsInHanded_of_row (C := Tryd.checked) (s := OpenSpec.ofChange Rows.indexesBackSpec) own started (by kernel_rfl) Tryd.func5
    (witness_row_at (enc := enc) (C := Tryd.checked) false (Door.laidWorld os) #[.agg #[.slice none 0 0, .int .i64 0], .string ByteArray.empty] rfl (by kernel_rfl) (by kernel_rfl) (by kernel_rfl)
      (OpenSpec.preRow_of_cond 8 hx_ (by kernel_rfl) (fun k hk => by cases hk) (by kernel_rfl) (laid_met os))) ?_
  intro W base args ds gs before hval0 hW hcnd _ hsz0 hL hS _
  have hG := Door.globOf hL hS
  show Calls _ _ args W fun e W' => ∃ v, e = .returned v ∧ Rows.indexesBackSpec.post enc Tryd.prog Tryd.f5 false true false false W args v W'
  have hsz : (DataW.weightsEach Tryd.prog (Tryd.f5.params.toList ++ Rows.indexesBackSpec.plain.varTypes Tryd.prog) (ds ++ gs)).all (· ≤ reachBytes) = true := hsz0
  have hval : ∀ (j : Nat) t v, Tryd.f5.params[j]? = some t → args[j]? = some v → Value.okWide Tryd.prog W .any base t v := hval0
  have hW' := hW
  obtain ⟨p, q, hA0, hV, rfl, hfz, hnd⟩ := hW
  have hA : DataW.TrodAll enc Tryd.prog W 0 (fun _ => true) true Tryd.f5.params.toList args.toList ds p := hA0
  rw [Tryd.params5] at hA hval hsz
  obtain ⟨v0, vs0, d0, ds0, p0, q0, hargs, rfl, rfl, h0, r0⟩ := trodAll_cons hA
  obtain ⟨v1, vs1, d1, ds1, p1, q1, rfl, rfl, rfl, h1, r1⟩ := trodAll_cons r0
  obtain ⟨rfl, rfl, rfl⟩ := trodAll_nil r1
  obtain rfl : args = #[v0, v1] := by cases args; simp_all
  obtain ⟨rfl, rfl⟩ := trodVars_none hV
  have k0 := h0
  have lt0 : ∀ x ∈ p0, x.block < W.heap.size := by obtain ⟨m, hm⟩ := k0; exact DataW.trod_lt m _ _ _ hm
  obtain ⟨arr0, rfl, hz0⟩ := okWide_struct Tryd.underlying25 (hval 0 25 v0 rfl rfl)
  obtain ⟨x0, hK0, g0⟩ : ∃ x, k25.K W x arr0.toList ∧ ((x.f0.length ≤ maxLen ∧ ∀ x4 ∈ x.f0, ((Lit.int .i64 x4).wf = true)) ∧ ((Lit.int .i64 x.f1).wf = true)) := by
    obtain ⟨fuel, hf⟩ := h0
    exact op25.get enc W 0 (fun _ => true) true fuel _ _ hf
  obtain ⟨A0_0, c0_0, e0, hc0_0, hr0_0⟩ := k25_open hK0
  have ha0 : arr0 = #[.slice A0_0 x0.f0.length c0_0, .int .i64 x0.f1] := Array.toList_inj.mp e0
  subst ha0
  obtain ⟨a1, rfl, rfl, rfl, y1⟩ := open_string Tryd.underlying9 (hval 1 9 v1 rfl rfl) h1
  have w1 : a1.size ≤ 140737488351232 := by
    have z := sized_string hsz (j := 1) (t := 9) rfl rfl
    rw [Array.length_toList] at z
    exact z
  clear hA0 hval0 hsz0 hsz
  obtain ⟨k, hk⟩ := Pure.IndexesBack x0.f0 x0.f1 a1 g0 w1
  refine (gangerlaw06_IndexesBack.calls k A0_0 c0_0 x0.f0 x0.f1 a1 true W hG hr0_0 hc0_0 hk).mono fun e W' ⟨he, bel⟩ => ?_
  subst he
  exact ⟨_, rfl, _, _, _, [], _, [], hW', trodAll_mk1 (shut_bool Tryd.underlying4 _), (trodAll_cons_mk (Below.trod laidOut (by kernel_rfl) (of_decide_eq_true (by kernel_rfl)) k0 bel lt0) (trodAll_cons_mk (shut_string Tryd.underlying9 y1) trodAll_mk0)), rfl, bel.frame _, fun h => by cases h⟩
theorem said : Rows.IndexesBackSaid :=
  OpenClaim.holds_of_cond 5 Tryd.f5 rfl rfl rfl rfl rfl rfl rfl ⟨rfl, rfl, rfl, rfl, rfl⟩ rfl rfl rfl rfl rfl (by kernel_rfl) Tryd.func5 (by kernel_rfl)
    (of_decide_eq_true (by kernel_rfl)) (by unfold Func.isWrapper; first | (rw [if_pos (by decide +kernel)]; kernel_rfl) | (rw [if_neg (by decide +kernel)]; exact ⟨rfl, rfl⟩))
    (fun os started H enc _ F => by rw [OpenClaim.pre_eq_preRow]; exact lifted os started H enc F)
theorem plain (f : FuncId) (fn : Func) (hf : Tryd.pinned.checked.prog.funcNamed "ganger/gangerlaw06.IndexesBack" = some f) (hfn : Tryd.pinned.checked.prog.funcs[f]? = some fn) :
    false = Tryd.pinned.checked.prog.looks [] ∧ ∀ (j : Nat) t, fn.params[j]? = some t → Tryd.pinned.checked.prog.wantsStandIn t = false := by
  obtain rfl : f = 5 := Option.some.inj ((show Tryd.prog.funcNamed "ganger/gangerlaw06.IndexesBack" = some 5 by kernel_rfl).symm.trans hf) |>.symm
  obtain rfl : fn = Tryd.f5 := (Option.some.inj (Tryd.func5.symm.trans hfn)).symm
  refine ⟨by kernel_rfl, fun j t ht => ?_⟩
  have hall : (Tryd.f5.params.all fun t => !Tryd.prog.wantsStandIn t) = true := by kernel_rfl
  have h2 := Array.all_eq_true_iff_forall_mem.mp hall t (Array.mem_of_getElem? ht)
  have h3 : Tryd.prog.wantsStandIn t = false := by simpa using h2
  exact h3
/- the claim card -/
theorem proved : Rows.IndexesBackCardSaid :=
  Claim7.holds_tied_plain_at .later [] _ _ _ _ said (fun _ h => by cases h) (by kernel_rfl) (fun _ h => by cases h) indexesBack_row_tie rfl ⟨rfl, rfl⟩ (by kernel_rfl) rfl plain (by kernel_rfl)
#print axioms proved
end Go.Proofs.YtpkococfmohmiaaDoor.indexesBack
namespace Go.Proofs.YtpkococfmohmiaaDoor
/-- The row, under a short name, for the claim. -/
theorem indexesBack_holds : Rows.IndexesBackCardSaid := indexesBack.proved
end Go.Proofs.YtpkococfmohmiaaDoor
