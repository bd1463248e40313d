/- The machine's side of the laws of this seat: each function's plain form and its contract, written by a program of this session out of Lean's print of the loaded functions; no condition beyond what each statement says. -/
import Derived.Test.YtpkococfmohmiaaDoorRows
import Derived.Test.YtpkococfmohmiaaDoorCards
import Derived.Test.YtpkococfmohmiaaDoorTie
import Derived.Test.YtpkococfmohmiaaDoorGlob
import Derived.Test.YtpkococfmohmiaaDoorP14
import Derived.Test.YtpkococfmohmiaaDoorPureIndexesFirst
import Derived.Test.YtpkococfmohmiaaDoorOpens
import Derived.WalkKit
import Derived.ProofKit
import Derived.OpenShut
import Derived.ShutString
import Derived.ChangeOld
import Derived.Below
import Derived.SizedLaws
namespace Go.Proofs.YtpkococfmohmiaaDoor.indexesFirst
open Go.ChangeShapes Go.WideShapes Go.ChangeAt Go.RowKit Go.Proofs.YtpkococfmohmiaaDoor.P Go.Proofs.YtpkococfmohmiaaDoor.Opens
open Go.Proofs.YtpkococfmohmiaaDoorW.PrintWords Go.Proofs.YtpkococfmohmiaaDoorW.PrintLast Go.Proofs.YtpkococfmohmiaaDoorW.PrintMore
open Go.ChangeMaps (open_string shut_string)
set_option linter.unusedVariables false
theorem own : ownKnob Tryd.prog.godebug = none := by kernel_rfl
theorem laidOut : laidOutB Tryd.prog = true := by kernel_rfl
theorem op25 : Opn Tryd.prog 25 k25 (fun x => ((x.f0.length ≤ maxLen ∧ ∀ x4 ∈ x.f0, ((Lit.int .i64 x4).wf = true)) ∧ ((Lit.int .i64 x.f1).wf = true))) :=
  Opn.iso (fun x : S25 => (x.f0, x.f1)) (fun y => (⟨y.1, y.2⟩ : S25)) (fun _ => rfl) (Opn.struct Tryd.underlying25 (by kernel_rfl) (OpF.cons rfl (Opn.slice Tryd.underlying23 (by kernel_rfl) (Opn.int Tryd.underlying3 (by kernel_rfl))) (OpF.one rfl (Opn.int Tryd.underlying3 (by kernel_rfl)))))
set_option maxRecDepth 100000 in
theorem laid_met (os : Os) : laidMet Tryd.prog Rows.indexesFirstRow.laid ((Door.laidWorld os).forCall (fun _ _ => 0) ⟨#[], #[.agg #[.slice none 0 0, .int .i64 0], .int .i64 0, .int .u8 0], []⟩).memory :=
  laidMet_of_run' 8 (by kernel_rfl) (by kernel_rfl)
set_option maxRecDepth 100000 in
theorem reads (os : Os) {H : Type} (enc : TypeId × Value → H) : ∃ places, DataW.whole enc Tryd.prog ((Door.laidWorld os).forCall (fun _ _ => 0) ⟨#[], #[.agg #[.slice none 0 0, .int .i64 0], .int .i64 0, .int .u8 0], []⟩).memory Tryd.f8.params.toList Rows.indexesFirstSpec.vars false (#[.agg #[.slice none 0 0, .int .i64 0], .int .i64 0, .int .u8 0] : Array Value).toList 8 = some ([.agg [.nil, .lit (.int .i64 0)], .lit (.int .i64 0), .lit (.int .u8 0)], [], places) :=
  ⟨[], by kernel_rfl⟩
set_option maxRecDepth 100000 in
set_option maxHeartbeats 2000000 in
theorem lifted (os : Os) (started : os.Started) (H : Type) (enc : TypeId × Value → H) (F : Stop.Interp) :
    ReturnsInHanded {} Tryd.checked os 8 .any ((OpenSpec.ofChange Rows.indexesFirstSpec).preRow enc Tryd.prog Tryd.f8 Rows.indexesFirstRow.domain false Rows.indexesFirstRow.laid) (((OpenSpec.ofChange Rows.indexesFirstSpec).at F).post enc Tryd.prog Tryd.f8 false true false false) := by
  obtain ⟨places_, hx_⟩ := reads os enc
  refine returnsInHanded_of_row (C := Tryd.checked) (s := OpenSpec.ofChange Rows.indexesFirstSpec) own started (by kernel_rfl) Tryd.func8
    (witness_row_at (enc := enc) (C := Tryd.checked) false (Door.laidWorld os) #[.agg #[.slice none 0 0, .int .i64 0], .int .i64 0, .int .u8 0] rfl (by kernel_rfl) (by kernel_rfl) (by kernel_rfl)
      (OpenSpec.preRow_of_cond 8 hx_ (by kernel_rfl) (fun k hk => by cases hk) (by kernel_rfl) (laid_met os))) ?_
  intro W base args ds gs before hval0 hW hcnd _ hsz0 hL hS _
  have hG := Door.globOf hL hS
  show Calls _ _ args W fun e W' => ∃ v, e = .returned v ∧ Rows.indexesFirstSpec.post enc Tryd.prog Tryd.f8 false true false false W args v W'
  have hsz : (DataW.weightsEach Tryd.prog (Tryd.f8.params.toList ++ Rows.indexesFirstSpec.plain.varTypes Tryd.prog) (ds ++ gs)).all (· ≤ reachBytes) = true := hsz0
  have hval : ∀ (j : Nat) t v, Tryd.f8.params[j]? = some t → args[j]? = some v → Value.okWide Tryd.prog W .any base t v := hval0
  have hW' := hW
  obtain ⟨p, q, hA0, hV, rfl, hfz, hnd⟩ := hW
  have hA : DataW.TrodAll enc Tryd.prog W 0 (fun _ => true) true Tryd.f8.params.toList args.toList ds p := hA0
  rw [Tryd.params8] at hA hval hsz
  obtain ⟨v0, vs0, d0, ds0, p0, q0, hargs, rfl, rfl, h0, r0⟩ := trodAll_cons hA
  obtain ⟨v1, vs1, d1, ds1, p1, q1, rfl, rfl, rfl, h1, r1⟩ := trodAll_cons r0
  obtain ⟨v2, vs2, d2, ds2, p2, q2, rfl, rfl, rfl, h2, r2⟩ := trodAll_cons r1
  obtain ⟨rfl, rfl, rfl⟩ := trodAll_nil r2
  obtain rfl : args = #[v0, v1, v2] := by cases args; simp_all
  obtain ⟨rfl, rfl⟩ := trodVars_none hV
  have k0 := h0
  have lt0 : ∀ x ∈ p0, x.block < W.heap.size := by obtain ⟨m, hm⟩ := k0; exact DataW.trod_lt m _ _ _ hm
  obtain ⟨arr0, rfl, hz0⟩ := okWide_struct Tryd.underlying25 (hval 0 25 v0 rfl rfl)
  obtain ⟨x0, hK0, g0⟩ : ∃ x, k25.K W x arr0.toList ∧ ((x.f0.length ≤ maxLen ∧ ∀ x4 ∈ x.f0, ((Lit.int .i64 x4).wf = true)) ∧ ((Lit.int .i64 x.f1).wf = true)) := by
    obtain ⟨fuel, hf⟩ := h0
    exact op25.get enc W 0 (fun _ => true) true fuel _ _ hf
  obtain ⟨A0_0, c0_0, e0, hc0_0, hr0_0⟩ := k25_open hK0
  have ha0 : arr0 = #[.slice A0_0 x0.f0.length c0_0, .int .i64 x0.f1] := Array.toList_inj.mp e0
  subst ha0
  obtain ⟨a1, rfl, rfl, rfl, w1⟩ := open_int Tryd.underlying3 (hval 1 3 v1 rfl rfl) h1
  obtain ⟨a2, rfl, rfl, rfl, w2⟩ := open_int Tryd.underlying5 (hval 2 5 v2 rfl rfl) h2
  clear hA0 hval0 hsz0 hsz
  obtain ⟨k, hk⟩ := Pure.IndexesFirst x0.f0 x0.f1 a1 a2 g0 w1 w2
  refine (gangerlaw06_IndexesFirst.calls k A0_0 c0_0 x0.f0 x0.f1 a1 a2 true W hG hr0_0 hc0_0 hk).mono fun e W' ⟨he, bel⟩ => ?_
  subst he
  exact ⟨_, rfl, _, _, _, [], _, [], hW', trodAll_mk1 (shut_bool Tryd.underlying4 _), (trodAll_cons_mk (Below.trod laidOut (by kernel_rfl) (of_decide_eq_true (by kernel_rfl)) k0 bel lt0) (trodAll_cons_mk (shut_int Tryd.underlying3 w1) (trodAll_cons_mk (shut_int Tryd.underlying5 w2) trodAll_mk0))), rfl, bel.frame _, fun h => by cases h⟩
theorem said : Rows.IndexesFirstSaid :=
  OpenClaim.holds_of_cond 8 Tryd.f8 rfl rfl rfl rfl rfl rfl rfl ⟨rfl, rfl, rfl, rfl, rfl⟩ rfl rfl rfl rfl rfl (by kernel_rfl) Tryd.func8 (by kernel_rfl)
    (of_decide_eq_true (by kernel_rfl)) (by unfold Func.isWrapper; first | (rw [if_pos (by decide +kernel)]; kernel_rfl) | (rw [if_neg (by decide +kernel)]; exact ⟨rfl, rfl⟩))
    (fun os started H enc _ F => by rw [OpenClaim.pre_eq_preRow]; exact lifted os started H enc F)
theorem plain (f : FuncId) (fn : Func) (hf : Tryd.pinned.checked.prog.funcNamed "ganger/gangerlaw06.IndexesFirst" = some f) (hfn : Tryd.pinned.checked.prog.funcs[f]? = some fn) :
    false = Tryd.pinned.checked.prog.looks [] ∧ ∀ (j : Nat) t, fn.params[j]? = some t → Tryd.pinned.checked.prog.wantsStandIn t = false := by
  obtain rfl : f = 8 := Option.some.inj ((show Tryd.prog.funcNamed "ganger/gangerlaw06.IndexesFirst" = some 8 by kernel_rfl).symm.trans hf) |>.symm
  obtain rfl : fn = Tryd.f8 := (Option.some.inj (Tryd.func8.symm.trans hfn)).symm
  refine ⟨by kernel_rfl, fun j t ht => ?_⟩
  have hall : (Tryd.f8.params.all fun t => !Tryd.prog.wantsStandIn t) = true := by kernel_rfl
  have h2 := Array.all_eq_true_iff_forall_mem.mp hall t (Array.mem_of_getElem? ht)
  have h3 : Tryd.prog.wantsStandIn t = false := by simpa using h2
  exact h3
/- the claim card -/
theorem proved : Rows.IndexesFirstCardSaid :=
  Claim7.holds_tied_plain_at .later [] _ _ _ _ said (fun _ h => by cases h) (by kernel_rfl) (fun _ h => by cases h) indexesFirst_row_tie rfl ⟨rfl, rfl⟩ (by kernel_rfl) rfl plain (by kernel_rfl)
#print axioms proved
end Go.Proofs.YtpkococfmohmiaaDoor.indexesFirst
namespace Go.Proofs.YtpkococfmohmiaaDoor
/-- The row, under a short name, for the claim. -/
theorem indexesFirst_holds : Rows.IndexesFirstCardSaid := indexesFirst.proved
end Go.Proofs.YtpkococfmohmiaaDoor
