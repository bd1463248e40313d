/- The machine's side of the laws of this seat: each function's plain form and its contract, written by a program of this session out of Lean's print of the loaded functions; no condition beyond what each statement says. -/
import Derived.Test.YtfcmpnajokjaaaaRows
import Derived.Test.YtfcmpnajokjaaaaP19
import Derived.Test.YtfcmpnajokjaaaaPureProfileMeets
import Derived.Test.YtfcmpnajokjaaaaOpens
import Derived.WalkKit
import Derived.ProofKit
import Derived.OpenShut
import Derived.ShutString
import Derived.ChangeOld
import Derived.Below
import Derived.SizedLaws
namespace Go.Proofs.Ytfcmpnajokjaaaa.profileMeets
open Go.ChangeShapes Go.WideShapes Go.ChangeAt Go.RowKit Go.Proofs.Ytfcmpnajokjaaaa.P Go.Proofs.Ytfcmpnajokjaaaa.Opens
open Go.Proofs.YtfcmpnajokjaaaaW.PrintWords Go.Proofs.YtfcmpnajokjaaaaW.PrintLast Go.Proofs.YtfcmpnajokjaaaaW.PrintMore
open Go.ChangeMaps (open_string shut_string)
set_option linter.unusedVariables false
theorem own : ownKnob Try.prog.godebug = none := by kernel_rfl
theorem laidOut : laidOutB Try.prog = true := by kernel_rfl
theorem op39 : Opn Try.prog 39 k39 (fun x => (((Lit.int .i64 x.f0).wf = true) ∧ ((Lit.int .i64 x.f1).wf = true))) :=
  Opn.iso (fun x : S39 => (x.f0, x.f1)) (fun y => (⟨y.1, y.2⟩ : S39)) (fun _ => rfl) (Opn.struct Try.underlying39 (by kernel_rfl) (OpF.cons rfl (Opn.int Try.underlying3 (by kernel_rfl)) (OpF.one rfl (Opn.int Try.underlying3 (by kernel_rfl)))))
set_option maxRecDepth 100000 in
set_option maxHeartbeats 2000000 in
theorem lifted (os : Os) (started : os.Started) (H : Type) (enc : TypeId × Value → H) :
    ReturnsInHanded {} Try.checked os 10 .any (Rows.profileMeetsSpec.pre6 enc Try.prog Try.f10 Rows.profileMeetsRow.domain false) (Rows.profileMeetsSpec.post enc Try.prog Try.f10 false true false false) := by
  refine returnsInHanded_of_change_sized (C := Try.checked) own started (by kernel_rfl) Try.func10
    (ChangeSpec.witness6 (enc := enc) (C := Try.checked) false ⟨#[], #[.slice none 0 0, .slice none 0 0, .int .i64 0], []⟩ 8 (by kernel_rfl) (by kernel_rfl) (by kernel_rfl) (by kernel_rfl)) ?_
  intro W base args ds gs before hval0 hW hcnd hsz0 _
  have hsz : (DataW.weightsEach Try.prog (Try.f10.params.toList ++ Rows.profileMeetsSpec.plain.varTypes Try.prog) (ds ++ gs)).all (· ≤ reachBytes) = true := hsz0
  have hval : ∀ (j : Nat) t v, Try.f10.params[j]? = some t → args[j]? = some v → Value.okWide Try.prog W .any base t v := hval0
  have hW' := hW
  obtain ⟨p, q, hA0, hV, rfl, hfz, hnd⟩ := hW
  have hA : DataW.TrodAll enc Try.prog W 0 (fun _ => true) true Try.f10.params.toList args.toList ds p := hA0
  rw [Try.params10] at hA hval hsz
  obtain ⟨v0, vs0, d0, ds0, p0, q0, hargs, rfl, rfl, h0, r0⟩ := trodAll_cons hA
  obtain ⟨v1, vs1, d1, ds1, p1, q1, rfl, rfl, rfl, h1, r1⟩ := trodAll_cons r0
  obtain ⟨v2, vs2, d2, ds2, p2, q2, rfl, rfl, rfl, h2, r2⟩ := trodAll_cons r1
  obtain ⟨rfl, rfl, rfl⟩ := trodAll_nil r2
  obtain rfl : args = #[v0, v1, v2] := by cases args; simp_all
  obtain ⟨rfl, rfl⟩ := trodVars_none hV
  obtain ⟨A0, len0, c0, rfl⟩ := okWide_slice Try.underlying22 (hval 0 22 v0 rfl rfl)
  have k0 := h0
  have lt0 : ∀ x ∈ p0, x.block < W.heap.size := by obtain ⟨m, hm⟩ := k0; exact DataW.trod_lt m _ _ _ hm
  obtain ⟨l0, hr0, hc0, g0, rfl⟩ : ∃ l, Kd.C k39 W A0 l.length l ∧ l.length ≤ c0 ∧ (l.length ≤ maxLen ∧ ∀ x1 ∈ l, (((Lit.int .i64 x1.f0).wf = true) ∧ ((Lit.int .i64 x1.f1).wf = true))) ∧ len0 = l.length := by
    obtain ⟨fuel, hf⟩ := h0
    obtain ⟨l, ⟨A', c', hcs, hc', hr'⟩, hG⟩ := (show Opn Try.prog 22 (Kd.slice 39 k39) (fun l => (l.length ≤ maxLen ∧ ∀ x1 ∈ l, (((Lit.int .i64 x1.f0).wf = true) ∧ ((Lit.int .i64 x1.f1).wf = true)))) from (Opn.slice Try.underlying22 (by kernel_rfl) op39)).get enc W 0 (fun _ => true) true fuel _ _ hf
    simp [Value.cells] at hcs
    obtain ⟨rfl, rfl, rfl⟩ := hcs
    exact ⟨l, hr', hc', hG, rfl⟩
  obtain ⟨A1, len1, c1, rfl⟩ := okWide_slice Try.underlying22 (hval 1 22 v1 rfl rfl)
  have k1 := h1
  have lt1 : ∀ x ∈ p1, x.block < W.heap.size := by obtain ⟨m, hm⟩ := k1; exact DataW.trod_lt m _ _ _ hm
  obtain ⟨l1, hr1, hc1, g1, rfl⟩ : ∃ l, Kd.C k39 W A1 l.length l ∧ l.length ≤ c1 ∧ (l.length ≤ maxLen ∧ ∀ x1 ∈ l, (((Lit.int .i64 x1.f0).wf = true) ∧ ((Lit.int .i64 x1.f1).wf = true))) ∧ len1 = l.length := by
    obtain ⟨fuel, hf⟩ := h1
    obtain ⟨l, ⟨A', c', hcs, hc', hr'⟩, hG⟩ := (show Opn Try.prog 22 (Kd.slice 39 k39) (fun l => (l.length ≤ maxLen ∧ ∀ x1 ∈ l, (((Lit.int .i64 x1.f0).wf = true) ∧ ((Lit.int .i64 x1.f1).wf = true)))) from (Opn.slice Try.underlying22 (by kernel_rfl) op39)).get enc W 0 (fun _ => true) true fuel _ _ hf
    simp [Value.cells] at hcs
    obtain ⟨rfl, rfl, rfl⟩ := hcs
    exact ⟨l, hr', hc', hG, rfl⟩
  obtain ⟨a2, rfl, rfl, rfl, w2⟩ := open_int Try.underlying3 (hval 2 3 v2 rfl rfl) h2
  clear hA0 hval0 hsz0 hsz
  obtain ⟨k, hk⟩ := Pure.ProfileMeets l0 l1 a2 g0 g1 w2
  refine (gangerlaw05_ProfileMeets.calls k A0 c0 l0 A1 c1 l1 a2 true W hr0 hc0 hr1 hc1 hk).mono fun e W' ⟨he, bel⟩ => ?_
  subst he
  exact ⟨_, rfl, _, _, _, [], _, [], hW', trodAll_mk1 (shut_bool Try.underlying4 _), (trodAll_cons_mk (Below.trod laidOut (by kernel_rfl) (of_decide_eq_true (by kernel_rfl)) k0 bel lt0) (trodAll_cons_mk (Below.trod laidOut (by kernel_rfl) (of_decide_eq_true (by kernel_rfl)) k1 bel lt1) (trodAll_cons_mk (shut_int Try.underlying3 w2) trodAll_mk0))), rfl, bel.frame _, fun h => by cases h⟩
theorem over : Rows.profileMeetsRow.holds Try.pinned (OpenSpec.ofChange Rows.profileMeetsSpec) :=
  OpenClaim.holds_of_wide 10 Try.f10 rfl rfl rfl rfl rfl rfl rfl ⟨rfl, rfl, rfl, rfl, rfl⟩ rfl rfl rfl rfl rfl (by kernel_rfl) Try.func10 (by kernel_rfl)
    (of_decide_eq_true (by kernel_rfl)) (by unfold Func.isWrapper; first | (rw [if_pos (by decide +kernel)]; kernel_rfl) | (rw [if_neg (by decide +kernel)]; exact ⟨rfl, rfl⟩))
    (fun os started H enc _ => lifted os started H enc)
theorem proved : Rows.ProfileMeetsSaid := over
#print axioms proved
end Go.Proofs.Ytfcmpnajokjaaaa.profileMeets
namespace Go.Proofs.Ytfcmpnajokjaaaa
/-- The row, under a short name, for the claim. -/
theorem profileMeets_holds : Rows.ProfileMeetsSaid := profileMeets.proved
end Go.Proofs.Ytfcmpnajokjaaaa
