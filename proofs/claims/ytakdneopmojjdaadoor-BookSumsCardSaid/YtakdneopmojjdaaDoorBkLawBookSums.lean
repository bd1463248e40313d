/- cut to what one law reaches -/
import Derived.Test.YtakdneopmojjdaaDoorRows
import Derived.Test.YtakdneopmojjdaaDoorCards
import Derived.Test.YtakdneopmojjdaaDoorTie
import Derived.Test.YtakdneopmojjdaaDoorBkGlob
import Derived.Test.YtakdneopmojjdaaDoorBkP17
import Derived.Test.YtakdneopmojjdaaDoorBkPureBookSums
import Derived.Test.YtakdneopmojjdaaDoorBkOpens
import Derived.WalkKit
import Derived.ProofKit
import Derived.OpenShut
import Derived.ShutString
import Derived.ChangeOld
import Derived.Below
import Derived.SizedLaws
/- The machine's side of the laws of this seat: each function's plain form and its contract, written by a program of this session out of Lean's print of the loaded functions; no condition beyond what each statement says. -/
namespace Go.Proofs.YtakdneopmojjdaaDoor.bookSums
open Go.ChangeShapes Go.WideShapes Go.ChangeAt Go.RowKit Go.Proofs.YtakdneopmojjdaaDoor.P Go.Proofs.YtakdneopmojjdaaDoor.Opens
open Go.Proofs.YtakdneopmojjdaaDoorW.PrintWords Go.Proofs.YtakdneopmojjdaaDoorW.PrintLast Go.Proofs.YtakdneopmojjdaaDoorW.PrintMore
open Go.ChangeMaps (open_string shut_string)
set_option linter.unusedVariables false
theorem own : ownKnob Tryd.prog.godebug = none:=by kernel_rfl
theorem laidOut : laidOutB Tryd.prog = true:=by kernel_rfl
theorem op24 : Opn Tryd.prog 24 k24 (fun x=>(((Lit.int .u32 x.f0).wf = true)∧((x.f1.size≤maxLen)∧(((Lit.int .i64 x.f2).wf = true)∧(((Lit.int .i64 x.f3).wf = true)∧(((Lit.int .i64 x.f4).wf = true)∧((Lit.int .i64 x.f5).wf = true))))))) :=
  Opn.iso (fun x : S24=>(x.f0,x.f1,x.f2,x.f3,x.f4,x.f5)) (fun y=>(⟨y.1,y.2.1,y.2.2.1,y.2.2.2.1,y.2.2.2.2.1,y.2.2.2.2.2⟩ : S24)) (fun _=>rfl) (Opn.struct Tryd.underlying24 (by kernel_rfl) (OpF.cons rfl (Opn.int Tryd.underlying22 (by kernel_rfl)) (OpF.cons rfl (Opn.string Tryd.underlying9 (by kernel_rfl)) (OpF.cons rfl (Opn.int Tryd.underlying3 (by kernel_rfl)) (OpF.cons rfl (Opn.int Tryd.underlying3 (by kernel_rfl)) (OpF.cons rfl (Opn.int Tryd.underlying3 (by kernel_rfl)) (OpF.one rfl (Opn.int Tryd.underlying3 (by kernel_rfl)))))))))
set_option maxRecDepth 100000 in
theorem laid_met (os : Os) : laidMet Tryd.prog Rows.bookSumsRow.laid ((Door.laidWorld os).forCall (fun _ _=>0) ⟨#[],#[.slice none 0 0,.int .i64 0],[]⟩).memory :=
  laidMet_of_run' 8 (by kernel_rfl) (by kernel_rfl)
set_option maxRecDepth 100000 in
theorem reads (os : Os) {H : Type} (enc : TypeId × Value→H) : ∃ places,DataW.whole enc Tryd.prog ((Door.laidWorld os).forCall (fun _ _=>0) ⟨#[],#[.slice none 0 0,.int .i64 0],[]⟩).memory Tryd.f4.params.toList Rows.bookSumsSpec.vars false (#[.slice none 0 0,.int .i64 0] : Array Value).toList 8 = some ([.nil,.lit (.int .i64 0)],[],places) :=
  ⟨[],by kernel_rfl⟩
set_option maxRecDepth 100000 in
set_option maxHeartbeats 2000000 in
theorem lifted (os : Os) (started : os.Started) (H : Type) (enc : TypeId × Value→H) (F : Stop.Interp) :
    ReturnsInHanded {} Tryd.checked os 4 .any ((OpenSpec.ofChange Rows.bookSumsSpec).preRow enc Tryd.prog Tryd.f4 Rows.bookSumsRow.domain false Rows.bookSumsRow.laid) (((OpenSpec.ofChange Rows.bookSumsSpec).at F).post enc Tryd.prog Tryd.f4 false true false false):=by
  obtain ⟨places_,hx_⟩:=reads os enc
  refine returnsInHanded_of_row (C:=Tryd.checked) (s:=OpenSpec.ofChange Rows.bookSumsSpec) own started (by kernel_rfl) Tryd.func4
    (witness_row_at (enc:=enc) (C:=Tryd.checked) false (Door.laidWorld os) #[.slice none 0 0,.int .i64 0] rfl (by kernel_rfl) (by kernel_rfl) (by kernel_rfl)
      (OpenSpec.preRow_of_cond 8 hx_ (by kernel_rfl) (fun k hk=>by cases hk) (by kernel_rfl) (laid_met os))) ?_
  intro W base args ds gs before hval0 hW hcnd _ hsz0 hL hS _
  have hG:=Door.globOf hL hS
  show Calls _ _ args W fun e W'=>∃ v,e = .returned v∧Rows.bookSumsSpec.post enc Tryd.prog Tryd.f4 false true false false W args v W'
  have hsz : (DataW.weightsEach Tryd.prog (Tryd.f4.params.toList ++ Rows.bookSumsSpec.plain.varTypes Tryd.prog) (ds ++ gs)).all (·≤reachBytes) = true:=hsz0
  have hval : ∀ (j : Nat) t v,Tryd.f4.params[j]? = some t→args[j]? = some v→Value.okWide Tryd.prog W .any base t v:=hval0
  have hW':=hW
  obtain ⟨p,q,hA0,hV,rfl,hfz,hnd⟩:=hW
  have hA : DataW.TrodAll enc Tryd.prog W 0 (fun _=>true) true Tryd.f4.params.toList args.toList ds p:=hA0
  rw [Tryd.params4] at hA hval hsz
  obtain ⟨v0,vs0,d0,ds0,p0,q0,hargs,rfl,rfl,h0,r0⟩:=trodAll_cons hA
  obtain ⟨v1,vs1,d1,ds1,p1,q1,rfl,rfl,rfl,h1,r1⟩:=trodAll_cons r0
  obtain ⟨rfl,rfl,rfl⟩:=trodAll_nil r1
  obtain rfl : args = #[v0,v1]:=by cases args;simp_all
  obtain ⟨rfl,rfl⟩:=trodVars_none hV
  obtain ⟨A0,len0,c0,rfl⟩:=okWide_slice Tryd.underlying32 (hval 0 32 v0 rfl rfl)
  have k0:=h0
  have lt0 : ∀ x ∈ p0,x.block < W.heap.size:=by obtain ⟨m,hm⟩:=k0;exact DataW.trod_lt m _ _ _ hm
  obtain ⟨l0,hr0,hc0,g0,rfl⟩ : ∃ l,Kd.C k24 W A0 l.length l∧l.length≤c0∧(l.length≤maxLen∧∀ x1 ∈ l,(((Lit.int .u32 x1.f0).wf = true)∧((x1.f1.size≤maxLen)∧(((Lit.int .i64 x1.f2).wf = true)∧(((Lit.int .i64 x1.f3).wf = true)∧(((Lit.int .i64 x1.f4).wf = true)∧((Lit.int .i64 x1.f5).wf = true)))))))∧len0 = l.length:=by
    obtain ⟨fuel,hf⟩:=h0
    obtain ⟨l,⟨A',c',hcs,hc',hr'⟩,hG⟩:=(show Opn Tryd.prog 32 (Kd.slice 24 k24) (fun l=>(l.length≤maxLen∧∀ x1 ∈ l,(((Lit.int .u32 x1.f0).wf = true)∧((x1.f1.size≤maxLen)∧(((Lit.int .i64 x1.f2).wf = true)∧(((Lit.int .i64 x1.f3).wf = true)∧(((Lit.int .i64 x1.f4).wf = true)∧((Lit.int .i64 x1.f5).wf = true)))))))) from (Opn.slice Tryd.underlying32 (by kernel_rfl) op24)).get enc W 0 (fun _=>true) true fuel _ _ hf
    simp [Value.cells] at hcs
    obtain ⟨rfl,rfl,rfl⟩:=hcs
    exact ⟨l,hr',hc',hG,rfl⟩
  obtain ⟨a1,rfl,rfl,rfl,w1⟩:=open_int Tryd.underlying3 (hval 1 3 v1 rfl rfl) h1
  clear hA0 hval0 hsz0 hsz
  obtain ⟨k,hk⟩:=Pure.BookSums l0 a1 g0 w1
  refine (gangerlaw20_BookSums.calls k A0 c0 l0 a1 true W hG hr0 hc0 hk).mono fun e W' ⟨he,bel⟩=>?_
  subst he
  exact ⟨_,rfl,_,_,_,[],_,[],hW',trodAll_mk1 (shut_bool Tryd.underlying4 _),(trodAll_cons_mk (Below.trod laidOut (by kernel_rfl) (of_decide_eq_true (by kernel_rfl)) k0 bel lt0) (trodAll_cons_mk (shut_int Tryd.underlying3 w1) trodAll_mk0)),rfl,bel.frame _,fun h=>by cases h⟩
theorem said : Rows.BookSumsSaid :=
  OpenClaim.holds_of_cond 4 Tryd.f4 rfl rfl rfl rfl rfl rfl rfl ⟨rfl,rfl,rfl,rfl,rfl⟩ rfl rfl rfl rfl rfl (by kernel_rfl) Tryd.func4 (by kernel_rfl)
    (of_decide_eq_true (by kernel_rfl)) (by unfold Func.isWrapper;first|(rw [if_pos (by decide +kernel)];kernel_rfl)|(rw [if_neg (by decide +kernel)];exact ⟨rfl,rfl⟩))
    (fun os started H enc _ F=>by rw [OpenClaim.pre_eq_preRow];exact lifted os started H enc F)
theorem plain (f : FuncId) (fn : Func) (hf : Tryd.pinned.checked.prog.funcNamed "ganger/gangerlaw20.BookSums" = some f) (hfn : Tryd.pinned.checked.prog.funcs[f]? = some fn) :
    false = Tryd.pinned.checked.prog.looks []∧∀ (j : Nat) t,fn.params[j]? = some t→Tryd.pinned.checked.prog.wantsStandIn t = false:=by
  obtain rfl : f = 4 := Option.some.inj ((show Tryd.prog.funcNamed "ganger/gangerlaw20.BookSums" = some 4 by kernel_rfl).symm.trans hf) |>.symm
  obtain rfl : fn = Tryd.f4:=(Option.some.inj (Tryd.func4.symm.trans hfn)).symm
  refine ⟨by kernel_rfl,fun j t ht=>?_⟩
  have hall : (Tryd.f4.params.all fun t=>!Tryd.prog.wantsStandIn t) = true:=by kernel_rfl
  have h2:=Array.all_eq_true_iff_forall_mem.mp hall t (Array.mem_of_getElem? ht)
  have h3 : Tryd.prog.wantsStandIn t = false:=by simpa using h2
  exact h3
/- the claim card -/
theorem proved : Rows.BookSumsCardSaid :=
  Claim7.holds_tied_plain_at .later [] _ _ _ _ said (fun _ h=>by cases h) (by kernel_rfl) (fun _ h=>by cases h) bookSums_row_tie rfl ⟨rfl,rfl⟩ (by kernel_rfl) rfl plain (by kernel_rfl)
#print axioms proved
end Go.Proofs.YtakdneopmojjdaaDoor.bookSums
namespace Go.Proofs.YtakdneopmojjdaaDoor
/-- The row, under a short name, for the claim. -/
theorem bookSums_holds : Rows.BookSumsCardSaid:=bookSums.proved
end Go.Proofs.YtakdneopmojjdaaDoor
