/- cut to what one law reaches -/
import Derived.Test.YtgidipomfbikiaaDoorRows
import Derived.Test.YtgidipomfbikiaaDoorCards
import Derived.Test.YtgidipomfbikiaaDoorTie
import Derived.Test.YtgidipomfbikiaaDoorTwGlob
import Derived.Test.YtgidipomfbikiaaDoorTwP23
import Derived.Test.YtgidipomfbikiaaDoorTwPureConfTwice
import Derived.Test.YtgidipomfbikiaaDoorTwOpens
import Derived.WalkKit
import Derived.ProofKit
import Derived.OpenShut
import Derived.ShutString
import Derived.ChangeOld
import Derived.Below
import Derived.SizedLaws
/- The machine's side of the laws of this seat: each function's plain form and its contract, written by a program of this session out of Lean's print of the loaded functions; no condition beyond what each statement says. -/
namespace Go.Proofs.YtgidipomfbikiaaDoor.confTwice
open Go.ChangeShapes Go.WideShapes Go.ChangeAt Go.RowKit Go.Proofs.YtgidipomfbikiaaDoor.P Go.Proofs.YtgidipomfbikiaaDoor.Opens
open Go.Proofs.YtgidipomfbikiaaDoorW.PrintWords Go.Proofs.YtgidipomfbikiaaDoorW.PrintLast Go.Proofs.YtgidipomfbikiaaDoorW.PrintMore
open Go.ChangeMaps (open_string shut_string)
set_option linter.unusedVariables false
theorem own : ownKnob Tryd.prog.godebug = none:=by kernel_rfl
theorem laidOut : laidOutB Tryd.prog = true:=by kernel_rfl
theorem op23 : Opn Tryd.prog 23 k23 (fun x=>(((Lit.int .i64 x.f0).wf = true)∧(((Lit.int .i64 x.f1).wf = true)∧(((Lit.int .i64 x.f2).wf = true)∧(((Lit.int .i64 x.f3).wf = true)∧((Lit.int .i64 x.f4).wf = true)))))) :=
  Opn.iso (fun x : S23=>(x.f0,x.f1,x.f2,x.f3,x.f4)) (fun y=>(⟨y.1,y.2.1,y.2.2.1,y.2.2.2.1,y.2.2.2.2⟩ : S23)) (fun _=>rfl) (Opn.struct Tryd.underlying23 (by kernel_rfl) (OpF.cons rfl (Opn.int Tryd.underlying3 (by kernel_rfl)) (OpF.cons rfl (Opn.int Tryd.underlying3 (by kernel_rfl)) (OpF.cons rfl (Opn.int Tryd.underlying3 (by kernel_rfl)) (OpF.cons rfl (Opn.int Tryd.underlying3 (by kernel_rfl)) (OpF.one rfl (Opn.int Tryd.underlying3 (by kernel_rfl))))))))
theorem op50 : Opn Tryd.prog 50 k50 (fun x=>((x.f0.size≤maxLen)∧(((Lit.int .i64 x.f1).wf = true)∧(((Lit.int .i64 x.f2).wf = true)∧((Lit.int .i64 x.f3).wf = true))))) :=
  Opn.iso (fun x : S50=>(x.f0,x.f1,x.f2,x.f3)) (fun y=>(⟨y.1,y.2.1,y.2.2.1,y.2.2.2⟩ : S50)) (fun _=>rfl) (Opn.struct Tryd.underlying50 (by kernel_rfl) (OpF.cons rfl (Opn.string Tryd.underlying9 (by kernel_rfl)) (OpF.cons rfl (Opn.int Tryd.underlying3 (by kernel_rfl)) (OpF.cons rfl (Opn.int Tryd.underlying3 (by kernel_rfl)) (OpF.one rfl (Opn.int Tryd.underlying3 (by kernel_rfl)))))))
theorem op52 : Opn Tryd.prog 52 k52 (fun x=>((x.f0.size≤maxLen)∧(((Lit.int .i64 x.f1).wf = true)∧((Lit.int .i64 x.f2).wf = true)))) :=
  Opn.iso (fun x : S52=>(x.f0,x.f1,x.f2)) (fun y=>(⟨y.1,y.2.1,y.2.2⟩ : S52)) (fun _=>rfl) (Opn.struct Tryd.underlying52 (by kernel_rfl) (OpF.cons rfl (Opn.string Tryd.underlying9 (by kernel_rfl)) (OpF.cons rfl (Opn.int Tryd.underlying3 (by kernel_rfl)) (OpF.one rfl (Opn.int Tryd.underlying3 (by kernel_rfl))))))
theorem op48 : Opn Tryd.prog 48 k48 (fun x=>((x.f0.size≤maxLen)∧((x.f1.size≤maxLen)∧((Lit.int .i64 x.f2).wf = true)))) :=
  Opn.iso (fun x : S48=>(x.f0,x.f1,x.f2)) (fun y=>(⟨y.1,y.2.1,y.2.2⟩ : S48)) (fun _=>rfl) (Opn.struct Tryd.underlying48 (by kernel_rfl) (OpF.cons rfl (Opn.string Tryd.underlying9 (by kernel_rfl)) (OpF.cons rfl (Opn.string Tryd.underlying9 (by kernel_rfl)) (OpF.one rfl (Opn.int Tryd.underlying3 (by kernel_rfl))))))
theorem op28 : Opn Tryd.prog 28 k28 (fun x=>(((Lit.int .i64 x.f0).wf = true)∧(((Lit.int .i64 x.f1).wf = true)∧(((Lit.int .i64 x.f2).wf = true)∧(((Lit.int .i64 x.f3).wf = true)∧((((Lit.int .i64 x.f4.f0).wf = true)∧(((Lit.int .i64 x.f4.f1).wf = true)∧(((Lit.int .i64 x.f4.f2).wf = true)∧(((Lit.int .i64 x.f4.f3).wf = true)∧((Lit.int .i64 x.f4.f4).wf = true)))))∧((x.f5.length≤maxLen∧∀ x4 ∈ x.f5,((x4.f0.size≤maxLen)∧(((Lit.int .i64 x4.f1).wf = true)∧(((Lit.int .i64 x4.f2).wf = true)∧((Lit.int .i64 x4.f3).wf = true)))))∧((x.f6.length≤maxLen∧∀ x4 ∈ x.f6,((x4.f0.size≤maxLen)∧(((Lit.int .i64 x4.f1).wf = true)∧((Lit.int .i64 x4.f2).wf = true))))∧(x.f7.length≤maxLen∧∀ x4 ∈ x.f7,((x4.f0.size≤maxLen)∧((x4.f1.size≤maxLen)∧((Lit.int .i64 x4.f2).wf = true)))))))))))) :=
  Opn.iso (fun x : S28=>(x.f0,x.f1,x.f2,x.f3,x.f4,x.f5,x.f6,x.f7)) (fun y=>(⟨y.1,y.2.1,y.2.2.1,y.2.2.2.1,y.2.2.2.2.1,y.2.2.2.2.2.1,y.2.2.2.2.2.2.1,y.2.2.2.2.2.2.2⟩ : S28)) (fun _=>rfl) (Opn.struct Tryd.underlying28 (by kernel_rfl) (OpF.cons rfl (Opn.int Tryd.underlying3 (by kernel_rfl)) (OpF.cons rfl (Opn.int Tryd.underlying3 (by kernel_rfl)) (OpF.cons rfl (Opn.int Tryd.underlying3 (by kernel_rfl)) (OpF.cons rfl (Opn.int Tryd.underlying3 (by kernel_rfl)) (OpF.cons rfl op23 (OpF.cons rfl (Opn.slice Tryd.underlying24 (by kernel_rfl) op50) (OpF.cons rfl (Opn.slice Tryd.underlying25 (by kernel_rfl) op52) (OpF.one rfl (Opn.slice Tryd.underlying26 (by kernel_rfl) op48))))))))))
set_option maxRecDepth 100000 in
theorem laid_met (os : Os) : laidMet Tryd.prog Rows.confTwiceRow.laid ((Door.laidWorld os).forCall (fun _ _=>0) ⟨#[],#[.agg #[.int .i64 0,.int .i64 0,.int .i64 0,.int .i64 0,.int .i64 0,.int .i64 0,.int .i64 0,.int .i64 0,.int .i64 0,.slice none 0 0,.slice none 0 0,.slice none 0 0],.int .i64 0,.int .i64 0],[]⟩).memory :=
  laidMet_of_run' 8 (by kernel_rfl) (by kernel_rfl)
set_option maxRecDepth 100000 in
theorem reads (os : Os) {H : Type} (enc : TypeId × Value→H) : ∃ places,DataW.whole enc Tryd.prog ((Door.laidWorld os).forCall (fun _ _=>0) ⟨#[],#[.agg #[.int .i64 0,.int .i64 0,.int .i64 0,.int .i64 0,.int .i64 0,.int .i64 0,.int .i64 0,.int .i64 0,.int .i64 0,.slice none 0 0,.slice none 0 0,.slice none 0 0],.int .i64 0,.int .i64 0],[]⟩).memory Tryd.f6.params.toList Rows.confTwiceSpec.vars false (#[.agg #[.int .i64 0,.int .i64 0,.int .i64 0,.int .i64 0,.int .i64 0,.int .i64 0,.int .i64 0,.int .i64 0,.int .i64 0,.slice none 0 0,.slice none 0 0,.slice none 0 0],.int .i64 0,.int .i64 0] : Array Value).toList 8 = some ([.agg [.lit (.int .i64 0),.lit (.int .i64 0),.lit (.int .i64 0),.lit (.int .i64 0),.agg [.lit (.int .i64 0),.lit (.int .i64 0),.lit (.int .i64 0),.lit (.int .i64 0),.lit (.int .i64 0)],.nil,.nil,.nil],.lit (.int .i64 0),.lit (.int .i64 0)],[],places) :=
  ⟨[],by kernel_rfl⟩
set_option maxRecDepth 100000 in
set_option maxHeartbeats 2000000 in
theorem lifted (os : Os) (started : os.Started) (H : Type) (enc : TypeId × Value→H) (F : Stop.Interp) :
    ReturnsInHanded {} Tryd.checked os 6 .any ((OpenSpec.ofChange Rows.confTwiceSpec).preRow enc Tryd.prog Tryd.f6 Rows.confTwiceRow.domain false Rows.confTwiceRow.laid) (((OpenSpec.ofChange Rows.confTwiceSpec).at F).post enc Tryd.prog Tryd.f6 false true false false):=by
  obtain ⟨places_,hx_⟩:=reads os enc
  refine returnsInHanded_of_row (C:=Tryd.checked) (s:=OpenSpec.ofChange Rows.confTwiceSpec) own started (by kernel_rfl) Tryd.func6
    (witness_row_at (enc:=enc) (C:=Tryd.checked) false (Door.laidWorld os) #[.agg #[.int .i64 0,.int .i64 0,.int .i64 0,.int .i64 0,.int .i64 0,.int .i64 0,.int .i64 0,.int .i64 0,.int .i64 0,.slice none 0 0,.slice none 0 0,.slice none 0 0],.int .i64 0,.int .i64 0] rfl (by kernel_rfl) (by kernel_rfl) (by kernel_rfl)
      (OpenSpec.preRow_of_cond 8 hx_ (by kernel_rfl) (fun k hk=>by cases hk) (by kernel_rfl) (laid_met os))) ?_
  intro W base args ds gs before hval0 hW hcnd _ hsz0 hL hS _
  have hG:=Door.globOf hL hS
  show Calls _ _ args W fun e W'=>∃ v,e = .returned v∧Rows.confTwiceSpec.post enc Tryd.prog Tryd.f6 false true false false W args v W'
  have hsz : (DataW.weightsEach Tryd.prog (Tryd.f6.params.toList ++ Rows.confTwiceSpec.plain.varTypes Tryd.prog) (ds ++ gs)).all (·≤reachBytes) = true:=hsz0
  have hval : ∀ (j : Nat) t v,Tryd.f6.params[j]? = some t→args[j]? = some v→Value.okWide Tryd.prog W .any base t v:=hval0
  have hW':=hW
  obtain ⟨p,q,hA0,hV,rfl,hfz,hnd⟩:=hW
  have hA : DataW.TrodAll enc Tryd.prog W 0 (fun _=>true) true Tryd.f6.params.toList args.toList ds p:=hA0
  rw [Tryd.params6] at hA hval hsz
  obtain ⟨v0,vs0,d0,ds0,p0,q0,hargs,rfl,rfl,h0,r0⟩:=trodAll_cons hA
  obtain ⟨v1,vs1,d1,ds1,p1,q1,rfl,rfl,rfl,h1,r1⟩:=trodAll_cons r0
  obtain ⟨v2,vs2,d2,ds2,p2,q2,rfl,rfl,rfl,h2,r2⟩:=trodAll_cons r1
  obtain ⟨rfl,rfl,rfl⟩:=trodAll_nil r2
  obtain rfl : args = #[v0,v1,v2]:=by cases args;simp_all
  obtain ⟨rfl,rfl⟩:=trodVars_none hV
  have k0:=h0
  have lt0 : ∀ x ∈ p0,x.block < W.heap.size:=by obtain ⟨m,hm⟩:=k0;exact DataW.trod_lt m _ _ _ hm
  obtain ⟨arr0,rfl,hz0⟩:=okWide_struct Tryd.underlying28 (hval 0 28 v0 rfl rfl)
  obtain ⟨x0,hK0,g0⟩ : ∃ x,k28.K W x arr0.toList∧(((Lit.int .i64 x.f0).wf = true)∧(((Lit.int .i64 x.f1).wf = true)∧(((Lit.int .i64 x.f2).wf = true)∧(((Lit.int .i64 x.f3).wf = true)∧((((Lit.int .i64 x.f4.f0).wf = true)∧(((Lit.int .i64 x.f4.f1).wf = true)∧(((Lit.int .i64 x.f4.f2).wf = true)∧(((Lit.int .i64 x.f4.f3).wf = true)∧((Lit.int .i64 x.f4.f4).wf = true)))))∧((x.f5.length≤maxLen∧∀ x4 ∈ x.f5,((x4.f0.size≤maxLen)∧(((Lit.int .i64 x4.f1).wf = true)∧(((Lit.int .i64 x4.f2).wf = true)∧((Lit.int .i64 x4.f3).wf = true)))))∧((x.f6.length≤maxLen∧∀ x4 ∈ x.f6,((x4.f0.size≤maxLen)∧(((Lit.int .i64 x4.f1).wf = true)∧((Lit.int .i64 x4.f2).wf = true))))∧(x.f7.length≤maxLen∧∀ x4 ∈ x.f7,((x4.f0.size≤maxLen)∧((x4.f1.size≤maxLen)∧((Lit.int .i64 x4.f2).wf = true))))))))))):=by
    obtain ⟨fuel,hf⟩:=h0
    exact op28.get enc W 0 (fun _=>true) true fuel _ _ hf
  obtain ⟨A0_9,c0_9,A0_10,c0_10,A0_11,c0_11,e0,hc0_9,hr0_9,hc0_10,hr0_10,hc0_11,hr0_11⟩:=k28_open hK0
  have ha0 : arr0 = #[.int .i64 x0.f0,.int .i64 x0.f1,.int .i64 x0.f2,.int .i64 x0.f3,.int .i64 x0.f4.f0,.int .i64 x0.f4.f1,.int .i64 x0.f4.f2,.int .i64 x0.f4.f3,.int .i64 x0.f4.f4,.slice A0_9 x0.f5.length c0_9,.slice A0_10 x0.f6.length c0_10,.slice A0_11 x0.f7.length c0_11]:=Array.toList_inj.mp e0
  subst ha0
  obtain ⟨a1,rfl,rfl,rfl,w1⟩:=open_int Tryd.underlying3 (hval 1 3 v1 rfl rfl) h1
  obtain ⟨a2,rfl,rfl,rfl,w2⟩:=open_int Tryd.underlying3 (hval 2 3 v2 rfl rfl) h2
  clear hA0 hval0 hsz0 hsz
  obtain ⟨k,hk⟩:=Pure.ConfTwice x0.f0 x0.f1 x0.f2 x0.f3 x0.f4.f0 x0.f4.f1 x0.f4.f2 x0.f4.f3 x0.f4.f4 x0.f5 x0.f6 x0.f7 a1 a2 g0 w1 w2
  refine (gangerlaw10_ConfTwice.calls k x0.f0 x0.f1 x0.f2 x0.f3 x0.f4.f0 x0.f4.f1 x0.f4.f2 x0.f4.f3 x0.f4.f4 A0_9 c0_9 x0.f5 A0_10 c0_10 x0.f6 A0_11 c0_11 x0.f7 a1 a2 true W hG hr0_9 hc0_9 hr0_10 hc0_10 hr0_11 hc0_11 hk).mono fun e W' ⟨he,bel⟩=>?_
  subst he
  exact ⟨_,rfl,_,_,_,[],_,[],hW',trodAll_mk1 (shut_bool Tryd.underlying4 _),(trodAll_cons_mk (Below.trod laidOut (by kernel_rfl) (of_decide_eq_true (by kernel_rfl)) k0 bel lt0) (trodAll_cons_mk (shut_int Tryd.underlying3 w1) (trodAll_cons_mk (shut_int Tryd.underlying3 w2) trodAll_mk0))),rfl,bel.frame _,fun h=>by cases h⟩
theorem said : Rows.ConfTwiceSaid :=
  OpenClaim.holds_of_cond 6 Tryd.f6 rfl rfl rfl rfl rfl rfl rfl ⟨rfl,rfl,rfl,rfl,rfl⟩ rfl rfl rfl rfl rfl (by kernel_rfl) Tryd.func6 (by kernel_rfl)
    (of_decide_eq_true (by kernel_rfl)) (by unfold Func.isWrapper;first|(rw [if_pos (by decide +kernel)];kernel_rfl)|(rw [if_neg (by decide +kernel)];exact ⟨rfl,rfl⟩))
    (fun os started H enc _ F=>by rw [OpenClaim.pre_eq_preRow];exact lifted os started H enc F)
theorem plain (f : FuncId) (fn : Func) (hf : Tryd.pinned.checked.prog.funcNamed "ganger/gangerlaw10.ConfTwice" = some f) (hfn : Tryd.pinned.checked.prog.funcs[f]? = some fn) :
    false = Tryd.pinned.checked.prog.looks []∧∀ (j : Nat) t,fn.params[j]? = some t→Tryd.pinned.checked.prog.wantsStandIn t = false:=by
  obtain rfl : f = 6 := Option.some.inj ((show Tryd.prog.funcNamed "ganger/gangerlaw10.ConfTwice" = some 6 by kernel_rfl).symm.trans hf) |>.symm
  obtain rfl : fn = Tryd.f6:=(Option.some.inj (Tryd.func6.symm.trans hfn)).symm
  refine ⟨by kernel_rfl,fun j t ht=>?_⟩
  have hall : (Tryd.f6.params.all fun t=>!Tryd.prog.wantsStandIn t) = true:=by kernel_rfl
  have h2:=Array.all_eq_true_iff_forall_mem.mp hall t (Array.mem_of_getElem? ht)
  have h3 : Tryd.prog.wantsStandIn t = false:=by simpa using h2
  exact h3
/- the claim card -/
theorem proved : Rows.ConfTwiceCardSaid :=
  Claim7.holds_tied_plain_at .later [] _ _ _ _ said (fun _ h=>by cases h) (by kernel_rfl) (fun _ h=>by cases h) confTwice_row_tie rfl ⟨rfl,rfl⟩ (by kernel_rfl) rfl plain (by kernel_rfl)
#print axioms proved
end Go.Proofs.YtgidipomfbikiaaDoor.confTwice
namespace Go.Proofs.YtgidipomfbikiaaDoor
/-- The row, under a short name, for the claim. -/
theorem confTwice_holds : Rows.ConfTwiceCardSaid:=confTwice.proved
end Go.Proofs.YtgidipomfbikiaaDoor
