/- cut to what one law reaches -/
import Derived.Test.YtakdneopmojjdaaDoorRows
import Derived.Test.YtakdneopmojjdaaDoorCards
import Derived.Test.YtakdneopmojjdaaDoorTie
import Derived.Test.YtakdneopmojjdaaDoorBfGlob
import Derived.Test.YtakdneopmojjdaaDoorBfP19
import Derived.Test.YtakdneopmojjdaaDoorBfPureBookFalls
import Derived.Test.YtakdneopmojjdaaDoorBfOpens
import Derived.WalkKit
import Derived.ProofKit
import Derived.OpenShut
import Derived.ShutString
import Derived.ChangeOld
import Derived.Below
import Derived.SizedLaws
/- The machine's side of the laws of this seat: each function's plain form and its contract, written by a program of this session out of Lean's print of the loaded functions; no condition beyond what each statement says. -/
namespace Go.Proofs.YtakdneopmojjdaaDoor.bookFalls
open Go.ChangeShapes Go.WideShapes Go.ChangeAt Go.RowKit Go.Proofs.YtakdneopmojjdaaDoor.P Go.Proofs.YtakdneopmojjdaaDoor.Opens
open Go.Proofs.YtakdneopmojjdaaDoorW.PrintWords Go.Proofs.YtakdneopmojjdaaDoorW.PrintLast Go.Proofs.YtakdneopmojjdaaDoorW.PrintMore
open Go.ChangeMaps (open_string shut_string)
set_option linter.unusedVariables false
theorem own : ownKnob Tryd.prog.godebug = none:=by kernel_rfl
theorem laidOut : laidOutB Tryd.prog = true:=by kernel_rfl
theorem op24 : Opn Tryd.prog 24 k24 (fun x=>(((Lit.int .u32 x.f0).wf = true)∧((x.f1.size≤maxLen)∧(((Lit.int .i64 x.f2).wf = true)∧(((Lit.int .i64 x.f3).wf = true)∧(((Lit.int .i64 x.f4).wf = true)∧((Lit.int .i64 x.f5).wf = true))))))) :=
  Opn.iso (fun x : S24=>(x.f0,x.f1,x.f2,x.f3,x.f4,x.f5)) (fun y=>(⟨y.1,y.2.1,y.2.2.1,y.2.2.2.1,y.2.2.2.2.1,y.2.2.2.2.2⟩ : S24)) (fun _=>rfl) (Opn.struct Tryd.underlying24 (by kernel_rfl) (OpF.cons rfl (Opn.int Tryd.underlying22 (by kernel_rfl)) (OpF.cons rfl (Opn.string Tryd.underlying9 (by kernel_rfl)) (OpF.cons rfl (Opn.int Tryd.underlying3 (by kernel_rfl)) (OpF.cons rfl (Opn.int Tryd.underlying3 (by kernel_rfl)) (OpF.cons rfl (Opn.int Tryd.underlying3 (by kernel_rfl)) (OpF.one rfl (Opn.int Tryd.underlying3 (by kernel_rfl)))))))))
set_option maxRecDepth 100000 in
theorem laid_met (os : Os) : laidMet Tryd.prog Rows.bookFallsRow.laid ((Door.laidWorld os).forCall (fun _ _=>0) ⟨#[],#[.slice none 0 0,.string ByteArray.empty,.int .i64 0,.int .u16 0,.int .i64 0,.agg #[.int .u32 0,.string ByteArray.empty,.int .i64 0,.int .i64 0,.int .i64 0,.int .i64 0]],[]⟩).memory :=
  laidMet_of_run' 8 (by kernel_rfl) (by kernel_rfl)
set_option maxRecDepth 100000 in
theorem reads (os : Os) {H : Type} (enc : TypeId × Value→H) : ∃ places,DataW.whole enc Tryd.prog ((Door.laidWorld os).forCall (fun _ _=>0) ⟨#[],#[.slice none 0 0,.string ByteArray.empty,.int .i64 0,.int .u16 0,.int .i64 0,.agg #[.int .u32 0,.string ByteArray.empty,.int .i64 0,.int .i64 0,.int .i64 0,.int .i64 0]],[]⟩).memory Tryd.f5.params.toList Rows.bookFallsSpec.vars false (#[.slice none 0 0,.string ByteArray.empty,.int .i64 0,.int .u16 0,.int .i64 0,.agg #[.int .u32 0,.string ByteArray.empty,.int .i64 0,.int .i64 0,.int .i64 0,.int .i64 0]] : Array Value).toList 8 = some ([.nil,.lit (.string []),.lit (.int .i64 0),.lit (.int .u16 0),.lit (.int .i64 0),.agg [.lit (.int .u32 0),.lit (.string []),.lit (.int .i64 0),.lit (.int .i64 0),.lit (.int .i64 0),.lit (.int .i64 0)]],[],places) :=
  ⟨[],by kernel_rfl⟩
set_option maxRecDepth 100000 in
set_option maxHeartbeats 2000000 in
theorem lifted (os : Os) (started : os.Started) (H : Type) (enc : TypeId × Value→H) (F : Stop.Interp) :
    ReturnsInHanded {} Tryd.checked os 5 .any ((OpenSpec.ofChange Rows.bookFallsSpec).preRow enc Tryd.prog Tryd.f5 Rows.bookFallsRow.domain false Rows.bookFallsRow.laid) (((OpenSpec.ofChange Rows.bookFallsSpec).at F).post enc Tryd.prog Tryd.f5 false true false false):=by
  obtain ⟨places_,hx_⟩:=reads os enc
  refine returnsInHanded_of_row (C:=Tryd.checked) (s:=OpenSpec.ofChange Rows.bookFallsSpec) own started (by kernel_rfl) Tryd.func5
    (witness_row_at (enc:=enc) (C:=Tryd.checked) false (Door.laidWorld os) #[.slice none 0 0,.string ByteArray.empty,.int .i64 0,.int .u16 0,.int .i64 0,.agg #[.int .u32 0,.string ByteArray.empty,.int .i64 0,.int .i64 0,.int .i64 0,.int .i64 0]] rfl (by kernel_rfl) (by kernel_rfl) (by kernel_rfl)
      (OpenSpec.preRow_of_cond 8 hx_ (by kernel_rfl) (fun k hk=>by cases hk) (by kernel_rfl) (laid_met os))) ?_
  intro W base args ds gs before hval0 hW hcnd _ hsz0 hL hS _
  have hG:=Door.globOf hL hS
  show Calls _ _ args W fun e W'=>∃ v,e = .returned v∧Rows.bookFallsSpec.post enc Tryd.prog Tryd.f5 false true false false W args v W'
  have hsz : (DataW.weightsEach Tryd.prog (Tryd.f5.params.toList ++ Rows.bookFallsSpec.plain.varTypes Tryd.prog) (ds ++ gs)).all (·≤reachBytes) = true:=hsz0
  have hval : ∀ (j : Nat) t v,Tryd.f5.params[j]? = some t→args[j]? = some v→Value.okWide Tryd.prog W .any base t v:=hval0
  have hW':=hW
  obtain ⟨p,q,hA0,hV,rfl,hfz,hnd⟩:=hW
  have hA : DataW.TrodAll enc Tryd.prog W 0 (fun _=>true) true Tryd.f5.params.toList args.toList ds p:=hA0
  rw [Tryd.params5] at hA hval hsz
  obtain ⟨v0,vs0,d0,ds0,p0,q0,hargs,rfl,rfl,h0,r0⟩:=trodAll_cons hA
  obtain ⟨v1,vs1,d1,ds1,p1,q1,rfl,rfl,rfl,h1,r1⟩:=trodAll_cons r0
  obtain ⟨v2,vs2,d2,ds2,p2,q2,rfl,rfl,rfl,h2,r2⟩:=trodAll_cons r1
  obtain ⟨v3,vs3,d3,ds3,p3,q3,rfl,rfl,rfl,h3,r3⟩:=trodAll_cons r2
  obtain ⟨v4,vs4,d4,ds4,p4,q4,rfl,rfl,rfl,h4,r4⟩:=trodAll_cons r3
  obtain ⟨v5,vs5,d5,ds5,p5,q5,rfl,rfl,rfl,h5,r5⟩:=trodAll_cons r4
  obtain ⟨rfl,rfl,rfl⟩:=trodAll_nil r5
  obtain rfl : args = #[v0,v1,v2,v3,v4,v5]:=by cases args;simp_all
  obtain ⟨rfl,rfl⟩:=trodVars_none hV
  obtain ⟨A0,len0,c0,rfl⟩:=okWide_slice Tryd.underlying32 (hval 0 32 v0 rfl rfl)
  have k0:=h0
  have lt0 : ∀ x ∈ p0,x.block < W.heap.size:=by obtain ⟨m,hm⟩:=k0;exact DataW.trod_lt m _ _ _ hm
  obtain ⟨l0,hr0,hc0,g0,rfl⟩ : ∃ l,Kd.C k24 W A0 l.length l∧l.length≤c0∧(l.length≤maxLen∧∀ x1 ∈ l,(((Lit.int .u32 x1.f0).wf = true)∧((x1.f1.size≤maxLen)∧(((Lit.int .i64 x1.f2).wf = true)∧(((Lit.int .i64 x1.f3).wf = true)∧(((Lit.int .i64 x1.f4).wf = true)∧((Lit.int .i64 x1.f5).wf = true)))))))∧len0 = l.length:=by
    obtain ⟨fuel,hf⟩:=h0
    obtain ⟨l,⟨A',c',hcs,hc',hr'⟩,hG⟩:=(show Opn Tryd.prog 32 (Kd.slice 24 k24) (fun l=>(l.length≤maxLen∧∀ x1 ∈ l,(((Lit.int .u32 x1.f0).wf = true)∧((x1.f1.size≤maxLen)∧(((Lit.int .i64 x1.f2).wf = true)∧(((Lit.int .i64 x1.f3).wf = true)∧(((Lit.int .i64 x1.f4).wf = true)∧((Lit.int .i64 x1.f5).wf = true)))))))) from (Opn.slice Tryd.underlying32 (by kernel_rfl) op24)).get enc W 0 (fun _=>true) true fuel _ _ hf
    simp [Value.cells] at hcs
    obtain ⟨rfl,rfl,rfl⟩:=hcs
    exact ⟨l,hr',hc',hG,rfl⟩
  obtain ⟨a1,rfl,rfl,rfl,y1⟩:=open_string Tryd.underlying9 (hval 1 9 v1 rfl rfl) h1
  have w1 : a1.size≤140737488351232:=by
    have z:=sized_string hsz (j:=1) (t:=9) rfl rfl
    rw [Array.length_toList] at z
    exact z
  obtain ⟨a2,rfl,rfl,rfl,w2⟩:=open_int Tryd.underlying3 (hval 2 3 v2 rfl rfl) h2
  obtain ⟨a3,rfl,rfl,rfl,w3⟩:=open_int Tryd.underlying38 (hval 3 38 v3 rfl rfl) h3
  obtain ⟨a4,rfl,rfl,rfl,w4⟩:=open_int Tryd.underlying3 (hval 4 3 v4 rfl rfl) h4
  have k5:=h5
  have lt5 : ∀ x ∈ p5,x.block < W.heap.size:=by obtain ⟨m,hm⟩:=k5;exact DataW.trod_lt m _ _ _ hm
  obtain ⟨arr5,rfl,hz5⟩:=okWide_struct Tryd.underlying24 (hval 5 24 v5 rfl rfl)
  obtain ⟨x5,hK5,g5⟩ : ∃ x,k24.K W x arr5.toList∧(((Lit.int .u32 x.f0).wf = true)∧((x.f1.size≤maxLen)∧(((Lit.int .i64 x.f2).wf = true)∧(((Lit.int .i64 x.f3).wf = true)∧(((Lit.int .i64 x.f4).wf = true)∧((Lit.int .i64 x.f5).wf = true)))))):=by
    obtain ⟨fuel,hf⟩:=h5
    exact op24.get enc W 0 (fun _=>true) true fuel _ _ hf
  have e5:=k24_open hK5
  have ha5 : arr5 = #[.int .u32 x5.f0,.string x5.f1,.int .i64 x5.f2,.int .i64 x5.f3,.int .i64 x5.f4,.int .i64 x5.f5]:=Array.toList_inj.mp e5
  subst ha5
  clear hA0 hval0 hsz0 hsz
  obtain ⟨k,hk⟩:=Pure.BookFalls l0 a1 a2 a3 a4 x5.f0 x5.f1 x5.f2 x5.f3 x5.f4 x5.f5 g0 w1 w2 w3 w4 g5
  refine (gangerlaw20_BookFalls.calls k A0 c0 l0 a1 a2 a3 a4 x5.f0 x5.f1 x5.f2 x5.f3 x5.f4 x5.f5 true W hG hr0 hc0 hk).mono fun e W' ⟨he,bel⟩=>?_
  subst he
  exact ⟨_,rfl,_,_,_,[],_,[],hW',trodAll_mk1 (shut_bool Tryd.underlying4 _),(trodAll_cons_mk (Below.trod laidOut (by kernel_rfl) (of_decide_eq_true (by kernel_rfl)) k0 bel lt0) (trodAll_cons_mk (shut_string Tryd.underlying9 y1) (trodAll_cons_mk (shut_int Tryd.underlying3 w2) (trodAll_cons_mk (shut_int Tryd.underlying38 w3) (trodAll_cons_mk (shut_int Tryd.underlying3 w4) (trodAll_cons_mk (Below.trod laidOut (by kernel_rfl) (of_decide_eq_true (by kernel_rfl)) k5 bel lt5) trodAll_mk0)))))),rfl,bel.frame _,fun h=>by cases h⟩
theorem said : Rows.BookFallsSaid :=
  OpenClaim.holds_of_cond 5 Tryd.f5 rfl rfl rfl rfl rfl rfl rfl ⟨rfl,rfl,rfl,rfl,rfl⟩ rfl rfl rfl rfl rfl (by kernel_rfl) Tryd.func5 (by kernel_rfl)
    (of_decide_eq_true (by kernel_rfl)) (by unfold Func.isWrapper;first|(rw [if_pos (by decide +kernel)];kernel_rfl)|(rw [if_neg (by decide +kernel)];exact ⟨rfl,rfl⟩))
    (fun os started H enc _ F=>by rw [OpenClaim.pre_eq_preRow];exact lifted os started H enc F)
theorem plain (f : FuncId) (fn : Func) (hf : Tryd.pinned.checked.prog.funcNamed "ganger/gangerlaw20.BookFalls" = some f) (hfn : Tryd.pinned.checked.prog.funcs[f]? = some fn) :
    false = Tryd.pinned.checked.prog.looks []∧∀ (j : Nat) t,fn.params[j]? = some t→Tryd.pinned.checked.prog.wantsStandIn t = false:=by
  obtain rfl : f = 5 := Option.some.inj ((show Tryd.prog.funcNamed "ganger/gangerlaw20.BookFalls" = some 5 by kernel_rfl).symm.trans hf) |>.symm
  obtain rfl : fn = Tryd.f5:=(Option.some.inj (Tryd.func5.symm.trans hfn)).symm
  refine ⟨by kernel_rfl,fun j t ht=>?_⟩
  have hall : (Tryd.f5.params.all fun t=>!Tryd.prog.wantsStandIn t) = true:=by kernel_rfl
  have h2:=Array.all_eq_true_iff_forall_mem.mp hall t (Array.mem_of_getElem? ht)
  have h3 : Tryd.prog.wantsStandIn t = false:=by simpa using h2
  exact h3
/- the claim card -/
theorem proved : Rows.BookFallsCardSaid :=
  Claim7.holds_tied_plain_at .later [] _ _ _ _ said (fun _ h=>by cases h) (by kernel_rfl) (fun _ h=>by cases h) bookFalls_row_tie rfl ⟨rfl,rfl⟩ (by kernel_rfl) rfl plain (by kernel_rfl)
#print axioms proved
end Go.Proofs.YtakdneopmojjdaaDoor.bookFalls
namespace Go.Proofs.YtakdneopmojjdaaDoor
/-- The row, under a short name, for the claim. -/
theorem bookFalls_holds : Rows.BookFallsCardSaid:=bookFalls.proved
end Go.Proofs.YtakdneopmojjdaaDoor
