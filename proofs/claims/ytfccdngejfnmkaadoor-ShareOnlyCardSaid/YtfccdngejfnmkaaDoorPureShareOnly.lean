import Derived.Test.YtfccdngejfnmkaaDoorShrParts
import Derived.Test.YtfccdngejfnmkaaDoorP0
import Derived.Test.YtfccdngejfnmkaaDoorP3
import Derived.Test.YtfccdngejfnmkaaDoorP20
namespace Go.Proofs.YtfccdngejfnmkaaDoor.Pure
open Go.RowKit Go.Proofs.YtfccdngejfnmkaaDoorW.PrintWords Go.Proofs.YtfccdngejfnmkaaDoorW.PrintLast Go.Proofs.YtfccdngejfnmkaaDoorW.PrintMore Go.Proofs.YtfccdngejfnmkaaDoor.P Go.Proofs.YtfccdngejfnmkaaDoor.NumM Go.Proofs.YtfccdngejfnmkaaDoor.Shr
set_option linter.unusedVariables false
set_option linter.unusedSimpArgs false
def accR (s : Int) : S37 := ⟨(⟨#[114]⟩ : ByteArray), (⟨#[]⟩ : ByteArray), s⟩
def accC (s : Int) : S37 := ⟨(⟨#[99]⟩ : ByteArray), (⟨#[114]⟩ : ByteArray), s⟩
theorem tl1 (b : UInt8) : (⟨#[b]⟩ : ByteArray).toList = [b] := tl _
theorem tl0 : (⟨#[]⟩ : ByteArray).toList = [] := tl _
theorem nameR : NameOk (⟨#[114]⟩ : ByteArray) = true := by decide +kernel
theorem nameC : NameOk (⟨#[99]⟩ : ByteArray) = true := by decide +kernel
theorem inB1 {s : Int} (h : 1 ≤ s ∧ s ≤ 65536) : inB s 1 1048576 = true := by
  unfold inB; rw [decide_eq_true (by omega), decide_eq_true (by omega)]; rfl
theorem tok1 {s : Int} (h : 1 ≤ s ∧ s ≤ 65536) : TOK [accR s] = true := by
  have e : inB (([accR s].length : Nat) : Int) 1 50 = true := by rfl
  unfold TOK
  rw [e]
  simp [accOk, namesOk, accR, inB1 h, tl0, nameR, hasT]
theorem tok2 {s : Int} (h : 1 ≤ s ∧ s ≤ 65536) : TOK [accR s, accC s] = true := by
  have e : inB (([accR s, accC s].length : Nat) : Int) 1 50 = true := by rfl
  unfold TOK
  rw [e]
  simp [accOk, namesOk, accR, accC, inB1 h, tl0, tl1, nameR, nameC, hasT]
theorem ups2 (s : Int) : ups [accR s, accC s] = [-1, 0] := by
  unfold ups
  simp [plc, lk, accR, accC]
theorem norms1 (s : Int) : norms [accR s] = [65536] := by simp [norms, nrm]
theorem norms2 {s : Int} (h : 1 ≤ s) : norms [accR s, accC s] = [65536, 65536] := by
  unfold norms
  rw [ups2]
  have hS : shareSum [accR s, accC s] [-1, 0] 0 = s := by simp [shareSum, accC]
  have hr : rd [65536] 0 = 65536 := rfl
  have hc : (accC s).f2 = s := rfl
  simp only [List.drop_succ_cons, List.drop_zero, nrm]
  rw [hS, hr, hc, Int.mul_ediv_cancel _ (by omega)]
  rfl
theorem sums1 (s o : Int) : sums [accR s] [o] = [o] := by simp [sums, sm, inn]
theorem sums2 (s : Int) {o c : Int} (h : 0 ≤ o + c ∧ o + c ≤ 9223372036854775807) : sums [accR s, accC s] [o, c] = [o + c, c] := by
  unfold sums
  rw [ups2]
  have hc : cutoff (o + c) = o + c := by unfold cutoff; rw [if_neg (by omega), if_neg (by omega)]
  simp [sm, inn, hc]
theorem sizeR (s : Int) : (accR s).f0.size ≤ 300 := by show 1 ≤ 300; omega
theorem sizeR1 (s : Int) : (accR s).f1.size ≤ 300 := by show 0 ≤ 300; omega
theorem sizeC (s : Int) : (accC s).f0.size ≤ 300 := by show 1 ≤ 300; omega
theorem sizeC1 (s : Int) : (accC s).f1.size ≤ 300 := by show 1 ≤ 300; omega
theorem small1 (s o : Int) (ho : o ≤ 9223372036854775807) : Small [accR s] [o] := by
  refine ⟨by simp, by simp, fun x hx => ?_, fun x hx => ?_⟩
  · rw [List.mem_singleton.1 hx]; exact ⟨sizeR s, sizeR1 s⟩
  · rw [List.mem_singleton.1 hx]; exact ho
theorem small2 (s o c : Int) (ho : o ≤ 9223372036854775807) (hc : c ≤ 9223372036854775807) : Small [accR s, accC s] [o, c] := by
  refine ⟨by simp, by simp, fun x hx => ?_, fun x hx => ?_⟩
  · simp only [List.mem_cons, List.not_mem_nil, or_false] at hx
    rcases hx with e | e
    · rw [e]; exact ⟨sizeR s, sizeR1 s⟩
    · rw [e]; exact ⟨sizeC s, sizeC1 s⟩
  · simp only [List.mem_cons, List.not_mem_nil, or_false] at hx
    rcases hx with e | e <;> (rw [e]; assumption)
theorem ShareOnly : gangerlaw11_ShareOnly.Pure := by
  intro o c sh h0 h1 h2
  refine Ev.rounds ?_
  have u32 : ∀ z : Int, (Lit.int .u32 z).wf = true → 0 ≤ z ∧ z ≤ 4294967295 := by
    intro z hz
    simp [Lit.wf, IntKind.min, IntKind.max, IntKind.signed, IntKind.bits] at hz; omega
  have hs16 : 0 ≤ sh ∧ sh ≤ 65535 := by
    simp [Lit.wf, IntKind.min, IntKind.max, IntKind.signed, IntKind.bits] at h2; omega
  have ho := u32 o h0
  have hc := u32 c h1
  clear u32 h0 h1 h2
  have es : wrap64 (1 + wrap64 sh) = 1 + sh := by rw [w64 (x := sh) (by omega), w64 (by omega)]
  have eo : wrap64 o = o := w64 (by omega)
  have ec : wrap64 c = c := w64 (by omega)
  unfold gangerlaw11_ShareOnly.f
  rw [es, eo]
  obtain ⟨s, hs⟩ : ∃ s, s = 1 + sh := ⟨_, rfl⟩
  have hs1 : 1 ≤ s ∧ s ≤ 65536 := by omega
  have hok1 : OOK [accR s] [o] := ⟨tok1 hs1, rfl, fun x hx => by rw [List.mem_singleton.1 hx]; omega⟩
  have hok2 : OOK [accR s, accC s] [o, c] := ⟨tok2 hs1, rfl, fun x hx => by
    simp only [List.mem_cons, List.not_mem_nil, or_false] at hx
    rcases hx with e | e <;> omega⟩
  have N1 := norms_ev [accR s] (by simp) (small1 s o (by omega)).2.2.1
  have N2 := norms_ev [accR s, accC s] (by simp) (small2 s o c (by omega) (by omega)).2.2.1
  have F1 := factors_ev (small1 s o (by omega))
  have P2 := parts_ev (small2 s o c (by omega) (by omega))
  rw [if_pos (tok1 hs1), norms1] at N1
  rw [if_pos (tok2 hs1), norms2 hs1.1] at N2
  rw [if_pos ((rightE_ok (small1 s o (by omega)).2.2.2).2 hok1)] at F1
  rw [if_pos ((rightE_ok (small2 s o c (by omega) (by omega)).2.2.2).2 hok2), sums2 s (by omega)] at P2
  have hfac : factors [accR s] [o] = [if o > 0 then 32768 else 65536] := by
    unfold factors
    rw [norms1, sums1]
    have hr : rd [o] 0 = o := rfl
    simp only [parts, List.map_cons, List.map_nil, facs, hr]
    unfold fac partOf
    by_cases q : o > 0
    · have q' : (0 : Int) < o := q
      rw [if_pos q', if_pos q, Int.mul_comm o 65536, Int.mul_ediv_cancel _ (by omega)]
      rfl
    · have q' : ¬ (0 : Int) < o := q
      rw [if_neg q', if_neg q]
      rfl
  rw [hfac] at F1
  have elist : ([(⟨(⟨#[114]⟩ : ByteArray), (⟨#[]⟩ : ByteArray), 1 + sh⟩ : S37)] : List S37) = [accR s] := by rw [hs]; rfl
  rw [elist]
  refine Ev.bind (Ev.now _) (Ev.bind N1 (Ev.bind F1 ?_))
  have J2 : Ev (fun k => gangerlaw11_ShareOnly.j2 k o c (parts [o + c, c]) false) true := by
    refine Ev.step (fun k => by rw [gangerlaw11_ShareOnly.j2]) ?_
    refine ev_neg (by simp) ?_
    have hr : rd [o + c, c] 0 = o + c := rfl
    have hp : parts [o + c, c] = [partOf (o + c) (o + c), partOf (o + c) c] := by unfold parts; rw [hr]; rfl
    have esum : wrap64 (o + c) = o + c := w64 (by omega)
    have emul : wrap64 (c * 65536) = c * 65536 := w64 (by omega)
    rw [eo, ec, esum, emul, hp]
    clear esum emul
    have r0 : rd [partOf (o + c) (o + c), partOf (o + c) c] 0 = partOf (o + c) (o + c) := rfl
    have r1 : rd [partOf (o + c) (o + c), partOf (o + c) c] 1 = partOf (o + c) c := rfl
    rw [r0, r1]
    by_cases hz : o + c = 0
    · have z1 : partOf (o + c) (o + c) = 0 := by unfold partOf; rw [if_neg (by omega)]
      have z2 : partOf (o + c) c = 0 := by unfold partOf; rw [if_neg (by omega)]
      refine ev_pos hz (ev_pos (by simp) (ev_pos z1 (ev_pos (by simp) (ev_pos z2 ?_))))
      exact hk
    · have hpos : 0 < o + c := by omega
      have z1 : partOf (o + c) (o + c) = 65536 := by
        unfold partOf; rw [if_pos hpos, Int.mul_comm, Int.mul_ediv_cancel _ (by omega)]
      have q1 : 0 ≤ c * 65536 / (o + c) := Int.ediv_nonneg (by omega) (by omega)
      have q2 : c * 65536 / (o + c) ≤ c * 65536 := Int.ediv_le_self _ (by omega)
      have z2 : partOf (o + c) c = wrap64 (Int.tdiv (c * 65536) (o + c)) := by
        unfold partOf
        rw [if_pos hpos, Int.tdiv_eq_ediv_of_nonneg (by omega), w64 (by omega)]
      refine ev_neg hz (ev_pos (by simp) (ev_pos z1 (ev_pos (by simp) (ev_pos z2 ?_))))
      exact hk
  have J1 : Ev (fun k => gangerlaw11_ShareOnly.j1 k o c sh [accR s] false) true := by
    refine Ev.step (fun k => by rw [gangerlaw11_ShareOnly.j1]) ?_
    rw [es, eo, ec]
    have e2 : [accR s] ++ [(⟨(⟨#[99]⟩ : ByteArray), (⟨#[114]⟩ : ByteArray), 1 + sh⟩ : S37)] = [accR s, accC s] := by rw [hs]; rfl
    refine ev_neg (by simp) (ev_pos (by simp) ?_)
    rw [e2]
    refine Ev.bind (Ev.now _) (Ev.bind N2 (Ev.bind P2 (ev_pos rfl (ev_pos rfl (ev_pos rfl (ev_pos (by simp) (ev_pos rfl ?_)))))))
    have hb : (((parts [o + c, c]).length : Int) != 2) = false := by simp [parts]
    dsimp only
    rw [hb]
    exact J2
  have J0 : ∀ w, w = (if o > 0 then (32768 : Int) else 65536) → Ev (fun k => gangerlaw11_ShareOnly.j0 k o c sh [accR s] [65536] 0 [if o > 0 then 32768 else 65536] 0 w) true := by
    intro w hw
    refine Ev.step (fun k => by rw [gangerlaw11_ShareOnly.j0]) ?_
    refine ev_pos rfl (ev_pos rfl (ev_pos rfl (ev_pos (by simp) (ev_pos rfl (ev_pos rfl (ev_pos (by simp) ?_))))))
    have hr : rd [if o > 0 then (32768 : Int) else 65536] 0 = w := by rw [hw]; rfl
    rw [hr]
    have hb : (w != w) = false := by simp
    rw [hb]
    exact J1
  by_cases q : o > 0
  · exact ev_pos q (J0 _ (by rw [if_pos q]))
  · exact ev_neg q (J0 _ (by rw [if_neg q]))
end Go.Proofs.YtfccdngejfnmkaaDoor.Pure
