/- cut to what one law reaches -/
import Derived.Test.YtgkedamhicemiaaDoorJyP0
namespace Go.Proofs.YtgkedamhicemiaaDoor.P
open Go.RowKit Go.Proofs.YtgkedamhicemiaaDoorW.PrintWords Go.Proofs.YtgkedamhicemiaaDoorW.PrintLast Go.Proofs.YtgkedamhicemiaaDoorW.PrintMore
attribute [local go_sem] max2_int min2_int max_two min_two max_three min_three max_four min_four
set_option linter.unusedVariables false
set_option linter.unusedSimpArgs false
attribute [local go_sem] isSome_setCell
/-- only block g is written -/
structure Only (g : Nat) (W w1 : World) : Prop where
  os : w1.os = W.os
  tape : w1.tape = W.tape
  output : w1.output = W.output
  size : w1.heap.size = W.heap.size
  block : ∀ k, k ≠ g → w1.heap[k]? = W.heap[k]?
theorem Only.below {B g : Nat} {w0 W w1 : World} (h : Only g W w1) (hb : Below B w0 W) (hg : B ≤ g) : Below B w0 w1 :=
  ⟨h.os.trans hb.os, h.tape.trans hb.tape, h.output.trans hb.output, by rw [h.size]; exact hb.size, fun k hk => (h.block k (by omega)).trans (hb.block k hk)⟩
theorem Only.blk {g k : Nat} {W w1 : World} {ob : Obj} (h : Only g W w1) (hb : W.heap[k]? = some ob) (hg : k ≠ g) : w1.heap[k]? = some ob := (h.block k hg).trans hb
theorem Only.R {α : Type} {d : Kd α} {e base g : Nat} {ok : Nat → Prop} {W w1 : World} {v : Value} {xs : List α} (h : Only g W w1) (hr : d.R e W base ok v xs) (hok : ∀ k, ok k → k < W.heap.size → k ≠ g) : d.R e w1 base ok v xs :=
  Kd.R_step hr (fun k hk hl => h.block k (hok k hk hl))
theorem Only.cells (W : World) (g o : Nat) (seg : List Value) : Only g W (W.setCells g o seg) :=
  let s := setCells_same g seg o W
  ⟨s.1, s.2.1, s.2.2.1, s.2.2.2, fun k hk => setCells_far seg o k hk⟩
section
variable {P : Program} {ops : Array Oper} {rest : List Oper} {o : Oper} {a : Act} {Q : Exit → Act → World → Prop}
/-- a whole value is stored into a block that is known -/
theorem agg_store {W : World} (hgd : o.guard = none) (hN : o.dst = none) {t : TypeId} {p x : Operand} (ho : o.op = .store t p x) {g off : Nat} {u : Value} (haddr : a.eval p = .pointer (some ⟨g, off, none⟩)) (hx : a.eval x = u)
    {n : Nat} (ht : (P.info? t).map (·.size) = some n) {e : TypeId} {cur : Array Value} (hh : W.heap[g]? = some (.cells cur e (0, 0))) (seg : List Value) (hu : u.cells.toList = seg) (hl : seg.length = n) (hfit : off + n ≤ cur.size) (h1 : ∀ q ∈ seg, q.oneCell' = true)
    (cs : Array Value) (hcs : cur.toList.take off ++ seg ++ cur.toList.drop (off + n) = cs.toList)
    (h : ∀ w1, w1.heap[g]? = some (.cells cs e (0, 0)) → Only g W w1 → wpList P ops Q rest a w1) : wpList P ops Q (o :: rest) a W := by
  subst hl
  have hrun := run_store_run (P := P) t u seg hh hu ht hfit h1
  obtain ⟨cur', h3, _, h5⟩ := setCells_row seg off W cur hh hfit
  have he : cur' = cs := by rw [hcs] at h5; exact Array.toList_inj.mp h5
  rw [he] at h3
  refine wpList_plain hgd fun K hK => ?_
  unfold Oper.wp execOp
  simp only [ho, haddr, hx, Sem.run_bind, Sem.run_pure, Result.andThen_ok, hrun]
  show K (a.put o.dst undef) _
  rw [hN]
  exact hK _ _ (h _ h3 (Only.cells W g off seg))
theorem run_loadCells_at {W : World} {g off : Nat} (seg : List Value) (hc : ∀ j u, seg[j]? = some u → W.cell? ⟨g, off + j, none⟩ = some u) : (loadCells ⟨g, off, none⟩ seg.length).run P W = .ok seg.toArray W := by
  have := run_loadCells_list (P := P) W ⟨g, off, none⟩ seg (fun j v hv => by
    rw [add_at]
    exact hc j v hv)
  simpa using this
/-- a whole value is loaded -/
theorem agg_load {W : World} (hgd : o.guard = none) {N : Tmp} (hN : o.dst = some N) {t : TypeId} {p : Operand} (ho : o.op = .load t p) {fs : Array Field} (hu : P.underlying t = some (.struct fs)) {n : Nat} (ht : (P.info? t).map (·.size) = some n)
    {g off : Nat} (haddr : a.eval p = .pointer (some ⟨g, off, none⟩)) (seg : List Value) (hl : seg.length = n) (hc : ∀ j u, seg[j]? = some u → W.cell? ⟨g, off + j, none⟩ = some u)
    (h : wpList P ops Q rest (a.put (some N) (.agg seg.toArray)) W) : wpList P ops Q (o :: rest) a W := by
  subst hl
  have h2 := run_loadCells_at (P := P) seg hc
  obtain ⟨i, hi, hsz⟩ := Option.map_eq_some_iff.1 ht
  have hrun : (Instr.loadAt t (.pointer (some ⟨g, off, none⟩))).run P W = .ok (.agg seg.toArray) W := by
    simp [Instr.loadAt, Instr.sureAddr, loadVar, isAgg, run_underlying hu, sizeOf, typeInfo, hi, hsz, h2]
  refine wpList_plain hgd fun K hK => ?_
  unfold Oper.wp execOp
  simp only [ho, haddr, Sem.run_bind, Sem.run_pure, Result.andThen_ok, hrun]
  show K (a.put o.dst _) _
  rw [hN]
  exact hK _ _ h
end
theorem blk_seg {W : World} {g T : Nat} {cs : Array Value} (h : W.heap[g]? = some (.cells cs T (0, 0))) (off n : Nat) {seg : List Value} (hs : (cs.toList.drop off).take n = seg) : ∀ i u, seg[i]? = some u → W.cell? ⟨g, off + i, none⟩ = some u := by
  intro i u hu
  subst hs
  rw [blk_cell h]
  rw [List.getElem?_take] at hu
  split at hu
  · rw [List.getElem?_drop] at hu
    simpa using hu
  · cases hu
theorem Only.Rb {α : Type} {d : Kd α} {e base g : Nat} {ok : Nat → Prop} {W w1 : World} {v : Value} {xs : List α} (h : Only g W w1) (hr : d.R e W base ok v xs) (hg : g < base) : d.R e w1 base ok v xs :=
  Kd.R_mono (Kd.R_step (Kd.R_bound hr) (fun k hk _ => h.block k (by have := hk.2.1; omega))) (fun _ hk => hk.1)
section
variable {P : Program} {ops : Array Oper} {rest : List Oper} {o : Oper} {a : Act} {Q : Exit → Act → World → Prop}
theorem agg_loadA {W : World} (hgd : o.guard = none) {N : Tmp} (hN : o.dst = some N) {t : TypeId} {p : Operand} (ho : o.op = .load t p) {fs : Array Field} (hu : P.underlying t = some (.struct fs)) {n : Nat} (ht : (P.info? t).map (·.size) = some n)
    {b : Addr} (haddr : a.eval p = .pointer (some b)) (seg : List Value) (hl : seg.length = n) (hc : ∀ j u, seg[j]? = some u → W.cell? (b.add j) = some u)
    (h : wpList P ops Q rest (a.put (some N) (.agg seg.toArray)) W) : wpList P ops Q (o :: rest) a W := by
  subst hl
  have h2 : (loadCells b seg.length).run P W = .ok seg.toArray W := by
    have := run_loadCells_list (P := P) W b seg hc
    simpa using this
  obtain ⟨i, hi, hsz⟩ := Option.map_eq_some_iff.1 ht
  have hrun : (Instr.loadAt t (.pointer (some b))).run P W = .ok (.agg seg.toArray) W := by
    simp [Instr.loadAt, Instr.sureAddr, loadVar, isAgg, run_underlying hu, sizeOf, typeInfo, hi, hsz, h2]
  refine wpList_plain hgd fun K hK => ?_
  unfold Oper.wp execOp
  simp only [ho, haddr, Sem.run_bind, Sem.run_pure, Result.andThen_ok, hrun]
  show K (a.put o.dst _) _
  rw [hN]
  exact hK _ _ h
end
theorem addr_add_add (ad : Addr) (i j : Nat) : (ad.add i).add j = ad.add (i + j) := by
  unfold Addr.add
  by_cases h1 : i = 0 <;> by_cases h2 : j = 0 <;> simp [h1, h2, Nat.add_assoc]
end Go.Proofs.YtgkedamhicemiaaDoor.P
