/- cut to what one law reaches -/
import Derived.Test.YtgkedamhicemiaaDoorJyJ6
namespace Go.Proofs.YtgkedamhicemiaaDoor.P
open Go.RowKit Go.Proofs.YtgkedamhicemiaaDoorW.PrintWords Go.Proofs.YtgkedamhicemiaaDoorW.PrintLast Go.Proofs.YtgkedamhicemiaaDoorW.PrintMore
attribute [local go_sem] max2_int min2_int max_two min_two max_three min_three max_four min_four
set_option linter.unusedVariables false
set_option linter.unusedSimpArgs false
attribute [local go_sem] isSome_setCell
theorem KeepM.mono {M M' : Nat → Prop} {W W' : World} (h : KeepM M W W') (hm : ∀ k, M k → M' k) : KeepM M' W W' := ⟨h.os, h.tape, h.output, h.size, fun k hk hn => h.block k hk (fun h => hn (hm k h))⟩
theorem KeepM.grown {M : Nat → Prop} {W0 W W' : World} (h : KeepM M W0 W) {row : Option Nat} (hg : W.grownBy W' row) (hr : ∀ b, row = some b → M b ∨ W0.heap.size ≤ b) : KeepM M W0 W' :=
  ⟨hg.os.trans h.os, hg.tape.trans h.tape, hg.output.trans h.output, Nat.le_trans h.size hg.size, fun k hk hn => (hg.block k (Nat.lt_of_lt_of_le hk h.size) (fun e => by
    rcases hr k e.symm with h1 | h1
    · exact hn h1
    · omega)).trans (h.block k hk hn)⟩
theorem KeepM.blk {M : Nat → Prop} {W W' : World} (h : KeepM M W W') {k : Nat} {o : Obj} (hb : W.heap[k]? = some o) (hn : ¬ M k) : W'.heap[k]? = some o := (h.block k (blk_lt hb) hn).trans hb
theorem KeepM.below {M : Nat → Prop} {w0 W W' : World} (h : KeepM M W W') (hb : Below w0.heap.size w0 W) (hm : ∀ k, M k → w0.heap.size ≤ k) : Below w0.heap.size w0 W' :=
  ⟨h.os.trans hb.os, h.tape.trans hb.tape, h.output.trans hb.output, Nat.le_trans hb.size h.size, fun k hk => (h.block k (Nat.lt_of_lt_of_le hk hb.size) (fun q => by have := hm k q; omega)).trans (hb.block k hk)⟩
/-- a row of blocks that are not M stays -/
theorem KeepM.R {M : Nat → Prop} {W W' : World} (h : KeepM M W W') {α : Type} {d : Kd α} {e base : Nat} {ok : Nat → Prop} {v : Value} {xs : List α} (hr : d.R e W base ok v xs) (hn : ∀ k, ok k → ¬ M k) : d.R e W' base ok v xs :=
  Kd.R_step hr (fun k hk hl => h.block k hl (hn k hk))
theorem R_lt {α : Type} {d : Kd α} {e base : Nat} {ok : Nat → Prop} {W : World} {v : Value} {xs : List α} (h : d.R e W base ok v xs) : ∀ k, v.ownBlock = some k → k < W.heap.size := fun k hk => ((Kd.R_bound h).1 k hk).2.2.1
section
variable {W W' : World} {B t : Nat} {M : Nat → Prop} {h : Cf} {A9 : Option Addr} {c9 : Nat} {A10 : Option Addr} {c10 : Nat} {A11 : Option Addr} {c11 : Nat} {Aj : Option Addr} {cj : Nat} {P : List S85} {Q : List S87} {A : List S89} {L : List S58}
theorem Tab.keep (c : Tab W B M t h A9 c9 A10 c10 A11 c11 Aj cj P Q A L) (hk : ∀ k, M k → k < W.heap.size → W'.heap[k]? = W.heap[k]?) : Tab W' B M t h A9 c9 A10 c10 A11 c11 Aj cj P Q A L :=
  ⟨c.mb, c.mt, (hk t c.mt (blk_lt c.b)).trans c.b, Kd.R_step c.r9 hk, Kd.R_step c.r10 hk, Kd.R_step c.r11 hk, Kd.R_step c.rj hk⟩
theorem Tab.bound (c : Tab W B M t h A9 c9 A10 c10 A11 c11 Aj cj P Q A L) : Tab W B (fun k => M k ∧ k < W.heap.size) t h A9 c9 A10 c10 A11 c11 Aj cj P Q A L :=
  ⟨fun k hk => c.mb k hk.1, ⟨c.mt, blk_lt c.b⟩, c.b, Kd.R_mono (Kd.R_bound c.r9) (fun _ hk => ⟨hk.1, hk.2.2.1⟩), Kd.R_mono (Kd.R_bound c.r10) (fun _ hk => ⟨hk.1, hk.2.2.1⟩), Kd.R_mono (Kd.R_bound c.r11) (fun _ hk => ⟨hk.1, hk.2.2.1⟩), Kd.R_mono (Kd.R_bound c.rj) (fun _ hk => ⟨hk.1, hk.2.2.1⟩)⟩
/-- one more job -/
theorem Tab.push (c : Tab W B M t h A9 c9 A10 c10 A11 c11 Aj cj P Q A L) {M2 : Nat → Prop} {p : S58} {A5 : Option Addr} {c5 : Nat} (ho : Kd.R k58 58 W' B M2 (.slice A5 (L ++ [p]).length c5) (L ++ [p])) (hg : W.grownBy W' (Value.slice Aj L.length cj).ownBlock) (hm : ∀ k, M k → M2 k) (hb : ∀ k, M2 k → B ≤ k) :
    Tab (W'.setCell ⟨t, 12, none⟩ (.slice A5 (L ++ [p]).length c5)) B M2 t h A9 c9 A10 c10 A11 c11 A5 c5 P Q A (L ++ [p]) := by
  have hty := Kd.R_typed c.rj
  have hne : some t ≠ (Value.slice Aj L.length cj).ownBlock := Kd.R_ne c.rj c.b (by decide)
  have hbk : W'.heap[t]? = _ := blk_grown c.b hg hne
  refine ⟨hb, hm t c.mt, blk_put hbk 12 _ rfl, ?_, ?_, ?_, Kd.R_set ho hbk (by decide) _ _⟩
  · exact Kd.R_set (Kd.R_mono (Kd.R_over' c.r9 hty (by decide) hg) hm) hbk (by decide) _ _
  · exact Kd.R_set (Kd.R_mono (Kd.R_over' c.r10 hty (by decide) hg) hm) hbk (by decide) _ _
  · exact Kd.R_set (Kd.R_mono (Kd.R_over' c.r11 hty (by decide) hg) hm) hbk (by decide) _ _
end
/-- the indexes that a spec asks for -/
def idxs (s : S41) : List Int := if s.f6.f0 = [] then [-1] else s.f6.f0
def firstId (s : S41) (L : List S58) : Int := if s.f6.f0 = [] then 0 else (L.length : Int) + 1
def howOf (s : S41) : Int := if s.f10 = true then 2 else 1
def mkJob (s : S41) (p now first : Int) (id i : Int) : S58 := ⟨id, first, i, s, p, howOf s, now, 0, 0, 0, ⟨0, 0⟩⟩
def newsK (s : S41) (p now : Int) (L : List S58) (k : Nat) : List S58 := (List.range k).map (fun (m : Nat) => mkJob s p now (firstId s L) ((L.length : Int) + 1 + (m : Int)) ((idxs s).getD m 0))
def idsK (L : List S58) (k : Nat) : List Int := (List.range k).map (fun (m : Nat) => (L.length : Int) + 1 + (m : Int))
theorem newsK_len (s : S41) (p now : Int) (L : List S58) (k : Nat) : (newsK s p now L k).length = k := by simp [newsK]
theorem idsK_len (L : List S58) (k : Nat) : (idsK L k).length = k := by simp [idsK]
theorem newsK_succ (s : S41) (p now : Int) (L : List S58) (k : Nat) : newsK s p now L (k + 1) = newsK s p now L k ++ [mkJob s p now (firstId s L) ((L.length : Int) + 1 + k) ((idxs s).getD k 0)] := by
  unfold newsK; rw [List.range_succ, List.map_append]; rfl
theorem idsK_succ (L : List S58) (k : Nat) : idsK L (k + 1) = idsK L k ++ [(L.length : Int) + 1 + k] := by
  unfold idsK; rw [List.range_succ, List.map_append]; rfl
/-- what Submit comes to: the error, the numbers, the jobs -/
def SubR (x : Cg) (s : S41) (now : Int) (L : List S58) (q : Int) (out : List Int) (L' : List S58) : Prop :=
  ∃ r, ChkR s r ∧ ((r ≠ 0 ∧ q = 90 ∧ out = [] ∧ L' = L) ∨ (r = 0 ∧ ∃ p, AdmR x s now ((idxs s).length : Int) L p q ∧ ((q ≠ 0 ∧ out = [] ∧ L' = L) ∨ (q = 0 ∧ out = idsK L (idxs s).length ∧ L' = L ++ newsK s p now L (idxs s).length))))
end Go.Proofs.YtgkedamhicemiaaDoor.P
