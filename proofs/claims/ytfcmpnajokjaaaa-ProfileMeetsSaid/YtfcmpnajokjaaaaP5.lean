/- The machine's side of the laws of this seat: each function's plain form and its contract, written by a program of this session out of Lean's print of the loaded functions; no condition beyond what each statement says. -/
import Derived.Test.YtfcmpnajokjaaaaP0
import Derived.Test.YtfcmpnajokjaaaaP1
import Derived.Test.YtfcmpnajokjaaaaP2
import Derived.Test.YtfcmpnajokjaaaaP4
namespace Go.Proofs.Ytfcmpnajokjaaaa.P
open Go.RowKit Go.Proofs.YtfcmpnajokjaaaaW.PrintWords Go.Proofs.YtfcmpnajokjaaaaW.PrintLast Go.Proofs.YtfcmpnajokjaaaaW.PrintMore
attribute [local go_sem] max2_int min2_int max_two min_two max_three min_three max_four min_four   -- for this text's walks alone
set_option linter.unusedVariables false
set_option linter.unusedSimpArgs false

attribute [local go_sem high] eqA39
attribute [local go_sem] isSome_setCell
/-! ### profile_compact: function 36 -/
def cfA : Option Int → List S39 → List S39
  | _, [] => []
  | p, x :: r => (if p = some x.f1 then [] else [x]) ++ cfA (some x.f1) r
def cf (l : List S39) : List S39 := cfA none l
def lastf (p : Option Int) (l : List S39) : Option Int := match l.getLast? with | some x => some x.f1 | none => p
theorem lastf_cons (x : S39) (p : Option Int) (r : List S39) : lastf p (x :: r) = lastf (some x.f1) r := by
  cases r with
  | nil => rfl
  | cons z r =>
    obtain ⟨q, hq⟩ : ∃ q, (z :: r).getLast? = some q := ⟨_, List.getLast?_eq_some_getLast (by simp)⟩
    simp only [lastf, List.getLast?_cons_cons, hq]
theorem cfA_snoc (x : S39) : ∀ (l : List S39) (p : Option Int), cfA p (l ++ [x]) = cfA p l ++ (if lastf p l = some x.f1 then [] else [x])
  | [], p => by
    show (if p = some x.f1 then [] else [x]) ++ [] = [] ++ (if p = some x.f1 then [] else [x])
    rw [List.append_nil, List.nil_append]
  | y :: r, p => by
    rw [List.cons_append, cfA, cfA, cfA_snoc x r (some y.f1), List.append_assoc, lastf_cons]
def kp (l : List S39) (j : Nat) : Prop := j = 0 ∨ (l[j]?.map (·.f1)) ≠ (l[j - 1]?.map (·.f1))
theorem cf_take_succ (l : List S39) (m : Nat) (hm : m < l.length) : (kp l m → cf (l.take (m + 1)) = cf (l.take m) ++ [l[m]]) ∧ (¬ kp l m → cf (l.take (m + 1)) = cf (l.take m)) := by
  have e : l.take (m + 1) = l.take m ++ [l[m]] := by rw [List.take_add_one, List.getElem?_eq_getElem hm]; rfl
  have hc := cfA_snoc l[m] (l.take m) none
  rw [← e] at hc
  have hl : (lastf none (l.take m) = some l[m].f1) ↔ ¬ kp l m := by
    unfold kp lastf
    cases m with
    | zero => simp
    | succ m =>
      rw [List.getLast?_take, if_neg (by omega), List.getElem?_eq_getElem hm, show m + 1 - 1 = m by omega, List.getElem?_eq_getElem (show m < l.length by omega)]
      simp
      exact eq_comm
  constructor
  · intro h
    rw [if_neg (fun h2 => hl.1 h2 h)] at hc
    exact hc
  · intro h
    rw [if_pos (hl.2 h), List.append_nil] at hc
    exact hc
theorem cf_all (l : List S39) : ∀ m, m ≤ l.length → (∀ j, j < m → kp l j) → cf (l.take m) = l.take m
  | 0, _, _ => by simp [cf, cfA]
  | m + 1, hm, h => by
    rw [(cf_take_succ l m (by omega)).1 (h m (by omega)), cf_all l m (by omega) (fun j hj => h j (by omega)), List.take_add_one, List.getElem?_eq_getElem (by omega)]
    rfl
/-- The second loop: m places looked at, k of them kept, at the row's head. -/
structure CfInv (l : List S39) (m k : Nat) (d : List S39) : Prop where
  size : d.length = l.length
  low : d.take k = cf (l.take m)
  lt : k < m
  high : ∀ j, k ≤ j → d[j]? = l[j]?
theorem CfInv.start {l : List S39} {k : Nat} (hk : k < l.length) (hall : ∀ j, j < k → kp l j) (hd : ¬ kp l k) : CfInv l (k + 1) k l where
  size := rfl
  low := by rw [(cf_take_succ l k hk).2 hd, cf_all l k (by omega) hall]
  lt := Nat.lt_succ_self _
  high := fun _ _ => rfl
theorem CfInv.skip {l d : List S39} {m k : Nat} (h : CfInv l m k d) (hm : m < l.length) (hd : ¬ kp l m) : CfInv l (m + 1) k d where
  size := h.size
  low := by rw [(cf_take_succ l m hm).2 hd]; exact h.low
  lt := by have := h.lt; omega
  high := h.high
theorem CfInv.keep {l d : List S39} {m k : Nat} (h : CfInv l m k d) (hm : m < l.length) (hd : kp l m) : CfInv l (m + 1) (k + 1) (d.set k l[m]) where
  size := by rw [List.length_set]; exact h.size
  low := by
    have hk : k < d.length := by rw [h.size]; have := h.lt; omega
    rw [(cf_take_succ l m hm).1 hd, ← h.low, List.take_add_one, List.take_set, List.getElem?_set_self hk, List.set_eq_of_length_le (by rw [List.length_take]; omega)]
    rfl
  lt := by have := h.lt; omega
  high := fun j hj => by rw [List.getElem?_set_ne (by omega)]; exact h.high j (by omega)
theorem cells39 {W : World} {g n : Nat} {cur : Array Value} {l : List S39} (hg : W.heap[g]? = some (.cells cur 39 (0, 0))) (ht : cur.toList.take (n * 2) = enc39 l) (j : Nat) (x : S39) (hx : l[j]? = some x) :
    W.cell? ⟨g, j * 2, none⟩ = some (.int .i64 x.f0) ∧ W.cell? ⟨g, j * 2 + 1, none⟩ = some (.int .i64 x.f1) := by
  have hj := (List.getElem?_eq_some_iff.1 hx).1
  have hl : l.length * 2 = min (n * 2) cur.toList.length := by rw [← enc39_length, ← ht, List.length_take]
  have e := enc39_at l j x hx
  have g0 : ∀ i, i < 2 → cur.toList[j * 2 + i]? = [(Value.int .i64 x.f0), (.int .i64 x.f1)][i]? := fun i hi => by
    rw [← e, List.getElem?_take, if_pos hi, List.getElem?_drop, ← ht, List.getElem?_take, if_pos (by omega)]
  rw [cell_of_row hg, cell_of_row hg]
  exact ⟨g0 0 (by omega), g0 1 (by omega)⟩
theorem step_eq42 {ops : Array Oper} {o : Oper} {a : Act} {w : World} {K : Act → World → Prop} {Q : Exit → Act → World → Prop} {E : Prop} (hgd : o.guard = none) (T X Y : Operand)
    (ho : o.op = .call { callee := .value T, args := #[X, Y], argTypes := #[39, 39] }) (x y : S39) (hT : a.eval T = .func (.func 42) #[] #[]) (hX : a.eval X = .agg #[.int .i64 x.f0, .int .i64 x.f1]) (hY : a.eval Y = .agg #[.int .i64 y.f0, .int .i64 y.f1])
    (h : ∀ w', Below w.heap.size w w' → K (a.put o.dst (.bool (x.f1 == y.f1))) w') :
    if Region.wanted o (yielded ops a.tmps) = true then Oper.wp Try.prog o a w K Q else E := by
  have hw : Region.wanted o (yielded ops a.tmps) = true := by simp [Region.wanted, hgd]
  rw [if_pos hw]
  have he := enters_ (P := Try.prog) Try.func42 rfl rfl #[.agg #[.int .i64 x.f0, .int .i64 x.f1], .agg #[.int .i64 y.f0, .int .i64 y.f1]] w
  have hrun : (execOp a.eval o).run Try.prog w = .ok (.enter 42 #[.agg #[.int .i64 x.f0, .int .i64 x.f1], .agg #[.int .i64 y.f0, .int .i64 y.f1]]) w := by
    unfold execOp
    simp [ho, resolve, Deferred.ofValue, invoke, hT, hX, hY, he]
  unfold Oper.wp
  rw [hrun, Oper.upon_enter]
  refine (profile_compact_1.calls x.f0 x.f1 y.f0 y.f1 _ w rfl).mono fun e w' hh => ?_
  obtain ⟨rfl, hb⟩ := hh
  exact h w' hb
theorem run_clear39 (w : World) (g o n : Nat) (cur : Array Value) (hg : w.heap[g]? = some (.cells cur 39 (0, 0))) (hn : 0 < n) (hfit : o + n * 2 ≤ cur.size) :
    ∃ zs : List Value, zs.length = n * 2 ∧ ∀ ty c, (Builtin.clear_ #[22] ty #[.slice (some ⟨g, o, none⟩) n c]).run Try.prog w = .ok (.tuple #[]) (w.setRow g (cur.toList.take o ++ zs ++ cur.toList.drop (o + zs.length)).toArray) := by
  have hv : ∀ w, (zeroValue 39).run Try.prog w = .ok (.agg #[.int .i64 0, .int .i64 0]) w := fun w => rfl
  have hz : (Builtin.zeroCells #[.int .i64 0, .int .i64 0] n).toList.length = n * 2 := by simp [Builtin.zeroCells]
  have h1 : ∀ v ∈ (Builtin.zeroCells #[.int .i64 0, .int .i64 0] n).toList, v.oneCell' = true := by
    intro v hv
    obtain ⟨j, hj, rfl⟩ := List.getElem_of_mem hv
    simp [Builtin.zeroCells]
    have : j % 2 = 0 ∨ j % 2 = 1 := by omega
    rcases this with e | e <;> simp [e] <;> rfl
  have hst := run_storeCells_at Try.prog g o 39 _ 0 cur w hg (by rw [hz]; simpa using hfit) h1
  simp only [Nat.add_zero] at hst
  refine ⟨_, hz, fun ty c => ?_⟩
  obtain ⟨m, rfl⟩ : ∃ m, n = m + 1 := ⟨n - 1, by omega⟩
  have hc : (Value.agg #[.int .i64 0, .int .i64 0]).cells = #[.int .i64 0, .int .i64 0] := rfl
  simp [Builtin.clear_, run_underlying pn22, hv, hc, hst]

def Own39 (base : Nat) (w0 w : World) (P0_ : Nat → Prop) (g cap : Nat) (d : List S39) (W : World) : Prop :=
  ∃ cur : Array Value, W.heap[g]? = some (.cells cur 39 (0, 0)) ∧ cur.size = cap * 2 ∧ cur.toList.take (d.length * 2) = enc39 d ∧ Below base w0 W ∧ Kept w W P0_
theorem enc39_set : ∀ (d : List S39) (k : Nat) (x : S39), ((enc39 d).set (k * 2) (.int .i64 x.f0)).set (k * 2 + 1) (.int .i64 x.f1) = enc39 (d.set k x)
  | [], k, x => by simp [enc39]
  | y :: d, 0, x => rfl
  | y :: d, k + 1, x => by
    rw [show (k + 1) * 2 = k * 2 + 1 + 1 by omega, enc39_cons, List.set_cons_succ, List.set_cons_succ, List.set_cons_succ, List.set_cons_succ, List.set_cons_succ, enc39_cons, enc39_set d k x]
theorem kept_trans {w W W2 : World} {S : Nat → Prop} (h : Kept w W S) (h2 : Kept W W2 S) : Kept w W2 S :=
  ⟨Nat.le_trans h.1 h2.1, fun k hk hn => (h2.2 k (Nat.lt_of_lt_of_le hk h.1) hn).trans (h.2 k hk hn)⟩
theorem own39_set {base : Nat} {w0 w W : World} {P0_ : Nat → Prop} {g cap : Nat} {d : List S39} {cur : Array Value} (hP : P0_ g) (hb : base ≤ g)
    (h : W.heap[g]? = some (.cells cur 39 (0, 0)) ∧ cur.size = cap * 2 ∧ cur.toList.take (d.length * 2) = enc39 d ∧ Below base w0 W ∧ Kept w W P0_) (k : Nat) (x : S39) (hk : k < d.length) :
    Own39 base w0 w P0_ g cap (d.set k x) ((W.setCell ⟨g, k * 2, none⟩ (.int .i64 x.f0)).setCell ⟨g, k * 2 + 1, none⟩ (.int .i64 x.f1)) := by
  obtain ⟨hg, hs, ht, hB, hK⟩ := h
  rw [setCell_eq_setRow W g (k * 2) cur 39 (0, 0) _ hg]
  have hg2 := setRow_heap W g cur (cur.setIfInBounds (k * 2) (.int .i64 x.f0)) 39 (0, 0) hg
  rw [setCell_eq_setRow _ g (k * 2 + 1) _ 39 (0, 0) _ hg2, setRow_setRow]
  refine ⟨_, setRow_heap W g cur _ 39 (0, 0) hg, by simpa using hs, ?_, below_setRow hB hb _, kept_trans hK (kept_setRow _ hP _)⟩
  rw [Array.toList_setIfInBounds, Array.toList_setIfInBounds, List.length_set, List.take_set, List.take_set, ht, enc39_set]

set_option maxHeartbeats 4000000 in
set_option maxRecDepth 1000000 in
theorem cfn_calls (P0_ : Nat → Prop) (u0_ : Value) (l0 : List S39) (w0 w : World) (hB : Below w0.heap.size w0 w) (ho0 : Kd.R k39 39 w w0.heap.size P0_ u0_ l0) :
    Calls Try.prog 41 #[u0_, .func (.func 42) #[] #[]] w fun e w' => ∃ v0_ : Value, e = .returned v0_ ∧ Kd.R k39 39 w' w0.heap.size P0_ v0_ (cf l0) ∧ Below w0.heap.size w0 w' ∧ Kept w w' P0_ := by
  rcases Nat.lt_or_ge l0.length 2 with h2 | h2
  · obtain ⟨A, c, rfl⟩ := Kd.R_slice ho0
    have he : cf l0 = l0 := by
      have := cf_all l0 l0.length (Nat.le_refl _) (fun j hj => .inl (by omega))
      rwa [List.take_length] at this
    rw [he]
    have ho := Aside0.mk ho0
    clear ho0
    go_enter Try.func41, Try.ntmps41
    go_wp2
    go_ret
    exact ⟨_, rfl, ho.out, hB, Kept.refl _ _⟩
  · obtain ⟨g, cap, cur, rfl, hPg, hbg, hg, hcl, hcm, hsz, hcs⟩ := open39 ho0 (by omega)
    have hc63 : cap ≤ 9223372036854775807 := hcm
    have hW0 : Own39 w0.heap.size w0 w P0_ g cap l0 w := ⟨cur, hg, hsz, hcs, hB, Kept.refl _ _⟩
    have BG := Aside0.mk hbg
    have PG := Aside0.mk hPg
    have CM := Aside0.mk hcm
    clear ho0 hg hcs hsz hB hbg hPg hcm
    go_enter Try.func41, Try.ntmps41
    go_wp2
    go_loopg [5] l0.length (fun gk s5 wr => ∃ k : Nat, s5 = .int .i64 k ∧ 1 ≤ k ∧ k ≤ l0.length ∧ l0.length - k ≤ gk ∧ Aside0 (∀ j, j < k → kp l0 j) ∧ Aside0 (Own39 w0.heap.size w0 w P0_ g cap l0 wr))
    case atStart => exact ⟨1, rfl, Nat.le_refl _, by omega, by omega, ⟨fun j hj => .inl (by omega)⟩, ⟨hW0⟩⟩
    case round =>
      obtain ⟨k, rfl, hk1, hk, hgk, HK, HW⟩ := hrel
      clear hW0
      by_cases hlt : k < l0.length
      · obtain ⟨cur1, hg1, hs1, ht1, hbb, hkk⟩ := HW.out
        obtain ⟨x, hx⟩ : ∃ x, l0[k]? = some x := ⟨_, List.getElem?_eq_getElem (by omega)⟩
        obtain ⟨y, hy⟩ : ∃ y, l0[k - 1]? = some y := ⟨_, List.getElem?_eq_getElem (by omega)⟩
        obtain ⟨cx0, cx1⟩ := cells39 hg1 ht1 k x hx
        obtain ⟨cy0, cy1⟩ := cells39 hg1 ht1 (k - 1) y hy
        have hkp : (x.f1 == y.f1) = true ↔ ¬ kp l0 k := by
          unfold kp
          rw [hx, hy]
          simp
          omega
        have KP := Aside0.mk hkp
        have X := Aside0.mk (And.intro hx hy)
        have hW1 : ∀ w', Below wr.drew.heap.size wr.drew w' → Own39 w0.heap.size w0 w P0_ g cap l0 w' := fun w' hb => ⟨cur1, (hb.block g (Array.getElem?_eq_some_iff.1 hg1).1).trans hg1, hs1, ht1, below_step hbb ((below_drew (Below.refl _ _)).trans hb), Kept.below hkk ((below_drew (Below.refl _ _)).trans hb)⟩
        have HW1 := Aside0.mk hW1
        clear hW1 hkp hx hy hg1 hs1 ht1 hbb hkk HW
        have hwk : IntKind.i64.wrap ((k : Int) - 1) = ((k - 1 : Nat) : Int) := by rw [IntKind.wrap_i64]; omega
        have hk1n : k - 1 < l0.length := by omega
        obtain ⟨b, hb⟩ : ∃ b, (x.f1 == y.f1) = b := ⟨_, rfl⟩
        cases b
        case true =>
          go_wp2
          go_region_law (refine step_eq42 rfl _ _ _ rfl x y (by simp [Act.eval, Act.put]) (by simp [Act.eval, Act.put]) (by simp [Act.eval, Act.put]) ?_; intro w5 hb5)
          all_goals
            have HB := Aside0.mk (HW1.out w5 hb5)
            have HI := Aside0.mk (CfInv.start hlt HK.out (KP.out.1 hb))
            clear hb hb5 cx0 cx1 cy0 cy1 hwk hk1n HW1 KP X
            go_wp2
            go_loopg [5, 7] l0.length (fun gk2 s5 s7 w2 => ∃ (kk k2 : Nat) (d : List S39), s5 = .int .i64 kk ∧ s7 = .int .i64 k2 ∧ 1 ≤ k2 ∧ k + k2 ≤ l0.length ∧ l0.length - (k + k2) ≤ gk2 ∧ Aside0 (Own39 w0.heap.size w0 w P0_ g cap d w2) ∧ Aside0 (CfInv l0 (k + k2) kk d))
            case atStart => exact ⟨k, 1, l0, rfl, rfl, Nat.le_refl _, by omega, by omega, HB, HI⟩
            case round =>
              obtain ⟨kk, k2, d, rfl, rfl, h21, h2n, hg2, HW2, HI2⟩ := hrel
              clear HB HI
              have hkk := HI2.out.lt
              have hds := HI2.out.size
              by_cases hlt2 : k + k2 < l0.length
              · obtain ⟨cur2, hgc, hs2, ht2, hb2, hk2⟩ := HW2.out
                obtain ⟨x, hx⟩ : ∃ x, l0[k + k2]? = some x := ⟨_, List.getElem?_eq_getElem (by omega)⟩
                obtain ⟨y, hy⟩ : ∃ y, l0[k + k2 - 1]? = some y := ⟨_, List.getElem?_eq_getElem (by omega)⟩
                obtain ⟨cx0, cx1⟩ := cells39 hgc ht2 (k + k2) x (by rw [HI2.out.high _ (by omega)]; exact hx)
                obtain ⟨cy0, cy1⟩ := cells39 hgc ht2 (k + k2 - 1) y (by rw [HI2.out.high _ (by omega)]; exact hy)
                rw [show (k + k2) * 2 = k * 2 + k2 * 2 by omega] at cx0 cx1
                rw [show (k + k2 - 1) * 2 = k * 2 + (k2 - 1) * 2 by omega] at cy0 cy1
                have hkp : (x.f1 == y.f1) = true ↔ ¬ kp l0 (k + k2) := by
                  unfold kp
                  rw [hx, hy]
                  simp
                  omega
                have hwk : IntKind.i64.wrap ((k2 : Int) - 1) = ((k2 - 1 : Nat) : Int) := by rw [IntKind.wrap_i64]; omega
                have hw3 : IntKind.i64.wrap ((k2 : Int) + 1) = ((k2 + 1 : Nat) : Int) := by rw [IntKind.wrap_i64]; omega
                have hw4 : IntKind.i64.wrap ((kk : Int) + 1) = ((kk + 1 : Nat) : Int) := by rw [IntKind.wrap_i64]; omega
                have hq1 : k2 - 1 < l0.length - k := by omega
                have hq2 : k2 < l0.length - k := by omega
                have hq3 : kk < l0.length := by omega
                have KP := Aside0.mk hkp
                have X := Aside0.mk (And.intro hx hy)
                have hW1 : ∀ w', Below wr.drew.heap.size wr.drew w' → Own39 w0.heap.size w0 w P0_ g cap d w' := fun w' hb => ⟨cur2, (hb.block g (Array.getElem?_eq_some_iff.1 hgc).1).trans hgc, hs2, ht2, below_step hb2 ((below_drew (Below.refl _ _)).trans hb), Kept.below hk2 ((below_drew (Below.refl _ _)).trans hb)⟩
                have HW1 := Aside0.mk hW1
                clear hW1 hkp hx hy hgc hs2 ht2 hb2 hk2 HW2
                obtain ⟨b, hb⟩ : ∃ b, (x.f1 == y.f1) = b := ⟨_, rfl⟩
                cases b
                case true =>
                  go_wp2
                  go_region_law (refine step_eq42 rfl _ _ _ rfl x y (by simp [Act.eval, Act.put]) (by simp [Act.eval, Act.put]) (by simp [Act.eval, Act.put]) ?_; intro w5 hb5)
                  all_goals
                    have HB := Aside0.mk (HW1.out w5 hb5)
                    have HI := Aside0.mk (HI2.out.skip hlt2 (KP.out.1 hb))
                    clear hb hb5 cx0 cx1 cy0 cy1 HW1 KP X
                    go_wp2
                    go_roundg (l0.length - (k + (k2 + 1)))
                    case measure => omega
                    case rel => exact ⟨kk, k2 + 1, d, rfl, rfl, by omega, by omega, Nat.le_refl _, HB, HI⟩
                case false =>
                  go_wp2
                  go_region_law (refine step_eq42 rfl _ _ _ rfl x y (by simp [Act.eval, Act.put]) (by simp [Act.eval, Act.put]) (by simp [Act.eval, Act.put]) ?_; intro w5 hb5)
                  all_goals
                    obtain ⟨cur5, hg5, hs5, ht5, hb6, hk6⟩ := HW1.out w5 hb5
                    obtain ⟨cz0, cz1⟩ := cells39 hg5 ht5 (k + k2) x (by rw [HI2.out.high _ (by omega)]; exact X.out.1)
                    rw [show (k + k2) * 2 = k * 2 + k2 * 2 by omega] at cz0 cz1
                    have X2 := Aside0.mk (And.intro hg5 (And.intro hs5 (And.intro ht5 (And.intro hb6 hk6))))
                    have hf0 : w5.frozen? ⟨g, kk * 2, none⟩ = false := by simp [World.frozen?, hg5]
                    have hf1 : w5.frozen? ⟨g, kk * 2 + 1, none⟩ = false := by simp [World.frozen?, hg5]
                    obtain ⟨o, ho⟩ : ∃ o, d[kk]? = some o := ⟨_, List.getElem?_eq_getElem (by omega)⟩
                    obtain ⟨co0, co1⟩ := cells39 hg5 ht5 kk o ho
                    have HI := Aside0.mk (HI2.out.keep hlt2 (Classical.byContradiction fun hn => by have := KP.out.2 hn; rw [hb] at this; cases this))
                    clear hg5 hs5 ht5 hb6 hk6 hb hb5 cx0 cx1 cy0 cy1 HW1 KP ho
                    go_wp2
                    go_roundg (l0.length - (k + (k2 + 1)))
                    case measure => omega
                    case rel => exact ⟨kk + 1, k2 + 1, _, by go_num, by go_num, by omega, by omega, Nat.le_refl _, ⟨own39_set PG.out BG.out X2.out kk x (by omega)⟩, ⟨by have := HI.out; rwa [(List.getElem?_eq_some_iff.1 X.out.1).2] at this⟩⟩
              · obtain ⟨cur2, hgc, hs2, ht2, hb2, hk2⟩ := HW2.out
                obtain ⟨zs, hzl, hzr⟩ := run_clear39 wr g (kk * 2) (l0.length - kk) cur2 hgc (by omega) (by omega)
                have hX := Aside0.mk (And.intro hgc (And.intro hs2 (And.intro ht2 (And.intro hb2 hk2))))
                have hq3 : kk ≤ l0.length := by omega
                have hq4 : kk ≤ cap := by omega
                have hlast := HI2.out.low
                rw [show k + k2 = l0.length by omega, List.take_length] at hlast
                have HL := Aside0.mk hlast
                clear hgc hs2 ht2 hb2 hk2 HW2 hlast
                go_wp2
                go_ret
                obtain ⟨hgc, hs2, ht2, hb2, hk2⟩ := hX.out
                have e1 : (cur2.toList.take (kk * 2)) = enc39 (cf l0) := by
                  rw [← HL.out, ← enc39_take, ← ht2, List.take_take]
                  congr 1
                  omega
                have e2 : kk = (cf l0).length := by rw [← HL.out, List.length_take]; omega
                refine ⟨_, rfl, close39 PG.out BG.out (setRow_heap wr g cur2 _ 39 _ hgc) e2 hq4 CM.out ?_ ?_, below_setRow hb2 BG.out _, kept_trans hk2 (kept_setRow _ PG.out _)⟩
                · simp only [List.size_toArray, List.length_append, List.length_take, List.length_drop, Array.length_toList, hs2, hzl]; omega
                · have e3 : (cur2.toList.take (kk * 2)).length = kk * 2 := by rw [List.length_take, Array.length_toList, hs2]; omega
                  rw [← e1]
                  simp only [List.append_assoc]
                  rw [List.take_left' e3]
        case false =>
          go_wp2
          go_region_law (refine step_eq42 rfl _ _ _ rfl x y (by simp [Act.eval, Act.put]) (by simp [Act.eval, Act.put]) (by simp [Act.eval, Act.put]) ?_; intro w5 hb5)
          all_goals
            have HB := Aside0.mk (HW1.out w5 hb5)
            have HK2 := Aside0.mk (fun j (hj : j < k + 1) => (if e : j = k then e ▸ (Classical.byContradiction fun hn => by have := KP.out.2 hn; rw [hb] at this; cases this) else HK.out j (by omega) : kp l0 j))
            have hw3 : IntKind.i64.wrap ((k : Int) + 1) = ((k + 1 : Nat) : Int) := by rw [IntKind.wrap_i64]; omega
            clear hb hb5 cx0 cx1 cy0 cy1 hwk hk1n HW1 KP X
            go_wp2
            go_roundg (l0.length - (k + 1))
            case measure => omega
            case rel => exact ⟨k + 1, by go_num, by omega, by omega, Nat.le_refl _, HK2, HB⟩
      · obtain rfl : k = l0.length := by omega
        have he := cf_all l0 l0.length (Nat.le_refl _) HK.out
        rw [List.take_length] at he
        have HE := Aside0.mk he
        clear he
        go_wp2
        go_ret
        obtain ⟨cur2, hgc, hs2, ht2, hb2, hk2⟩ := HW.out
        refine ⟨_, rfl, ?_, hb2, hk2⟩
        rw [HE.out]
        exact close39 PG.out BG.out hgc rfl hcl CM.out hs2 ht2

def profile_compact.f (l0 : List S39) : Option (List S39) := some (cf l0)
set_option maxHeartbeats 4000000 in
set_option maxRecDepth 1000000 in
theorem profile_compact.calls (P0_ : Nat → Prop) (u9000_ : Value) (l0 : List S39) (r : List S39) (w0 w : World) (hB : Below w0.heap.size w0 w) (ho0 : Kd.R k39 39 w w0.heap.size P0_ u9000_ l0) (h : profile_compact.f l0 = some r) :
    Calls Try.prog 36 #[u9000_] w fun e w' => ∃ v0_ : Value, e = .returned (v0_) ∧ Kd.R k39 39 w' w0.heap.size (fun k_ => (P0_ k_ ∨ w.heap.size ≤ k_)) v0_ r ∧ Below w0.heap.size w0 w' ∧ Kept w w' (fun k_ => P0_ k_) := by
  obtain rfl : cf l0 = r := by injection h
  obtain ⟨A, c, rfl⟩ := Kd.R_slice ho0
  have HO := Aside0.mk ho0
  have HB := Aside0.mk hB
  clear ho0 hB h
  go_enter Try.func36, Try.ntmps36
  go_wp2_with (first | ((with_reducible refine gate_callee (f := 41) rfl ?_); refine goesL_ (some 4) rfl rfl Try.func41 (by kernel_rfl) rfl #[.slice A l0.length c, .func (.func 42) #[] #[]] rfl (by (try simp only [List.map_toArray, List.map_cons, List.map_nil]); first | done | rfl) ?_; (with_reducible refine (cfn_calls P0_ _ l0 w0 _ HB.out HO.out).mono ?_); rintro e w8 ⟨v9, rfl, ho9, hb9, hk9⟩; refine ⟨_, rfl, ?_⟩; have HO9 := Aside0.mk ho9; have HB9 := Aside0.mk hb9; have HK9 := Aside0.mk hk9; clear ho9 hb9 hk9))
  go_ret
  exact ⟨_, rfl, Kd.R_mono HO9.out (fun k hk => .inl hk), HB9.out, HK9.out⟩

/-! ### profile_Change: function 16 -/
def profile_Change.l0 : Nat → Int → List (S39) → Int → Int → Option ((List (S39)) × Int)
  | 0, _, _, _, _ => none
  | k + 1, x3, x10, x12, x13 => if x13 < x12 then (if 0 ≤ x13 then (if x13 < (x10.length : Int) then ((some (x10.set (x13 : Int).toNat (⟨(rd_T39 x10 x13).f0, wrap64 (((rd_T39 x10 x13).f1) + x3)⟩ : S39) : List (S39))).bind fun y166 => (if ((rd_T39 y166 x13).f1) < 0 then (some (([] : List (S39)), 5)) else (if ((rd_T39 y166 x13).f1) > 1099511627776 then (some (([] : List (S39)), 5)) else (profile_Change.l0 k x3 y166 x12 (wrap64 (x13 + 1)))))) else (none)) else (none)) else ((profile_compact.f x10).bind fun t169 => (some (t169, 0)))
def profile_Change.f (k : Nat) (l0 : List (S39)) (a1 : Int) (a2 : Int) (a3 : Int) : Option ((List (S39)) × Int) := (profile_Check.f k l0).bind fun t152 => (if t152 = 0 then (if 0 < (l0.length : Int) then (if a1 < ((rd_T39 l0 0).f0) then (some (([] : List (S39)), 2)) else (if a1 > 1099511627776 then (some (([] : List (S39)), 2)) else (if a2 < 1 then (some (([] : List (S39)), 2)) else (if a2 > (wrap64 (1099511627776 - a1)) then (some (([] : List (S39)), 2)) else (if a3 < (-1099511627776) then (some (([] : List (S39)), 2)) else (if a3 > 1099511627776 then (some (([] : List (S39)), 2)) else ((api_Level_35.f l0).bind fun t154 => ((profile_cut.f k t154 a1).bind fun bt157 => ((profile_cut.f k bt157.1 (wrap64 (a1 + a2))).bind fun bt161 => (profile_Change.l0 k a3 bt161.1 bt161.2 bt157.2)))))))))) else (none)) else (some (([] : List (S39)), 50)))
theorem profile_Change.mono_l : ∀ k, (∀ y0 y1 y2 y3, LeO (profile_Change.l0 k y0 y1 y2 y3) (profile_Change.l0 (k + 1) y0 y1 y2 y3))
  | 0 => fun _ _ _ _ r h => by simp [profile_Change.l0] at h
  | k + 1 => by
    have ih0 := profile_Change.mono_l k
    · intro y0 y1 y2 y3
      unfold profile_Change.l0
      repeat' first
      | (with_reducible exact ih0 _ _ _ _)
      | (with_reducible exact profile_Check.mono _ _)
      | (with_reducible exact profile_cut.mono _ _ _)
      | (with_reducible exact LeO.refl _)
      | (with_reducible exact LeO.none _)
      | (with_reducible refine LeO.ite ?_ ?_)
      | (with_reducible refine LeO.bind ?_ (fun _ => ?_))
      | exact ih0 _ _ _ _
      | exact profile_Check.mono _ _
      | exact profile_cut.mono _ _ _
      | exact LeO.none _
      | refine LeO.ite ?_ ?_
      | refine LeO.bind ?_ (fun _ => ?_)
theorem profile_Change.mono : ∀ a0 a1 a2 a3 k, LeO (profile_Change.f k a0 a1 a2 a3) (profile_Change.f (k + 1) a0 a1 a2 a3) := by
  intro a0 a1 a2 a3 k
  have ih0 := profile_Change.mono_l k
  unfold profile_Change.f
  repeat' first
      | (with_reducible exact ih0 _ _ _ _)
      | (with_reducible exact profile_Check.mono _ _)
      | (with_reducible exact profile_cut.mono _ _ _)
      | (with_reducible exact LeO.refl _)
      | (with_reducible exact LeO.none _)
      | (with_reducible refine LeO.ite ?_ ?_)
      | (with_reducible refine LeO.bind ?_ (fun _ => ?_))
      | exact ih0 _ _ _ _
      | exact profile_Check.mono _ _
      | exact profile_cut.mono _ _ _
      | exact LeO.none _
      | refine LeO.ite ?_ ?_
      | refine LeO.bind ?_ (fun _ => ?_)
set_option maxHeartbeats 8000000 in
set_option maxRecDepth 100000 in
theorem profile_Change.calls (k : Nat) (A0 : Option Addr) (c0 : Nat) (l0 : List (S39)) (a1 : Int) (a2 : Int) (a3 : Int) (r1 : List (S39)) (r2 : Int) (w : World) (hr0 : Kd.C k39 w A0 l0.length l0) (hc0 : l0.length ≤ c0) (h : profile_Change.f k l0 a1 a2 a3 = some (r1, r2)) :
    Calls Try.prog 16 #[.slice A0 l0.length c0, .int .i64 a1, .int .i64 a2, .int .i64 a3] w fun e w' => ∃ v0_ : Value, e = .returned (.tuple #[v0_, .int .i64 r2]) ∧ Kd.R k39 39 w' w.heap.size (fun _ => True) v0_ r1 ∧ Below w.heap.size w w' := by
  have HR0 := Aside0.mk hr0
  have HC0 := Aside0.mk hc0
  clear hr0 hc0
  have HB := Aside0.mk (Below.refl w.heap.size w)
  have H : ((profile_Check.f k l0).bind fun t152 => (if t152 = 0 then (if 0 < (l0.length : Int) then (if a1 < ((rd_T39 l0 0).f0) then (some (([] : List (S39)), 2)) else (if a1 > 1099511627776 then (some (([] : List (S39)), 2)) else (if a2 < 1 then (some (([] : List (S39)), 2)) else (if a2 > (wrap64 (1099511627776 - a1)) then (some (([] : List (S39)), 2)) else (if a3 < (-1099511627776) then (some (([] : List (S39)), 2)) else (if a3 > 1099511627776 then (some (([] : List (S39)), 2)) else ((api_Level_35.f l0).bind fun t154 => ((profile_cut.f k t154 a1).bind fun bt157 => ((profile_cut.f k bt157.1 (wrap64 (a1 + a2))).bind fun bt161 => (profile_Change.l0 k a3 bt161.1 bt161.2 bt157.2)))))))))) else (none)) else (some (([] : List (S39)), 50)))) = some (r1, r2) := h
  clear h
  replace H := Option.bind_eq_some_iff.mp H
  obtain ⟨t152, A50, H⟩ := H
  replace H : (if t152 = 0 then (if 0 < (l0.length : Int) then (if a1 < ((rd_T39 l0 0).f0) then (some (([] : List (S39)), 2)) else (if a1 > 1099511627776 then (some (([] : List (S39)), 2)) else (if a2 < 1 then (some (([] : List (S39)), 2)) else (if a2 > (wrap64 (1099511627776 - a1)) then (some (([] : List (S39)), 2)) else (if a3 < (-1099511627776) then (some (([] : List (S39)), 2)) else (if a3 > 1099511627776 then (some (([] : List (S39)), 2)) else ((api_Level_35.f l0).bind fun t154 => ((profile_cut.f k t154 a1).bind fun bt157 => ((profile_cut.f k bt157.1 (wrap64 (a1 + a2))).bind fun bt161 => (profile_Change.l0 k a3 bt161.1 bt161.2 bt157.2)))))))))) else (none)) else (some (([] : List (S39)), 50))) = some (r1, r2) := H
  have A5 := Aside0.mk A50
  clear A50
  by_cases c6 : t152 = 0
  · rw [if_pos c6] at H
    have c6b0 : (t152 == 0) = true := beq_iff_eq.mpr c6
    have c6b1 : (t152 != 0) = false := bne_eq_false_iff_eq.mpr c6
    clear c6
    by_cases c7 : 0 < (l0.length : Int)
    · rw [if_pos c7] at H
      have c7b0 : decide (0 < (l0.length : Int)) = true := decide_eq_true c7
      have c7b1 : decide (0 < l0.length) = true := decide_eq_true (by omega)
      clear c7
      by_cases c8 : a1 < ((rd_T39 l0 0).f0)
      · rw [if_pos c8] at H
        have c8b0 : decide (a1 < ((rd_T39 l0 0).f0)) = true := decide_eq_true c8
        clear c8
        simp only [Option.some.injEq, Prod.mk.injEq] at H
        obtain ⟨rfl, rfl⟩ := H
        go_enter Try.func16, Try.ntmps16
        go_wp2_with (first | ((with_reducible refine gate_callee (f := 20) rfl ?_); refine goesL_ (some 16) rfl rfl Try.func20 (by kernel_rfl) rfl #[.slice A0 l0.length c0] rfl (by (try simp only [List.map_toArray, List.map_cons, List.map_nil]); first | done | rfl | (simp only [List.length_drop, List.length_take]; rfl)) ?_; (with_reducible refine (profile_Check.calls k _ _ l0 t152 _ ?side1 ?side2 A5.out).mono ?_); (case side1 => repeat (first | exact HR0.out | (with_reducible refine Kd.C_alloc ?_ _) | (with_reducible refine Kd.C_drewN ?_ _) | (with_reducible refine Kd.C_drew ?_))); (case side2 => exact HC0.out); rintro e w9 ⟨rfl, hb⟩; refine ⟨_, rfl, ?_⟩; have n0_ := Aside0.mk (below_step (by repeat (first | (with_reducible first | exact HB.out | apply below_alloc | apply pw_below_drewN | apply below_drew1) | exact HB.out)) hb); clear HB; have HB := n0_; clear n0_; (try clear hb); (try clear hb2); (try clear hk); (try clear hi); have p153 : 0 ≤ (0 : Int) := (by omega); have q153 : 0 < (l0.length : Int) := of_decide_eq_true (by first | (with_reducible assumption) | assumption); obtain ⟨ad153, e153, hx153_0, hx153_1⟩ := at_T39 HR0.out 0 p153 q153; cases e153; have qi153 : (0 < l0.length) = True := eq_true (by omega); (try rw [show ((0 : Int)).toNat = 0 from rfl] at hx153_0); (try rw [show 0 * 2 = 0 from rfl] at hx153_0); (try rw [Addr.add_zero'] at hx153_0); (try rw [show ((0 : Int)).toNat = 0 from rfl] at hx153_1); (try rw [show 0 * 2 = 0 from rfl] at hx153_1); (try rw [Addr.add_zero'] at hx153_1); replace hx153_0 := (HB.out.cell (World.block_lt_of_cell? w _ hx153_0)).trans hx153_0; replace hx153_1 := (HB.out.cell (World.block_lt_of_cell? w _ hx153_1)).trans hx153_1; replace p153 := eq_true p153; replace q153 := eq_true q153))
        go_ret2
        exact ⟨_, by first | rfl | (simp [errW_none, errW_some] <;> rfl) | (simp [*, errW_none, errW_some] <;> rfl), by first | exact Kd.R_nil _ _ _ _ _ | exact Kd.N_nil _ _ _ _ _ | exact Kd.V_nil _ _ _ _ _ | exact Kd.Q_nil _ _ _ _ _ | exact Kd.S_nil _ _ _ _ _, by repeat (first | (with_reducible first | exact HB.out | apply below_alloc | apply pw_below_drewN | apply below_drew1) | exact HB.out)⟩
      · rw [if_neg c8] at H
        have c8b0 : decide (a1 < ((rd_T39 l0 0).f0)) = false := decide_eq_false c8
        clear c8
        by_cases c10 : a1 > 1099511627776
        · rw [if_pos c10] at H
          have c10b0 : decide (1099511627776 < a1) = true := decide_eq_true c10
          clear c10
          simp only [Option.some.injEq, Prod.mk.injEq] at H
          obtain ⟨rfl, rfl⟩ := H
          go_enter Try.func16, Try.ntmps16
          go_wp2_with (first | ((with_reducible refine gate_callee (f := 20) rfl ?_); refine goesL_ (some 16) rfl rfl Try.func20 (by kernel_rfl) rfl #[.slice A0 l0.length c0] rfl (by (try simp only [List.map_toArray, List.map_cons, List.map_nil]); first | done | rfl | (simp only [List.length_drop, List.length_take]; rfl)) ?_; (with_reducible refine (profile_Check.calls k _ _ l0 t152 _ ?side1 ?side2 A5.out).mono ?_); (case side1 => repeat (first | exact HR0.out | (with_reducible refine Kd.C_alloc ?_ _) | (with_reducible refine Kd.C_drewN ?_ _) | (with_reducible refine Kd.C_drew ?_))); (case side2 => exact HC0.out); rintro e w11 ⟨rfl, hb⟩; refine ⟨_, rfl, ?_⟩; have n0_ := Aside0.mk (below_step (by repeat (first | (with_reducible first | exact HB.out | apply below_alloc | apply pw_below_drewN | apply below_drew1) | exact HB.out)) hb); clear HB; have HB := n0_; clear n0_; (try clear hb); (try clear hb2); (try clear hk); (try clear hi); have p153 : 0 ≤ (0 : Int) := (by omega); have q153 : 0 < (l0.length : Int) := of_decide_eq_true (by first | (with_reducible assumption) | assumption); obtain ⟨ad153, e153, hx153_0, hx153_1⟩ := at_T39 HR0.out 0 p153 q153; cases e153; have qi153 : (0 < l0.length) = True := eq_true (by omega); (try rw [show ((0 : Int)).toNat = 0 from rfl] at hx153_0); (try rw [show 0 * 2 = 0 from rfl] at hx153_0); (try rw [Addr.add_zero'] at hx153_0); (try rw [show ((0 : Int)).toNat = 0 from rfl] at hx153_1); (try rw [show 0 * 2 = 0 from rfl] at hx153_1); (try rw [Addr.add_zero'] at hx153_1); replace hx153_0 := (HB.out.cell (World.block_lt_of_cell? w _ hx153_0)).trans hx153_0; replace hx153_1 := (HB.out.cell (World.block_lt_of_cell? w _ hx153_1)).trans hx153_1; replace p153 := eq_true p153; replace q153 := eq_true q153))
          go_ret2
          exact ⟨_, by first | rfl | (simp [errW_none, errW_some] <;> rfl) | (simp [*, errW_none, errW_some] <;> rfl), by first | exact Kd.R_nil _ _ _ _ _ | exact Kd.N_nil _ _ _ _ _ | exact Kd.V_nil _ _ _ _ _ | exact Kd.Q_nil _ _ _ _ _ | exact Kd.S_nil _ _ _ _ _, by repeat (first | (with_reducible first | exact HB.out | apply below_alloc | apply pw_below_drewN | apply below_drew1) | exact HB.out)⟩
        · rw [if_neg c10] at H
          have c10b0 : decide (1099511627776 < a1) = false := decide_eq_false c10
          clear c10
          by_cases c12 : a2 < 1
          · rw [if_pos c12] at H
            have c12b0 : decide (a2 < 1) = true := decide_eq_true c12
            clear c12
            simp only [Option.some.injEq, Prod.mk.injEq] at H
            obtain ⟨rfl, rfl⟩ := H
            go_enter Try.func16, Try.ntmps16
            go_wp2_with (first | ((with_reducible refine gate_callee (f := 20) rfl ?_); refine goesL_ (some 16) rfl rfl Try.func20 (by kernel_rfl) rfl #[.slice A0 l0.length c0] rfl (by (try simp only [List.map_toArray, List.map_cons, List.map_nil]); first | done | rfl | (simp only [List.length_drop, List.length_take]; rfl)) ?_; (with_reducible refine (profile_Check.calls k _ _ l0 t152 _ ?side1 ?side2 A5.out).mono ?_); (case side1 => repeat (first | exact HR0.out | (with_reducible refine Kd.C_alloc ?_ _) | (with_reducible refine Kd.C_drewN ?_ _) | (with_reducible refine Kd.C_drew ?_))); (case side2 => exact HC0.out); rintro e w13 ⟨rfl, hb⟩; refine ⟨_, rfl, ?_⟩; have n0_ := Aside0.mk (below_step (by repeat (first | (with_reducible first | exact HB.out | apply below_alloc | apply pw_below_drewN | apply below_drew1) | exact HB.out)) hb); clear HB; have HB := n0_; clear n0_; (try clear hb); (try clear hb2); (try clear hk); (try clear hi); have p153 : 0 ≤ (0 : Int) := (by omega); have q153 : 0 < (l0.length : Int) := of_decide_eq_true (by first | (with_reducible assumption) | assumption); obtain ⟨ad153, e153, hx153_0, hx153_1⟩ := at_T39 HR0.out 0 p153 q153; cases e153; have qi153 : (0 < l0.length) = True := eq_true (by omega); (try rw [show ((0 : Int)).toNat = 0 from rfl] at hx153_0); (try rw [show 0 * 2 = 0 from rfl] at hx153_0); (try rw [Addr.add_zero'] at hx153_0); (try rw [show ((0 : Int)).toNat = 0 from rfl] at hx153_1); (try rw [show 0 * 2 = 0 from rfl] at hx153_1); (try rw [Addr.add_zero'] at hx153_1); replace hx153_0 := (HB.out.cell (World.block_lt_of_cell? w _ hx153_0)).trans hx153_0; replace hx153_1 := (HB.out.cell (World.block_lt_of_cell? w _ hx153_1)).trans hx153_1; replace p153 := eq_true p153; replace q153 := eq_true q153))
            go_ret2
            exact ⟨_, by first | rfl | (simp [errW_none, errW_some] <;> rfl) | (simp [*, errW_none, errW_some] <;> rfl), by first | exact Kd.R_nil _ _ _ _ _ | exact Kd.N_nil _ _ _ _ _ | exact Kd.V_nil _ _ _ _ _ | exact Kd.Q_nil _ _ _ _ _ | exact Kd.S_nil _ _ _ _ _, by repeat (first | (with_reducible first | exact HB.out | apply below_alloc | apply pw_below_drewN | apply below_drew1) | exact HB.out)⟩
          · rw [if_neg c12] at H
            have c12b0 : decide (a2 < 1) = false := decide_eq_false c12
            clear c12
            by_cases c14 : a2 > (wrap64 (1099511627776 - a1))
            · rw [if_pos c14] at H
              have c14b0 : decide ((wrap64 (1099511627776 - a1)) < a2) = true := decide_eq_true c14
              clear c14
              simp only [Option.some.injEq, Prod.mk.injEq] at H
              obtain ⟨rfl, rfl⟩ := H
              go_enter Try.func16, Try.ntmps16
              go_wp2_with (first | ((with_reducible refine gate_callee (f := 20) rfl ?_); refine goesL_ (some 16) rfl rfl Try.func20 (by kernel_rfl) rfl #[.slice A0 l0.length c0] rfl (by (try simp only [List.map_toArray, List.map_cons, List.map_nil]); first | done | rfl | (simp only [List.length_drop, List.length_take]; rfl)) ?_; (with_reducible refine (profile_Check.calls k _ _ l0 t152 _ ?side1 ?side2 A5.out).mono ?_); (case side1 => repeat (first | exact HR0.out | (with_reducible refine Kd.C_alloc ?_ _) | (with_reducible refine Kd.C_drewN ?_ _) | (with_reducible refine Kd.C_drew ?_))); (case side2 => exact HC0.out); rintro e w15 ⟨rfl, hb⟩; refine ⟨_, rfl, ?_⟩; have n0_ := Aside0.mk (below_step (by repeat (first | (with_reducible first | exact HB.out | apply below_alloc | apply pw_below_drewN | apply below_drew1) | exact HB.out)) hb); clear HB; have HB := n0_; clear n0_; (try clear hb); (try clear hb2); (try clear hk); (try clear hi); have p153 : 0 ≤ (0 : Int) := (by omega); have q153 : 0 < (l0.length : Int) := of_decide_eq_true (by first | (with_reducible assumption) | assumption); obtain ⟨ad153, e153, hx153_0, hx153_1⟩ := at_T39 HR0.out 0 p153 q153; cases e153; have qi153 : (0 < l0.length) = True := eq_true (by omega); (try rw [show ((0 : Int)).toNat = 0 from rfl] at hx153_0); (try rw [show 0 * 2 = 0 from rfl] at hx153_0); (try rw [Addr.add_zero'] at hx153_0); (try rw [show ((0 : Int)).toNat = 0 from rfl] at hx153_1); (try rw [show 0 * 2 = 0 from rfl] at hx153_1); (try rw [Addr.add_zero'] at hx153_1); replace hx153_0 := (HB.out.cell (World.block_lt_of_cell? w _ hx153_0)).trans hx153_0; replace hx153_1 := (HB.out.cell (World.block_lt_of_cell? w _ hx153_1)).trans hx153_1; replace p153 := eq_true p153; replace q153 := eq_true q153))
              go_ret2
              exact ⟨_, by first | rfl | (simp [errW_none, errW_some] <;> rfl) | (simp [*, errW_none, errW_some] <;> rfl), by first | exact Kd.R_nil _ _ _ _ _ | exact Kd.N_nil _ _ _ _ _ | exact Kd.V_nil _ _ _ _ _ | exact Kd.Q_nil _ _ _ _ _ | exact Kd.S_nil _ _ _ _ _, by repeat (first | (with_reducible first | exact HB.out | apply below_alloc | apply pw_below_drewN | apply below_drew1) | exact HB.out)⟩
            · rw [if_neg c14] at H
              have c14b0 : decide ((wrap64 (1099511627776 - a1)) < a2) = false := decide_eq_false c14
              clear c14
              by_cases c16 : a3 < (-1099511627776)
              · rw [if_pos c16] at H
                have c16b0 : decide (a3 < (-1099511627776)) = true := decide_eq_true c16
                clear c16
                simp only [Option.some.injEq, Prod.mk.injEq] at H
                obtain ⟨rfl, rfl⟩ := H
                go_enter Try.func16, Try.ntmps16
                go_wp2_with (first | ((with_reducible refine gate_callee (f := 20) rfl ?_); refine goesL_ (some 16) rfl rfl Try.func20 (by kernel_rfl) rfl #[.slice A0 l0.length c0] rfl (by (try simp only [List.map_toArray, List.map_cons, List.map_nil]); first | done | rfl | (simp only [List.length_drop, List.length_take]; rfl)) ?_; (with_reducible refine (profile_Check.calls k _ _ l0 t152 _ ?side1 ?side2 A5.out).mono ?_); (case side1 => repeat (first | exact HR0.out | (with_reducible refine Kd.C_alloc ?_ _) | (with_reducible refine Kd.C_drewN ?_ _) | (with_reducible refine Kd.C_drew ?_))); (case side2 => exact HC0.out); rintro e w17 ⟨rfl, hb⟩; refine ⟨_, rfl, ?_⟩; have n0_ := Aside0.mk (below_step (by repeat (first | (with_reducible first | exact HB.out | apply below_alloc | apply pw_below_drewN | apply below_drew1) | exact HB.out)) hb); clear HB; have HB := n0_; clear n0_; (try clear hb); (try clear hb2); (try clear hk); (try clear hi); have p153 : 0 ≤ (0 : Int) := (by omega); have q153 : 0 < (l0.length : Int) := of_decide_eq_true (by first | (with_reducible assumption) | assumption); obtain ⟨ad153, e153, hx153_0, hx153_1⟩ := at_T39 HR0.out 0 p153 q153; cases e153; have qi153 : (0 < l0.length) = True := eq_true (by omega); (try rw [show ((0 : Int)).toNat = 0 from rfl] at hx153_0); (try rw [show 0 * 2 = 0 from rfl] at hx153_0); (try rw [Addr.add_zero'] at hx153_0); (try rw [show ((0 : Int)).toNat = 0 from rfl] at hx153_1); (try rw [show 0 * 2 = 0 from rfl] at hx153_1); (try rw [Addr.add_zero'] at hx153_1); replace hx153_0 := (HB.out.cell (World.block_lt_of_cell? w _ hx153_0)).trans hx153_0; replace hx153_1 := (HB.out.cell (World.block_lt_of_cell? w _ hx153_1)).trans hx153_1; replace p153 := eq_true p153; replace q153 := eq_true q153))
                go_ret2
                exact ⟨_, by first | rfl | (simp [errW_none, errW_some] <;> rfl) | (simp [*, errW_none, errW_some] <;> rfl), by first | exact Kd.R_nil _ _ _ _ _ | exact Kd.N_nil _ _ _ _ _ | exact Kd.V_nil _ _ _ _ _ | exact Kd.Q_nil _ _ _ _ _ | exact Kd.S_nil _ _ _ _ _, by repeat (first | (with_reducible first | exact HB.out | apply below_alloc | apply pw_below_drewN | apply below_drew1) | exact HB.out)⟩
              · rw [if_neg c16] at H
                have c16b0 : decide (a3 < (-1099511627776)) = false := decide_eq_false c16
                clear c16
                by_cases c18 : a3 > 1099511627776
                · rw [if_pos c18] at H
                  have c18b0 : decide (1099511627776 < a3) = true := decide_eq_true c18
                  clear c18
                  simp only [Option.some.injEq, Prod.mk.injEq] at H
                  obtain ⟨rfl, rfl⟩ := H
                  go_enter Try.func16, Try.ntmps16
                  go_wp2_with (first | ((with_reducible refine gate_callee (f := 20) rfl ?_); refine goesL_ (some 16) rfl rfl Try.func20 (by kernel_rfl) rfl #[.slice A0 l0.length c0] rfl (by (try simp only [List.map_toArray, List.map_cons, List.map_nil]); first | done | rfl | (simp only [List.length_drop, List.length_take]; rfl)) ?_; (with_reducible refine (profile_Check.calls k _ _ l0 t152 _ ?side1 ?side2 A5.out).mono ?_); (case side1 => repeat (first | exact HR0.out | (with_reducible refine Kd.C_alloc ?_ _) | (with_reducible refine Kd.C_drewN ?_ _) | (with_reducible refine Kd.C_drew ?_))); (case side2 => exact HC0.out); rintro e w19 ⟨rfl, hb⟩; refine ⟨_, rfl, ?_⟩; have n0_ := Aside0.mk (below_step (by repeat (first | (with_reducible first | exact HB.out | apply below_alloc | apply pw_below_drewN | apply below_drew1) | exact HB.out)) hb); clear HB; have HB := n0_; clear n0_; (try clear hb); (try clear hb2); (try clear hk); (try clear hi); have p153 : 0 ≤ (0 : Int) := (by omega); have q153 : 0 < (l0.length : Int) := of_decide_eq_true (by first | (with_reducible assumption) | assumption); obtain ⟨ad153, e153, hx153_0, hx153_1⟩ := at_T39 HR0.out 0 p153 q153; cases e153; have qi153 : (0 < l0.length) = True := eq_true (by omega); (try rw [show ((0 : Int)).toNat = 0 from rfl] at hx153_0); (try rw [show 0 * 2 = 0 from rfl] at hx153_0); (try rw [Addr.add_zero'] at hx153_0); (try rw [show ((0 : Int)).toNat = 0 from rfl] at hx153_1); (try rw [show 0 * 2 = 0 from rfl] at hx153_1); (try rw [Addr.add_zero'] at hx153_1); replace hx153_0 := (HB.out.cell (World.block_lt_of_cell? w _ hx153_0)).trans hx153_0; replace hx153_1 := (HB.out.cell (World.block_lt_of_cell? w _ hx153_1)).trans hx153_1; replace p153 := eq_true p153; replace q153 := eq_true q153))
                  go_ret2
                  exact ⟨_, by first | rfl | (simp [errW_none, errW_some] <;> rfl) | (simp [*, errW_none, errW_some] <;> rfl), by first | exact Kd.R_nil _ _ _ _ _ | exact Kd.N_nil _ _ _ _ _ | exact Kd.V_nil _ _ _ _ _ | exact Kd.Q_nil _ _ _ _ _ | exact Kd.S_nil _ _ _ _ _, by repeat (first | (with_reducible first | exact HB.out | apply below_alloc | apply pw_below_drewN | apply below_drew1) | exact HB.out)⟩
                · rw [if_neg c18] at H
                  have c18b0 : decide (1099511627776 < a3) = false := decide_eq_false c18
                  clear c18
                  replace H := Option.bind_eq_some_iff.mp H
                  obtain ⟨t154, A200, H⟩ := H
                  replace H : ((profile_cut.f k t154 a1).bind fun bt157 => ((profile_cut.f k bt157.1 (wrap64 (a1 + a2))).bind fun bt161 => (profile_Change.l0 k a3 bt161.1 bt161.2 bt157.2))) = some (r1, r2) := H
                  have A20 := Aside0.mk A200
                  clear A200
                  replace H := Option.bind_eq_some_iff.mp H
                  obtain ⟨⟨t157, t160⟩, A210, H⟩ := H
                  replace H : ((profile_cut.f k t157 (wrap64 (a1 + a2))).bind fun bt161 => (profile_Change.l0 k a3 bt161.1 bt161.2 t160)) = some (r1, r2) := H
                  have A21 := Aside0.mk A210
                  clear A210
                  replace H := Option.bind_eq_some_iff.mp H
                  obtain ⟨⟨t161, t164⟩, A220, H⟩ := H
                  replace H : (profile_Change.l0 k a3 t161 t164 t160) = some (r1, r2) := H
                  have A22 := Aside0.mk A220
                  clear A220
                  have H' := Aside0.mk H
                  clear H
                  go_enter Try.func16, Try.ntmps16
                  go_wp2_with (first | ((with_reducible refine gate_callee (f := 20) rfl ?_); refine goesL_ (some 16) rfl rfl Try.func20 (by kernel_rfl) rfl #[.slice A0 l0.length c0] rfl (by (try simp only [List.map_toArray, List.map_cons, List.map_nil]); first | done | rfl | (simp only [List.length_drop, List.length_take]; rfl)) ?_; (with_reducible refine (profile_Check.calls k _ _ l0 t152 _ ?side1 ?side2 A5.out).mono ?_); (case side1 => repeat (first | exact HR0.out | (with_reducible refine Kd.C_alloc ?_ _) | (with_reducible refine Kd.C_drewN ?_ _) | (with_reducible refine Kd.C_drew ?_))); (case side2 => exact HC0.out); rintro e w23 ⟨rfl, hb⟩; refine ⟨_, rfl, ?_⟩; have n0_ := Aside0.mk (below_step (by repeat (first | (with_reducible first | exact HB.out | apply below_alloc | apply pw_below_drewN | apply below_drew1) | exact HB.out)) hb); clear HB; have HB := n0_; clear n0_; (try clear hb); (try clear hb2); (try clear hk); (try clear hi); have p153 : 0 ≤ (0 : Int) := (by omega); have q153 : 0 < (l0.length : Int) := of_decide_eq_true (by first | (with_reducible assumption) | assumption); obtain ⟨ad153, e153, hx153_0, hx153_1⟩ := at_T39 HR0.out 0 p153 q153; cases e153; have qi153 : (0 < l0.length) = True := eq_true (by omega); (try rw [show ((0 : Int)).toNat = 0 from rfl] at hx153_0); (try rw [show 0 * 2 = 0 from rfl] at hx153_0); (try rw [Addr.add_zero'] at hx153_0); (try rw [show ((0 : Int)).toNat = 0 from rfl] at hx153_1); (try rw [show 0 * 2 = 0 from rfl] at hx153_1); (try rw [Addr.add_zero'] at hx153_1); replace hx153_0 := (HB.out.cell (World.block_lt_of_cell? w _ hx153_0)).trans hx153_0; replace hx153_1 := (HB.out.cell (World.block_lt_of_cell? w _ hx153_1)).trans hx153_1; replace p153 := eq_true p153; replace q153 := eq_true q153) | ((with_reducible refine gate_callee (f := 35) rfl ?_); refine goesL_ (some 49) rfl rfl Try.func35 (by kernel_rfl) rfl #[.slice (some ad153) l0.length c0] rfl (by (try simp only [List.map_toArray, List.map_cons, List.map_nil]); first | done | rfl | (simp only [List.length_drop, List.length_take]; rfl)) ?_; (with_reducible refine (api_Level_35.calls _ _ l0 t154 _ ?side1 ?side2 A20.out).mono ?_); (case side1 => repeat (first | exact (Kd.C_below HR0.out HB.out) | (with_reducible refine Kd.C_alloc ?_ _) | (with_reducible refine Kd.C_drewN ?_ _) | (with_reducible refine Kd.C_drew ?_))); (case side2 => exact HC0.out); rintro e w24 ⟨v155, rfl, ho0, hb⟩; refine ⟨_, rfl, ?_⟩; have n0_ := Aside0.mk (Kd.R_lower ho0 (below_size (by repeat (first | (with_reducible first | exact HB.out | apply below_alloc | apply pw_below_drewN | apply below_drew1) | exact HB.out)))); have n1_ := Aside0.mk (below_step (by repeat (first | (with_reducible first | exact HB.out | apply below_alloc | apply pw_below_drewN | apply below_drew1) | exact HB.out)) hb); clear HB; have HO156 := n0_; have HB := n1_; clear n0_ n1_; (try clear hb); (try clear hb2); (try clear hk); (try clear hi); (try clear ho0); obtain ⟨Ao25, co25, eo25⟩ := Kd.R_slice HO156.out; subst eo25) | ((with_reducible refine gate_callee (f := 34) rfl ?_); refine goesL_ (some 51) rfl rfl Try.func34 (by kernel_rfl) rfl #[.slice Ao25 t154.length co25, .int .i64 a1] rfl (by (try simp only [List.map_toArray, List.map_cons, List.map_nil]); first | done | rfl | (simp only [List.length_drop, List.length_take]; rfl)) ?_; (with_reducible refine (profile_cut.calls k (fun k_ => some k_ = (.slice Ao25 t154.length co25 : Value).ownBlock) (.slice Ao25 t154.length co25) t154 a1 t157 t160 w _ ?side1 ?side2 A21.out).mono ?_); (case side1 => repeat (first | (with_reducible first | exact HB.out | apply below_alloc | apply pw_below_drewN | apply below_drew1) | exact HB.out)); (case side2 => exact Kd.R_tight rfl HO156.out); rintro e w26 ⟨v158, rfl, ho0, hb, hkp⟩; refine ⟨_, rfl, ?_⟩; have n0_ := Aside0.mk (Kd.R_mono (ok' := fun k_ => True) ho0 (fun k_ hk_ => trivial)); have n1_ := Aside0.mk (hb); clear HB; clear HO156; have HO159 := n0_; have HB := n1_; clear n0_ n1_; (try clear hb); (try clear hkp); (try clear ho0); obtain ⟨Ao27, co27, eo27⟩ := Kd.R_slice HO159.out; subst eo27) | ((with_reducible refine gate_callee (f := 34) rfl ?_); refine goesL_ (some 59) rfl rfl Try.func34 (by kernel_rfl) rfl #[.slice Ao27 t157.length co27, .int .i64 (wrap64 (a1 + a2))] rfl (by (try simp only [List.map_toArray, List.map_cons, List.map_nil]); first | done | rfl | (simp only [List.length_drop, List.length_take]; rfl)) ?_; (with_reducible refine (profile_cut.calls k (fun k_ => some k_ = (.slice Ao27 t157.length co27 : Value).ownBlock) (.slice Ao27 t157.length co27) t157 (wrap64 (a1 + a2)) t161 t164 w _ ?side1 ?side2 A22.out).mono ?_); (case side1 => repeat (first | (with_reducible first | exact HB.out | apply below_alloc | apply pw_below_drewN | apply below_drew1) | exact HB.out)); (case side2 => exact Kd.R_tight rfl HO159.out); rintro e w28 ⟨v162, rfl, ho0, hb, hkp⟩; refine ⟨_, rfl, ?_⟩; have n0_ := Aside0.mk (Kd.R_mono (ok' := fun k_ => True) ho0 (fun k_ hk_ => trivial)); have n1_ := Aside0.mk (hb); clear HB; clear HO159; have HO163 := n0_; have HB := n1_; clear n0_ n1_; (try clear hb); (try clear hkp); (try clear ho0)))
                  go_loopg [13] k (fun kq v13 w' => ∃ (x10_1 : List (S39)) (x13_1 : Int), v13 = .int .i64 x13_1 ∧ Aside0 (profile_Change.l0 kq a3 x10_1 t164 x13_1 = some (r1, r2)) ∧ Aside0 (kq ≤ k) ∧ Aside0 (Kd.R k39 39 w' w.heap.size (fun _ => True) v162 x10_1) ∧ Aside0 (Below w.heap.size w w'))
                  case atStart => exact ⟨(t161), (t160), (by first | rfl | (simp; done) | (simp [*]; done)), H', ⟨Nat.le_refl _⟩, ⟨by (with_reducible repeat (first | apply Kd.R_alloc | apply Kd.R_drewN | apply Kd.R_drew)); exact HO163.out⟩, ⟨by repeat (first | (with_reducible first | exact HB.out | apply below_alloc | apply pw_below_drewN | apply below_drew1) | exact HB.out)⟩⟩
                  case round =>
                    clear H'
                    try clear c1
                    try clear p1
                    try clear q1
                    try clear hx1
                    try clear qi1
                    try clear c2
                    try clear p2
                    try clear c3
                    try clear c6
                    try clear c6b0
                    try clear c6b1
                    try clear p6
                    try clear c7
                    try clear c7b0
                    try clear c7b1
                    try clear c8
                    try clear c8b0
                    try clear c10
                    try clear c10b0
                    try clear c12
                    try clear c12b0
                    try clear c14
                    try clear c14b0
                    try clear p15
                    try clear q15
                    try clear hx15
                    try clear qi15
                    try clear c16
                    try clear c16b0
                    try clear c18
                    try clear c18b0
                    try clear c20
                    try clear hx153_0
                    try clear hx153_1
                    try clear p153
                    try clear q153
                    obtain ⟨x10_1, x13_1, rfl, HA, HK1, HO_10, HB⟩ := hrel
                    cases gk with
                    | zero => exact absurd HA.out (by simp [profile_Change.l0])
                    | succ k1 =>
                      have H := HA.out
                      clear HA
                      simp only [profile_Change.l0] at H
                      by_cases c29 : x13_1 < t164
                      · rw [if_pos c29] at H
                        have c29b0 : decide (x13_1 < t164) = true := decide_eq_true c29
                        clear c29
                        by_cases c30 : 0 ≤ x13_1
                        · rw [if_pos c30] at H
                          have c30b0 : decide (0 ≤ x13_1) = true := decide_eq_true c30
                          clear c30
                          by_cases c31 : x13_1 < (x10_1.length : Int)
                          · rw [if_pos c31] at H
                            have c31b0 : decide (x13_1 < (x10_1.length : Int)) = true := decide_eq_true c31
                            clear c31
                            obtain ⟨y166, hy166⟩ : ∃ y_ : List (S39), y_ = (x10_1.set (x13_1 : Int).toNat (⟨(rd_T39 x10_1 x13_1).f0, wrap64 (((rd_T39 x10_1 x13_1).f1) + a3)⟩ : S39)) := ⟨_, rfl⟩
                            replace H : (if ((rd_T39 y166 x13_1).f1) < 0 then (some (([] : List (S39)), 5)) else (if ((rd_T39 y166 x13_1).f1) > 1099511627776 then (some (([] : List (S39)), 5)) else (profile_Change.l0 k1 a3 y166 t164 (wrap64 (x13_1 + 1))))) = some (r1, r2) := by first | (rw [hy166]; with_reducible exact H) | (have H2_ := (Option.bind_some _ _).symm.trans H; rw [hy166]; with_reducible exact H2_) | (have H2_ := (Option.bind_some _ _).symm.trans H; with_reducible exact H2_) | with_reducible exact H | (rw [hy166]; exact H) | exact H
                            have Ny166 := Aside0.mk hy166
                            clear hy166
                            by_cases c33 : ((rd_T39 y166 x13_1).f1) < 0
                            · rw [if_pos c33] at H
                              have c33b0 : decide (((rd_T39 y166 x13_1).f1) < 0) = true := decide_eq_true c33
                              clear c33
                              simp only [Option.some.injEq, Prod.mk.injEq] at H
                              obtain ⟨rfl, rfl⟩ := H
                              obtain ⟨Ao34, co34, eo34⟩ := Kd.R_slice HO_10.out
                              subst eo34
                              have p165 : 0 ≤ (x13_1 : Int) := of_decide_eq_true (by first | (with_reducible assumption) | assumption)
                              have q165 : x13_1 < (x10_1.length : Int) := of_decide_eq_true (by first | (with_reducible assumption) | assumption)
                              obtain ⟨ad165, e165, hx165_0, hx165_1⟩ := at_T39 (Kd.R_reads' HO_10.out).2.2 x13_1 p165 q165
                              cases e165
                              replace p165 := eq_true p165
                              replace q165 := eq_true q165
                              have p32 : 0 ≤ (x13_1 : Int) := of_decide_eq_true (by first | (with_reducible assumption) | assumption)
                              have q32 : (x13_1 : Int) < ((x10_1.length : Int) : Int) := of_decide_eq_true (by first | (with_reducible assumption) | assumption)
                              obtain ⟨go32, co32, eo32, gb32, gl32, cl32, HG32⟩ := Kd.R_form HO_10.out (by omega)
                              (first | cases eo32 | (injection eo32 with ea_ en_ ec_; (first | subst ea_ | (injection ea_ with ea_; subst ea_)); subst ec_; clear en_))
                              have GB32 := Aside0.mk gb32
                              have GG32 := Aside0.mk HG32
                              clear gb32 gl32 HG32
                              (first | simp only [add_plain] at hx165_0 | skip)
                              (first | simp only [add_plain] at hx165_1 | skip)
                              obtain ⟨ce32, hcl32, hM32, hcc32, hfr32⟩ := Kd.R_elem HO_10.out z39 (x13_1 : Int) p32 q32
                              obtain rfl := k39_openM hM32
                              have hx32_0 : wr.cell? ⟨go32, (x13_1 : Int).toNat * 2, none⟩ = some (.int .i64 ((rd_T39 x10_1 x13_1).f0)) := hcc32 0 _ rfl
                              have hx32_1 : wr.cell? ⟨go32, (x13_1 : Int).toNat * 2 + 1, none⟩ = some (.int .i64 ((rd_T39 x10_1 x13_1).f1)) := hcc32 1 _ rfl
                              have hf32_0 : wr.frozen? ⟨go32, (x13_1 : Int).toNat * 2, none⟩ = false := hfr32 0
                              have hf32_1 : wr.frozen? ⟨go32, (x13_1 : Int).toNat * 2 + 1, none⟩ = false := hfr32 1
                              clear hcl32 hcc32 hfr32 hM32
                              replace p32 := eq_true p32
                              replace q32 := eq_true q32
                              have HX35 := Aside0.mk (show Kd.R k39 39 wr w.heap.size (fun _ => True) (.slice (some ⟨go32, 0, none⟩) x10_1.length co34) x10_1 from (by (with_reducible repeat (first | apply Kd.R_alloc | apply Kd.R_drewN | apply Kd.R_drew)); exact HO_10.out))
                              obtain ⟨ce35, hcl35, hM35, hcc35, hfr35⟩ := Kd.R_elem HX35.out z39 (x13_1 : Int) (of_decide_eq_true (by first | (with_reducible assumption) | assumption)) (by have h_ : (x13_1 : Int) < ((x10_1.length : Int) : Int) := of_decide_eq_true (by first | (with_reducible assumption) | assumption); first | exact h_ | (have e_ := (Kd.R_reads' HO_10.out).1; omega) | simpa using h_)
                              obtain rfl := k39_openM hM35
                              have HP35 := Kd.R_seg HX35.out (x13_1 : Int) (of_decide_eq_true (by first | (with_reducible assumption) | assumption)) (by have h_ : (x13_1 : Int) < ((x10_1.length : Int) : Int) := of_decide_eq_true (by first | (with_reducible assumption) | assumption); first | exact h_ | (have e_ := (Kd.R_reads' HO_10.out).1; omega) | simpa using h_) (seg := [.int .i64 (wrap64 (((rd_T39 x10_1 x13_1).f1) + a3))]) (j := 1) hcl35 hcc35 (show 2 ≤ 2 from by decide) (x' := (⟨(rd_T39 x10_1 x13_1).f0, wrap64 (((rd_T39 x10_1 x13_1).f1) + a3)⟩ : S39)) (k39_mkM _ _ _ (⟨(rd_T39 x10_1 x13_1).f0, wrap64 (((rd_T39 x10_1 x13_1).f1) + a3)⟩ : S39) ) (fun _ hk => hk)
                              have hx35_1 := hcc35 1 _ rfl
                              (try simp only [show (k39).sz = 2 from rfl, Nat.mul_one, Nat.add_zero] at hx35_1)
                              have hf35_1 := hfr35 1
                              (try simp only [show (k39).sz = 2 from rfl, Nat.mul_one, Nat.add_zero] at hf35_1)
                              clear hcl35 hcc35 hfr35 hM35
                              go_wp2_with (first | ((with_reducible refine gate_store (t := 3) (p := 76) rfl ?_); refine store_event (t := 3) (p := 76) (v := ?vo_w36) (w1 := (wr.setCell ⟨go32, (x13_1 : Int).toNat * 2 + 1, none⟩ (.int .i64 (wrap64 (((rd_T39 x10_1 x13_1).f1) + a3))))) ?hg ?ho ?hn ?hr ?_; (case ho => rfl); (case hg => rfl); (case hn => rfl); (case hr => first | (go_simp; done) | (go_simp; rfl)); intro w36 hw; have hg : wr.grownBy w36 (some go32) := (by rw [hw]; exact HP35.2); have hp_ : Kd.R k39 39 w36 w.heap.size (fun _ => True) (.slice (some ⟨go32, 0, none⟩) x10_1.length co34) y166 := (by rw [hw, Ny166.out]; exact HP35.1); clear HP35; have n0_ := Aside0.mk (hp_); have n1_ := Aside0.mk ((by rw [hw]; exact below_set (HB.out) GB32.out : Below w.heap.size w w36)); clear HO_10; clear HB; have HO_10 := n0_; have HB := n1_; clear n0_ n1_; clear hg hw hp_; have p167 : 0 ≤ (x13_1 : Int) := of_decide_eq_true (by first | (with_reducible assumption) | assumption); have q167 : x13_1 < (y166.length : Int) := (by have h_ : (x13_1 : Int) < ((x10_1.length : Int) : Int) := of_decide_eq_true (by first | (with_reducible assumption) | assumption); first | (have e_ := (Kd.R_reads' HO_10.out).1; omega) | simpa only [Ny166.out, List.length_set] using h_); have ql167 : ((x13_1 : Int) < ((x10_1.length : Int) : Int)) = True := eq_true (of_decide_eq_true (by first | (with_reducible assumption) | assumption)); obtain ⟨ad167, e167, hx167_0, hx167_1⟩ := at_T39 (Kd.R_reads' HO_10.out).2.2 x13_1 p167 q167; obtain rfl : (⟨go32, 0, none⟩ : Addr) = ad167 := (by injection e167); (first | simp only [add_plain] at hx167_0 | simp only [add_at] at hx167_0 | simp only [Addr.add, Nat.zero_add] at hx167_0 | skip); (first | simp only [add_plain] at hx167_1 | simp only [add_at] at hx167_1 | simp only [Addr.add, Nat.zero_add] at hx167_1 | skip); replace p167 := eq_true p167; replace q167 := eq_true q167))
                              go_ret2
                              exact ⟨_, by first | rfl | (simp [errW_none, errW_some] <;> rfl) | (simp [*, errW_none, errW_some] <;> rfl), by first | exact Kd.R_nil _ _ _ _ _ | exact Kd.N_nil _ _ _ _ _ | exact Kd.V_nil _ _ _ _ _ | exact Kd.Q_nil _ _ _ _ _ | exact Kd.S_nil _ _ _ _ _, by repeat (first | (with_reducible first | exact HB.out | apply below_alloc | apply pw_below_drewN | apply below_drew1) | exact HB.out)⟩
                            · rw [if_neg c33] at H
                              have c33b0 : decide (((rd_T39 y166 x13_1).f1) < 0) = false := decide_eq_false c33
                              clear c33
                              by_cases c37 : ((rd_T39 y166 x13_1).f1) > 1099511627776
                              · rw [if_pos c37] at H
                                have c37b0 : decide (1099511627776 < ((rd_T39 y166 x13_1).f1)) = true := decide_eq_true c37
                                clear c37
                                simp only [Option.some.injEq, Prod.mk.injEq] at H
                                obtain ⟨rfl, rfl⟩ := H
                                obtain ⟨Ao38, co38, eo38⟩ := Kd.R_slice HO_10.out
                                subst eo38
                                have p165 : 0 ≤ (x13_1 : Int) := of_decide_eq_true (by first | (with_reducible assumption) | assumption)
                                have q165 : x13_1 < (x10_1.length : Int) := of_decide_eq_true (by first | (with_reducible assumption) | assumption)
                                obtain ⟨ad165, e165, hx165_0, hx165_1⟩ := at_T39 (Kd.R_reads' HO_10.out).2.2 x13_1 p165 q165
                                cases e165
                                replace p165 := eq_true p165
                                replace q165 := eq_true q165
                                have p32 : 0 ≤ (x13_1 : Int) := of_decide_eq_true (by first | (with_reducible assumption) | assumption)
                                have q32 : (x13_1 : Int) < ((x10_1.length : Int) : Int) := of_decide_eq_true (by first | (with_reducible assumption) | assumption)
                                obtain ⟨go32, co32, eo32, gb32, gl32, cl32, HG32⟩ := Kd.R_form HO_10.out (by omega)
                                (first | cases eo32 | (injection eo32 with ea_ en_ ec_; (first | subst ea_ | (injection ea_ with ea_; subst ea_)); subst ec_; clear en_))
                                have GB32 := Aside0.mk gb32
                                have GG32 := Aside0.mk HG32
                                clear gb32 gl32 HG32
                                (first | simp only [add_plain] at hx165_0 | skip)
                                (first | simp only [add_plain] at hx165_1 | skip)
                                obtain ⟨ce32, hcl32, hM32, hcc32, hfr32⟩ := Kd.R_elem HO_10.out z39 (x13_1 : Int) p32 q32
                                obtain rfl := k39_openM hM32
                                have hx32_0 : wr.cell? ⟨go32, (x13_1 : Int).toNat * 2, none⟩ = some (.int .i64 ((rd_T39 x10_1 x13_1).f0)) := hcc32 0 _ rfl
                                have hx32_1 : wr.cell? ⟨go32, (x13_1 : Int).toNat * 2 + 1, none⟩ = some (.int .i64 ((rd_T39 x10_1 x13_1).f1)) := hcc32 1 _ rfl
                                have hf32_0 : wr.frozen? ⟨go32, (x13_1 : Int).toNat * 2, none⟩ = false := hfr32 0
                                have hf32_1 : wr.frozen? ⟨go32, (x13_1 : Int).toNat * 2 + 1, none⟩ = false := hfr32 1
                                clear hcl32 hcc32 hfr32 hM32
                                replace p32 := eq_true p32
                                replace q32 := eq_true q32
                                have HX39 := Aside0.mk (show Kd.R k39 39 wr w.heap.size (fun _ => True) (.slice (some ⟨go32, 0, none⟩) x10_1.length co38) x10_1 from (by (with_reducible repeat (first | apply Kd.R_alloc | apply Kd.R_drewN | apply Kd.R_drew)); exact HO_10.out))
                                obtain ⟨ce39, hcl39, hM39, hcc39, hfr39⟩ := Kd.R_elem HX39.out z39 (x13_1 : Int) (of_decide_eq_true (by first | (with_reducible assumption) | assumption)) (by have h_ : (x13_1 : Int) < ((x10_1.length : Int) : Int) := of_decide_eq_true (by first | (with_reducible assumption) | assumption); first | exact h_ | (have e_ := (Kd.R_reads' HO_10.out).1; omega) | simpa using h_)
                                obtain rfl := k39_openM hM39
                                have HP39 := Kd.R_seg HX39.out (x13_1 : Int) (of_decide_eq_true (by first | (with_reducible assumption) | assumption)) (by have h_ : (x13_1 : Int) < ((x10_1.length : Int) : Int) := of_decide_eq_true (by first | (with_reducible assumption) | assumption); first | exact h_ | (have e_ := (Kd.R_reads' HO_10.out).1; omega) | simpa using h_) (seg := [.int .i64 (wrap64 (((rd_T39 x10_1 x13_1).f1) + a3))]) (j := 1) hcl39 hcc39 (show 2 ≤ 2 from by decide) (x' := (⟨(rd_T39 x10_1 x13_1).f0, wrap64 (((rd_T39 x10_1 x13_1).f1) + a3)⟩ : S39)) (k39_mkM _ _ _ (⟨(rd_T39 x10_1 x13_1).f0, wrap64 (((rd_T39 x10_1 x13_1).f1) + a3)⟩ : S39) ) (fun _ hk => hk)
                                have hx39_1 := hcc39 1 _ rfl
                                (try simp only [show (k39).sz = 2 from rfl, Nat.mul_one, Nat.add_zero] at hx39_1)
                                have hf39_1 := hfr39 1
                                (try simp only [show (k39).sz = 2 from rfl, Nat.mul_one, Nat.add_zero] at hf39_1)
                                clear hcl39 hcc39 hfr39 hM39
                                go_wp2_with (first | ((with_reducible refine gate_store (t := 3) (p := 76) rfl ?_); refine store_event (t := 3) (p := 76) (v := ?vo_w40) (w1 := (wr.setCell ⟨go32, (x13_1 : Int).toNat * 2 + 1, none⟩ (.int .i64 (wrap64 (((rd_T39 x10_1 x13_1).f1) + a3))))) ?hg ?ho ?hn ?hr ?_; (case ho => rfl); (case hg => rfl); (case hn => rfl); (case hr => first | (go_simp; done) | (go_simp; rfl)); intro w40 hw; have hg : wr.grownBy w40 (some go32) := (by rw [hw]; exact HP39.2); have hp_ : Kd.R k39 39 w40 w.heap.size (fun _ => True) (.slice (some ⟨go32, 0, none⟩) x10_1.length co38) y166 := (by rw [hw, Ny166.out]; exact HP39.1); clear HP39; have n0_ := Aside0.mk (hp_); have n1_ := Aside0.mk ((by rw [hw]; exact below_set (HB.out) GB32.out : Below w.heap.size w w40)); clear HO_10; clear HB; have HO_10 := n0_; have HB := n1_; clear n0_ n1_; clear hg hw hp_; have p167 : 0 ≤ (x13_1 : Int) := of_decide_eq_true (by first | (with_reducible assumption) | assumption); have q167 : x13_1 < (y166.length : Int) := (by have h_ : (x13_1 : Int) < ((x10_1.length : Int) : Int) := of_decide_eq_true (by first | (with_reducible assumption) | assumption); first | (have e_ := (Kd.R_reads' HO_10.out).1; omega) | simpa only [Ny166.out, List.length_set] using h_); have ql167 : ((x13_1 : Int) < ((x10_1.length : Int) : Int)) = True := eq_true (of_decide_eq_true (by first | (with_reducible assumption) | assumption)); obtain ⟨ad167, e167, hx167_0, hx167_1⟩ := at_T39 (Kd.R_reads' HO_10.out).2.2 x13_1 p167 q167; obtain rfl : (⟨go32, 0, none⟩ : Addr) = ad167 := (by injection e167); (first | simp only [add_plain] at hx167_0 | simp only [add_at] at hx167_0 | simp only [Addr.add, Nat.zero_add] at hx167_0 | skip); (first | simp only [add_plain] at hx167_1 | simp only [add_at] at hx167_1 | simp only [Addr.add, Nat.zero_add] at hx167_1 | skip); replace p167 := eq_true p167; replace q167 := eq_true q167; have p168 : 0 ≤ (x13_1 : Int) := of_decide_eq_true (by first | (with_reducible assumption) | assumption); have q168 : x13_1 < (y166.length : Int) := (by have h_ : (x13_1 : Int) < ((x10_1.length : Int) : Int) := of_decide_eq_true (by first | (with_reducible assumption) | assumption); first | (have e_ := (Kd.R_reads' HO_10.out).1; omega) | simpa only [Ny166.out, List.length_set] using h_); have ql168 : ((x13_1 : Int) < ((x10_1.length : Int) : Int)) = True := eq_true (of_decide_eq_true (by first | (with_reducible assumption) | assumption)); obtain ⟨ad168, e168, hx168_0, hx168_1⟩ := at_T39 (Kd.R_reads' HO_10.out).2.2 x13_1 p168 q168; obtain rfl : (⟨go32, 0, none⟩ : Addr) = ad168 := (by injection e168); (first | simp only [add_plain] at hx168_0 | simp only [add_at] at hx168_0 | simp only [Addr.add, Nat.zero_add] at hx168_0 | skip); (first | simp only [add_plain] at hx168_1 | simp only [add_at] at hx168_1 | simp only [Addr.add, Nat.zero_add] at hx168_1 | skip); replace p168 := eq_true p168; replace q168 := eq_true q168))
                                go_ret2
                                exact ⟨_, by first | rfl | (simp [errW_none, errW_some] <;> rfl) | (simp [*, errW_none, errW_some] <;> rfl), by first | exact Kd.R_nil _ _ _ _ _ | exact Kd.N_nil _ _ _ _ _ | exact Kd.V_nil _ _ _ _ _ | exact Kd.Q_nil _ _ _ _ _ | exact Kd.S_nil _ _ _ _ _, by repeat (first | (with_reducible first | exact HB.out | apply below_alloc | apply pw_below_drewN | apply below_drew1) | exact HB.out)⟩
                              · rw [if_neg c37] at H
                                have c37b0 : decide (1099511627776 < ((rd_T39 y166 x13_1).f1)) = false := decide_eq_false c37
                                clear c37
                                have H' := Aside0.mk H
                                clear H
                                obtain ⟨Ao41, co41, eo41⟩ := Kd.R_slice HO_10.out
                                subst eo41
                                have p165 : 0 ≤ (x13_1 : Int) := of_decide_eq_true (by first | (with_reducible assumption) | assumption)
                                have q165 : x13_1 < (x10_1.length : Int) := of_decide_eq_true (by first | (with_reducible assumption) | assumption)
                                obtain ⟨ad165, e165, hx165_0, hx165_1⟩ := at_T39 (Kd.R_reads' HO_10.out).2.2 x13_1 p165 q165
                                cases e165
                                replace p165 := eq_true p165
                                replace q165 := eq_true q165
                                have p32 : 0 ≤ (x13_1 : Int) := of_decide_eq_true (by first | (with_reducible assumption) | assumption)
                                have q32 : (x13_1 : Int) < ((x10_1.length : Int) : Int) := of_decide_eq_true (by first | (with_reducible assumption) | assumption)
                                obtain ⟨go32, co32, eo32, gb32, gl32, cl32, HG32⟩ := Kd.R_form HO_10.out (by omega)
                                (first | cases eo32 | (injection eo32 with ea_ en_ ec_; (first | subst ea_ | (injection ea_ with ea_; subst ea_)); subst ec_; clear en_))
                                have GB32 := Aside0.mk gb32
                                have GG32 := Aside0.mk HG32
                                clear gb32 gl32 HG32
                                (first | simp only [add_plain] at hx165_0 | skip)
                                (first | simp only [add_plain] at hx165_1 | skip)
                                obtain ⟨ce32, hcl32, hM32, hcc32, hfr32⟩ := Kd.R_elem HO_10.out z39 (x13_1 : Int) p32 q32
                                obtain rfl := k39_openM hM32
                                have hx32_0 : wr.cell? ⟨go32, (x13_1 : Int).toNat * 2, none⟩ = some (.int .i64 ((rd_T39 x10_1 x13_1).f0)) := hcc32 0 _ rfl
                                have hx32_1 : wr.cell? ⟨go32, (x13_1 : Int).toNat * 2 + 1, none⟩ = some (.int .i64 ((rd_T39 x10_1 x13_1).f1)) := hcc32 1 _ rfl
                                have hf32_0 : wr.frozen? ⟨go32, (x13_1 : Int).toNat * 2, none⟩ = false := hfr32 0
                                have hf32_1 : wr.frozen? ⟨go32, (x13_1 : Int).toNat * 2 + 1, none⟩ = false := hfr32 1
                                clear hcl32 hcc32 hfr32 hM32
                                replace p32 := eq_true p32
                                replace q32 := eq_true q32
                                have HX42 := Aside0.mk (show Kd.R k39 39 wr w.heap.size (fun _ => True) (.slice (some ⟨go32, 0, none⟩) x10_1.length co41) x10_1 from (by (with_reducible repeat (first | apply Kd.R_alloc | apply Kd.R_drewN | apply Kd.R_drew)); exact HO_10.out))
                                obtain ⟨ce42, hcl42, hM42, hcc42, hfr42⟩ := Kd.R_elem HX42.out z39 (x13_1 : Int) (of_decide_eq_true (by first | (with_reducible assumption) | assumption)) (by have h_ : (x13_1 : Int) < ((x10_1.length : Int) : Int) := of_decide_eq_true (by first | (with_reducible assumption) | assumption); first | exact h_ | (have e_ := (Kd.R_reads' HO_10.out).1; omega) | simpa using h_)
                                obtain rfl := k39_openM hM42
                                have HP42 := Kd.R_seg HX42.out (x13_1 : Int) (of_decide_eq_true (by first | (with_reducible assumption) | assumption)) (by have h_ : (x13_1 : Int) < ((x10_1.length : Int) : Int) := of_decide_eq_true (by first | (with_reducible assumption) | assumption); first | exact h_ | (have e_ := (Kd.R_reads' HO_10.out).1; omega) | simpa using h_) (seg := [.int .i64 (wrap64 (((rd_T39 x10_1 x13_1).f1) + a3))]) (j := 1) hcl42 hcc42 (show 2 ≤ 2 from by decide) (x' := (⟨(rd_T39 x10_1 x13_1).f0, wrap64 (((rd_T39 x10_1 x13_1).f1) + a3)⟩ : S39)) (k39_mkM _ _ _ (⟨(rd_T39 x10_1 x13_1).f0, wrap64 (((rd_T39 x10_1 x13_1).f1) + a3)⟩ : S39) ) (fun _ hk => hk)
                                have hx42_1 := hcc42 1 _ rfl
                                (try simp only [show (k39).sz = 2 from rfl, Nat.mul_one, Nat.add_zero] at hx42_1)
                                have hf42_1 := hfr42 1
                                (try simp only [show (k39).sz = 2 from rfl, Nat.mul_one, Nat.add_zero] at hf42_1)
                                clear hcl42 hcc42 hfr42 hM42
                                go_wp2_with (first | ((with_reducible refine gate_store (t := 3) (p := 76) rfl ?_); refine store_event (t := 3) (p := 76) (v := ?vo_w43) (w1 := (wr.setCell ⟨go32, (x13_1 : Int).toNat * 2 + 1, none⟩ (.int .i64 (wrap64 (((rd_T39 x10_1 x13_1).f1) + a3))))) ?hg ?ho ?hn ?hr ?_; (case ho => rfl); (case hg => rfl); (case hn => rfl); (case hr => first | (go_simp; done) | (go_simp; rfl)); intro w43 hw; have hg : wr.grownBy w43 (some go32) := (by rw [hw]; exact HP42.2); have hp_ : Kd.R k39 39 w43 w.heap.size (fun _ => True) (.slice (some ⟨go32, 0, none⟩) x10_1.length co41) y166 := (by rw [hw, Ny166.out]; exact HP42.1); clear HP42; have n0_ := Aside0.mk (hp_); have n1_ := Aside0.mk ((by rw [hw]; exact below_set (HB.out) GB32.out : Below w.heap.size w w43)); clear HO_10; clear HB; have HO_10 := n0_; have HB := n1_; clear n0_ n1_; clear hg hw hp_; have p167 : 0 ≤ (x13_1 : Int) := of_decide_eq_true (by first | (with_reducible assumption) | assumption); have q167 : x13_1 < (y166.length : Int) := (by have h_ : (x13_1 : Int) < ((x10_1.length : Int) : Int) := of_decide_eq_true (by first | (with_reducible assumption) | assumption); first | (have e_ := (Kd.R_reads' HO_10.out).1; omega) | simpa only [Ny166.out, List.length_set] using h_); have ql167 : ((x13_1 : Int) < ((x10_1.length : Int) : Int)) = True := eq_true (of_decide_eq_true (by first | (with_reducible assumption) | assumption)); obtain ⟨ad167, e167, hx167_0, hx167_1⟩ := at_T39 (Kd.R_reads' HO_10.out).2.2 x13_1 p167 q167; obtain rfl : (⟨go32, 0, none⟩ : Addr) = ad167 := (by injection e167); (first | simp only [add_plain] at hx167_0 | simp only [add_at] at hx167_0 | simp only [Addr.add, Nat.zero_add] at hx167_0 | skip); (first | simp only [add_plain] at hx167_1 | simp only [add_at] at hx167_1 | simp only [Addr.add, Nat.zero_add] at hx167_1 | skip); replace p167 := eq_true p167; replace q167 := eq_true q167; have p168 : 0 ≤ (x13_1 : Int) := of_decide_eq_true (by first | (with_reducible assumption) | assumption); have q168 : x13_1 < (y166.length : Int) := (by have h_ : (x13_1 : Int) < ((x10_1.length : Int) : Int) := of_decide_eq_true (by first | (with_reducible assumption) | assumption); first | (have e_ := (Kd.R_reads' HO_10.out).1; omega) | simpa only [Ny166.out, List.length_set] using h_); have ql168 : ((x13_1 : Int) < ((x10_1.length : Int) : Int)) = True := eq_true (of_decide_eq_true (by first | (with_reducible assumption) | assumption)); obtain ⟨ad168, e168, hx168_0, hx168_1⟩ := at_T39 (Kd.R_reads' HO_10.out).2.2 x13_1 p168 q168; obtain rfl : (⟨go32, 0, none⟩ : Addr) = ad168 := (by injection e168); (first | simp only [add_plain] at hx168_0 | simp only [add_at] at hx168_0 | simp only [Addr.add, Nat.zero_add] at hx168_0 | skip); (first | simp only [add_plain] at hx168_1 | simp only [add_at] at hx168_1 | simp only [Addr.add, Nat.zero_add] at hx168_1 | skip); replace p168 := eq_true p168; replace q168 := eq_true q168))
                                go_roundg k1
                                case measure => have := HK1.out; omega
                                case rel => exact ⟨(y166), (wrap64 (x13_1 + 1)), (by first | rfl | (simp; done) | (simp [*]; done)), H', ⟨by have := HK1.out; omega⟩, ⟨by (with_reducible repeat (first | apply Kd.R_alloc | apply Kd.R_drewN | apply Kd.R_drew)); exact HO_10.out⟩, ⟨by repeat (first | (with_reducible first | exact HB.out | apply below_alloc | apply pw_below_drewN | apply below_drew1) | exact HB.out)⟩⟩
                          · rw [if_neg c31] at H
                            exact absurd H (by simp)
                        · rw [if_neg c30] at H
                          exact absurd H (by simp)
                      · rw [if_neg c29] at H
                        have c29b0 : decide (x13_1 < t164) = false := decide_eq_false c29
                        clear c29
                        replace H := Option.bind_eq_some_iff.mp H
                        obtain ⟨t169, A440, H⟩ := H
                        replace H : (some (t169, 0)) = some (r1, r2) := H
                        have A44 := Aside0.mk A440
                        clear A440
                        simp only [Option.some.injEq, Prod.mk.injEq] at H
                        obtain ⟨rfl, rfl⟩ := H
                        obtain ⟨Ao45, co45, eo45⟩ := Kd.R_slice HO_10.out
                        subst eo45
                        go_wp2_with (first | ((with_reducible refine gate_callee (f := 36) rfl ?_); refine goesL_ (some 92) rfl rfl Try.func36 (by kernel_rfl) rfl #[.slice Ao45 x10_1.length co45] rfl (by (try simp only [List.map_toArray, List.map_cons, List.map_nil]); first | done | rfl | (simp only [List.length_drop, List.length_take]; rfl)) ?_; (with_reducible refine (profile_compact.calls (fun k_ => some k_ = (.slice Ao45 x10_1.length co45 : Value).ownBlock) (.slice Ao45 x10_1.length co45) x10_1 t169 w _ ?side1 ?side2 A44.out).mono ?_); (case side1 => repeat (first | (with_reducible first | exact HB.out | apply below_alloc | apply pw_below_drewN | apply below_drew1) | exact HB.out)); (case side2 => exact Kd.R_tight rfl HO_10.out); rintro e w46 ⟨v170, rfl, ho0, hb, hkp⟩; refine ⟨_, rfl, ?_⟩; have n0_ := Aside0.mk (Kd.R_mono (ok' := fun k_ => True) ho0 (fun k_ hk_ => trivial)); have n1_ := Aside0.mk (hb); clear HB; clear HO_10; have HO171 := n0_; have HB := n1_; clear n0_ n1_; (try clear hb); (try clear hkp); (try clear ho0)))
                        go_ret2
                        exact ⟨_, by first | rfl | (simp [errW_none, errW_some] <;> rfl) | (simp [*, errW_none, errW_some] <;> rfl), by (with_reducible repeat (first | apply Kd.R_alloc | apply Kd.R_drewN | apply Kd.R_drew)); exact HO171.out, by repeat (first | (with_reducible first | exact HB.out | apply below_alloc | apply pw_below_drewN | apply below_drew1) | exact HB.out)⟩
    · rw [if_neg c7] at H
      exact absurd H (by simp)
  · rw [if_neg c6] at H
    have c6b0 : (t152 == 0) = false := beq_eq_false_iff_ne.mpr c6
    have c6b1 : (t152 != 0) = true := bne_iff_ne.mpr c6
    simp only [Option.some.injEq, Prod.mk.injEq] at H
    obtain ⟨rfl, rfl⟩ := H
    go_enter Try.func16, Try.ntmps16
    go_wp2_with (first | ((with_reducible refine gate_callee (f := 20) rfl ?_); refine goesL_ (some 16) rfl rfl Try.func20 (by kernel_rfl) rfl #[.slice A0 l0.length c0] rfl (by (try simp only [List.map_toArray, List.map_cons, List.map_nil]); first | done | rfl | (simp only [List.length_drop, List.length_take]; rfl)) ?_; (with_reducible refine (profile_Check.calls k _ _ l0 t152 _ ?side1 ?side2 A5.out).mono ?_); (case side1 => repeat (first | exact HR0.out | (with_reducible refine Kd.C_alloc ?_ _) | (with_reducible refine Kd.C_drewN ?_ _) | (with_reducible refine Kd.C_drew ?_))); (case side2 => exact HC0.out); rintro e w47 ⟨rfl, hb⟩; refine ⟨_, rfl, ?_⟩; have n0_ := Aside0.mk (below_step (by repeat (first | (with_reducible first | exact HB.out | apply below_alloc | apply pw_below_drewN | apply below_drew1) | exact HB.out)) hb); clear HB; have HB := n0_; clear n0_; (try clear hb); (try clear hb2); (try clear hk); (try clear hi)))
    go_ret2
    exact ⟨_, by first | rfl | (simp [errW_none, errW_some] <;> rfl) | (simp [*, errW_none, errW_some] <;> rfl), by first | exact Kd.R_nil _ _ _ _ _ | exact Kd.N_nil _ _ _ _ _ | exact Kd.V_nil _ _ _ _ _ | exact Kd.Q_nil _ _ _ _ _ | exact Kd.S_nil _ _ _ _ _, by repeat (first | (with_reducible first | exact HB.out | apply below_alloc | apply pw_below_drewN | apply below_drew1) | exact HB.out)⟩

/-! ### gangerref05_Same: function 18 -/
def gangerref05_Same.l0 : Nat → List (S39) → List (S39) → Int → Option (Bool)
  | 0, _, _, _ => none
  | k + 1, x0, x1, x5 => if x5 < (x0.length : Int) then (if 0 ≤ x5 then (if x5 < (x1.length : Int) then (if (!(((rd_T39 x0 x5).f0) == ((rd_T39 x1 x5).f0)) || (!(((rd_T39 x0 x5).f1) == ((rd_T39 x1 x5).f1)))) = true then (some false) else (gangerref05_Same.l0 k x0 x1 (wrap64 (x5 + 1)))) else (none)) else (none)) else (some true)
def gangerref05_Same.f (k : Nat) (l0 : List (S39)) (l1 : List (S39)) : Option (Bool) := if (l0.length : Int) = (l1.length : Int) then (gangerref05_Same.l0 k l0 l1 0) else (some false)
theorem gangerref05_Same.mono_l : ∀ k, (∀ y0 y1 y2, LeO (gangerref05_Same.l0 k y0 y1 y2) (gangerref05_Same.l0 (k + 1) y0 y1 y2))
  | 0 => fun _ _ _ r h => by simp [gangerref05_Same.l0] at h
  | k + 1 => by
    have ih0 := gangerref05_Same.mono_l k
    · intro y0 y1 y2
      unfold gangerref05_Same.l0
      repeat' first
      | (with_reducible exact ih0 _ _ _)
      | (with_reducible exact LeO.refl _)
      | (with_reducible exact LeO.none _)
      | (with_reducible refine LeO.ite ?_ ?_)
      | (with_reducible refine LeO.bind ?_ (fun _ => ?_))
      | exact ih0 _ _ _
      | exact LeO.none _
      | refine LeO.ite ?_ ?_
      | refine LeO.bind ?_ (fun _ => ?_)
theorem gangerref05_Same.mono : ∀ a0 a1 k, LeO (gangerref05_Same.f k a0 a1) (gangerref05_Same.f (k + 1) a0 a1) := by
  intro a0 a1 k
  have ih0 := gangerref05_Same.mono_l k
  unfold gangerref05_Same.f
  repeat' first
      | (with_reducible exact ih0 _ _ _)
      | (with_reducible exact LeO.refl _)
      | (with_reducible exact LeO.none _)
      | (with_reducible refine LeO.ite ?_ ?_)
      | (with_reducible refine LeO.bind ?_ (fun _ => ?_))
      | exact ih0 _ _ _
      | exact LeO.none _
      | refine LeO.ite ?_ ?_
      | refine LeO.bind ?_ (fun _ => ?_)
set_option maxHeartbeats 8000000 in
set_option maxRecDepth 100000 in
theorem gangerref05_Same.calls (k : Nat) (A0 : Option Addr) (c0 : Nat) (l0 : List (S39)) (A1 : Option Addr) (c1 : Nat) (l1 : List (S39)) (r : Bool) (w : World) (hr0 : Kd.C k39 w A0 l0.length l0) (hc0 : l0.length ≤ c0) (hr1 : Kd.C k39 w A1 l1.length l1) (hc1 : l1.length ≤ c1) (h : gangerref05_Same.f k l0 l1 = some r) :
    Calls Try.prog 18 #[.slice A0 l0.length c0, .slice A1 l1.length c1] w fun e w' => e = .returned (.bool r) ∧ Drawn0 w w' := by
  have hu39 := Try.underlying39
  have HR0 := Aside0.mk hr0
  have HC0 := Aside0.mk hc0
  clear hr0 hc0
  have HR1 := Aside0.mk hr1
  have HC1 := Aside0.mk hc1
  clear hr1 hc1
  have H : (if (l0.length : Int) = (l1.length : Int) then (gangerref05_Same.l0 k l0 l1 0) else (some false)) = some r := h
  clear h
  by_cases c3 : (l0.length : Int) = (l1.length : Int)
  · rw [if_pos c3] at H
    have c3b0 : ((l0.length : Int) == (l1.length : Int)) = true := beq_iff_eq.mpr c3
    have c3b1 : ((l0.length : Int) != (l1.length : Int)) = false := bne_eq_false_iff_eq.mpr c3
    have c3b2 : (l0.length == l1.length) = true := by first | simpa using c3 | (simp at c3 ⊢; omega)
    clear c3
    have H' := Aside0.mk H
    clear H
    go_enter Try.func18, Try.ntmps18
    go_wp2
    repeat (go_quiet (fail); try go_wp2)
    go_loopg [5] k (fun kq v5 w' => ∃ (x5_1 : Int), v5 = .int .i64 x5_1 ∧ Aside0 (gangerref05_Same.l0 kq l0 l1 x5_1 = some r) ∧ Aside0 (kq ≤ k) ∧ Drawn0 w w')
    case atStart => exact ⟨(0), (by first | rfl | (simp; done) | (simp [*]; done)), H', ⟨Nat.le_refl _⟩, by repeat (first | exact Drawn0.refl _ | apply Drawn0.step)⟩
    case round =>
      clear H'
      try clear c1
      try clear p2
      try clear c3
      try clear c3b0
      try clear c3b1
      try clear c3b2
      obtain ⟨x5_1, rfl, HA, HK1, ⟨m1, rfl⟩⟩ := hrel
      cases gk with
      | zero => exact absurd HA.out (by simp [gangerref05_Same.l0])
      | succ k1 =>
        have H := HA.out
        clear HA
        simp only [gangerref05_Same.l0] at H
        by_cases c4 : x5_1 < (l0.length : Int)
        · rw [if_pos c4] at H
          have c4b0 : decide (x5_1 < (l0.length : Int)) = true := decide_eq_true c4
          clear c4
          by_cases c5 : 0 ≤ x5_1
          · rw [if_pos c5] at H
            have c5b0 : decide (0 ≤ x5_1) = true := decide_eq_true c5
            clear c5
            by_cases c6 : x5_1 < (l1.length : Int)
            · rw [if_pos c6] at H
              have c6b0 : decide (x5_1 < (l1.length : Int)) = true := decide_eq_true c6
              clear c6
              by_cases c7 : (!(((rd_T39 l0 x5_1).f0) == ((rd_T39 l1 x5_1).f0)) || (!(((rd_T39 l0 x5_1).f1) == ((rd_T39 l1 x5_1).f1)))) = true
              · rw [if_pos c7] at H
                have c7b0 : (!(((rd_T39 l0 x5_1).f0) == ((rd_T39 l1 x5_1).f0)) || (!(((rd_T39 l0 x5_1).f1) == ((rd_T39 l1 x5_1).f1)))) = true := c7
                clear c7
                obtain rfl := Option.some.inj H
                have p172 : 0 ≤ (x5_1 : Int) := of_decide_eq_true (by first | (with_reducible assumption) | assumption)
                have q172 : x5_1 < (l0.length : Int) := of_decide_eq_true (by first | (with_reducible assumption) | assumption)
                obtain ⟨ad172, e172, hx172_0, hx172_1⟩ := at_T39 HR0.out x5_1 p172 q172
                cases e172
                replace p172 := eq_true p172
                replace q172 := eq_true q172
                have p173 : 0 ≤ (x5_1 : Int) := of_decide_eq_true (by first | (with_reducible assumption) | assumption)
                have q173 : x5_1 < (l1.length : Int) := of_decide_eq_true (by first | (with_reducible assumption) | assumption)
                obtain ⟨ad173, e173, hx173_0, hx173_1⟩ := at_T39 HR1.out x5_1 p173 q173
                cases e173
                replace p173 := eq_true p173
                replace q173 := eq_true q173
                go_wp2
                repeat (go_quiet (fail); try go_wp2)
                go_ret
                exact ⟨by first | rfl | (simp; done) | (simp [*]; done), by repeat (first | exact Drawn0.refl _ | apply Drawn0.step)⟩
              · rw [if_neg c7] at H
                have c7b0 : (!(((rd_T39 l0 x5_1).f0) == ((rd_T39 l1 x5_1).f0)) || (!(((rd_T39 l0 x5_1).f1) == ((rd_T39 l1 x5_1).f1)))) = false := by simpa using c7
                clear c7
                have H' := Aside0.mk H
                clear H
                have p172 : 0 ≤ (x5_1 : Int) := of_decide_eq_true (by first | (with_reducible assumption) | assumption)
                have q172 : x5_1 < (l0.length : Int) := of_decide_eq_true (by first | (with_reducible assumption) | assumption)
                obtain ⟨ad172, e172, hx172_0, hx172_1⟩ := at_T39 HR0.out x5_1 p172 q172
                cases e172
                replace p172 := eq_true p172
                replace q172 := eq_true q172
                have p173 : 0 ≤ (x5_1 : Int) := of_decide_eq_true (by first | (with_reducible assumption) | assumption)
                have q173 : x5_1 < (l1.length : Int) := of_decide_eq_true (by first | (with_reducible assumption) | assumption)
                obtain ⟨ad173, e173, hx173_0, hx173_1⟩ := at_T39 HR1.out x5_1 p173 q173
                cases e173
                replace p173 := eq_true p173
                replace q173 := eq_true q173
                go_wp2
                repeat (go_quiet (fail); try go_wp2)
                go_roundg k1
                case measure => have := HK1.out; omega
                case rel => exact ⟨(wrap64 (x5_1 + 1)), (by first | rfl | (simp; done) | (simp [*]; done)), H', ⟨by have := HK1.out; omega⟩, by repeat (first | exact Drawn0.refl _ | apply Drawn0.step)⟩
            · rw [if_neg c6] at H
              exact absurd H (by simp)
          · rw [if_neg c5] at H
            exact absurd H (by simp)
        · rw [if_neg c4] at H
          have c4b0 : decide (x5_1 < (l0.length : Int)) = false := decide_eq_false c4
          clear c4
          obtain rfl := Option.some.inj H
          go_wp2
          repeat (go_quiet (fail); try go_wp2)
          go_ret
          exact ⟨by first | rfl | (simp; done) | (simp [*]; done), by repeat (first | exact Drawn0.refl _ | apply Drawn0.step)⟩
  · rw [if_neg c3] at H
    have c3b0 : ((l0.length : Int) == (l1.length : Int)) = false := beq_eq_false_iff_ne.mpr c3
    have c3b1 : ((l0.length : Int) != (l1.length : Int)) = true := bne_iff_ne.mpr c3
    have c3b2 : (l0.length == l1.length) = false := by first | simpa using c3 | (simp at c3 ⊢; omega)
    obtain rfl := Option.some.inj H
    go_enter Try.func18, Try.ntmps18
    go_wp2
    repeat (go_quiet (fail); try go_wp2)
    go_ret
    exact ⟨by first | rfl | (simp; done) | (simp [*]; done), by repeat (first | exact Drawn0.refl _ | apply Drawn0.step)⟩

end Go.Proofs.Ytfcmpnajokjaaaa.P
