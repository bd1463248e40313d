/- The machine's side of the laws of this seat: each function's plain form and its contract, written by a program of this session out of Lean's print of the loaded functions; no condition beyond what each statement says. -/
import Derived.Test.YtfcmpnajokjaaaaP0
import Derived.Test.YtfcmpnajokjaaaaP2
namespace Go.Proofs.Ytfcmpnajokjaaaa.P
open Go.RowKit Go.Proofs.YtfcmpnajokjaaaaW.PrintWords Go.Proofs.YtfcmpnajokjaaaaW.PrintLast Go.Proofs.YtfcmpnajokjaaaaW.PrintMore
attribute [local go_sem] max2_int min2_int max_two min_two max_three min_three max_four min_four   -- for this text's walks alone
set_option linter.unusedVariables false
set_option linter.unusedSimpArgs false

attribute [local go_sem] isSome_setCell
/-! ### api_Level_40: function 40 -/
def enc39 (l : List S39) : List Value := l.flatMap fun x => [.int .i64 x.f0, .int .i64 x.f1]
theorem enc39_nil : enc39 [] = [] := rfl
theorem enc39_cons (x : S39) (l : List S39) : enc39 (x :: l) = .int .i64 x.f0 :: .int .i64 x.f1 :: enc39 l := rfl
theorem enc39_append (l m : List S39) : enc39 (l ++ m) = enc39 l ++ enc39 m := by simp [enc39]
theorem enc39_length (l : List S39) : (enc39 l).length = l.length * 2 := by
  induction l with
  | nil => rfl
  | cons x l ih => rw [enc39_cons, List.length_cons, List.length_cons, ih, List.length_cons]; omega
theorem enc39_take (l : List S39) (i : Nat) : (enc39 l).take (i * 2) = enc39 (l.take i) := by
  induction i generalizing l with
  | zero => simp [enc39]
  | succ i ih =>
    cases l with
    | nil => simp [enc39]
    | cons x l => rw [show (i + 1) * 2 = i * 2 + 2 by omega, enc39_cons, List.take_succ_cons, List.take_succ_cons, ih, List.take_succ_cons, enc39_cons]
theorem enc39_drop (l : List S39) (i : Nat) : (enc39 l).drop (i * 2) = enc39 (l.drop i) := by
  induction i generalizing l with
  | zero => simp [enc39]
  | succ i ih =>
    cases l with
    | nil => simp [enc39]
    | cons x l => rw [show (i + 1) * 2 = i * 2 + 2 by omega, enc39_cons, List.drop_succ_cons, List.drop_succ_cons, ih, List.drop_succ_cons]
theorem enc39_one (l : List S39) : ∀ v ∈ enc39 l, v.oneCell' = true := by
  intro v hv
  simp only [enc39, List.mem_flatMap] at hv
  obtain ⟨x, _, hx⟩ := hv
  simp at hx
  rcases hx with rfl | rfl <;> rfl
theorem enc39_at (l : List S39) (j : Nat) (x : S39) (h : l[j]? = some x) : ((enc39 l).drop (j * 2)).take 2 = [.int .i64 x.f0, .int .i64 x.f1] := by
  rw [enc39_drop]
  have hj := (List.getElem?_eq_some_iff.1 h)
  obtain ⟨hj, he⟩ := hj
  rw [List.drop_eq_getElem_cons hj, he, enc39_cons]
  simp
theorem enc39_reps (w : World) (base : Nat) (ok : Nat → Prop) (l : List S39) : Reps (k39.M w base ok) 2 l (enc39 l) :=
  ⟨enc39_length l, fun j x h => by rw [enc39_at l j x h]; exact k39_mkM w base ok x⟩
theorem reps_enc39 {w : World} {base : Nat} {ok : Nat → Prop} {l : List S39} {cs : List Value} (h : Reps (k39.M w base ok) 2 l cs) : cs = enc39 l := by
  have key : ∀ (n : Nat) (l : List S39) (cs : List Value), l.length = n → Reps (k39.M w base ok) 2 l cs → cs = enc39 l := by
    intro n
    induction n with
    | zero =>
      intro l cs hl h
      have := h.1
      rw [hl] at this
      rw [List.length_eq_zero_iff.1 hl]
      exact List.length_eq_zero_iff.1 (by omega)
    | succ n ih =>
      intro l cs hl h
      cases l with
      | nil => cases hl
      | cons x l =>
        have h0 := h.2 0 x rfl
        rw [Nat.zero_mul, List.drop_zero] at h0
        have h0 := k39_openM h0
        have h1 := ih l (cs.drop 2) (by simpa using hl) ⟨by rw [List.length_drop, h.1, List.length_cons]; omega, fun j y hy => by
          have := h.2 (j + 1) y (by simpa using hy)
          rw [List.drop_drop, show 2 + j * 2 = (j + 1) * 2 by omega]
          exact this⟩
        rw [← List.take_append_drop 2 cs, h0, h1, enc39_cons]
        rfl
  exact key l.length l cs rfl h
theorem open39 {w : World} {base : Nat} {ok : Nat → Prop} {v : Value} {l : List S39} (h : Kd.R k39 39 w base ok v l) (hp : 0 < l.length) :
    ∃ g cap cur, v = .slice (some ⟨g, 0, none⟩) l.length cap ∧ ok g ∧ base ≤ g ∧ w.heap[g]? = some (.cells cur 39 (0, 0)) ∧ l.length ≤ cap ∧ cap ≤ maxLen ∧ cur.size = cap * 2 ∧ cur.toList.take (l.length * 2) = enc39 l := by
  obtain ⟨h0, inner, ⟨hl, hr⟩, hrep⟩ := h
  rcases hr with ⟨_, hn⟩ | ⟨g, cap, cur, hv, hg, hh, hc, hm, hs, ht⟩
  · omega
  · exact ⟨g, cap, cur, hv, h0 g (by rw [hv]; rfl), hg, hh, hc, hm, hs, by rw [← reps_enc39 hrep]; exact ht⟩
theorem close39 {w : World} {base : Nat} {ok : Nat → Prop} {l : List S39} {g n cap : Nat} {cur : Array Value} (hok : ok g) (hg : base ≤ g) (hh : w.heap[g]? = some (.cells cur 39 (0, 0))) (hn : n = l.length) (hc : n ≤ cap) (hm : cap ≤ maxLen) (hs : cur.size = cap * 2) (ht : cur.toList.take (n * 2) = enc39 l) :
    Kd.R k39 39 w base ok (.slice (some ⟨g, 0, none⟩) n cap) l := by
  subst hn
  refine ⟨fun k hk => ?_, enc39 l, ⟨enc39_length l, .inr ⟨g, cap, cur, rfl, hg, hh, hc, hm, hs, ht⟩⟩, enc39_reps _ _ _ _⟩
  have : g = k := by simpa [Value.ownBlock] using hk
  subst this
  exact hok

theorem run_copy_row_sz {P : Program} (w : World) (dT sT ty elem : TypeId) (sz g o dLen dCap : Nat) (a : Addr) (sLen sCap : Nat) (cur : Array Value) (t : TypeId) (cs : List Value)
    (hu : P.underlying dT = some (.slice elem)) (hs : (P.info? elem).map (·.size) = some sz)
    (hg : w.heap[g]? = some (.cells cur t (0, 0))) (hn : cs.length = Nat.min sLen dLen * sz)
    (hsrc : ∀ j v, cs[j]? = some v → w.cell? (a.add j) = some v) (hfit : o + cs.length ≤ cur.size) (h1 : ∀ v ∈ cs, v.oneCell' = true) :
    (Builtin.copy_ #[dT, sT] ty #[.slice (some ⟨g, o, none⟩) dLen dCap, .slice (some a) sLen sCap]).run P w =
      .ok (goInt (Nat.min sLen dLen : Nat)) (w.setRow g (cur.toList.take o ++ cs ++ cur.toList.drop (o + cs.length)).toArray) := by
  have hf := run_firstCells_some (P := P) w sz (Nat.min sLen dLen) a sLen sCap cs hn hsrc
  have hst := run_storeCells_at P g o t cs 0 cur w hg (by simpa using hfit) h1
  cases hq : P.info? elem with
  | none => simp [hq] at hs
  | some i =>
    have hi : i.size = sz := by simpa [hq] using hs
    simp only [Builtin.firstCells] at hf
    simp [Builtin.copy_, run_underlying hu, Builtin.lenOf, Builtin.firstCells, sizeOf, typeInfo, hq, hi, hf, hst]
theorem cell_of_row {w : World} {g : Nat} {cur : Array Value} {t : TypeId} {fr : Nat × Nat} (hg : w.heap[g]? = some (.cells cur t fr)) (j : Nat) : w.cell? ⟨g, j, none⟩ = cur.toList[j]? := by
  simp [World.cell?, hg]
theorem take_sandwich {α : Type} (A B R : List α) (m : Nat) : (A ++ B ++ R).take (A.length + B.length + m) = A ++ B ++ R.take m := by
  rw [← List.length_append, List.take_append, List.take_of_length_le (by omega)]
  congr 2
  omega
theorem pn22 : Try.prog.underlying 22 = some (.slice 39) := by kernel_rfl
theorem pn3 : Try.prog.underlying 3 = some (.int .i64) := by kernel_rfl
theorem pi39 : ∃ i, Try.prog.info? 39 = some i ∧ i.size = 2 ∧ i.bytes = 16 ∧ i.zero = some (.agg #[.int .i64 0, .int .i64 0]) := ⟨_, rfl, rfl, rfl, rfl⟩
theorem ps39 : (Try.prog.info? 39).map (·.size) = some 2 := rfl

set_option maxHeartbeats 4000000 in
set_option maxRecDepth 100000 in
theorem ins_shift (g n c i vb vc : Nat) (cur vcur : Array Value) (cs vs : List Value) (w : World) (hi : i < n) (hroom : n + 1 ≤ c) (hc63 : c ≤ 9223372036854775807) (hvb : vb ≠ g)
    (hg : w.heap[g]? = some (.cells cur 39 (0, 0))) (hsz : cur.size = c * 2) (hcs : cur.toList.take (n * 2) = cs)
    (hv : w.heap[vb]? = some (.cells vcur 39 (0, 0))) (hvs : vcur.toList.take 2 = vs) (hvz : vs.length = 2) (h1c : ∀ v ∈ cs, v.oneCell' = true) (h1v : ∀ v ∈ vs, v.oneCell' = true) :
    Calls Try.prog 40 #[.slice (some ⟨g, 0, none⟩) n c, .int .i64 i, .slice (some ⟨vb, 0, none⟩) 1 vc] w fun e w' =>
      e = .returned (.slice (some ⟨g, 0, none⟩) (n + 1) c) ∧ ∃ cur2 : List Value, w' = w.drew.setRow g cur2.toArray ∧ cur2.length = c * 2 ∧ cur2.take ((n + 1) * 2) = cs.take (i * 2) ++ vs ++ cs.drop (i * 2) := by
  have hcl : cs.length = n * 2 := by rw [← hcs, List.length_take, Array.length_toList, hsz]; omega
  have hz2 : ¬ ((i : Int) = (n : Int)) := by omega
  have hov : ∀ lb cb, (callFunc 43 #[.slice (some ⟨vb, 0, none⟩) 1 vc, .slice (some ⟨g, (i + 1) * 2, none⟩) lb cb]).run Try.prog w = .ok (.value (.bool false)) w := fun lb cb => by
    rw [run_callFunc_extern (P := Try.prog) (f := 43) Try.func43 (by kernel_rfl) (by kernel_rfl) (by kernel_rfl) (e := Extern.SlicesOverlaps.overlaps #[22, 22] #[4]) (by kernel_rfl),
      Lib.run_overlaps_apart w 22 4 39 pn22 2 (fun _ => rfl) ⟨vb, 0, none⟩ ⟨g, (i + 1) * 2, none⟩ 1 vc lb cb hvb 39 39 vcur.size cur.size (by simp [World.shape?, hv]) (by simp [World.shape?, hg]) (by omega) (by simp [World.frozen?, hv]) (by simp [World.frozen?, hv])]
    rfl
  have hdl : (cs.drop (i * 2)).length = (n - i) * 2 := by rw [List.length_drop, hcl]; omega
  have hw1 : IntKind.i64.wrap ((i : Int) + 1) = (i : Int) + 1 := by rw [IntKind.wrap_i64]; omega
  have hw2 : IntKind.i64.wrap ((n : Int) + 1) = (n : Int) + 1 := by rw [IntKind.wrap_i64]; omega
  have hb1 : (0 : Int) ≤ (i : Int) + 1 := by omega
  have hin : i ≤ n := by omega
  have htn : ((i : Int) + 1).toNat = i + 1 := by omega
  have hb2 : ¬ (c = i + 1) := by omega
  have hb3 : (i : Int) ≤ (n : Int) + 1 := by omega
  have hb4 : ¬ (c = i) := by omega
  obtain ⟨cur1, hcur1⟩ : ∃ cur1 : Array Value, cur1 = (cur.toList.take ((i + 1) * 2) ++ cs.drop (i * 2) ++ cur.toList.drop ((i + 1) * 2 + (cs.drop (i * 2)).length)).toArray := ⟨_, rfl⟩
  have hcp1 : ∀ ty dc sc, (Builtin.copy_ #[22, 22] ty #[.slice (some ⟨g, (i + 1) * 2, none⟩) (n - i) dc, .slice (some ⟨g, i * 2, none⟩) (n + 1 - i) sc]).run Try.prog w.drew = .ok (goInt (Nat.min (n + 1 - i) (n - i) : Nat)) (w.drew.setRow g cur1) := fun ty dc sc => by
    rw [hcur1]
    exact run_copy_row_sz (P := Try.prog) w.drew 22 22 ty 39 2 g ((i + 1) * 2) _ dc ⟨g, i * 2, none⟩ _ sc cur 39 (cs.drop (i * 2)) pn22 ps39 hg (by rw [hdl]; simp only [Nat.min_def]; split <;> omega)
      (fun j v hj => by
        rw [Addr.add_lit, show w.drew.cell? ⟨g, i * 2 + j, none⟩ = _ from cell_of_row (w := w.drew) hg _]
        rw [List.getElem?_drop, ← hcs, List.getElem?_take] at hj
        split at hj
        · exact hj
        · cases hj)
      (by rw [hdl, hsz]; omega) (fun v hv => h1c v (List.mem_of_mem_drop hv))
  have hl1 : cur1.size = c * 2 := by
    rw [hcur1]
    simp only [List.size_toArray, List.length_append, List.length_take, List.length_drop, Array.length_toList, hsz, hcl]
    omega
  have hcp2 : ∀ (W : World), W.heap[g]? = some (.cells cur1 39 (0, 0)) → W.heap[vb]? = some (.cells vcur 39 (0, 0)) → ∀ ty dc, (Builtin.copy_ #[22, 22] ty #[.slice (some ⟨g, i * 2, none⟩) (n + 1 - i) dc, .slice (some ⟨vb, 0, none⟩) 1 vc]).run Try.prog W = .ok (goInt (Nat.min 1 (n + 1 - i) : Nat)) (W.setRow g (cur1.toList.take (i * 2) ++ vs ++ cur1.toList.drop (i * 2 + vs.length)).toArray) := fun W hWg hWv ty dc =>
    run_copy_row_sz (P := Try.prog) W 22 22 ty 39 2 g (i * 2) _ dc ⟨vb, 0, none⟩ 1 vc cur1 39 vs pn22 ps39 hWg (by rw [hvz]; simp only [Nat.min_def]; split <;> omega)
      (fun j v hj => by
        rw [Addr.add_lit, cell_of_row hWv, Nat.zero_add]
        rw [← hvs, List.getElem?_take] at hj
        split at hj
        · exact hj
        · cases hj)
      (by rw [hvz, hl1]; omega) h1v
  have hgw : (w.drew.setRow g cur1).heap[g]? = some (.cells cur1 39 (0, 0)) := setRow_heap w.drew g cur _ 39 _ hg
  have hvw : (w.drew.setRow g cur1).heap[vb]? = some (.cells vcur 39 (0, 0)) := by rw [setRow_other w.drew g vb _ hvb]; exact hv
  have hfin : ∃ cur2 : List Value, (w.drew.setRow g cur1).setRow g (cur1.toList.take (i * 2) ++ vs ++ cur1.toList.drop (i * 2 + vs.length)).toArray = w.drew.setRow g cur2.toArray ∧ cur2.length = c * 2 ∧ cur2.take ((n + 1) * 2) = cs.take (i * 2) ++ vs ++ cs.drop (i * 2) := by
    refine ⟨_, setRow_setRow _ _ _ _, ?_, ?_⟩
    · simp only [List.length_append, List.length_take, List.length_drop, Array.length_toList, hl1, hvz]; omega
    · have e1 : cur1.toList.take (i * 2) = cs.take (i * 2) := by
        rw [hcur1, ← hcs]
        simp only [List.append_assoc]
        rw [List.take_append_of_le_length (by rw [List.length_take, Array.length_toList, hsz]; omega), List.take_take, List.take_take]
        congr 1
        omega
      have e2 : (cur1.toList.drop (i * 2 + vs.length)).take ((n - i) * 2) = cs.drop (i * 2) := by
        rw [hcur1, hvz, show i * 2 + 2 = (i + 1) * 2 by omega]
        simp only [List.append_assoc]
        rw [List.drop_append_of_le_length (by rw [List.length_take, Array.length_toList, hsz]; omega)]
        rw [List.drop_eq_nil_of_le (by rw [List.length_take]; omega), List.nil_append, ← hdl, List.take_left]
      have hA : (cs.take (i * 2)).length = i * 2 := by rw [List.length_take, hcl]; omega
      rw [e1, show (n + 1) * 2 = (cs.take (i * 2)).length + vs.length + (n - i) * 2 by rw [hA, hvz]; omega, take_sandwich, e2]
  clear hcs hcur1 hl1 hdl hcl
  go_enter Try.func40, Try.ntmps40
  go_wp2_with (simp only [hov])
  go_region_law (refine step_copy_runI rfl _ _ 22 22 rfl _ _ (by simp [Act.eval, Act.put]) (by simp [Act.eval, Act.put]) (hcp1 _ _ _) ?_)
  go_wp2_with (at_builtin; refine wpList_copy_runI _ rfl _ _ 22 22 rfl _ _ rfl rfl (hcp2 _ hgw hvw _ _) ?_)
  go_ret
  exact ⟨rfl, by simpa only [List.append_assoc, hvz] using hfin⟩

set_option maxHeartbeats 4000000 in
set_option maxRecDepth 100000 in
theorem ins_end_room (g n c vb vc : Nat) (cur vcur : Array Value) (vs : List Value) (w : World) (hroom : n + 1 ≤ c) (hc63 : c ≤ 9223372036854775807)
    (hg : w.heap[g]? = some (.cells cur 39 (0, 0))) (hsz : cur.size = c * 2)
    (hv : w.heap[vb]? = some (.cells vcur 39 (0, 0))) (hvs : vcur.toList.take 2 = vs) (hvz : vs.length = 2) (h1v : ∀ v ∈ vs, v.oneCell' = true) :
    Calls Try.prog 40 #[.slice (some ⟨g, 0, none⟩) n c, .int .i64 n, .slice (some ⟨vb, 0, none⟩) 1 vc] w fun e w' =>
      e = .returned (.slice (some ⟨g, 0, none⟩) (n + 1) c) ∧ w' = w.setRow g (cur.toList.take (n * 2) ++ vs ++ cur.toList.drop (n * 2 + 2)).toArray := by
  obtain ⟨i0, hi0, hzs, hzb, hz0⟩ := pi39
  have hrun : ∀ ty, (Builtin.append_ #[22, 22] ty #[.slice (some ⟨g, 0, none⟩) n c, .slice (some ⟨vb, 0, none⟩) 1 vc]).run Try.prog w = .ok (.slice (some ⟨g, 0, none⟩) (n + 1) c) (w.setRow g (cur.toList.take (n * 2) ++ vs ++ cur.toList.drop (n * 2 + 2)).toArray) := fun ty => by
    have h := run_append_room (P := Try.prog) (w := w) 22 ty 39 i0 pn22 hi0 g n c cur hg ⟨vb, 0, none⟩ 1 vc vs (by rw [hvz, hzs]) (fun j u hj => by
        rw [Addr.add_lit, cell_of_row hv, Nat.zero_add]
        rw [← hvs, List.getElem?_take] at hj
        split at hj
        · exact hj
        · cases hj) h1v hroom (by rw [hzs, hvz, hsz]; omega)
    rw [hzs, hvz] at h
    exact h
  have hw1 : n ≤ c := by omega
  clear hz0 hzb hzs hi0
  go_enter Try.func40, Try.ntmps40
  go_wp2_with (at_builtin; refine Lib.wpList_append_run _ rfl _ _ _ _ rfl _ _ rfl rfl _ _ (hrun _) ?_)
  go_ret
  first | exact ⟨rfl, rfl⟩ | simp

set_option maxHeartbeats 4000000 in
set_option maxRecDepth 100000 in
theorem ins_end_grow (g n c vb vc : Nat) (cur vcur : Array Value) (cs vs : List Value) (w : World) (hnc : n ≤ c) (hroom : c < n + 1) (hbig : (n + 1) * 16 ≤ 140737488355328)
    (hg : w.heap[g]? = some (.cells cur 39 (0, 0))) (hsz : cur.size = c * 2) (hcs : cur.toList.take (n * 2) = cs)
    (hv : w.heap[vb]? = some (.cells vcur 39 (0, 0))) (hvs : vcur.toList.take 2 = vs) (hvz : vs.length = 2) (h1v : ∀ v ∈ vs, v.oneCell' = true) :
    Calls Try.prog 40 #[.slice (some ⟨g, 0, none⟩) n c, .int .i64 n, .slice (some ⟨vb, 0, none⟩) 1 vc] w fun e w' =>
      e = .returned (.slice (some ⟨w.heap.size, 0, none⟩) (n + 1) (grownCap w (n + 1) c 39)) ∧
      w' = w.drew.alloc (.cells ((cs ++ vs).toArray ++ Builtin.zeroCells #[.int .i64 0, .int .i64 0] (grownCap w (n + 1) c 39 - (n + 1))) 39) := by
  obtain ⟨i0, hi0, hzs, hzb, hz0⟩ := pi39
  have hcl : cs.length = n * 2 := by rw [← hcs, List.length_take, Array.length_toList, hsz]; omega
  have hold : (Builtin.firstCells i0.size n (.slice (some ⟨g, 0, none⟩) n c)).run Try.prog w.drew = .ok cs.toArray w.drew := by
    rw [hzs]
    exact run_firstCells_some w.drew 2 n ⟨g, 0, none⟩ n c cs hcl (fun j v hj => by
      rw [Addr.add_lit, show w.drew.cell? ⟨g, 0 + j, none⟩ = _ from cell_of_row (w := w.drew) hg _, Nat.zero_add]
      rw [← hcs, List.getElem?_take] at hj
      split at hj
      · exact hj
      · cases hj)
  have hsrc : Src Try.prog i0.size 22 (.slice (some ⟨vb, 0, none⟩) 1 vc) 1 vs w := by
    rw [hzs]
    exact Src.ofSlice w pn22 ⟨vb, 0, none⟩ 1 vc vs (by omega) (fun j u hj => by
      rw [Addr.add_lit, cell_of_row hv, Nat.zero_add]
      rw [← hvs, List.getElem?_take] at hj
      split at hj
      · exact hj
      · cases hj) h1v
  have hrun : ∀ ty, (Builtin.append_ #[22, 22] ty #[.slice (some ⟨g, 0, none⟩) n c, .slice (some ⟨vb, 0, none⟩) 1 vc]).run Try.prog w = .ok (.slice (some ⟨w.heap.size, 0, none⟩) (n + 1) (grownCap w (n + 1) c 39)) (w.drew.alloc (.cells ((cs ++ vs).toArray ++ Builtin.zeroCells #[.int .i64 0, .int .i64 0] (grownCap w (n + 1) c 39 - (n + 1))) 39)) := fun ty =>
    run_append_grow_src w 22 22 ty 39 i0 _ pn22 hi0 hz0 (some ⟨g, 0, none⟩) n c cs hold _ 1 vs hsrc hroom (by omega) (by rw [hzb]; exact growslice_fits hroom hbig)
  clear hz0 hzb hzs hi0 hold hsrc hcs hcl
  go_enter Try.func40, Try.ntmps40
  go_wp2_with (at_builtin; refine Lib.wpList_append_run _ rfl _ _ _ _ rfl _ _ rfl rfl _ _ (hrun _) ?_)
  go_ret
  first | exact ⟨rfl, rfl⟩ | simp

set_option maxHeartbeats 4000000 in
set_option maxRecDepth 100000 in
theorem ins_grow (g n c i vb vc : Nat) (cur vcur : Array Value) (cs vs : List Value) (w : World) (hi : i < n) (hnc : n ≤ c) (hroom : c < n + 1) (hbig : (n + 1) * 16 ≤ 140737488355328)
    (hg : w.heap[g]? = some (.cells cur 39 (0, 0))) (hsz : cur.size = c * 2) (hcs : cur.toList.take (n * 2) = cs)
    (hv : w.heap[vb]? = some (.cells vcur 39 (0, 0))) (hvs : vcur.toList.take 2 = vs) (hvz : vs.length = 2) (h1c : ∀ v ∈ cs, v.oneCell' = true) (h1v : ∀ v ∈ vs, v.oneCell' = true) :
    Calls Try.prog 40 #[.slice (some ⟨g, 0, none⟩) n c, .int .i64 i, .slice (some ⟨vb, 0, none⟩) 1 vc] w fun e w' =>
      e = .returned (.slice (some ⟨w.heap.size, 0, none⟩) (n + 1) (grownCap w (n + 1) c 39)) ∧
      ∃ (row : Array Value) (r1 r2 : List Value), w' = (((w.alloc (.cells row 39)).drew.setRow w.heap.size r1.toArray).drew).setRow w.heap.size r2.toArray ∧ r2.length = grownCap w (n + 1) c 39 * 2 ∧ r2.take ((n + 1) * 2) = cs.take (i * 2) ++ vs ++ cs.drop (i * 2) := by
  obtain ⟨i0, hi0, hzs, hzb, hz0⟩ := pi39
  have hcl : cs.length = n * 2 := by rw [← hcs, List.length_take, Array.length_toList, hsz]; omega
  have hz2 : ¬ ((i : Int) = (n : Int)) := by omega
  have hz3 : (c : Int) < (n : Int) + 1 := by omega
  have hbw : g < w.heap.size := (Array.getElem?_eq_some_iff.1 hg).1
  have hvw : vb < w.heap.size := (Array.getElem?_eq_some_iff.1 hv).1
  have hkk : (n : Int) + 1 - (i : Int) = ((n + 1 - i : Nat) : Int) := by omega
  have hik : i + (n + 1 - i) = n + 1 := by omega
  have htl : (cs.take (i * 2)).length = i * 2 := by rw [List.length_take, hcl]; omega
  have hold : (Builtin.firstCells i0.size i (.slice (some ⟨g, 0, none⟩) i c)).run Try.prog w.drew = .ok (cs.take (i * 2)).toArray w.drew := by
    rw [hzs]
    exact run_firstCells_some w.drew 2 i ⟨g, 0, none⟩ i c (cs.take (i * 2)) htl (fun j v hj => by
      rw [Addr.add_lit, show w.drew.cell? ⟨g, 0 + j, none⟩ = _ from cell_of_row (w := w.drew) hg _, Nat.zero_add]
      rw [← hcs, List.getElem?_take, List.getElem?_take] at hj
      split at hj
      · split at hj
        · exact hj
        · cases hj
      · cases hj)
  obtain ⟨G, hG⟩ : ∃ G, G = grownCap w (n + 1) c 39 := ⟨_, rfl⟩
  obtain ⟨ROW, hROW⟩ : ∃ ROW : Array Value, ROW = (cs.take (i * 2)).toArray ++ Builtin.zeroCells #[.int .i64 0, .int .i64 0] (n + 1 - i) ++ Builtin.zeroCells #[.int .i64 0, .int .i64 0] (G - (n + 1)) := ⟨_, rfl⟩
  have hGn : n + 1 ≤ G := by rw [hG]; exact grownCap_ge w _ _ _
  have hG63 : G ≤ 9223372036854775807 := by
    have := grownCap_le_maxLen w (n + 1) c 39 (by unfold maxLen; omega)
    rw [← hG] at this
    unfold maxLen at this
    omega
  have hRl : ROW.size = G * 2 := by
    rw [hROW]
    simp [Builtin.zeroCells, htl]
    omega
  have hrz : ∀ ty, (Builtin.append_ #[22, 3] ty #[.slice (some ⟨g, 0, none⟩) i c, .int .i64 ((n : Int) + 1 - (i : Int))]).run Try.prog w =
      .ok (.slice (some ⟨w.heap.size, 0, none⟩) (n + 1) G) (w.drew.alloc (.cells ROW 39)) := fun ty => by
    have h := Lib.run_append_grow_zeros w 22 3 ty 39 i0 _ .i64 .i64 pn22 pn3 hi0 hz0 (some ⟨g, 0, none⟩) i c (cs.take (i * 2)) hold (n + 1 - i) (by omega) (by omega) (by omega) (by omega) (by rw [hzb]; omega) (by rw [hzb, hik]; exact growslice_fits hroom hbig)
    rw [hik] at h
    rw [hkk, hROW, hG]
    exact h
  obtain ⟨r1, hr1⟩ : ∃ r1 : List Value, r1 = ROW.toList.take (i * 2) ++ vs ++ ROW.toList.drop (i * 2 + vs.length) := ⟨_, rfl⟩
  have hr1l : r1.length = G * 2 := by
    rw [hr1]; simp only [List.length_append, List.length_take, List.length_drop, Array.length_toList, hRl, hvz]; omega
  have hcpA : ∀ (W : World), W.heap[w.heap.size]? = some (.cells ROW 39 (0, 0)) → W.heap[vb]? = some (.cells vcur 39 (0, 0)) → ∀ ty dc, (Builtin.copy_ #[22, 22] ty #[.slice (some ⟨w.heap.size, i * 2, none⟩) (n + 1 - i) dc, .slice (some ⟨vb, 0, none⟩) 1 vc]).run Try.prog W = .ok (goInt (Nat.min 1 (n + 1 - i) : Nat)) (W.setRow w.heap.size r1.toArray) := fun W hWg hWv ty dc => by
    rw [hr1]
    exact run_copy_row_sz (P := Try.prog) W 22 22 ty 39 2 w.heap.size (i * 2) _ dc ⟨vb, 0, none⟩ 1 vc ROW 39 vs pn22 ps39 hWg (by rw [hvz]; simp only [Nat.min_def]; split <;> omega)
      (fun j v hj => by
        rw [Addr.add_lit, cell_of_row hWv, Nat.zero_add]
        rw [← hvs, List.getElem?_take] at hj
        split at hj
        · exact hj
        · cases hj)
      (by rw [hvz, hRl]; omega) h1v
  have hGi : ¬ (G = i) := by omega
  have hGim : ¬ (G = i + 1) := by omega
  have hci : ¬ (c = i) := by omega
  have hbN : g ≠ w.heap.size := by omega
  have hvN : vb ≠ w.heap.size := by omega
  have hdl : (cs.drop (i * 2)).length = (n - i) * 2 := by rw [List.length_drop, hcl]; omega
  obtain ⟨r2, hr2⟩ : ∃ r2 : List Value, r2 = r1.take ((i + 1) * 2) ++ cs.drop (i * 2) ++ r1.drop ((i + 1) * 2 + (cs.drop (i * 2)).length) := ⟨_, rfl⟩
  have hcpB : ∀ (W : World), W.heap[w.heap.size]? = some (.cells r1.toArray 39 (0, 0)) → W.heap[g]? = some (.cells cur 39 (0, 0)) → ∀ ty dc sc, (Builtin.copy_ #[22, 22] ty #[.slice (some ⟨w.heap.size, (i + 1) * 2, none⟩) (n - i) dc, .slice (some ⟨g, i * 2, none⟩) (n - i) sc]).run Try.prog W = .ok (goInt (Nat.min (n - i) (n - i) : Nat)) (W.setRow w.heap.size r2.toArray) := fun W hWg hWo ty dc sc => by
    have h := run_copy_row_sz (P := Try.prog) W 22 22 ty 39 2 w.heap.size ((i + 1) * 2) (n - i) dc ⟨g, i * 2, none⟩ (n - i) sc r1.toArray 39 (cs.drop (i * 2)) pn22 ps39 hWg (by rw [hdl]; simp only [Nat.min_def]; split <;> omega)
      (fun j v hj => by
        rw [Addr.add_lit, cell_of_row hWo]
        rw [List.getElem?_drop, ← hcs, List.getElem?_take] at hj
        split at hj
        · exact hj
        · cases hj)
      (by rw [hdl]; simp only [List.size_toArray]; rw [hr1l]; omega) (fun v hv => h1c v (List.mem_of_mem_drop hv))
    rw [hr2]
    simpa using h
  have hfin : r2.length = G * 2 ∧ r2.take ((n + 1) * 2) = cs.take (i * 2) ++ vs ++ cs.drop (i * 2) := by
    have e1 : ROW.toList.take (i * 2) = cs.take (i * 2) := by
      rw [hROW]
      simp only [Array.toList_append, List.append_assoc]
      rw [List.take_append_of_le_length (by rw [htl]; exact Nat.le_refl _), List.take_take, Nat.min_self]
    have e2 : r1.take ((i + 1) * 2) = cs.take (i * 2) ++ vs := by
      rw [hr1, e1, show (i + 1) * 2 = (cs.take (i * 2) ++ vs).length by rw [List.length_append, htl, hvz]; omega, List.take_left]
    have e3 : (cs.take (i * 2) ++ vs).length = (i + 1) * 2 := by rw [List.length_append, htl, hvz]; omega
    refine ⟨?_, ?_⟩
    · rw [hr2, e2]; simp only [List.length_append, List.length_drop, htl, hvz, hcl, hr1l]; omega
    · rw [hr2, e2, show (n + 1) * 2 = (cs.take (i * 2) ++ vs).length + (cs.drop (i * 2)).length by rw [e3, hdl]; omega, ← List.length_append, List.take_left]
  have hE1 : ∀ (W : World), W = (w.alloc (.cells ROW 39)) ∨ W = w.drew.alloc (.cells ROW 39) ∨ W = (w.alloc (.cells ROW 39)).drew → W.heap[w.heap.size]? = some (.cells ROW 39 (0, 0)) ∧ W.heap[vb]? = some (.cells vcur 39 (0, 0)) ∧ W.heap[g]? = some (.cells cur 39 (0, 0)) := by
    intro W hW
    have hh : W.heap = (w.alloc (.cells ROW 39)).heap := by rcases hW with rfl | rfl | rfl <;> rfl
    rw [hh]
    have hh2 : (w.alloc (.cells ROW 39)).heap = w.heap.push (.cells ROW 39) := rfl
    rw [hh2]
    refine ⟨by simp, ?_, ?_⟩
    · rw [Array.getElem?_push_lt hvw]; rw [Array.getElem?_eq_getElem hvw] at hv; exact hv
    · rw [Array.getElem?_push_lt hbw]; rw [Array.getElem?_eq_getElem hbw] at hg; exact hg
  obtain ⟨f1, f2, f3⟩ := hE1 (w.alloc (.cells ROW 39)).drew (.inr (.inr rfl))
  obtain ⟨W2, hW2⟩ : ∃ W2, W2 = ((w.alloc (.cells ROW 39)).drew.setRow w.heap.size r1.toArray).drew := ⟨_, rfl⟩
  have f4 : W2.heap[w.heap.size]? = some (.cells r1.toArray 39 (0, 0)) := by
    rw [hW2]; exact setRow_heap (w.alloc (.cells ROW 39)).drew w.heap.size ROW _ 39 _ f1
  have f5 : W2.heap[g]? = some (.cells cur 39 (0, 0)) := by
    rw [hW2]; exact (setRow_other (w.alloc (.cells ROW 39)).drew w.heap.size g _ hbN).trans f3
  have hA := hcpA _ f1 f2
  have hB := hcpB _ f4 f5
  rw [hW2] at hB
  have hw1 : IntKind.i64.wrap ((i : Int) + 1) = (i : Int) + 1 := by rw [IntKind.wrap_i64]; omega
  have hw2 : IntKind.i64.wrap ((n : Int) + 1) = (n : Int) + 1 := by rw [IntKind.wrap_i64]; omega
  have hb1 : (0 : Int) ≤ (i : Int) + 1 := by omega
  have hin : i ≤ n := by omega
  have htn : ((i : Int) + 1).toNat = i + 1 := by omega
  have hb3 : (i : Int) ≤ (n : Int) := by omega
  rw [← hG]
  have hres : ∃ (row : Array Value) (q1 q2 : List Value), (((w.alloc (.cells ROW 39)).drew.setRow w.heap.size r1.toArray).drew).setRow w.heap.size r2.toArray = (((w.alloc (.cells row 39)).drew.setRow w.heap.size q1.toArray).drew).setRow w.heap.size q2.toArray ∧ q2.length = G * 2 ∧ q2.take ((n + 1) * 2) = cs.take (i * 2) ++ vs ++ cs.drop (i * 2) := ⟨ROW, r1, r2, rfl, hfin.1, hfin.2⟩
  clear hkk hik hold hROW hG hRl hcpA hcpB hr1 hr2 hr1l hfin hE1 f1 f2 f3 f4 f5 hW2 W2 hdl htl hcl hcs hi0 hzs hzb hz0
  go_enter Try.func40, Try.ntmps40
  go_wp2_with (first
    | (at_builtin; refine Lib.wpList_append_run _ rfl _ _ _ _ rfl _ _ rfl rfl _ _ (hrz _) ?_)
    | (at_builtin; refine wpList_copy_runI _ rfl _ _ 22 22 rfl _ _ rfl rfl (hA _ _) ?_)
    | (at_builtin; refine wpList_copy_runI _ rfl _ _ 22 22 rfl _ _ rfl rfl (hB _ _ _) ?_))
  go_region_law (refine step_copy_runI rfl _ _ 22 22 rfl _ _ (by simp [Act.eval, Act.put]) (by simp [Act.eval, Act.put]) (hB _ _ _) ?_)
  go_wp2
  go_ret
  exact ⟨rfl, hres⟩

def api_Level_40.f (l0 : List S39) (a1 : Int) (l2 : List S39) : Option (List S39) := if 0 < l0.length then (if l2.length = 1 then (if 0 ≤ a1 then (if a1 ≤ (l0.length : Int) then (if l0.length < 1099511627776 then some (l0.take a1.toNat ++ l2 ++ l0.drop a1.toNat) else none) else none) else none) else none) else none
theorem kept_setRow {w : World} {g : Nat} (S : Nat → Prop) (hS : S g) (cs : Array Value) : Kept w (w.setRow g cs) S :=
  ⟨by simp [World.setRow], fun k _ hn => setRow_other w g k cs (fun h => hn (h ▸ hS))⟩
theorem enc39_ins (l0 l2 : List S39) (i : Nat) : (enc39 l0).take (i * 2) ++ enc39 l2 ++ (enc39 l0).drop (i * 2) = enc39 (l0.take i ++ l2 ++ l0.drop i) := by
  rw [enc39_append, enc39_append, enc39_take, enc39_drop]
theorem len39_ins (l0 l2 : List S39) (i : Nat) (h2 : l2.length = 1) (hi : i ≤ l0.length) : l0.length + 1 = (l0.take i ++ l2 ++ l0.drop i).length := by
  rw [List.length_append, List.length_append, List.length_take, List.length_drop, h2]; omega
theorem api_Level_40.calls (P0_ : Nat → Prop) (u9000_ : Value) (l0 : List S39) (a1 : Int) (P2_ : Nat → Prop) (u9001_ : Value) (l2 : List S39) (r : List S39) (w0 w : World) (hB : Below w0.heap.size w0 w)
    (ho0 : Kd.R k39 39 w w0.heap.size P0_ u9000_ l0) (hp0_2 : ∀ k_, P0_ k_ → ¬ P2_ k_) (ho2 : Kd.R k39 39 w w0.heap.size P2_ u9001_ l2) (hp2_0 : ∀ k_, P2_ k_ → ¬ P0_ k_) (h : api_Level_40.f l0 a1 l2 = some r) :
    Calls Try.prog 40 #[u9000_, .int .i64 a1, u9001_] w fun e w' => ∃ v0_ : Value, e = .returned (v0_) ∧ Kd.R k39 39 w' w0.heap.size (fun k_ => ((P0_ k_ ∨ P2_ k_) ∨ w.heap.size ≤ k_)) v0_ r ∧ Below w0.heap.size w0 w' ∧ Kept w w' (fun k_ => P0_ k_ ∨ P2_ k_) := by
  unfold api_Level_40.f at h
  split at h
  case isFalse => cases h
  rename_i hp
  split at h
  case isFalse => cases h
  rename_i h2
  split at h
  case isFalse => cases h
  rename_i ha0
  split at h
  case isFalse => cases h
  rename_i ha1
  split at h
  case isFalse => cases h
  rename_i hbig
  obtain rfl : _ = r := by injection h
  obtain ⟨g, cap, cur, rfl, hPg, hbg, hg, hcl, hcm, hsz, hcs⟩ := open39 ho0 hp
  obtain ⟨vb, vcap, vcur, rfl, hPv, hbv, hv, hvl, hvm, hvsz, hvs⟩ := open39 ho2 (by omega)
  have hvb : vb ≠ g := fun e => hp0_2 g hPg (e ▸ hPv)
  obtain ⟨i, rfl⟩ : ∃ i : Nat, a1 = (i : Int) := ⟨a1.toNat, by omega⟩
  have hin : i ≤ l0.length := by omega
  rw [h2] at hvs hvl ⊢
  rw [Int.toNat_natCast]
  have hvz : (enc39 l2).length = 2 := by rw [enc39_length, h2]
  have hsub : w0.heap.size ≤ w.heap.size := hB.size
  have hgw : g < w.heap.size := (Array.getElem?_eq_some_iff.1 hg).1
  have hc63 : cap ≤ 9223372036854775807 := hcm
  have hins := enc39_ins l0 l2 i
  have hlen := len39_ins l0 l2 i h2 hin
  have hin2 : i = l0.length → (enc39 l0).take (i * 2) = enc39 l0 ∧ (enc39 l0).drop (i * 2) = [] := fun e => by
    rw [e, ← enc39_length, List.take_length, List.drop_length]; exact ⟨rfl, rfl⟩
  rcases Nat.lt_or_ge i l0.length with hi | hi
  · rcases Nat.lt_or_ge cap (l0.length + 1) with hr | hr
    · refine (ins_grow g l0.length cap i vb vcap cur vcur (enc39 l0) (enc39 l2) w hi hcl hr (by omega) hg hsz hcs hv hvs hvz (enc39_one l0) (enc39_one l2)).mono ?_
      rintro e w' ⟨rfl, row, r1, r2, rfl, hl2, ht2⟩
      have hcap := grownCap_le_maxLen w (l0.length + 1) cap 39 (by unfold maxLen; omega)
      have hge := grownCap_ge w (l0.length + 1) cap 39
      have hal : (w.alloc (.cells row 39)).drew.heap[w.heap.size]? = some (.cells row 39 (0, 0)) := by
        show (w.heap.push (.cells row 39))[w.heap.size]? = _
        simp
      have hh1 := setRow_heap (w.alloc (.cells row 39)).drew w.heap.size row r1.toArray 39 (0, 0) hal
      have hh2 := setRow_heap ((w.alloc (.cells row 39)).drew.setRow w.heap.size r1.toArray).drew w.heap.size r1.toArray r2.toArray 39 (0, 0) hh1
      refine ⟨_, rfl, close39 (.inr (Nat.le_refl _)) hsub hh2 hlen hge hcap (by simpa using hl2) (by rw [← hins]; exact ht2), ?_, ?_⟩
      · exact below_setRow (below_drew (below_setRow (below_drew (below_alloc hB _)) hsub _)) hsub _
      · refine ⟨?_, fun k hk _ => ?_⟩
        · simp only [World.setRow, Array.size_modify]
          show w.heap.size ≤ (Array.modify (w.heap.push _) _ _).size
          simp
        · have hne : k ≠ w.heap.size := by omega
          rw [setRow_other ((w.alloc (.cells row 39)).drew.setRow w.heap.size r1.toArray).drew w.heap.size k _ hne]
          show ((w.alloc (.cells row 39)).drew.setRow w.heap.size r1.toArray).heap[k]? = _
          rw [setRow_other (w.alloc (.cells row 39)).drew w.heap.size k _ hne]
          show (w.heap.push (.cells row 39))[k]? = _
          rw [Array.getElem?_push_lt hk, Array.getElem?_eq_getElem hk]
    · refine (ins_shift g l0.length cap i vb vcap cur vcur (enc39 l0) (enc39 l2) w hi hr hc63 hvb hg hsz hcs hv hvs hvz (enc39_one l0) (enc39_one l2)).mono ?_
      rintro e w' ⟨rfl, cur2, rfl, hl2, ht2⟩
      have hh := setRow_heap w.drew g cur cur2.toArray 39 (0, 0) hg
      refine ⟨_, rfl, close39 (.inl (.inl hPg)) hbg hh hlen hr hcm (by simpa using hl2) (by rw [← hins]; exact ht2), ?_, ?_⟩
      · exact below_setRow (below_drew hB) hbg _
      · exact kept_setRow (w := w.drew) _ (.inl hPg) _
  · obtain rfl : i = l0.length := by omega
    obtain ⟨et, ed⟩ := hin2 rfl
    rw [et, ed, List.append_nil] at hins
    rcases Nat.lt_or_ge cap (l0.length + 1) with hr | hr
    · refine (ins_end_grow g l0.length cap vb vcap cur vcur (enc39 l0) (enc39 l2) w hcl hr (by omega) hg hsz hcs hv hvs hvz (enc39_one l2)).mono ?_
      rintro e w' ⟨rfl, rfl⟩
      have hcap := grownCap_le_maxLen w (l0.length + 1) cap 39 (by unfold maxLen; omega)
      have hge := grownCap_ge w (l0.length + 1) cap 39
      have hl : (enc39 l0 ++ enc39 l2).length = (l0.length + 1) * 2 := by rw [List.length_append, enc39_length, hvz]; omega
      refine ⟨_, rfl, close39 (w := w.drew.alloc (.cells ((enc39 l0 ++ enc39 l2).toArray ++ Builtin.zeroCells #[.int .i64 0, .int .i64 0] (grownCap w (l0.length + 1) cap 39 - (l0.length + 1))) 39)) (cur := (enc39 l0 ++ enc39 l2).toArray ++ Builtin.zeroCells #[.int .i64 0, .int .i64 0] (grownCap w (l0.length + 1) cap 39 - (l0.length + 1))) (.inr (Nat.le_refl _)) hsub ?_ hlen hge hcap ?_ ?_, ?_, ?_⟩
      · show (w.heap.push _)[w.heap.size]? = _
        simp
      · simp only [Array.size_append, List.size_toArray, hl]
        simp [Builtin.zeroCells]
        omega
      · rw [← hins, Array.toList_append, ← hl, List.take_left' (by simp)]
      · exact below_alloc (below_drew hB) _
      · refine ⟨?_, fun k hk _ => ?_⟩
        · show w.heap.size ≤ (w.heap.push _).size
          simp
        · show (w.heap.push _)[k]? = _
          rw [Array.getElem?_push_lt hk, Array.getElem?_eq_getElem hk]
    · refine (ins_end_room g l0.length cap vb vcap cur vcur (enc39 l2) w hr hc63 hg hsz hv hvs hvz (enc39_one l2)).mono ?_
      rintro e w' ⟨rfl, rfl⟩
      have hh := setRow_heap w g cur (cur.toList.take (l0.length * 2) ++ enc39 l2 ++ cur.toList.drop (l0.length * 2 + 2)).toArray 39 (0, 0) hg
      refine ⟨_, rfl, close39 (.inl (.inl hPg)) hbg hh hlen hr hcm ?_ ?_, below_setRow hB hbg _, kept_setRow _ (.inl hPg) _⟩
      · simp only [List.size_toArray, List.length_append, List.length_take, List.length_drop, Array.length_toList, hsz, hvz]; omega
      · rw [← hins, hcs]
        have hl : (enc39 l0 ++ enc39 l2).length = (l0.length + 1) * 2 := by rw [List.length_append, enc39_length, hvz]; omega
        rw [← hl, List.take_left]

/-! ### profile_cut: function 34 -/
def profile_cut.f (k : Nat) (l0 : List (S39)) (a1 : Int) : Option ((List (S39)) × Int) := (profile_find.f k l0 a1).bind fun t119 => (if 0 ≤ t119 then (if t119 < (l0.length : Int) then (if ((rd_T39 l0 t119).f0) = a1 then (some (l0, t119)) else ((api_Level_40.f l0 (wrap64 (t119 + 1)) (([(⟨a1, (rd_T39 l0 t119).f1⟩ : S39)] : List (S39)))).bind fun t125 => (some (t125, wrap64 (t119 + 1))))) else (none)) else (none))
theorem profile_cut.mono : ∀ a0 a1 k, LeO (profile_cut.f k a0 a1) (profile_cut.f (k + 1) a0 a1) := by
  intro a0 a1 k
  unfold profile_cut.f
  repeat' first
      | (with_reducible exact profile_find.mono _ _ _)
      | (with_reducible exact LeO.refl _)
      | (with_reducible exact LeO.none _)
      | (with_reducible refine LeO.ite ?_ ?_)
      | (with_reducible refine LeO.bind ?_ (fun _ => ?_))
      | exact profile_find.mono _ _ _
      | exact LeO.none _
      | refine LeO.ite ?_ ?_
      | refine LeO.bind ?_ (fun _ => ?_)
set_option maxHeartbeats 8000000 in
set_option maxRecDepth 100000 in
theorem profile_cut.calls (k : Nat) (P0_ : Nat → Prop) (u9000_ : Value) (l0 : List (S39)) (a1 : Int) (r1 : List (S39)) (r2 : Int) (w0 w : World) (hB : Below w0.heap.size w0 w) (ho0 : Kd.R k39 39 w w0.heap.size P0_ u9000_ l0) (h : profile_cut.f k l0 a1 = some (r1, r2)) :
    Calls Try.prog 34 #[u9000_, .int .i64 a1] w fun e w' => ∃ v0_ : Value, e = .returned (.tuple #[v0_, .int .i64 r2]) ∧ Kd.R k39 39 w' w0.heap.size (fun k_ => (P0_ k_ ∨ w.heap.size ≤ k_)) v0_ r1 ∧ Below w0.heap.size w0 w' ∧ Kept w w' (fun k_ => P0_ k_) := by
  have hu39 := Try.underlying39
  have HO0 := Aside0.mk (show Kd.R k39 39 w w0.heap.size (fun k_ => (P0_ k_ ∨ w.heap.size ≤ k_)) u9000_ l0 from Kd.R_mono ho0 (fun k_ hk => (.inl hk)))
  have HK := Aside0.mk (Kept.refl w (fun k_ => P0_ k_))
  have HW0 := Aside0.mk hB.size
  have HB := Aside0.mk hB
  clear hB
  have H : ((profile_find.f k l0 a1).bind fun t119 => (if 0 ≤ t119 then (if t119 < (l0.length : Int) then (if ((rd_T39 l0 t119).f0) = a1 then (some (l0, t119)) else ((api_Level_40.f l0 (wrap64 (t119 + 1)) (([(⟨a1, (rd_T39 l0 t119).f1⟩ : S39)] : List (S39)))).bind fun t125 => (some (t125, wrap64 (t119 + 1))))) else (none)) else (none))) = some (r1, r2) := h
  clear h
  replace H := Option.bind_eq_some_iff.mp H
  obtain ⟨t119, A30, H⟩ := H
  replace H : (if 0 ≤ t119 then (if t119 < (l0.length : Int) then (if ((rd_T39 l0 t119).f0) = a1 then (some (l0, t119)) else ((api_Level_40.f l0 (wrap64 (t119 + 1)) (([(⟨a1, (rd_T39 l0 t119).f1⟩ : S39)] : List (S39)))).bind fun t125 => (some (t125, wrap64 (t119 + 1))))) else (none)) else (none)) = some (r1, r2) := H
  have A3 := Aside0.mk A30
  clear A30
  by_cases c4 : 0 ≤ t119
  · rw [if_pos c4] at H
    have c4b0 : decide (0 ≤ t119) = true := decide_eq_true c4
    clear c4
    by_cases c5 : t119 < (l0.length : Int)
    · rw [if_pos c5] at H
      have c5b0 : decide (t119 < (l0.length : Int)) = true := decide_eq_true c5
      clear c5
      by_cases c6 : ((rd_T39 l0 t119).f0) = a1
      · rw [if_pos c6] at H
        have c6b0 : (((rd_T39 l0 t119).f0) == a1) = true := beq_iff_eq.mpr c6
        have c6b1 : (((rd_T39 l0 t119).f0) != a1) = false := bne_eq_false_iff_eq.mpr c6
        clear c6
        simp only [Option.some.injEq, Prod.mk.injEq] at H
        obtain ⟨rfl, rfl⟩ := H
        obtain ⟨Ao7, co7, eo7⟩ := Kd.R_slice HO0.out
        subst eo7
        go_enter Try.func34, Try.ntmps34
        go_wp2_with (first | ((with_reducible refine gate_callee (f := 32) rfl ?_); refine goesL_ (some 9) rfl rfl Try.func32 (by kernel_rfl) rfl #[.slice Ao7 l0.length co7, .int .i64 a1] rfl (by (try simp only [List.map_toArray, List.map_cons, List.map_nil]); first | done | rfl | (simp only [List.length_drop, List.length_take]; rfl)) ?_; (with_reducible refine (profile_find.calls k _ _ l0 a1 t119 _ ?side1 ?side2 A3.out).mono ?_); (case side1 => repeat (first | exact (Kd.R_reads' HO0.out).2.2 | (with_reducible refine Kd.C_alloc ?_ _) | (with_reducible refine Kd.C_drewN ?_ _) | (with_reducible refine Kd.C_drew ?_))); (case side2 => exact (Kd.R_reads' HO0.out).2.1); rintro e w8 ⟨rfl, hb⟩; refine ⟨_, rfl, ?_⟩; have n0_ := Aside0.mk (Kd.R_below (by (with_reducible repeat (first | apply Kd.R_alloc | apply Kd.R_drewN | apply Kd.R_drew)); exact HO0.out) hb); have n1_ := Aside0.mk (Kept.below (S := (fun k_ => P0_ k_)) (by repeat (first | (with_reducible first | exact HK.out | apply Kept.alloc | apply Kept.drewN | apply Kept.drew) | exact HK.out)) hb); have n2_ := Aside0.mk (below_step (by repeat (first | (with_reducible first | exact HB.out | apply below_alloc | apply pw_below_drewN | apply below_drew1) | exact HB.out)) hb); clear HO0; clear HK; clear HB; have HO0 := n0_; have HK := n1_; have HB := n2_; clear n0_ n1_ n2_; (try clear hb); (try clear hb2); (try clear hk); (try clear hi); have p120 : 0 ≤ (t119 : Int) := of_decide_eq_true (by first | (with_reducible assumption) | assumption); have q120 : t119 < (l0.length : Int) := of_decide_eq_true (by first | (with_reducible assumption) | assumption); obtain ⟨ad120, e120, hx120_0, hx120_1⟩ := at_T39 (Kd.R_reads' HO0.out).2.2 t119 p120 q120; cases e120; replace p120 := eq_true p120; replace q120 := eq_true q120))
        go_ret2
        exact ⟨_, by first | rfl | (simp [errW_none, errW_some] <;> rfl) | (simp [*, errW_none, errW_some] <;> rfl), by (with_reducible repeat (first | apply Kd.R_alloc | apply Kd.R_drewN | apply Kd.R_drew)); exact HO0.out, by repeat (first | (with_reducible first | exact HB.out | apply below_alloc | apply pw_below_drewN | apply below_drew1) | exact HB.out), by repeat (first | (with_reducible first | exact HK.out | apply Kept.alloc | apply Kept.drewN | apply Kept.drew) | exact HK.out)⟩
      · rw [if_neg c6] at H
        have c6b0 : (((rd_T39 l0 t119).f0) == a1) = false := beq_eq_false_iff_ne.mpr c6
        have c6b1 : (((rd_T39 l0 t119).f0) != a1) = true := bne_iff_ne.mpr c6
        obtain ⟨y122, hy122⟩ : ∃ y_ : List (S39), y_ = (([(⟨a1, (rd_T39 l0 t119).f1⟩ : S39)] : List (S39))) := ⟨_, rfl⟩
        replace H : ((api_Level_40.f l0 (wrap64 (t119 + 1)) y122).bind fun t125 => (some (t125, wrap64 (t119 + 1)))) = some (r1, r2) := by first | (rw [hy122]; with_reducible exact H) | (have H2_ := (Option.bind_some _ _).symm.trans H; rw [hy122]; with_reducible exact H2_) | (have H2_ := (Option.bind_some _ _).symm.trans H; with_reducible exact H2_) | with_reducible exact H | (rw [hy122]; exact H) | exact H
        have Ny122 := Aside0.mk hy122
        clear hy122
        replace H := Option.bind_eq_some_iff.mp H
        obtain ⟨t125, A90, H⟩ := H
        replace H : (some (t125, wrap64 (t119 + 1))) = some (r1, r2) := H
        have A9 := Aside0.mk A90
        clear A90
        simp only [Option.some.injEq, Prod.mk.injEq] at H
        obtain ⟨rfl, rfl⟩ := H
        obtain ⟨Ao10, co10, eo10⟩ := Kd.R_slice HO0.out
        subst eo10
        go_enter Try.func34, Try.ntmps34
        go_wp2_with (first | ((with_reducible refine gate_callee (f := 32) rfl ?_); refine goesL_ (some 9) rfl rfl Try.func32 (by kernel_rfl) rfl #[.slice Ao10 l0.length co10, .int .i64 a1] rfl (by (try simp only [List.map_toArray, List.map_cons, List.map_nil]); first | done | rfl | (simp only [List.length_drop, List.length_take]; rfl)) ?_; (with_reducible refine (profile_find.calls k _ _ l0 a1 t119 _ ?side1 ?side2 A3.out).mono ?_); (case side1 => repeat (first | exact (Kd.R_reads' HO0.out).2.2 | (with_reducible refine Kd.C_alloc ?_ _) | (with_reducible refine Kd.C_drewN ?_ _) | (with_reducible refine Kd.C_drew ?_))); (case side2 => exact (Kd.R_reads' HO0.out).2.1); rintro e w11 ⟨rfl, hb⟩; refine ⟨_, rfl, ?_⟩; have n0_ := Aside0.mk (Kd.R_below (by (with_reducible repeat (first | apply Kd.R_alloc | apply Kd.R_drewN | apply Kd.R_drew)); exact HO0.out) hb); have n1_ := Aside0.mk (Kept.below (S := (fun k_ => P0_ k_)) (by repeat (first | (with_reducible first | exact HK.out | apply Kept.alloc | apply Kept.drewN | apply Kept.drew) | exact HK.out)) hb); have n2_ := Aside0.mk (below_step (by repeat (first | (with_reducible first | exact HB.out | apply below_alloc | apply pw_below_drewN | apply below_drew1) | exact HB.out)) hb); clear HO0; clear HK; clear HB; have HO0 := n0_; have HK := n1_; have HB := n2_; clear n0_ n1_ n2_; (try clear hb); (try clear hb2); (try clear hk); (try clear hi); have p120 : 0 ≤ (t119 : Int) := of_decide_eq_true (by first | (with_reducible assumption) | assumption); have q120 : t119 < (l0.length : Int) := of_decide_eq_true (by first | (with_reducible assumption) | assumption); obtain ⟨ad120, e120, hx120_0, hx120_1⟩ := at_T39 (Kd.R_reads' HO0.out).2.2 t119 p120 q120; cases e120; replace p120 := eq_true p120; replace q120 := eq_true q120; have p121 : 0 ≤ (t119 : Int) := of_decide_eq_true (by first | (with_reducible assumption) | assumption); have q121 : t119 < (l0.length : Int) := of_decide_eq_true (by first | (with_reducible assumption) | assumption); obtain ⟨ad121, e121, hx121_0, hx121_1⟩ := at_T39 (Kd.R_reads' HO0.out).2.2 t119 p121 q121; obtain rfl : ad120 = ad121 := (by injection e121); replace p121 := eq_true p121; replace q121 := eq_true q121) | ((with_reducible refine gate_dst (N := 29) rfl ?_); refine Kd.R_lit k39 _ 39 ?hg (N := 29) ?hd (xs := ([(⟨a1, (rd_T39 l0 t119).f1⟩ : S39)] : List (S39))) (inner := [.int .i64 a1, .int .i64 ((rd_T39 l0 t119).f1)]) (ok := fun _ => True) (okp := fun _ => True) ?hr ?hp (fun _ hk => hk) trivial (Below.refl _ _) (Nat.le_refl _) (by simp) ?_; (case hd => rfl); (case hg => rfl); (case hr => first | (go_simp; done) | (go_simp; rfl)); (case hp => exact (Reps.c2 (show Kd.M k39 _ _ _ (⟨a1, (rd_T39 l0 t119).f1⟩ : S39) [.int .i64 a1, .int .i64 ((rd_T39 l0 t119).f1)] from (k39_mkM _ _ _ (⟨a1, (rd_T39 l0 t119).f1⟩ : S39) )) (Reps.none _ _))); intro v123 w12 ho13 hb hg_ hnew_; clear hg_ hnew_; (first | rw [← Ny122.out] at ho13 | (simp only [Int.reduceToNat] at ho13; rw [← Ny122.out] at ho13)); have n0_ := Aside0.mk (Kd.R_elder' (by (with_reducible repeat (first | apply Kd.R_alloc | apply Kd.R_drewN | apply Kd.R_drew)); exact HO0.out) (Kd.R_base ho13) hb); have n1_ := Aside0.mk (Kd.R_lower (Kd.R_new' (Kd.R_newM (M := fun k_ => (P0_ k_ ∨ w.heap.size ≤ k_)) ho13 (by first | exact HK.out.1 | exact (show Kept w _ (fun k_ => P0_ k_) from by repeat (first | (with_reducible first | exact HK.out | apply Kept.alloc | apply Kept.drewN | apply Kept.drew) | exact HK.out)).1) (fun k_ h_ => .inr h_)) (Kd.R_lt (by (with_reducible repeat (first | apply Kd.R_alloc | apply Kd.R_drewN | apply Kd.R_drew)); exact HO0.out))) (below_size (by repeat (first | (with_reducible first | exact HB.out | apply below_alloc | apply pw_below_drewN | apply below_drew1) | exact HB.out)))); have n2_ := Aside0.mk (Kept.below (S := (fun k_ => P0_ k_)) (by repeat (first | (with_reducible first | exact HK.out | apply Kept.alloc | apply Kept.drewN | apply Kept.drew) | exact HK.out)) hb); have n3_ := Aside0.mk (below_step (by repeat (first | (with_reducible first | exact HB.out | apply below_alloc | apply pw_below_drewN | apply below_drew1) | exact HB.out)) hb); clear HO0; clear HK; clear HB; have HO0 := n0_; have HO124 := n1_; have HK := n2_; have HB := n3_; clear n0_ n1_ n2_ n3_; clear hb ho13; obtain ⟨Ao14, co14, eo14⟩ := Kd.R_slice HO124.out; subst eo14) | ((with_reducible refine gate_callee (f := 40) rfl ?_); refine goesL_ (some 30) rfl rfl Try.func40 (by kernel_rfl) rfl #[.slice (some ad120) l0.length co10, .int .i64 (wrap64 (t119 + 1)), .slice Ao14 y122.length co14] rfl (by (try simp only [List.map_toArray, List.map_cons, List.map_nil]); first | done | rfl | (simp only [List.length_drop, List.length_take]; rfl)) ?_; (with_reducible refine (api_Level_40.calls (fun k_ => some k_ = (.slice (some ad120) l0.length co10 : Value).ownBlock) (.slice (some ad120) l0.length co10) l0 (wrap64 (t119 + 1)) (fun k_ => some k_ = (.slice Ao14 y122.length co14 : Value).ownBlock) (.slice Ao14 y122.length co14) y122 t125 w0 _ ?side1 ?side2 ?side3 ?side4 ?side5 A9.out).mono ?_); (case side1 => repeat (first | (with_reducible first | exact HB.out | apply below_alloc | apply pw_below_drewN | apply below_drew1) | exact HB.out)); (case side2 => exact Kd.R_tight rfl HO0.out); (case side3 => exact fun k_ e_ => (HO0.out.1 k_ e_.symm).2); (case side4 => exact Kd.R_tight rfl HO124.out); (case side5 => exact fun k_ e_ => (HO124.out.1 k_ e_.symm).2); rintro e w15 ⟨v126, rfl, ho0, hb, hkp⟩; refine ⟨_, rfl, ?_⟩; have n0_ := Aside0.mk (Kd.R_mono (ok' := fun k_ => (P0_ k_ ∨ w.heap.size ≤ k_)) ho0 (fun k_ hk_ => Or.elim hk_ (fun hs_ => Or.elim hs_ (fun hs_ => (HO0.out.1 k_ (hs_).symm).1) (fun hs_ => (HO124.out.1 k_ (hs_).symm).1.1)) (fun hn_ => (.inr (Nat.le_trans (by first | exact HK.out.1 | exact (show Kept w _ (fun k_ => P0_ k_) from by repeat (first | (with_reducible first | exact HK.out | apply Kept.alloc | apply Kept.drewN | apply Kept.drew) | exact HK.out)).1) hn_))))); have n1_ := Aside0.mk (Kept.then_ (S := (fun k_ => P0_ k_)) (by repeat (first | (with_reducible first | exact HK.out | apply Kept.alloc | apply Kept.drewN | apply Kept.drew) | exact HK.out)) hkp (fun k_ hs_ => Or.elim hs_ (fun e_ => (fun e_ => (HO0.out.1 k_ e_.symm).1) e_) (fun e_ => (fun e_ => (HO124.out.1 k_ e_.symm).1.1) e_))); have n2_ := Aside0.mk (hb); clear HK; clear HB; clear HO0; clear HO124; have HO127 := n0_; have HK := n1_; have HB := n2_; clear n0_ n1_ n2_; (try clear hb); (try clear hkp); (try clear ho0)))
        go_ret2
        exact ⟨_, by first | rfl | (simp [errW_none, errW_some] <;> rfl) | (simp [*, errW_none, errW_some] <;> rfl), by (with_reducible repeat (first | apply Kd.R_alloc | apply Kd.R_drewN | apply Kd.R_drew)); exact HO127.out, by repeat (first | (with_reducible first | exact HB.out | apply below_alloc | apply pw_below_drewN | apply below_drew1) | exact HB.out), by repeat (first | (with_reducible first | exact HK.out | apply Kept.alloc | apply Kept.drewN | apply Kept.drew) | exact HK.out)⟩
    · rw [if_neg c5] at H
      exact absurd H (by simp)
  · rw [if_neg c4] at H
    exact absurd H (by simp)

/-! ### api_Level_35: function 35 -/
def api_Level_35.f (l0 : List (S39)) : Option ((List (S39))) := (some (([] : List (S39)) : List (S39))).bind fun y128 => (if y128.length + l0.length < 8796093022208 then (some (y128 ++ l0)) else (none))
set_option maxHeartbeats 8000000 in
set_option maxRecDepth 100000 in
theorem api_Level_35.calls_some (ad0 : Addr) (c0 : Nat) (l0 : List (S39)) (r : List (S39)) (w : World) (hr0 : Kd.C k39 w (some ad0) l0.length l0) (hc0 : l0.length ≤ c0) (h : api_Level_35.f l0 = some r) :
    Calls Try.prog 35 #[.slice (some ad0) l0.length c0] w fun e w' => ∃ v0_ : Value, e = .returned (v0_) ∧ Kd.R k39 39 w' w.heap.size (fun _ => True) v0_ r ∧ Below w.heap.size w w' := by
  have heqn_ : ∀ w, (binOp .eql 22 (.slice (some ad0) l0.length c0) (.slice none 0 0)).run Try.prog w = .ok (.bool false) w := fun w => Go.Lib.run_eql_slice_nil w 22 _ (some ad0) l0.length c0 0 0 Try.underlying22
  have HR0 := Aside0.mk hr0
  have HC0 := Aside0.mk hc0
  clear hr0 hc0
  have HB := Aside0.mk (Below.refl w.heap.size w)
  have H : ((some (([] : List (S39)) : List (S39))).bind fun y128 => (if y128.length + l0.length < 8796093022208 then (some (y128 ++ l0)) else (none))) = some r := h
  clear h
  obtain ⟨y128, hy128⟩ : ∃ y_ : List (S39), y_ = (([] : List (S39))) := ⟨_, rfl⟩
  replace H : (if y128.length + l0.length < 8796093022208 then (some (y128 ++ l0)) else (none)) = some r := by first | (rw [hy128]; with_reducible exact H) | (have H2_ := (Option.bind_some _ _).symm.trans H; rw [hy128]; with_reducible exact H2_) | (have H2_ := (Option.bind_some _ _).symm.trans H; with_reducible exact H2_) | with_reducible exact H | (rw [hy128]; exact H) | exact H
  have Ny128 := Aside0.mk hy128
  clear hy128
  by_cases c2 : y128.length + l0.length < 8796093022208
  · rw [if_pos c2] at H
    have LMc2 := Aside0.mk c2
    clear c2
    obtain ⟨y131, hy131⟩ : ∃ y_ : List (S39), y_ = (y128 ++ l0) := ⟨_, rfl⟩
    replace H : (some y131) = some r := by first | (rw [hy131]; with_reducible exact H) | (have H2_ := (Option.bind_some _ _).symm.trans H; rw [hy131]; with_reducible exact H2_) | (have H2_ := (Option.bind_some _ _).symm.trans H; with_reducible exact H2_) | with_reducible exact H | (rw [hy131]; exact H) | exact H
    have Ny131 := Aside0.mk hy131
    clear hy131
    obtain rfl := Option.some.inj H
    go_enter Try.func35, Try.ntmps35
    go_wp2_with (first | ((with_reducible refine gate_dst (N := 5) rfl ?_); refine Kd.R_lit k39 _ 39 ?hg (N := 5) ?hd (xs := ([] : List (S39))) (inner := []) (ok := fun _ => True) (okp := fun _ => True) ?hr ?hp (fun _ hk => hk) trivial (Below.refl _ _) (Nat.le_refl _) (by simp) ?_; (case hd => rfl); (case hg => rfl); (case hr => first | (go_simp; done) | (go_simp; rfl)); (case hp => exact (Reps.none _ _)); intro v129 w3 ho4 hb hg_ hnew_; clear hg_ hnew_; (first | rw [← Ny128.out] at ho4 | (simp only [Int.reduceToNat] at ho4; rw [← Ny128.out] at ho4)); have n0_ := Aside0.mk (Kd.R_lower ho4 (below_size (by repeat (first | (with_reducible first | exact HB.out | apply below_alloc | apply pw_below_drewN | apply below_drew1) | exact HB.out)))); have n1_ := Aside0.mk (below_step (by repeat (first | (with_reducible first | exact HB.out | apply below_alloc | apply pw_below_drewN | apply below_drew1) | exact HB.out)) hb); clear HB; have HO130 := n0_; have HB := n1_; clear n0_ n1_; clear hb ho4) | ((with_reducible refine gate_builtin (b := .append) (xs := #[.tmp 5, .tmp 6]) rfl ?_); at_builtin; refine Kd.R_append_rows k39 (w0 := w) w.heap.size rfl (.tmp 5) (.tmp 6) 22 39 (.agg #[(.int .i64 0), (.int .i64 0)]) 16 rfl Try.underlying22 info39 rfl (by decide) (by omega) v129 y128 l0 _ _ _ (fun _ => True) (fun _ => False) rfl rfl ?aO ?aR (fun _ _ h => h) (fun _ h => h.elim) ?aF ?aB ?aS ?aL ?_; (case aR => repeat (first | exact (Kd.C_below HR0.out HB.out) | (with_reducible refine Kd.C_alloc ?_ _) | (with_reducible refine Kd.C_drewN ?_ _) | (with_reducible refine Kd.C_drew ?_))); (case aB => exact (by repeat (first | (with_reducible first | exact HB.out | apply below_alloc | apply pw_below_drewN | apply below_drew1) | exact HB.out))); (case aF => exact (fun _ _ => trivial)); (case aO => exact (by (with_reducible repeat (first | apply Kd.R_alloc | apply Kd.R_drewN | apply Kd.R_drew)); exact HO130.out)); (case aS => exact (below_size (by repeat (first | (with_reducible first | exact HB.out | apply below_alloc | apply pw_below_drewN | apply below_drew1) | exact HB.out)))); (case aL => have := LMc2.out; omega); intro v132 w5 ho hb hg hat; rw [← Ny131.out] at ho; have n0_ := Aside0.mk (hb); have n1_ := Aside0.mk (ho); clear HB; clear HO130; have HB := n0_; have HO133 := n1_; clear n0_ n1_; clear ho hb hg hat))
    go_ret
    exact ⟨_, by first | rfl | (simp [errW_none, errW_some] <;> rfl) | (simp [*, errW_none, errW_some] <;> rfl), by (with_reducible repeat (first | apply Kd.R_alloc | apply Kd.R_drewN | apply Kd.R_drew)); exact HO133.out, by repeat (first | (with_reducible first | exact HB.out | apply below_alloc | apply pw_below_drewN | apply below_drew1) | exact HB.out)⟩
  · rw [if_neg c2] at H
    exact absurd H (by simp)

theorem api_Level_35.calls (A0 : Option Addr) (c0 : Nat) (l0 : List (S39)) (r : List (S39)) (w : World) (hr0 : Kd.C k39 w A0 l0.length l0) (hc0 : l0.length ≤ c0) (h : api_Level_35.f l0 = some r) :
    Calls Try.prog 35 #[.slice A0 l0.length c0] w fun e w' => ∃ v0_ : Value, e = .returned (v0_) ∧ Kd.R k39 39 w' w.heap.size (fun _ => True) v0_ r ∧ Below w.heap.size w w' := by
  cases A0 with
  | some ad0 => exact api_Level_35.calls_some ad0 c0 l0 r w hr0 hc0 h
  | none =>
    have hl : l0 = [] := by
      cases l0 with
      | nil => rfl
      | cons x l => obtain ⟨ad, e, _⟩ := hr0.2.2 (by simp); cases e
    subst hl
    have hr : r = [] := by
      unfold api_Level_35.f at h
      simpa using h.symm
    subst hr
    have heqn_ : ∀ w, (binOp .eql 22 (.slice none 0 c0) (.slice none 0 0)).run Try.prog w = .ok (.bool true) w := fun w => Go.Lib.run_eql_slice_nil w 22 _ none 0 c0 0 0 Try.underlying22
    go_enter Try.func35, Try.ntmps35
    go_wp2
    go_ret
    exact ⟨_, rfl, Kd.R_nil _ _ _ _ _, Below.refl _ _⟩

/-! ### profile_compact_1: function 42 -/
def profile_compact_1.f (a0_0 : Int) (a0_1 : Int) (a1_0 : Int) (a1_1 : Int) : Option (Bool) := some (a0_1 == a1_1)
set_option maxHeartbeats 8000000 in
set_option maxRecDepth 100000 in
theorem profile_compact_1.calls (a0_0 : Int) (a0_1 : Int) (a1_0 : Int) (a1_1 : Int) (r : Bool) (w : World) (h : profile_compact_1.f a0_0 a0_1 a1_0 a1_1 = some r) :
    Calls Try.prog 42 #[.agg #[.int .i64 a0_0, .int .i64 a0_1], .agg #[.int .i64 a1_0, .int .i64 a1_1]] w fun e w' => e = .returned (.bool r) ∧ Below w.heap.size w w' := by
  have hu39 := Try.underlying39
  have HB := Aside0.mk (Below.refl w.heap.size w)
  have H : (some (a0_1 == a1_1)) = some r := h
  clear h
  obtain rfl := Option.some.inj H
  go_enter Try.func42, Try.ntmps42
  go_wp2_with (first | ((with_reducible refine gate_dst (N := 2) rfl ?_); refine box_event ?hg (N := 2) ?hd (cs := #[.int .i64 a0_0, .int .i64 a0_1]) (t := 39) ?hr ?_; (case hd => rfl); (case hg => rfl); (case hr => first | (go_simp; done) | (go_simp; rfl)); intro gb134 hg w3 hbox hb; have n0_ := Aside0.mk (below_step (by repeat (first | (with_reducible first | exact HB.out | apply below_alloc | apply pw_below_drewN | apply below_drew1) | exact HB.out)) hb); have n1_ := Aside0.mk (hbox); have n2_ := Aside0.mk ((by rw [hg]; exact (below_size (by repeat (first | (with_reducible first | exact HB.out | apply below_alloc | apply pw_below_drewN | apply below_drew1) | exact HB.out))) : w.heap.size ≤ gb134)); have n3_ := Aside0.mk ((by rw [hg]; exact (below_size (by repeat (first | (with_reducible first | exact HB.out | apply below_alloc | apply pw_below_drewN | apply below_drew1) | exact HB.out))) : w.heap.size ≤ gb134)); clear HB; have HB := n0_; have BK134 := n1_; have GW134 := n2_; have GE134 := n3_; clear n0_ n1_ n2_ n3_; clear hb hbox hg) | ((with_reducible refine gate_dst (N := 3) rfl ?_); refine box_event ?hg (N := 3) ?hd (cs := #[.int .i64 a1_0, .int .i64 a1_1]) (t := 39) ?hr ?_; (case hd => rfl); (case hg => rfl); (case hr => first | (go_simp; done) | (go_simp; rfl)); intro gb135 hg w4 hbox hb; have n0_ := Aside0.mk (blk_below (g := gb134) (o := .cells #[.int .i64 a0_0, .int .i64 a0_1] 39 (0, 0)) (by (with_reducible repeat (first | refine blk_drewN ?_ _ | refine blk_drew ?_ | refine blk_alloc ?_ _)); exact BK134.out) hb); have n1_ := Aside0.mk (below_step (by repeat (first | (with_reducible first | exact HB.out | apply below_alloc | apply pw_below_drewN | apply below_drew1 | refine below_set ?_ GE134.out) | exact HB.out)) hb); have n2_ := Aside0.mk (hbox); have n3_ := Aside0.mk ((by rw [hg]; exact (below_size (by repeat (first | (with_reducible first | exact HB.out | apply below_alloc | apply pw_below_drewN | apply below_drew1 | refine below_set ?_ GE134.out) | exact HB.out))) : w.heap.size ≤ gb135)); have n4_ := Aside0.mk ((by rw [hg]; exact (below_size (by repeat (first | (with_reducible first | exact HB.out | apply below_alloc | apply pw_below_drewN | apply below_drew1 | refine below_set ?_ GE134.out) | exact HB.out))) : w.heap.size ≤ gb135)); have n5_ := Aside0.mk ((by rw [hg]; exact Nat.ne_of_lt (blk_lt (g := gb134) (o := .cells #[.int .i64 a0_0, .int .i64 a0_1] 39 (0, 0)) (by (with_reducible repeat (first | refine blk_drewN ?_ _ | refine blk_drew ?_ | refine blk_alloc ?_ _)); exact BK134.out)) : gb134 ≠ gb135)); have n6_ := Aside0.mk ((by rw [hg]; exact Nat.ne_of_gt (blk_lt (g := gb134) (o := .cells #[.int .i64 a0_0, .int .i64 a0_1] 39 (0, 0)) (by (with_reducible repeat (first | refine blk_drewN ?_ _ | refine blk_drew ?_ | refine blk_alloc ?_ _)); exact BK134.out)) : gb135 ≠ gb134)); clear BK134; clear HB; have BK134 := n0_; have HB := n1_; have BK135 := n2_; have GW135 := n3_; have GE135 := n4_; have NB134_135 := n5_; have NB135_134 := n6_; clear n0_ n1_ n2_ n3_ n4_ n5_ n6_; clear hb hbox hg; have hnb5 := NB134_135.out; have hnc5 := NB135_134.out; have hcz6_0 : w4.cell? ⟨gb134, 0, none⟩ = some (.int .i64 a0_0) := (blk_cell BK134.out 0).trans rfl; have hcz6_1 : w4.cell? ⟨gb134, 1, none⟩ = some (.int .i64 a0_1) := (blk_cell BK134.out 1).trans rfl; have hfz6_0 := blk_frozen BK134.out 0; have hfz6_1 := blk_frozen BK134.out 1; have hcz7_0 : w4.cell? ⟨gb135, 0, none⟩ = some (.int .i64 a1_0) := (blk_cell BK135.out 0).trans rfl; have hcz7_1 : w4.cell? ⟨gb135, 1, none⟩ = some (.int .i64 a1_1) := (blk_cell BK135.out 1).trans rfl; have hfz7_0 := blk_frozen BK135.out 0; have hfz7_1 := blk_frozen BK135.out 1))
  go_ret
  exact ⟨by first | rfl | (simp [errW_none, errW_some] <;> rfl) | (simp [*, errW_none, errW_some] <;> rfl), by repeat (first | (with_reducible first | exact HB.out | apply below_alloc | apply pw_below_drewN | apply below_drew1 | refine below_set ?_ GE134.out | refine below_set ?_ GE135.out) | exact HB.out)⟩

-- NOT PRINTED: function 41 (api_Level_41)

end Go.Proofs.Ytfcmpnajokjaaaa.P
