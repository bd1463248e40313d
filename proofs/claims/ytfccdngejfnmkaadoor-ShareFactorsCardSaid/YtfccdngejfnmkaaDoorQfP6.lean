/- cut to what one law reaches -/
import Derived.Test.YtfccdngejfnmkaaDoorQfP0
import Derived.Test.YtfccdngejfnmkaaDoorQfP3
import Derived.Test.YtfccdngejfnmkaaDoorQfP4
import Derived.Test.YtfccdngejfnmkaaDoorQfP5
namespace Go.Proofs.YtfccdngejfnmkaaDoor.P
open Go.RowKit Go.Proofs.YtfccdngejfnmkaaDoorW.PrintWords Go.Proofs.YtfccdngejfnmkaaDoorW.PrintLast Go.Proofs.YtfccdngejfnmkaaDoorW.PrintMore
attribute [local go_sem] max2_int min2_int max_two min_two max_three min_three max_four min_four   -- for this text's walks alone
set_option linter.unusedVariables false
set_option linter.unusedSimpArgs false
attribute [local go_sem] isSome_setCell
def lkI : List (Int × Int) → Int → Int
 | [], _ => 0
 | (k, v) :: m, s => if k = s then v else lkI m s
def allF : List S37 → List Int → List (Int × Int) → List (Int × Int)
 | a :: r, u :: us, m => allF r us ((u, wrap64 (lkI m u + a.f2)) :: m)
 | _, _, m => m
def normsL (k : Nat) : List S37 → List Int → List (Int × Int) → List Int → Option (List Int)
 | [], _, _, out => some out
 | _ :: _, [], _, _ => none
 | a :: r, u :: us, m, out => if 0 ≤ u ∧ u < (out.length : Int) then (num_MulDiv.f k (rd out u) a.f2 (lkI m u)).bind fun t => normsL k r us m (out ++ [t.1]) else none
def share_Norms.f (k : Nat) (l : List S37) : Option (List Int × Int) :=
 if l.length ≤ 1000000 then (share_right.f k l (List.replicate l.length 0)).bind fun e => if e = 0 then ((share_places.f l).bind fun up =>
  if up.length = l.length ∧ (∀ u ∈ up, -1 ≤ u ∧ u ≤ 1000000) then ((normsL k (l.drop 1) (up.drop 1) (allF l up []) [65536]).bind fun out => some (out, 0)) else none) else some ([], e) else none
theorem normsL.mono (k : Nat) : ∀ (r : List S37) (us : List Int) (m : List (Int × Int)) (out : List Int), LeO (normsL k r us m out) (normsL (k + 1) r us m out)
 | [], us, m, out => LeO.refl _
 | a :: r, [], m, out => LeO.refl _
 | a :: r, u :: us, m, out => by
  unfold normsL
  refine LeO.ite ?_ (LeO.refl _)
  exact LeO.bind (num_MulDiv.mono _ _ _ _) (fun t => normsL.mono k r us m _)
theorem share_Norms.mono : ∀ l k, LeO (share_Norms.f k l) (share_Norms.f (k + 1) l) := by
 intro l k
 unfold share_Norms.f
 refine LeO.ite ?_ (LeO.refl _)
 refine LeO.bind (share_right.mono _ _ _) (fun e => ?_)
 refine LeO.ite ?_ (LeO.refl _)
 refine LeO.bind (LeO.refl _) (fun up => ?_)
 refine LeO.ite ?_ (LeO.refl _)
 exact LeO.bind (normsL.mono k _ _ _ _) (fun _ => LeO.refl _)
def MapN (W : World) (b : Nat) (m : List (Int × Int)) : Prop := ∃ (n : Nat) (D : DataW Unit), W.ownsMap Tryd.prog 3 (plainElem Tryd.prog 3) b n D ∧ n ≤ m.length ∧ Maps.IsMap D ∧ ∀ s : Int, D.atKey (.int .i64 s) (.lit (.int .i64 0)) = .lit (.int .i64 (lkI m s))
theorem MapN.new (W : World) : MapN (W.alloc (.map #[] 0)) W.heap.size [] := ⟨0, .map [], World.ownsMap_made W _ _ _, Nat.le_refl _, Maps.isMap_empty, fun _ => rfl⟩
theorem MapN.kept {W W' : World} {b : Nat} {m : List (Int × Int)} {row : Option Nat} (h : MapN W b m) (hg : W.grownBy W' row) (hne : some b ≠ row) : MapN W' b m := by
 obtain ⟨n, D, h1, h2⟩ := h
 exact ⟨n, D, h1.kept hg hne, h2⟩
theorem MapN.setCell {W : World} {b : Nat} {m : List (Int × Int)} (h : MapN W b m) {p : Addr} (hp : b ≠ p.block) (u : Value) : MapN (W.setCell p u) b m := by
 obtain ⟨n, D, h1, h2⟩ := h
 exact ⟨n, D, h1.setCell hp u, h2⟩
theorem MapN.below {W W' : World} {b : Nat} {m : List (Int × Int)} (h : MapN W b m) (hb : Below W.heap.size W W') : MapN W' b m := by
 obtain ⟨n, D, h1, h2⟩ := h
 obtain ⟨es, clock, e1, e2⟩ := h1
 exact ⟨n, D, ⟨es, clock, (hb.block b (Array.getElem?_eq_some_iff.1 e1).1).trans e1, e2⟩, h2⟩
theorem MapN.drew {W : World} {b : Nat} {m : List (Int × Int)} (h : MapN W b m) : MapN W.drew b m := h
theorem MapN.lt {W : World} {b : Nat} {m : List (Int × Int)} (h : MapN W b m) : b < W.heap.size := by
 obtain ⟨n, D, h1, h2⟩ := h
 exact h1.lt
theorem keyN {z : Int} (h : (Lit.int .i64 z).wf = true) : keyOf Tryd.prog 3 (.int .i64 z) = some (.int .i64 z) := Maps.keyOf_int_mk Tryd.underlying3 h
set_option maxRecDepth 100000 in
theorem MapN.look {w : World} {b : Nat} {ms : List (Int × Int)} (hM : MapN w b ms) (s : Int) (hs : (Lit.int .i64 s).wf = true) : (Instr.lookup 49 (.map (some b)) (.int .i64 s) false).run Tryd.prog w = .ok (.int .i64 (lkI ms s)) w := by
 obtain ⟨n, D, h1, h2, h3, h4⟩ := hM
 obtain ⟨c, hrun, hat, hwc⟩ := h1.lookup_int (Maps.int_keyed Tryd.underlying3) Tryd.underlying49 Tryd.underlying3 (zrun3 w) (keyN hs)
 rw [h4] at hat
 injection hat with hat
 injection hat with _ hat
 rw [hat]
 exact hrun
theorem MapN.upd {w : World} {b : Nat} {ms : List (Int × Int)} (hM : MapN w b ms) (hl : ms.length < 10000000) (s : Int) (hs : (Lit.int .i64 s).wf = true) (z : Int) (hz : (Lit.int .i64 z).wf = true) : ∃ w', (Instr.mapUpdate 49 (.map (some b)) (.int .i64 s) (.int .i64 z)).run Tryd.prog w = .ok () w' ∧ MapN w' b ((s, z) :: ms) ∧ w.grownBy w' (some b) := by
 obtain ⟨n, D, h1, h2, h3, h4⟩ := hM
 have hval : plainElem (H := Unit) Tryd.prog 3 (.int .i64 z) = some (.lit (.int .i64 z), []) := plainElem_int Tryd.underlying3 hz
 obtain ⟨w', hrun, r1, r2⟩ := h1.update (Maps.int_keyed Tryd.underlying3) Tryd.underlying49 (by unfold maxLen; omega) (keyN hs) hval
 refine ⟨w', hrun, ⟨n + 1, _, r1, by simp; omega, h3.put _ _, fun s' => ?_⟩, r2⟩
 by_cases e : s = s'
 ·subst e
  rw [Maps.atKey_put_same h3 (by simp [WideAt.IsKeyLit]), lkI, if_pos rfl]
 ·have hne : (Lit.int .i64 s' : Lit) ≠ .int .i64 s := fun q => e (Lit.int.inj q).2.symm
  rw [Maps.atKey_put_other hne, h4, lkI, if_neg e]
theorem wf_wrap64 (x : Int) : (Lit.int .i64 (wrap64 x)).wf = true := by
 simp [Lit.wf, IntKind.min, IntKind.max, IntKind.signed, IntKind.bits, wrap64]; omega
theorem wf_small {x : Int} (h : -1 ≤ x ∧ x ≤ 1000000) : (Lit.int .i64 x).wf = true := by
 simp [Lit.wf, IntKind.min, IntKind.max, IntKind.signed, IntKind.bits]; omega
theorem cell_far3 {W : World} {g : Nat} {p : Addr} {u0 u1 u2 : Value} (h : p.block ≠ g) : (((W.setCell ⟨g, 0, none⟩ u0).setCell ⟨g, 1, none⟩ u1).setCell ⟨g, 2, none⟩ u2).cell? p = W.cell? p := by
 have one : ∀ (W : World) (j : Nat) (u : Value), (W.setCell ⟨g, j, none⟩ u).cell? p = W.cell? p := by
  intro W j u
  refine World.cell?_of_block ?_
  simp only [World.setCell]
  rw [Array.getElem?_modify, if_neg (fun e => h e.symm)]
 rw [one, one, one]
set_option maxHeartbeats 8000000 in
set_option maxRecDepth 1000000 in
theorem share_Norms.calls (k : Nat) (A0 : Option Addr) (c0 : Nat) (l0 : List S37) (r1 : List Int) (r2 : Int) (w : World) (hG : Glob w) (hr0 : Kd.C k37 w A0 l0.length l0) (hc0 : l0.length ≤ c0) (h : share_Norms.f k l0 = some (r1, r2)) :
  Calls Tryd.prog 16 #[.slice A0 l0.length c0] w fun e w' => ∃ v0_ : Value, e = .returned (.tuple #[v0_, .int .i64 r2]) ∧ Kd.R (Kd.int .i64) 3 w' w.heap.size (fun _ => True) v0_ r1 ∧ Below w.heap.size w w' := by
 have HG := Aside0.mk hG
 have HR0 := Aside0.mk hr0
 have HC0 := Aside0.mk hc0
 have HB := Aside0.mk (Below.refl w.heap.size w)
 clear hG hr0 hc0
 unfold share_Norms.f at h
 split at h
 case isFalse => cases h
 rename_i hl6
 obtain ⟨e, he, h⟩ := Option.bind_eq_some_iff.mp h
 have HE := Aside0.mk he
 clear he
 have z0 : decide (0 ≤ (l0.length : Int)) = true := decide_eq_true (by omega)
 have z1 : decide (((l0.length : Int)).toNat ≤ 35184372088832) = true := decide_eq_true (by omega)
 have hmm := @run_makeMap Tryd.prog
 by_cases h0 : e = 0
 ·subst h0
  rw [if_pos rfl] at h
  obtain ⟨up, hup, h⟩ := Option.bind_eq_some_iff.mp h
  split at h
  case isFalse => cases h
  rename_i hcnd
  obtain ⟨hul, hu⟩ := hcnd
  obtain ⟨out, hout, h⟩ := Option.bind_eq_some_iff.mp h
  simp only [Option.some.injEq, Prod.mk.injEq] at h
  obtain ⟨rfl, rfl⟩ := h
  have HUP := Aside0.mk hup
  have HOUT := Aside0.mk hout
  have HUU := Aside0.mk hu
  have HUL := Aside0.mk hul
  clear hup hout hu hul
  go_enter Tryd.func16, Tryd.ntmps16
  go_wp2_with (first | ((with_reducible refine gate_dst (N := 16) rfl ?_); refine Kd.R_make (Kd.int .i64) _ 3 rfl (N := 16) rfl 23 _ _ rfl (l0.length : Int) rfl rfl Tryd.underlying23 (.int .i64 0) 8 info3 rfl (by decide) (by omega) 0 (ok := fun _ => True) (okp := fun _ => True) rfl (fun _ hk => hk) trivial (of_decide_eq_true (by first | (with_reducible assumption) | assumption)) (Nat.le_trans (Nat.mul_le_mul_right _ (of_decide_eq_true (by first | (with_reducible assumption) | assumption) : (l0.length : Int).toNat ≤ 35184372088832)) (by omega)) (Below.refl _ _) (Nat.le_refl _) ?_; intro vz wz hoz hb hg_ hnew_; clear hg_ hnew_; simp only [Int.toNat_natCast] at hoz; obtain ⟨Az, cz, ez⟩ := Kd.R_slice hoz; subst ez; have HOZ := Aside0.mk hoz; have HBZ := Aside0.mk (below_step (by repeat (first | (with_reducible first | exact HB.out | apply below_alloc | apply pw_below_drewN | apply below_drew1) | exact HB.out)) hb); clear hoz hb) | ((with_reducible refine gate_callee (f := 23) rfl ?_); refine goesL_ (some 17) rfl rfl Tryd.func23 (by kernel_rfl) rfl #[.slice A0 l0.length c0, .slice Az (List.replicate l0.length (0 : Int)).length cz] rfl (by (try simp only [List.map_toArray, List.map_cons, List.map_nil, List.length_replicate]); first | done | rfl) ?_; (with_reducible refine (share_right.calls k _ _ l0 _ _ (List.replicate l0.length 0) 0 _ ?side1 ?side2 ?side3 ?side4 ?side5 HE.out).mono ?_); (case side1 => exact Glob.below HG.out HBZ.out); (case side2 => exact Kd.C_below HR0.out HBZ.out); (case side3 => exact HC0.out); (case side4 => exact (Kd.R_reads' HOZ.out).2.2); (case side5 => exact (Kd.R_reads' HOZ.out).2.1); rintro e w8 ⟨rfl, hb⟩; refine ⟨_, rfl, ?_⟩; have HB8 := Aside0.mk (below_step HBZ.out hb); clear hb) | ((with_reducible refine gate_callee (f := 24) rfl ?_); refine goesL_ (some 22) rfl rfl Tryd.func24 (by kernel_rfl) rfl #[.slice A0 l0.length c0] rfl (by (try simp only [List.map_toArray, List.map_cons, List.map_nil]); first | done | rfl) ?_; (with_reducible refine (share_places.calls _ _ l0 up _ ?side1 ?side2 HUP.out).mono ?_); (case side1 => exact Kd.C_below HR0.out HB8.out); (case side2 => exact HC0.out); rintro e w9 ⟨v5, rfl, ho0, hb⟩; refine ⟨_, rfl, ?_⟩; obtain ⟨Au, cu, eu⟩ := Kd.R_slice ho0; subst eu; have HO9 := Aside0.mk (Kd.R_lower ho0 (below_size HB8.out)); have HB9 := Aside0.mk (below_step HB8.out hb); clear hb ho0))
  go_loopg [26] (l0.length + 1) (fun gk v26 wr => ∃ (i : Nat) (m : List (Int × Int)), v26 = .int .i64 i ∧ l0.length + 1 = i + gk ∧ i ≤ l0.length ∧ m.length = i ∧ Aside0 (allF (l0.drop i) (up.drop i) m = allF l0 up []) ∧ Aside0 (Kd.R (Kd.int .i64) 3 wr w.heap.size (fun k => k ≠ w9.heap.size) (.slice Au up.length cu) up) ∧ Aside0 (MapN wr w9.heap.size m) ∧ Aside0 (Below w.heap.size w wr))
  case atStart =>
   refine ⟨0, [], rfl, by omega, by omega, rfl, ⟨rfl⟩, ⟨?_⟩, ⟨MapN.new w9⟩, ⟨below_alloc HB9.out _⟩⟩
   refine Kd.R_alloc (Kd.R_mono (Kd.R_bound HO9.out) (fun j hj => ?_)) _
   obtain ⟨_, _, _, _, _, cells, hc⟩ := hj
   have := blk_lt hc
   omega
  case round =>
   obtain ⟨i, m, rfl, hgk, hi, hml, HA, HU, HM, HB⟩ := hrel
   obtain ⟨gk, rfl⟩ : ∃ q, gk = q + 1 := ⟨gk - 1, by omega⟩
   by_cases hlt : i < l0.length
   ·have p0 : 0 ≤ (i : Int) := by omega
    have q0 : (i : Int) < (l0.length : Int) := by omega
    have hlu : i < up.length := by rw [HUL.out]; exact hlt
    obtain ⟨ad, e0, hx0, hx1, hx2⟩ := at_T37 HR0.out (i : Int) p0 (by omega)
    cases e0
    replace hx0 := (HB.out.cell (World.block_lt_of_cell? w _ hx0)).trans hx0
    replace hx1 := (HB.out.cell (World.block_lt_of_cell? w _ hx1)).trans hx1
    replace hx2 := (HB.out.cell (World.block_lt_of_cell? w _ hx2)).trans hx2
    obtain ⟨au, eu, hu0⟩ := Kd.at_int (Kd.R_reads' HU.out).2.2 (i : Int) p0 (by omega)
    cases eu
    simp only [Int.toNat_natCast] at hx0 hx1 hx2 hu0
    obtain ⟨a, ha⟩ : ∃ a, a = rd_T37 l0 (i : Int) := ⟨_, rfl⟩
    obtain ⟨u, hu⟩ : ∃ u, u = rd up (i : Int) := ⟨_, rfl⟩
    have hum : u ∈ up := by
     have hq : rd up (i : Int) = up[i] := by unfold rd; simp [List.getD, hlu]
     rw [hu, hq]
     exact List.getElem_mem hlu
    have WFU := Aside0.mk (wf_small (HUU.out u hum))
    have hA := HA.out
    rw [List.drop_eq_getElem_cons hlt, List.drop_eq_getElem_cons hlu, allF, ← rd37 l0 i hlt, ← ha] at hA
    have hug : up[i] = u := by rw [hu]; unfold rd; simp [List.getD, hlu]
    rw [hug] at hA
    rw [← ha] at hx0 hx1 hx2
    rw [← hu] at hu0
    have HA2 := Aside0.mk hA
    have q1 : (i : Int) < (up.length : Int) := by omega
    have hw64 : wrap64 ((i : Int) + 1) = ((i + 1 : Nat) : Int) := by unfold wrap64; omega
    have HGK := Aside0.mk hgk
    have HML := Aside0.mk hml
    have hm6 : m.length < 10000000 := by omega
    clear hA HA hug hum hgk hml ha hu
    go_wp2_with (first | ((with_reducible refine gate_dst (N := 8) rfl ?_); go_loud (refine box_event ?hg (N := 8) ?hd (cs := #[.string (⟨#[]⟩ : ByteArray), .string (⟨#[]⟩ : ByteArray), .int .i64 0]) (t := 37) ?hr ?_; (case hd => rfl); (case hg => rfl); (case hr => first | (go_simp; done) | (go_simp; rfl)); intro gb hgb w1 hbox hb; have HU1 := Aside0.mk (Kd.R_below HU.out hb); have HM1 := Aside0.mk (HM.out.below hb); have HB1 := Aside0.mk (below_step HB.out hb); have BK := Aside0.mk hbox; have hgw : w9.heap.size < gb := (by rw [hgb]; exact HM.out.lt); have hgw0 : w.heap.size < gb := Nat.lt_of_le_of_lt (below_size HB9.out) hgw; have hau : (au.add i).block ≠ gb := (by rw [hgb]; exact Nat.ne_of_lt (World.block_lt_of_cell? wr (au.add i) hu0)); have hu1 : w1.cell? (au.add i) = some (.int .i64 u) := (hb.cell (World.block_lt_of_cell? wr (au.add i) hu0)).trans hu0; have hcz0 : w1.cell? ⟨gb, 0, none⟩ = some (.string (⟨#[]⟩ : ByteArray)) := (blk_cell BK.out 0).trans rfl; have hcz1 : w1.cell? ⟨gb, 1, none⟩ = some (.string (⟨#[]⟩ : ByteArray)) := (blk_cell BK.out 1).trans rfl; have hcz2 : w1.cell? ⟨gb, 2, none⟩ = some (.int .i64 0) := (blk_cell BK.out 2).trans rfl; have hfz0 := blk_frozen BK.out 0; have hfz1 := blk_frozen BK.out 1; have hfz2 := blk_frozen BK.out 2; have hlook := MapN.look (show MapN (((w1.setCell ⟨gb, 0, none⟩ (.string a.f0)).setCell ⟨gb, 1, none⟩ (.string a.f1)).setCell ⟨gb, 2, none⟩ (.int .i64 a.f2)).drew w9.heap.size m by repeat (first | exact HM1.out | (refine MapN.setCell ?_ (by show w9.heap.size ≠ gb; omega) _) | (refine MapN.drew ?_))) u WFU.out; obtain ⟨w4, hupd, hm4, hg4⟩ := MapN.upd (show MapN (((w1.setCell ⟨gb, 0, none⟩ (.string a.f0)).setCell ⟨gb, 1, none⟩ (.string a.f1)).setCell ⟨gb, 2, none⟩ (.int .i64 a.f2)).drew w9.heap.size m by repeat (first | exact HM1.out | (refine MapN.setCell ?_ (by show w9.heap.size ≠ gb; omega) _) | (refine MapN.drew ?_))) (by omega) u WFU.out (wrap64 (lkI m u + a.f2)) (wf_wrap64 _); have HM4 := Aside0.mk hm4; have HG4 := Aside0.mk hg4; have hu3 : (((w1.setCell ⟨gb, 0, none⟩ (.string a.f0)).setCell ⟨gb, 1, none⟩ (.string a.f1)).setCell ⟨gb, 2, none⟩ (.int .i64 a.f2)).drew.cell? (au.add i) = some (.int .i64 u) := (cell_far3 (p := au.add i) hau).trans hu1; clear hbox hb hgb hm4 hg4)))
    go_region
    go_wp2
    have hgk := HGK.out
    have hml := HML.out
    go_roundg gk
    case measure => exact Nat.lt_succ_self _
    case rel =>
     refine ⟨i + 1, (u, wrap64 (lkI m u + a.f2)) :: m, by first | rfl | (push_cast; rfl), by omega, by omega, by simp [hml], HA2, ⟨?_⟩, HM4, ⟨?_⟩⟩
     ·refine Kd.R_keep (g := w9.heap.size) ?_ ⟨HG4.out.size, fun j hj hne _ => HG4.out.block j hj (fun e => hne (Option.some.inj e))⟩ (fun k hk => hk)
      refine Kd.R_mono (Kd.R_far (p := ⟨gb, 2, none⟩) (Kd.R_far (p := ⟨gb, 1, none⟩) (Kd.R_far (p := ⟨gb, 0, none⟩) (Kd.R_types HU1.out BK.out (by decide)) (fun _ hk => hk.2) (.string a.f0)) (fun _ hk => hk.2) (.string a.f1)) (fun _ hk => hk.2) (.int .i64 a.f2)) (fun _ hk => hk.1)
     ·have hB3 : Below w.heap.size w (((w1.setCell ⟨gb, 0, none⟩ (.string a.f0)).setCell ⟨gb, 1, none⟩ (.string a.f1)).setCell ⟨gb, 2, none⟩ (.int .i64 a.f2)) := (((HB1.out).setCell (p := ⟨gb, 0, none⟩) (Nat.le_of_lt hgw0) _).setCell (p := ⟨gb, 1, none⟩) (Nat.le_of_lt hgw0) _).setCell (p := ⟨gb, 2, none⟩) (Nat.le_of_lt hgw0) _
      exact ⟨HG4.out.os.trans hB3.os, HG4.out.tape.trans hB3.tape, HG4.out.output.trans hB3.output, Nat.le_trans hB3.size HG4.out.size, fun j hj => (HG4.out.block j (Nat.lt_of_lt_of_le hj hB3.size) (fun e => by have h1 := Option.some.inj e; have h2 := below_size HB9.out; omega)).trans (hB3.block j hj)⟩
   ·have hmm2 : m = allF l0 up [] := by
     have hA := HA.out
     rw [List.drop_eq_nil_of_le (by omega), allF] at hA
     ·exact hA
     ·intro _ _ _ _ q _; cases q
    have hlt2 : ¬ (i : Int) < (l0.length : Int) := by omega
    have HM2 : Aside0 (MapN wr w9.heap.size (allF l0 up [])) := ⟨hmm2 ▸ HM.out⟩
    have hul2 := HUL.out
    clear hgk HA hml hmm2 HM hul2
    obtain ⟨wx, hwx⟩ : ∃ x, x = wr := ⟨_, rfl⟩
    subst hwx
    have HBx := HB
    clear HB
    go_wp2_with (first | ((with_reducible refine gate_dst (N := 41) rfl ?_); refine Kd.R_lit (Kd.int .i64) _ 3 ?hg (N := 41) ?hd (xs := ([65536] : List Int)) (inner := [.int .i64 65536]) (ok := fun _ => True) (okp := fun _ => True) ?hr ?hp (fun _ hk => hk) trivial (Below.refl _ _) (Nat.le_refl _) (by simp) ?_; (case hd => rfl); (case hg => rfl); (case hr => first | (go_simp; done) | (go_simp; rfl)); (case hp => exact (Reps.one (show Kd.M (Kd.int .i64) _ _ _ 65536 [.int .i64 65536] from rfl) (Reps.none _ _))); intro v9 wy ho9 hb hg_ hnew_; clear hg_ hnew_; have HO := Aside0.mk ho9; have HBy := Aside0.mk hb; clear ho9 hb))
    go_loopg [9, 10] (l0.length + 1) (fun gk v9 v10 wr2 => ∃ (j : Nat) (xs : List Int), v10 = .int .i64 j ∧ 1 ≤ j ∧ 1 ≤ gk ∧ l0.length + 1 ≤ j + gk ∧ Aside0 (xs.length = j) ∧ Aside0 (normsL k (l0.drop j) (up.drop j) (allF l0 up []) xs = some out) ∧ Aside0 (Kd.R (Kd.int .i64) 3 wr2 wx.heap.size (fun _ => True) v9 xs) ∧ Aside0 (Below wx.heap.size wx wr2))
    case atStart => exact ⟨1, [65536], rfl, by omega, by omega, by omega, ⟨rfl⟩, HOUT, HO, HBy⟩
    case round =>
     clear HO HBy
     obtain ⟨j, xs, rfl, hj1, hg1, hgk, HXL, HN2, HO, HB2⟩ := hrel
     obtain ⟨gk, rfl⟩ : ∃ q, gk = q + 1 := ⟨gk - 1, by omega⟩
     obtain ⟨Ao, co, eo⟩ := Kd.R_slice HO.out
     subst eo
     by_cases hlt : j < l0.length
     ·have p0 : 0 ≤ (j : Int) := by omega
      have q0 : (j : Int) < (l0.length : Int) := by omega
      have hlu : j < up.length := by rw [HUL.out]; exact hlt
      obtain ⟨ad, e0, hx0, hx1, hx2⟩ := at_T37 HR0.out (j : Int) p0 (by omega)
      cases e0
      replace hx2 := (HBx.out.cell (World.block_lt_of_cell? w _ hx2)).trans hx2
      replace hx2 := (HB2.out.cell (World.block_lt_of_cell? wx _ hx2)).trans hx2
      obtain ⟨au, eu, hu0⟩ := Kd.at_int (Kd.R_reads' HU.out).2.2 (j : Int) p0 (by omega)
      cases eu
      replace hu0 := (HB2.out.cell (World.block_lt_of_cell? wx _ hu0)).trans hu0
      simp only [Int.toNat_natCast] at hx2 hu0
      obtain ⟨a, ha⟩ : ∃ a, a = rd_T37 l0 (j : Int) := ⟨_, rfl⟩
      obtain ⟨u, hu⟩ : ∃ u, u = rd up (j : Int) := ⟨_, rfl⟩
      have hug : up[j] = u := by rw [hu]; unfold rd; simp [List.getD, hlu]
      have hum : u ∈ up := by rw [← hug]; exact List.getElem_mem hlu
      have WFU := Aside0.mk (wf_small (HUU.out u hum))
      have hN := HN2.out
      rw [List.drop_eq_getElem_cons hlt, List.drop_eq_getElem_cons hlu, normsL, ← rd37 l0 j hlt, ← ha, hug] at hN
      split at hN
      case isFalse => cases hN
      rename_i hcu
      obtain ⟨⟨t1, t2⟩, hmd, hN⟩ := Option.bind_eq_some_iff.mp hN
      rw [← ha] at hx2
      rw [← hu] at hu0
      obtain ⟨ao, eo, ho0⟩ := Kd.at_int (Kd.R_reads' HO.out).2.2 u hcu.1 hcu.2
      cases eo
      have HMD := Aside0.mk hmd
      have HN3 := Aside0.mk hN
      have q1 : (j : Int) < (up.length : Int) := by omega
      have u0 : 0 ≤ u := hcu.1
      have u1 : u < (xs.length : Int) := hcu.2
      have hw64 : wrap64 ((j : Int) + 1) = ((j + 1 : Nat) : Int) := by unfold wrap64; omega
      have HGK := Aside0.mk hgk
      have hlook : ∀ n, (Instr.lookup 49 (.map (some w9.heap.size)) (.int .i64 u) false).run Tryd.prog (wr.drewN n) = .ok (.int .i64 (lkI (allF l0 up []) u)) (wr.drewN n) := fun n => MapN.look (HM2.out.below (pw_below_drewN HB2.out n)) u WFU.out
      clear hN hug hum hgk ha hu hmd hcu hg1
      go_wp2
      go_quiet (first | (go_at_call 28; exact Calls.quiet_of ((num_MulDiv.calls k (rd xs u) a.f2 (lkI (allF l0 up []) u) t1 t2 _ HMD.out).mono fun e w' hq => ⟨hq.1, hq.2.1⟩)))
      go_wp2_with (first | ((with_reducible refine gate_builtin (b := .append) (xs := #[.tmp 70, .tmp 72]) rfl ?_); at_builtin; refine Kd.R_append (Kd.int .i64) (w0 := wx) wx.heap.size rfl (.tmp 70) (.tmp 72) 23 3 (.int .i64 0) 8 rfl Tryd.underlying23 info3 rfl (by decide) (by omega) (.slice (some ao) xs.length co) xs t1 [.int .i64 t1] (fun _ => True) (fun _ => False) rfl (by first | (go_simp; done) | (go_simp; rfl)) ?aP (fun _ hk => hk.elim) ?aF ?aO ?aB ?aS ?aL ?_; (case aP => exact rfl); (case aB => exact (by repeat (first | exact HB2.out | apply below_alloc | apply pw_below_drewN | apply below_drew1))); (case aF => exact fun _ _ => trivial); (case aO => exact (by (with_reducible repeat (first | apply Kd.R_alloc | apply Kd.R_drewN | apply Kd.R_drew)); exact HO.out)); (case aS => exact (below_size (show Below wx.heap.size wx _ by repeat (first | exact HB2.out | apply below_alloc | apply pw_below_drewN | apply below_drew1)))); (case aL => have := HXL.out; omega); intro v3 w3 ho hb hg hat; have HO3 := Aside0.mk ho; have HB3 := Aside0.mk hb; clear ho hb hg hat))
      have hgk := HGK.out
      go_roundg gk
      case measure => exact Nat.lt_succ_self _
      case rel => exact ⟨j + 1, xs ++ [t1], by first | rfl | (push_cast; rfl), by omega, by omega, by omega, ⟨by rw [List.length_append, HXL.out]; rfl⟩, HN3, HO3, HB3⟩
     ·have hox : out = xs := by
       have hN := HN2.out
       rw [List.drop_eq_nil_of_le (by omega), normsL] at hN
       exact (Option.some.inj hN).symm
      have hlt2 : ¬ (j : Int) < (l0.length : Int) := by omega
      subst hox
      clear hgk HN2 HXL hg1
      go_wp2
      go_ret2
      exact ⟨_, rfl, Kd.R_mono (Kd.R_lower HO.out (below_size HBx.out)) (fun _ _ => trivial), below_step HBx.out HB2.out⟩
 ·rw [if_neg h0] at h
  simp only [Option.some.injEq, Prod.mk.injEq] at h
  obtain ⟨rfl, rfl⟩ := h
  have hne : (e == 0) = false := beq_eq_false_iff_ne.2 h0
  go_enter Tryd.func16, Tryd.ntmps16
  go_wp2_with (first | ((with_reducible refine gate_dst (N := 16) rfl ?_); refine Kd.R_make (Kd.int .i64) _ 3 rfl (N := 16) rfl 23 _ _ rfl (l0.length : Int) rfl rfl Tryd.underlying23 (.int .i64 0) 8 info3 rfl (by decide) (by omega) 0 (ok := fun _ => True) (okp := fun _ => True) rfl (fun _ hk => hk) trivial (of_decide_eq_true (by first | (with_reducible assumption) | assumption)) (Nat.le_trans (Nat.mul_le_mul_right _ (of_decide_eq_true (by first | (with_reducible assumption) | assumption) : (l0.length : Int).toNat ≤ 35184372088832)) (by omega)) (Below.refl _ _) (Nat.le_refl _) ?_; intro vz wz hoz hb hg_ hnew_; clear hg_ hnew_; simp only [Int.toNat_natCast] at hoz; obtain ⟨Az, cz, ez⟩ := Kd.R_slice hoz; subst ez; have HOZ := Aside0.mk hoz; have HBZ := Aside0.mk (below_step (by repeat (first | (with_reducible first | exact HB.out | apply below_alloc | apply pw_below_drewN | apply below_drew1) | exact HB.out)) hb); clear hoz hb) | ((with_reducible refine gate_callee (f := 23) rfl ?_); refine goesL_ (some 17) rfl rfl Tryd.func23 (by kernel_rfl) rfl #[.slice A0 l0.length c0, .slice Az (List.replicate l0.length (0 : Int)).length cz] rfl (by (try simp only [List.map_toArray, List.map_cons, List.map_nil, List.length_replicate]); first | done | rfl) ?_; (with_reducible refine (share_right.calls k _ _ l0 _ _ (List.replicate l0.length 0) e _ ?side1 ?side2 ?side3 ?side4 ?side5 HE.out).mono ?_); (case side1 => exact Glob.below HG.out HBZ.out); (case side2 => exact Kd.C_below HR0.out HBZ.out); (case side3 => exact HC0.out); (case side4 => exact (Kd.R_reads' HOZ.out).2.2); (case side5 => exact (Kd.R_reads' HOZ.out).2.1); rintro e w8 ⟨rfl, hb⟩; refine ⟨_, rfl, ?_⟩; have HB8 := Aside0.mk (below_step HBZ.out hb); clear hb))
  go_ret2
  exact ⟨_, rfl, Kd.R_nil _ _ _ _ _, HB8.out⟩
def share_Parts.l0 : Nat → List Int → List Int → List Int → Int → Int → Option (List Int × Int)
 | 0, _, _, _, _, _ => none
 | k + 1, x6, x8, x23, x24, x25 => if x25 < x24 then (if 0 ≤ x25 then (if x25 < (x23.length : Int) then (if 0 < (x6.length : Int) then (if (rd x6 0) > 0 then ((num_MulDiv.f k (rd x23 x25) 65536 (rd x6 0)).bind fun bt185 => (if x25 < (x8.length : Int) then (share_Parts.l0 k x6 (x8.set (x25 : Int).toNat bt185.1) x23 x24 (wrap64 (x25 + 1))) else (none))) else (share_Parts.l0 k x6 x8 x23 x24 (wrap64 (x25 + 1)))) else (none)) else (none)) else (none)) else (some (x8, 0))
def share_Parts.f (k : Nat) (l0 : List (S37)) (l1 : List Int) : Option (List Int × Int) := (share_Sums.f k l0 l1).bind fun bt175 => (if bt175.2 = 0 then (if 0 ≤ (l0.length : Int) then (if ((l0.length : Int) : Int).toNat ≤ 35184372088832 then (share_Parts.l0 k bt175.1 (List.replicate ((l0.length : Int) : Int).toNat 0) bt175.1 (bt175.1.length : Int) 0) else (none)) else (none)) else (some (([] : List Int), bt175.2)))
theorem share_Parts.mono_l : ∀ k, (∀ y0 y1 y2 y3 y4, LeO (share_Parts.l0 k y0 y1 y2 y3 y4) (share_Parts.l0 (k + 1) y0 y1 y2 y3 y4))
 | 0 => fun _ _ _ _ _ r h => by simp [share_Parts.l0] at h
 | k + 1 => by
  have ih0 := share_Parts.mono_l k
  ·intro y0 y1 y2 y3 y4
   unfold share_Parts.l0
   repeat' first
   | (with_reducible exact ih0 _ _ _ _ _)
   | (with_reducible exact num_MulDiv.mono _ _ _ _)
   | (with_reducible exact share_Sums.mono _ _ _)
   | (with_reducible exact LeO.refl _)
   | (with_reducible exact LeO.none _)
   | (with_reducible refine LeO.ite ?_ ?_)
   | (with_reducible refine LeO.bind ?_ (fun _ => ?_))
   | exact ih0 _ _ _ _ _
   | exact num_MulDiv.mono _ _ _ _
   | exact share_Sums.mono _ _ _
   | exact LeO.none _
   | refine LeO.ite ?_ ?_
   | refine LeO.bind ?_ (fun _ => ?_)
theorem share_Parts.mono : ∀ a0 a1 k, LeO (share_Parts.f k a0 a1) (share_Parts.f (k + 1) a0 a1) := by
 intro a0 a1 k
 have ih0 := share_Parts.mono_l k
 unfold share_Parts.f
 repeat' first
   | (with_reducible exact ih0 _ _ _ _ _)
   | (with_reducible exact num_MulDiv.mono _ _ _ _)
   | (with_reducible exact share_Sums.mono _ _ _)
   | (with_reducible exact LeO.refl _)
   | (with_reducible exact LeO.none _)
   | (with_reducible refine LeO.ite ?_ ?_)
   | (with_reducible refine LeO.bind ?_ (fun _ => ?_))
   | exact ih0 _ _ _ _ _
   | exact num_MulDiv.mono _ _ _ _
   | exact share_Sums.mono _ _ _
   | exact LeO.none _
   | refine LeO.ite ?_ ?_
   | refine LeO.bind ?_ (fun _ => ?_)
set_option maxHeartbeats 8000000 in
set_option maxRecDepth 100000 in
theorem share_Parts.calls (k : Nat) (A0 : Option Addr) (c0 : Nat) (l0 : List (S37)) (A1 : Option Addr) (c1 : Nat) (l1 : List Int) (r1 : List Int) (r2 : Int) (w : World) (hG : Glob w) (hr0 : Kd.C k37 w A0 l0.length l0) (hc0 : l0.length ≤ c0) (hr1 : Kd.C (Kd.int .i64) w A1 l1.length l1) (hc1 : l1.length ≤ c1) (h : share_Parts.f k l0 l1 = some (r1, r2)) :
  Calls Tryd.prog 18 #[.slice A0 l0.length c0, .slice A1 l1.length c1] w fun e w' => ∃ v0_ : Value, e = .returned (.tuple #[v0_, .int .i64 r2]) ∧ Kd.R (Kd.int .i64) 3 w' w.heap.size (fun _ => True) v0_ r1 ∧ Below w.heap.size w w' := by
 have HG := Aside0.mk hG
 clear hG
 have HR0 := Aside0.mk hr0
 have HC0 := Aside0.mk hc0
 clear hr0 hc0
 have HR1 := Aside0.mk hr1
 have HC1 := Aside0.mk hc1
 clear hr1 hc1
 have HB := Aside0.mk (Below.refl w.heap.size w)
 have H : ((share_Sums.f k l0 l1).bind fun bt175 => (if bt175.2 = 0 then (if 0 ≤ (l0.length : Int) then (if ((l0.length : Int) : Int).toNat ≤ 35184372088832 then (share_Parts.l0 k bt175.1 (List.replicate ((l0.length : Int) : Int).toNat 0) bt175.1 (bt175.1.length : Int) 0) else (none)) else (none)) else (some (([] : List Int), bt175.2)))) = some (r1, r2) := h
 clear h
 replace H := Option.bind_eq_some_iff.mp H
 obtain ⟨⟨t175, t176⟩, A30, H⟩ := H
 replace H : (if t176 = 0 then (if 0 ≤ (l0.length : Int) then (if ((l0.length : Int) : Int).toNat ≤ 35184372088832 then (share_Parts.l0 k t175 (List.replicate ((l0.length : Int) : Int).toNat 0) t175 (t175.length : Int) 0) else (none)) else (none)) else (some (([] : List Int), t176))) = some (r1, r2) := H
 have A3 := Aside0.mk A30
 clear A30
 by_cases c4 : t176 = 0
 ·rw [if_pos c4] at H
  have c4b0 : (t176 == 0) = true := beq_iff_eq.mpr c4
  have c4b1 : (t176 != 0) = false := bne_eq_false_iff_eq.mpr c4
  clear c4
  by_cases c5 : 0 ≤ (l0.length : Int)
  ·rw [if_pos c5] at H
   have c5b0 := eq_true c5
   have c5b1 : decide (0 ≤ (l0.length : Int)) = true := decide_eq_true c5
   clear c5
   by_cases c6 : ((l0.length : Int) : Int).toNat ≤ 35184372088832
   ·rw [if_pos c6] at H
    have c6b0 := eq_true c6
    have c6b1 : decide (((l0.length : Int) : Int).toNat ≤ 35184372088832) = true := decide_eq_true c6
    clear c6
    obtain ⟨y179, hy179⟩ : ∃ y_ : List Int, y_ = (List.replicate ((l0.length : Int) : Int).toNat 0) := ⟨_, rfl⟩
    replace H : (share_Parts.l0 k t175 y179 t175 (t175.length : Int) 0) = some (r1, r2) := by first | (rw [hy179]; with_reducible exact H) | (have H2_ := (Option.bind_some _ _).symm.trans H; rw [hy179]; with_reducible exact H2_) | (have H2_ := (Option.bind_some _ _).symm.trans H; with_reducible exact H2_) | with_reducible exact H | (rw [hy179]; exact H) | exact H
    have Ny179 := Aside0.mk hy179
    clear hy179
    have H' := Aside0.mk H
    clear H
    go_enter Tryd.func18, Tryd.ntmps18
    go_wp2_with (first | ((with_reducible refine gate_callee (f := 13) rfl ?_); refine goesL_ (some 14) rfl rfl Tryd.func13 (by kernel_rfl) rfl #[.slice A0 l0.length c0, .slice A1 l1.length c1] rfl (by (try simp only [List.map_toArray, List.map_cons, List.map_nil]); first | done | rfl | (simp only [List.length_drop, List.length_take]; rfl)) ?_; (with_reducible refine (share_Sums.calls k _ _ l0 _ _ l1 t175 t176 _ ?side1 ?side2 ?side3 ?side4 ?side5 A3.out).mono ?_); (case side1 => exact Glob.below HG.out (by repeat (first | (with_reducible first | exact HB.out | apply below_alloc | apply pw_below_drewN | apply below_drew1) | exact HB.out))); (case side2 => repeat (first | exact HR0.out | (with_reducible refine Kd.C_alloc ?_ _) | (with_reducible refine Kd.C_drewN ?_ _) | (with_reducible refine Kd.C_drew ?_))); (case side3 => exact HC0.out); (case side4 => repeat (first | exact HR1.out | (with_reducible refine Kd.C_alloc ?_ _) | (with_reducible refine Kd.C_drewN ?_ _) | (with_reducible refine Kd.C_drew ?_))); (case side5 => exact HC1.out); rintro e w7 ⟨v177, rfl, ho0, hb⟩; refine ⟨_, rfl, ?_⟩; have n0_ := Aside0.mk (Kd.R_lower ho0 (below_size (by repeat (first | (with_reducible first | exact HB.out | apply below_alloc | apply pw_below_drewN | apply below_drew1) | exact HB.out)))); have n1_ := Aside0.mk (below_step (by repeat (first | (with_reducible first | exact HB.out | apply below_alloc | apply pw_below_drewN | apply below_drew1) | exact HB.out)) hb); clear HB; have HO178 := n0_; have HB := n1_; clear n0_ n1_; (try clear hb); (try clear hb2); (try clear hk); (try clear hi); (try clear ho0)) | ((with_reducible refine gate_dst (N := 22) rfl ?_); refine Kd.R_make (Kd.int .i64) _ 3 rfl (N := 22) rfl 23 _ _ rfl (l0.length : Int) rfl rfl Tryd.underlying23 (.int .i64 0) 8 info3 rfl (by decide) (by omega) 0 (ok := fun _ => True) (okp := fun _ => True) rfl (fun _ hk => hk) trivial (of_decide_eq_true (by first | (with_reducible assumption) | assumption)) (Nat.le_trans (Nat.mul_le_mul_right _ (of_decide_eq_true (by first | (with_reducible assumption) | assumption) : (l0.length : Int).toNat ≤ 35184372088832)) (by omega)) (Below.refl _ _) (Nat.le_refl _) ?_; intro v180 w8 ho9 hb hg_ hnew_; clear hg_ hnew_; (first | rw [← Ny179.out] at ho9 | (simp only [Int.reduceToNat] at ho9; rw [← Ny179.out] at ho9)); have n0_ := Aside0.mk (Kd.R_elder' (by (with_reducible repeat (first | apply Kd.R_alloc | apply Kd.R_drewN | apply Kd.R_drew)); exact HO178.out) (Kd.R_base ho9) hb); have n1_ := Aside0.mk (Kd.R_lower (Kd.R_new' ho9 (Kd.R_lt (by (with_reducible repeat (first | apply Kd.R_alloc | apply Kd.R_drewN | apply Kd.R_drew)); exact HO178.out))) (below_size (by repeat (first | (with_reducible first | exact HB.out | apply below_alloc | apply pw_below_drewN | apply below_drew1) | exact HB.out)))); have n2_ := Aside0.mk (below_step (by repeat (first | (with_reducible first | exact HB.out | apply below_alloc | apply pw_below_drewN | apply below_drew1) | exact HB.out)) hb); clear HO178; clear HB; have HO178 := n0_; have HO181 := n1_; have HB := n2_; clear n0_ n1_ n2_; clear hb ho9; obtain ⟨Ao10, co10, eo10⟩ := Kd.R_slice HO178.out; subst eo10))
    go_loopg [25] k (fun kq v25 w' => ∃ (x8_1 : List Int) (x25_1 : Int), v25 = .int .i64 x25_1 ∧ Aside0 (share_Parts.l0 kq t175 x8_1 t175 (t175.length : Int) x25_1 = some (r1, r2)) ∧ Aside0 (kq ≤ k) ∧ Aside0 (Kd.R (Kd.int .i64) 3 w' w.heap.size (fun k_ => some k_ ≠ (v180 : Value).ownBlock) (.slice Ao10 t175.length co10) t175) ∧ Aside0 (Kd.R (Kd.int .i64) 3 w' w.heap.size (fun k_ => some k_ ≠ ((.slice Ao10 t175.length co10) : Value).ownBlock ∧ some k_ ≠ ((.slice Ao10 t175.length co10) : Value).ownBlock) v180 x8_1) ∧ Aside0 (Kd.R (Kd.int .i64) 3 w' w.heap.size (fun k_ => some k_ ≠ (v180 : Value).ownBlock) (.slice Ao10 t175.length co10) t175) ∧ Aside0 (Below w.heap.size w w'))
    case atStart => exact ⟨(y179), (0), (by first | rfl | (simp; done) | (simp [*]; done)), H', ⟨Nat.le_refl _⟩, ⟨by (with_reducible repeat (first | apply Kd.R_alloc | apply Kd.R_drewN | apply Kd.R_drew)); exact Kd.R_mono HO178.out (fun _ hk => hk.2)⟩, ⟨by (with_reducible repeat (first | apply Kd.R_alloc | apply Kd.R_drewN | apply Kd.R_drew)); exact Kd.R_mono HO181.out (fun _ hk => ⟨hk.2, hk.2⟩)⟩, ⟨by (with_reducible repeat (first | apply Kd.R_alloc | apply Kd.R_drewN | apply Kd.R_drew)); exact Kd.R_mono HO178.out (fun _ hk => hk.2)⟩, ⟨by repeat (first | (with_reducible first | exact HB.out | apply below_alloc | apply pw_below_drewN | apply below_drew1) | exact HB.out)⟩⟩
    case round =>
     clear H'
     obtain ⟨x8_1, x25_1, rfl, HA, HK1, HO_6, HO_8, HO_23, HB⟩ := hrel
     cases gk with
     | zero => exact absurd HA.out (by simp [share_Parts.l0])
     | succ k1 =>
      have H := HA.out
      clear HA
      simp only [share_Parts.l0] at H
      by_cases c11 : x25_1 < (t175.length : Int)
      ·rw [if_pos c11] at H
       have c11b0 : decide (x25_1 < (t175.length : Int)) = true := decide_eq_true c11
       clear c11
       by_cases c12 : 0 ≤ x25_1
       ·rw [if_pos c12] at H
        have c12b0 : decide (0 ≤ x25_1) = true := decide_eq_true c12
        clear c12
        by_cases c13 : x25_1 < (t175.length : Int)
        ·rw [if_pos c13] at H
         have c13b0 : decide (x25_1 < (t175.length : Int)) = true := decide_eq_true c13
         clear c13
         by_cases c14 : 0 < (t175.length : Int)
         ·rw [if_pos c14] at H
          have c14b0 : decide (0 < (t175.length : Int)) = true := decide_eq_true c14
          have c14b1 : decide (0 < t175.length) = true := decide_eq_true (by omega)
          clear c14
          by_cases c15 : (rd t175 0) > 0
          ·rw [if_pos c15] at H
           have c15b0 : decide (0 < (rd t175 0)) = true := decide_eq_true c15
           clear c15
           replace H := Option.bind_eq_some_iff.mp H
           obtain ⟨⟨t185, t186⟩, A160, H⟩ := H
           replace H : (if x25_1 < (x8_1.length : Int) then (share_Parts.l0 k1 t175 (x8_1.set (x25_1 : Int).toNat t185) t175 (t175.length : Int) (wrap64 (x25_1 + 1))) else (none)) = some (r1, r2) := H
           have A16 := Aside0.mk A160
           clear A160
           by_cases c17 : x25_1 < (x8_1.length : Int)
           ·rw [if_pos c17] at H
            have c17b0 : decide (x25_1 < (x8_1.length : Int)) = true := decide_eq_true c17
            clear c17
            obtain ⟨y187, hy187⟩ : ∃ y_ : List Int, y_ = (x8_1.set (x25_1 : Int).toNat t185) := ⟨_, rfl⟩
            replace H : (share_Parts.l0 k1 t175 y187 t175 (t175.length : Int) (wrap64 (x25_1 + 1))) = some (r1, r2) := by first | (rw [hy187]; with_reducible exact H) | (have H2_ := (Option.bind_some _ _).symm.trans H; rw [hy187]; with_reducible exact H2_) | (have H2_ := (Option.bind_some _ _).symm.trans H; with_reducible exact H2_) | with_reducible exact H | (rw [hy187]; exact H) | exact H
            have Ny187 := Aside0.mk hy187
            clear hy187
            have H' := Aside0.mk H
            clear H
            have p182 : 0 ≤ (x25_1 : Int) := of_decide_eq_true (by first | (with_reducible assumption) | assumption)
            have q182 : x25_1 < (t175.length : Int) := of_decide_eq_true (by first | (with_reducible assumption) | assumption)
            obtain ⟨ad182, e182, hx182_0⟩ := Kd.at_int (Kd.R_reads' HO_23.out).2.2 x25_1 p182 q182
            cases e182
            replace p182 := eq_true p182
            replace q182 := eq_true q182
            have p183 : 0 ≤ (0 : Int) := (by omega)
            have q183 : 0 < (t175.length : Int) := of_decide_eq_true (by first | (with_reducible assumption) | assumption)
            obtain ⟨ad183, e183, hx183_0⟩ := Kd.at_int (Kd.R_reads' HO_6.out).2.2 0 p183 q183
            obtain rfl : ad182 = ad183 := (by injection e183)
            have qi183 : (0 < t175.length) = True := eq_true (by omega)
            (try rw [show ((0 : Int)).toNat = 0 from rfl] at hx183_0)
            (try rw [Addr.add_zero'] at hx183_0)
            replace p183 := eq_true p183
            replace q183 := eq_true q183
            have p184 : 0 ≤ (0 : Int) := (by omega)
            have q184 : 0 < (t175.length : Int) := of_decide_eq_true (by first | (with_reducible assumption) | assumption)
            obtain ⟨ad184, e184, hx184_0⟩ := Kd.at_int (Kd.R_reads' HO_6.out).2.2 0 p184 q184
            obtain rfl : ad182 = ad184 := (by injection e184)
            have qi184 : (0 < t175.length) = True := eq_true (by omega)
            (try rw [show ((0 : Int)).toNat = 0 from rfl] at hx184_0)
            (try rw [Addr.add_zero'] at hx184_0)
            replace p184 := eq_true p184
            replace q184 := eq_true q184
            go_wp2_with (first | ((with_reducible refine gate_callee (f := 28) rfl ?_); refine goesL_ (some 41) rfl rfl Tryd.func28 (by kernel_rfl) rfl #[.int .i64 (rd t175 x25_1), .int .i64 65536, .int .i64 (rd t175 0)] rfl (by (try simp only [List.map_toArray, List.map_cons, List.map_nil]); first | done | rfl | (simp only [List.length_drop, List.length_take]; rfl)) ?_; (with_reducible refine (num_MulDiv.calls k1 (rd t175 x25_1) 65536 (rd t175 0) t185 t186 _ A16.out).mono ?_); rintro e w' ⟨rfl, ⟨nd, rfl⟩⟩; refine ⟨_, rfl, ?_⟩; (try (rw [drewN_self wr]; generalize hq_ : World.drewN wr _ = wr; have n0_ : Aside0 (Kd.R (Kd.int .i64) 3 wr w.heap.size (fun k_ => some k_ ≠ (v180 : Value).ownBlock) (.slice (some ad182) t175.length co10) t175) := ⟨by rw [← hq_]; exact (by (with_reducible repeat (first | apply Kd.R_alloc | apply Kd.R_drewN | apply Kd.R_drew)); exact HO_23.out)⟩; have n1_ : Aside0 (Kd.R (Kd.int .i64) 3 wr w.heap.size (fun k_ => some k_ ≠ (v180 : Value).ownBlock) (.slice (some ad182) t175.length co10) t175) := ⟨by rw [← hq_]; exact (by (with_reducible repeat (first | apply Kd.R_alloc | apply Kd.R_drewN | apply Kd.R_drew)); exact HO_6.out)⟩; have n2_ : Aside0 (Kd.R (Kd.int .i64) 3 wr w.heap.size (fun k_ => some k_ ≠ (.slice (some ad182) t175.length co10 : Value).ownBlock ∧ some k_ ≠ (.slice (some ad182) t175.length co10 : Value).ownBlock) v180 x8_1) := ⟨by rw [← hq_]; exact (by (with_reducible repeat (first | apply Kd.R_alloc | apply Kd.R_drewN | apply Kd.R_drew)); exact Kd.R_mono HO_8.out (fun _ hk => ⟨hk.2, hk.1⟩))⟩; have n3_ : Aside0 (Below w.heap.size w wr) := ⟨by rw [← hq_]; exact (by repeat (first | (with_reducible first | exact HB.out | apply below_alloc | apply pw_below_drewN | apply below_drew1) | exact HB.out))⟩; clear HO_23 HO_6 HO_8 HB hq_; have HO_23 := n0_; have HO_6 := n1_; have HO_8 := n2_; have HB := n3_; clear n0_ n1_ n2_ n3_)); have p18 : 0 ≤ (x25_1 : Int) := of_decide_eq_true (by first | (with_reducible assumption) | assumption); have q18 : (x25_1 : Int) < ((x8_1.length : Int) : Int) := of_decide_eq_true (by first | (with_reducible assumption) | assumption); obtain ⟨go18, co18, eo18, gb18, gl18, cl18, HG18⟩ := Kd.R_form HO_8.out (by omega); (first | cases eo18 | (injection eo18 with ea_ en_ ec_; (first | subst ea_ | (injection ea_ with ea_; subst ea_)); subst ec_; clear en_)); have GB18 := Aside0.mk gb18; have GG18 := Aside0.mk HG18; clear gb18 gl18 HG18; obtain ⟨hx18_0, hf18_0⟩ := Kd.R_celln 0 HO_8.out (x25_1 : Int) p18 q18; replace p18 := eq_true p18; replace q18 := eq_true q18; obtain ⟨hy19_, hz19_⟩ := Kd.R_celln 0 HO_8.out (x25_1 : Int) (of_decide_eq_true (by first | (with_reducible assumption) | assumption)) (of_decide_eq_true (by first | (with_reducible assumption) | assumption)); have HP19 := Kd.R_putg HO_8.out (x25_1 : Int) t185) | ((with_reducible refine gate_store (t := 3) (p := 44) rfl ?_); refine store_event (t := 3) (p := 44) (v := ?vo_w20) (w1 := (wr.setCell ⟨go18, (x25_1 : Int).toNat, none⟩ (.int .i64 t185))) ?hg ?ho ?hn ?hr ?_; (case ho => rfl); (case hg => rfl); (case hn => rfl); (case hr => first | (go_simp; done) | (go_simp; rfl)); intro w20 hw; have hg : wr.grownBy w20 (some go18) := (by rw [hw]; exact HP19.2); have hp_ : Kd.R (Kd.int .i64) 3 w20 w.heap.size (fun k_ => some k_ ≠ (.slice (some ad182) t175.length co10 : Value).ownBlock ∧ some k_ ≠ (.slice (some ad182) t175.length co10 : Value).ownBlock) (.slice (some ⟨go18, 0, none⟩) x8_1.length co18) y187 := (by rw [hw, Ny187.out]; exact HP19.1); clear HP19; have n0_ := Aside0.mk (Kd.R_after (v := (.slice (some ⟨go18, 0, none⟩) x8_1.length co18)) (v1 := (.slice (some ⟨go18, 0, none⟩) x8_1.length co18)) (ok := (fun _ => True)) (by (with_reducible repeat (first | apply Kd.R_alloc | apply Kd.R_drewN | apply Kd.R_drew)); exact Kd.R_mono HO_6.out (fun _ hk => ⟨trivial, hk⟩)) hg (.inl rfl)); have n1_ := Aside0.mk (hp_); have n2_ := Aside0.mk (Kd.R_after (v := (.slice (some ⟨go18, 0, none⟩) x8_1.length co18)) (v1 := (.slice (some ⟨go18, 0, none⟩) x8_1.length co18)) (ok := (fun _ => True)) (by (with_reducible repeat (first | apply Kd.R_alloc | apply Kd.R_drewN | apply Kd.R_drew)); exact Kd.R_mono HO_23.out (fun _ hk => ⟨trivial, hk⟩)) hg (.inl rfl)); have n3_ := Aside0.mk ((by rw [hw]; exact below_set (HB.out) GB18.out : Below w.heap.size w w20)); clear HO_6; clear HO_8; clear HO_23; clear HB; have HO_6 := n0_; have HO_8 := n1_; have HO_23 := n2_; have HB := n3_; clear n0_ n1_ n2_ n3_; clear hg hw hp_))
            go_roundg k1
            case measure => have := HK1.out; omega
            case rel => exact ⟨(y187), (wrap64 (x25_1 + 1)), (by first | rfl | (simp; done) | (simp [*]; done)), H', ⟨by have := HK1.out; omega⟩, ⟨by (with_reducible repeat (first | apply Kd.R_alloc | apply Kd.R_drewN | apply Kd.R_drew)); exact Kd.R_mono HO_6.out (fun _ hk => hk.2)⟩, ⟨by (with_reducible repeat (first | apply Kd.R_alloc | apply Kd.R_drewN | apply Kd.R_drew)); exact HO_8.out⟩, ⟨by (with_reducible repeat (first | apply Kd.R_alloc | apply Kd.R_drewN | apply Kd.R_drew)); exact Kd.R_mono HO_23.out (fun _ hk => hk.2)⟩, ⟨by repeat (first | (with_reducible first | exact HB.out | apply below_alloc | apply pw_below_drewN | apply below_drew1) | exact HB.out)⟩⟩
           ·rw [if_neg c17] at H
            exact absurd H (by simp)
          ·rw [if_neg c15] at H
           have c15b0 : decide (0 < (rd t175 0)) = false := decide_eq_false c15
           clear c15
           have H' := Aside0.mk H
           clear H
           have p182 : 0 ≤ (x25_1 : Int) := of_decide_eq_true (by first | (with_reducible assumption) | assumption)
           have q182 : x25_1 < (t175.length : Int) := of_decide_eq_true (by first | (with_reducible assumption) | assumption)
           obtain ⟨ad182, e182, hx182_0⟩ := Kd.at_int (Kd.R_reads' HO_23.out).2.2 x25_1 p182 q182
           cases e182
           replace p182 := eq_true p182
           replace q182 := eq_true q182
           have p183 : 0 ≤ (0 : Int) := (by omega)
           have q183 : 0 < (t175.length : Int) := of_decide_eq_true (by first | (with_reducible assumption) | assumption)
           obtain ⟨ad183, e183, hx183_0⟩ := Kd.at_int (Kd.R_reads' HO_6.out).2.2 0 p183 q183
           obtain rfl : ad182 = ad183 := (by injection e183)
           have qi183 : (0 < t175.length) = True := eq_true (by omega)
           (try rw [show ((0 : Int)).toNat = 0 from rfl] at hx183_0)
           (try rw [Addr.add_zero'] at hx183_0)
           replace p183 := eq_true p183
           replace q183 := eq_true q183
           go_wp2
           go_roundg k1
           case measure => have := HK1.out; omega
           case rel => exact ⟨(x8_1), (wrap64 (x25_1 + 1)), (by first | rfl | (simp; done) | (simp [*]; done)), H', ⟨by have := HK1.out; omega⟩, ⟨by (with_reducible repeat (first | apply Kd.R_alloc | apply Kd.R_drewN | apply Kd.R_drew)); exact HO_6.out⟩, ⟨by (with_reducible repeat (first | apply Kd.R_alloc | apply Kd.R_drewN | apply Kd.R_drew)); exact HO_8.out⟩, ⟨by (with_reducible repeat (first | apply Kd.R_alloc | apply Kd.R_drewN | apply Kd.R_drew)); exact HO_23.out⟩, ⟨by repeat (first | (with_reducible first | exact HB.out | apply below_alloc | apply pw_below_drewN | apply below_drew1) | exact HB.out)⟩⟩
         ·rw [if_neg c14] at H
          exact absurd H (by simp)
        ·rw [if_neg c13] at H
         exact absurd H (by simp)
       ·rw [if_neg c12] at H
        exact absurd H (by simp)
      ·rw [if_neg c11] at H
       have c11b0 : decide (x25_1 < (t175.length : Int)) = false := decide_eq_false c11
       clear c11
       simp only [Option.some.injEq, Prod.mk.injEq] at H
       obtain ⟨rfl, rfl⟩ := H
       go_wp2
       go_ret2
       exact ⟨_, by first | rfl | (simp [errW_none, errW_some] <;> rfl) | (simp [*, errW_none, errW_some] <;> rfl), by (with_reducible repeat (first | apply Kd.R_alloc | apply Kd.R_drewN | apply Kd.R_drew)); exact Kd.R_mono HO_8.out (fun _ hk => trivial), by repeat (first | (with_reducible first | exact HB.out | apply below_alloc | apply pw_below_drewN | apply below_drew1) | exact HB.out)⟩
   ·rw [if_neg c6] at H
    exact absurd H (by simp)
  ·rw [if_neg c5] at H
   exact absurd H (by simp)
 ·rw [if_neg c4] at H
  have c4b0 : (t176 == 0) = false := beq_eq_false_iff_ne.mpr c4
  have c4b1 : (t176 != 0) = true := bne_iff_ne.mpr c4
  simp only [Option.some.injEq, Prod.mk.injEq] at H
  obtain ⟨rfl, rfl⟩ := H
  go_enter Tryd.func18, Tryd.ntmps18
  go_wp2_with (first | ((with_reducible refine gate_callee (f := 13) rfl ?_); refine goesL_ (some 14) rfl rfl Tryd.func13 (by kernel_rfl) rfl #[.slice A0 l0.length c0, .slice A1 l1.length c1] rfl (by (try simp only [List.map_toArray, List.map_cons, List.map_nil]); first | done | rfl | (simp only [List.length_drop, List.length_take]; rfl)) ?_; (with_reducible refine (share_Sums.calls k _ _ l0 _ _ l1 t175 t176 _ ?side1 ?side2 ?side3 ?side4 ?side5 A3.out).mono ?_); (case side1 => exact Glob.below HG.out (by repeat (first | (with_reducible first | exact HB.out | apply below_alloc | apply pw_below_drewN | apply below_drew1) | exact HB.out))); (case side2 => repeat (first | exact HR0.out | (with_reducible refine Kd.C_alloc ?_ _) | (with_reducible refine Kd.C_drewN ?_ _) | (with_reducible refine Kd.C_drew ?_))); (case side3 => exact HC0.out); (case side4 => repeat (first | exact HR1.out | (with_reducible refine Kd.C_alloc ?_ _) | (with_reducible refine Kd.C_drewN ?_ _) | (with_reducible refine Kd.C_drew ?_))); (case side5 => exact HC1.out); rintro e w21 ⟨v177, rfl, ho0, hb⟩; refine ⟨_, rfl, ?_⟩; have n0_ := Aside0.mk (Kd.R_lower ho0 (below_size (by repeat (first | (with_reducible first | exact HB.out | apply below_alloc | apply pw_below_drewN | apply below_drew1) | exact HB.out)))); have n1_ := Aside0.mk (below_step (by repeat (first | (with_reducible first | exact HB.out | apply below_alloc | apply pw_below_drewN | apply below_drew1) | exact HB.out)) hb); clear HB; have HO178 := n0_; have HB := n1_; clear n0_ n1_; (try clear hb); (try clear hb2); (try clear hk); (try clear hi); (try clear ho0)))
  go_ret2
  exact ⟨_, by first | rfl | (simp [errW_none, errW_some] <;> rfl) | (simp [*, errW_none, errW_some] <;> rfl), by first | exact Kd.R_nil _ _ _ _ _ | exact Kd.N_nil _ _ _ _ _ | exact Kd.V_nil _ _ _ _ _ | exact Kd.Q_nil _ _ _ _ _ | exact Kd.S_nil _ _ _ _ _, by repeat (first | (with_reducible first | exact HB.out | apply below_alloc | apply pw_below_drewN | apply below_drew1) | exact HB.out)⟩
def share_Factors.l0 : Nat → List Int → List Int → List Int → Int → Int → Option (List Int × Int)
 | 0, _, _, _, _, _ => none
 | k + 1, x6, x10, x28, x29, x30 => if x30 < x29 then (if 0 ≤ x30 then (if x30 < (x28.length : Int) then (if x30 < (x6.length : Int) then (if (wrap64 ((rd x28 x30) + (rd x6 x30))) > 0 then (if (wrap64 ((rd x28 x30) + (rd x6 x30))) = 0 then (none) else (if x10.length < 17592186044416 then (share_Factors.l0 k x6 (x10 ++ [wrap64 (Int.tdiv (wrap64 (65536 * (rd x28 x30))) (wrap64 ((rd x28 x30) + (rd x6 x30))))]) x28 x29 (wrap64 (x30 + 1))) else (none))) else (if x10.length < 17592186044416 then (share_Factors.l0 k x6 (x10 ++ [0]) x28 x29 (wrap64 (x30 + 1))) else (none))) else (none)) else (none)) else (none)) else (some (x10, 0))
def share_Factors.f (k : Nat) (l0 : List (S37)) (l1 : List Int) : Option (List Int × Int) := (share_Parts.f k l0 l1).bind fun bt188 => (if bt188.2 = 0 then ((share_Norms.f k l0).bind fun bt192 => (share_Factors.l0 k bt188.1 ([] : List Int) bt192.1 (bt192.1.length : Int) 0)) else (some (([] : List Int), bt188.2)))
theorem share_Factors.mono_l : ∀ k, (∀ y0 y1 y2 y3 y4, LeO (share_Factors.l0 k y0 y1 y2 y3 y4) (share_Factors.l0 (k + 1) y0 y1 y2 y3 y4))
 | 0 => fun _ _ _ _ _ r h => by simp [share_Factors.l0] at h
 | k + 1 => by
  have ih0 := share_Factors.mono_l k
  ·intro y0 y1 y2 y3 y4
   unfold share_Factors.l0
   repeat' first
   | (with_reducible exact ih0 _ _ _ _ _)
   | (with_reducible exact share_Norms.mono _ _)
   | (with_reducible exact share_Parts.mono _ _ _)
   | (with_reducible exact LeO.refl _)
   | (with_reducible exact LeO.none _)
   | (with_reducible refine LeO.ite ?_ ?_)
   | (with_reducible refine LeO.bind ?_ (fun _ => ?_))
   | exact ih0 _ _ _ _ _
   | exact share_Norms.mono _ _
   | exact share_Parts.mono _ _ _
   | exact LeO.none _
   | refine LeO.ite ?_ ?_
   | refine LeO.bind ?_ (fun _ => ?_)
theorem share_Factors.mono : ∀ a0 a1 k, LeO (share_Factors.f k a0 a1) (share_Factors.f (k + 1) a0 a1) := by
 intro a0 a1 k
 have ih0 := share_Factors.mono_l k
 unfold share_Factors.f
 repeat' first
   | (with_reducible exact ih0 _ _ _ _ _)
   | (with_reducible exact share_Norms.mono _ _)
   | (with_reducible exact share_Parts.mono _ _ _)
   | (with_reducible exact LeO.refl _)
   | (with_reducible exact LeO.none _)
   | (with_reducible refine LeO.ite ?_ ?_)
   | (with_reducible refine LeO.bind ?_ (fun _ => ?_))
   | exact ih0 _ _ _ _ _
   | exact share_Norms.mono _ _
   | exact share_Parts.mono _ _ _
   | exact LeO.none _
   | refine LeO.ite ?_ ?_
   | refine LeO.bind ?_ (fun _ => ?_)
set_option maxHeartbeats 8000000 in
set_option maxRecDepth 100000 in
theorem share_Factors.calls (k : Nat) (A0 : Option Addr) (c0 : Nat) (l0 : List (S37)) (A1 : Option Addr) (c1 : Nat) (l1 : List Int) (r1 : List Int) (r2 : Int) (w : World) (hG : Glob w) (hr0 : Kd.C k37 w A0 l0.length l0) (hc0 : l0.length ≤ c0) (hr1 : Kd.C (Kd.int .i64) w A1 l1.length l1) (hc1 : l1.length ≤ c1) (h : share_Factors.f k l0 l1 = some (r1, r2)) :
  Calls Tryd.prog 20 #[.slice A0 l0.length c0, .slice A1 l1.length c1] w fun e w' => ∃ v0_ : Value, e = .returned (.tuple #[v0_, .int .i64 r2]) ∧ Kd.R (Kd.int .i64) 3 w' w.heap.size (fun _ => True) v0_ r1 ∧ Below w.heap.size w w' := by
 have HG := Aside0.mk hG
 clear hG
 have HR0 := Aside0.mk hr0
 have HC0 := Aside0.mk hc0
 clear hr0 hc0
 have HR1 := Aside0.mk hr1
 have HC1 := Aside0.mk hc1
 clear hr1 hc1
 have HB := Aside0.mk (Below.refl w.heap.size w)
 have H : ((share_Parts.f k l0 l1).bind fun bt188 => (if bt188.2 = 0 then ((share_Norms.f k l0).bind fun bt192 => (share_Factors.l0 k bt188.1 ([] : List Int) bt192.1 (bt192.1.length : Int) 0)) else (some (([] : List Int), bt188.2)))) = some (r1, r2) := h
 clear h
 replace H := Option.bind_eq_some_iff.mp H
 obtain ⟨⟨t188, t189⟩, A30, H⟩ := H
 replace H : (if t189 = 0 then ((share_Norms.f k l0).bind fun bt192 => (share_Factors.l0 k t188 ([] : List Int) bt192.1 (bt192.1.length : Int) 0)) else (some (([] : List Int), t189))) = some (r1, r2) := H
 have A3 := Aside0.mk A30
 clear A30
 by_cases c4 : t189 = 0
 ·rw [if_pos c4] at H
  have c4b0 : (t189 == 0) = true := beq_iff_eq.mpr c4
  have c4b1 : (t189 != 0) = false := bne_eq_false_iff_eq.mpr c4
  clear c4
  replace H := Option.bind_eq_some_iff.mp H
  obtain ⟨⟨t192, t193⟩, A50, H⟩ := H
  replace H : (share_Factors.l0 k t188 ([] : List Int) t192 (t192.length : Int) 0) = some (r1, r2) := H
  have A5 := Aside0.mk A50
  clear A50
  have H' := Aside0.mk H
  clear H
  go_enter Tryd.func20, Tryd.ntmps20
  go_wp2_with (first | ((with_reducible refine gate_callee (f := 18) rfl ?_); refine goesL_ (some 17) rfl rfl Tryd.func18 (by kernel_rfl) rfl #[.slice A0 l0.length c0, .slice A1 l1.length c1] rfl (by (try simp only [List.map_toArray, List.map_cons, List.map_nil]); first | done | rfl | (simp only [List.length_drop, List.length_take]; rfl)) ?_; (with_reducible refine (share_Parts.calls k _ _ l0 _ _ l1 t188 t189 _ ?side1 ?side2 ?side3 ?side4 ?side5 A3.out).mono ?_); (case side1 => exact Glob.below HG.out (by repeat (first | (with_reducible first | exact HB.out | apply below_alloc | apply pw_below_drewN | apply below_drew1) | exact HB.out))); (case side2 => repeat (first | exact HR0.out | (with_reducible refine Kd.C_alloc ?_ _) | (with_reducible refine Kd.C_drewN ?_ _) | (with_reducible refine Kd.C_drew ?_))); (case side3 => exact HC0.out); (case side4 => repeat (first | exact HR1.out | (with_reducible refine Kd.C_alloc ?_ _) | (with_reducible refine Kd.C_drewN ?_ _) | (with_reducible refine Kd.C_drew ?_))); (case side5 => exact HC1.out); rintro e w6 ⟨v190, rfl, ho0, hb⟩; refine ⟨_, rfl, ?_⟩; have n0_ := Aside0.mk (Kd.R_lower ho0 (below_size (by repeat (first | (with_reducible first | exact HB.out | apply below_alloc | apply pw_below_drewN | apply below_drew1) | exact HB.out)))); have n1_ := Aside0.mk (below_step (by repeat (first | (with_reducible first | exact HB.out | apply below_alloc | apply pw_below_drewN | apply below_drew1) | exact HB.out)) hb); clear HB; have HO191 := n0_; have HB := n1_; clear n0_ n1_; (try clear hb); (try clear hb2); (try clear hk); (try clear hi); (try clear ho0)) | ((with_reducible refine gate_callee (f := 16) rfl ?_); refine goesL_ (some 25) rfl rfl Tryd.func16 (by kernel_rfl) rfl #[.slice A0 l0.length c0] rfl (by (try simp only [List.map_toArray, List.map_cons, List.map_nil]); first | done | rfl | (simp only [List.length_drop, List.length_take]; rfl)) ?_; (with_reducible refine (share_Norms.calls k _ _ l0 t192 t193 _ ?side1 ?side2 ?side3 A5.out).mono ?_); (case side1 => exact Glob.below HG.out (by repeat (first | (with_reducible first | exact HB.out | apply below_alloc | apply pw_below_drewN | apply below_drew1) | exact HB.out))); (case side2 => repeat (first | exact (Kd.C_below HR0.out HB.out) | (with_reducible refine Kd.C_alloc ?_ _) | (with_reducible refine Kd.C_drewN ?_ _) | (with_reducible refine Kd.C_drew ?_))); (case side3 => exact HC0.out); rintro e w7 ⟨v194, rfl, ho0, hb⟩; refine ⟨_, rfl, ?_⟩; have n0_ := Aside0.mk (Kd.R_elder' (by (with_reducible repeat (first | apply Kd.R_alloc | apply Kd.R_drewN | apply Kd.R_drew)); exact HO191.out) (Kd.R_base ho0) hb); have n1_ := Aside0.mk (Kd.R_lower (Kd.R_new' ho0 (Kd.R_lt (by (with_reducible repeat (first | apply Kd.R_alloc | apply Kd.R_drewN | apply Kd.R_drew)); exact HO191.out))) (below_size (by repeat (first | (with_reducible first | exact HB.out | apply below_alloc | apply pw_below_drewN | apply below_drew1) | exact HB.out)))); have n2_ := Aside0.mk (below_step (by repeat (first | (with_reducible first | exact HB.out | apply below_alloc | apply pw_below_drewN | apply below_drew1) | exact HB.out)) hb); clear HO191; clear HB; have HO191 := n0_; have HO195 := n1_; have HB := n2_; clear n0_ n1_ n2_; (try clear hb); (try clear hb2); (try clear hk); (try clear hi); (try clear ho0); obtain ⟨Ao8, co8, eo8⟩ := Kd.R_slice HO195.out; subst eo8))
  go_loopg [10, 30] k (fun kq v10 v30 w' => ∃ (x10_1 : List Int) (x30_1 : Int), v30 = .int .i64 x30_1 ∧ Aside0 (share_Factors.l0 kq t188 x10_1 t192 (t192.length : Int) x30_1 = some (r1, r2)) ∧ Aside0 (kq ≤ k) ∧ Aside0 (Kd.R (Kd.int .i64) 3 w' w.heap.size (fun k_ => some k_ ≠ (v10 : Value).ownBlock ∧ some k_ ≠ ((.slice Ao8 t192.length co8) : Value).ownBlock) v190 t188) ∧ Aside0 (Kd.R (Kd.int .i64) 3 w' w.heap.size (fun k_ => some k_ ≠ (v190 : Value).ownBlock ∧ some k_ ≠ ((.slice Ao8 t192.length co8) : Value).ownBlock) v10 x10_1) ∧ Aside0 (Kd.R (Kd.int .i64) 3 w' w.heap.size (fun k_ => some k_ ≠ (v190 : Value).ownBlock ∧ some k_ ≠ (v10 : Value).ownBlock) (.slice Ao8 t192.length co8) t192) ∧ Aside0 (Below w.heap.size w w'))
  case atStart => exact ⟨(([] : List Int)), (0), (by first | rfl | (simp; done) | (simp [*]; done)), H', ⟨Nat.le_refl _⟩, ⟨by (with_reducible repeat (first | apply Kd.R_alloc | apply Kd.R_drewN | apply Kd.R_drew)); exact Kd.R_mono HO191.out (fun _ hk => ⟨(by simp [Value.ownBlock]), hk.2⟩)⟩, ⟨by first | exact Kd.R_nil _ _ _ _ _ | exact Kd.N_nil _ _ _ _ _ | exact Kd.V_nil _ _ _ _ _ | exact Kd.Q_nil _ _ _ _ _ | exact Kd.S_nil _ _ _ _ _⟩, ⟨by (with_reducible repeat (first | apply Kd.R_alloc | apply Kd.R_drewN | apply Kd.R_drew)); exact Kd.R_mono HO195.out (fun _ hk => ⟨hk.2, (by simp [Value.ownBlock])⟩)⟩, ⟨by repeat (first | (with_reducible first | exact HB.out | apply below_alloc | apply pw_below_drewN | apply below_drew1) | exact HB.out)⟩⟩
  case round =>
   clear H'
   obtain ⟨x10_1, x30_1, rfl, HA, HK1, HO_6, HO_10, HO_28, HB⟩ := hrel
   cases gk with
   | zero => exact absurd HA.out (by simp [share_Factors.l0])
   | succ k1 =>
    have H := HA.out
    clear HA
    simp only [share_Factors.l0] at H
    by_cases c9 : x30_1 < (t192.length : Int)
    ·rw [if_pos c9] at H
     have c9b0 : decide (x30_1 < (t192.length : Int)) = true := decide_eq_true c9
     clear c9
     by_cases c10 : 0 ≤ x30_1
     ·rw [if_pos c10] at H
      have c10b0 : decide (0 ≤ x30_1) = true := decide_eq_true c10
      clear c10
      by_cases c11 : x30_1 < (t192.length : Int)
      ·rw [if_pos c11] at H
       have c11b0 : decide (x30_1 < (t192.length : Int)) = true := decide_eq_true c11
       clear c11
       by_cases c12 : x30_1 < (t188.length : Int)
       ·rw [if_pos c12] at H
        have c12b0 : decide (x30_1 < (t188.length : Int)) = true := decide_eq_true c12
        clear c12
        by_cases c13 : (wrap64 ((rd t192 x30_1) + (rd t188 x30_1))) > 0
        ·rw [if_pos c13] at H
         have c13b0 : decide (0 < (wrap64 ((rd t192 x30_1) + (rd t188 x30_1)))) = true := decide_eq_true c13
         clear c13
         by_cases c14 : (wrap64 ((rd t192 x30_1) + (rd t188 x30_1))) = 0
         ·rw [if_pos c14] at H
          exact absurd H (by simp)
         ·rw [if_neg c14] at H
          have c14b0 : ((wrap64 ((rd t192 x30_1) + (rd t188 x30_1))) == 0) = false := beq_eq_false_iff_ne.mpr c14
          have c14b1 : ((wrap64 ((rd t192 x30_1) + (rd t188 x30_1))) != 0) = true := bne_iff_ne.mpr c14
          by_cases c15 : x10_1.length < 17592186044416
          ·rw [if_pos c15] at H
           have LMc15 := Aside0.mk c15
           clear c15
           obtain ⟨y199, hy199⟩ : ∃ y_ : List Int, y_ = (x10_1 ++ [wrap64 (Int.tdiv (wrap64 (65536 * (rd t192 x30_1))) (wrap64 ((rd t192 x30_1) + (rd t188 x30_1))))]) := ⟨_, rfl⟩
           replace H : (share_Factors.l0 k1 t188 y199 t192 (t192.length : Int) (wrap64 (x30_1 + 1))) = some (r1, r2) := by first | (rw [hy199]; with_reducible exact H) | (have H2_ := (Option.bind_some _ _).symm.trans H; rw [hy199]; with_reducible exact H2_) | (have H2_ := (Option.bind_some _ _).symm.trans H; with_reducible exact H2_) | with_reducible exact H | (rw [hy199]; exact H) | exact H
           have Ny199 := Aside0.mk hy199
           clear hy199
           have H' := Aside0.mk H
           clear H
           have p196 : 0 ≤ (x30_1 : Int) := of_decide_eq_true (by first | (with_reducible assumption) | assumption)
           have q196 : x30_1 < (t192.length : Int) := of_decide_eq_true (by first | (with_reducible assumption) | assumption)
           obtain ⟨ad196, e196, hx196_0⟩ := Kd.at_int (Kd.R_reads' HO_28.out).2.2 x30_1 p196 q196
           cases e196
           replace p196 := eq_true p196
           replace q196 := eq_true q196
           obtain ⟨Ao16, co16, eo16⟩ := Kd.R_slice HO_6.out
           subst eo16
           have p197 : 0 ≤ (x30_1 : Int) := of_decide_eq_true (by first | (with_reducible assumption) | assumption)
           have q197 : x30_1 < (t188.length : Int) := of_decide_eq_true (by first | (with_reducible assumption) | assumption)
           obtain ⟨ad197, e197, hx197_0⟩ := Kd.at_int (Kd.R_reads' HO_6.out).2.2 x30_1 p197 q197
           cases e197
           replace p197 := eq_true p197
           replace q197 := eq_true q197
           have p198 : 0 ≤ (x30_1 : Int) := of_decide_eq_true (by first | (with_reducible assumption) | assumption)
           have q198 : x30_1 < (t188.length : Int) := of_decide_eq_true (by first | (with_reducible assumption) | assumption)
           obtain ⟨ad198, e198, hx198_0⟩ := Kd.at_int (Kd.R_reads' HO_6.out).2.2 x30_1 p198 q198
           obtain rfl : ad197 = ad198 := (by injection e198)
           replace p198 := eq_true p198
           replace q198 := eq_true q198
           go_wp2_with (first | ((with_reducible refine gate_builtin (b := .append) (xs := #[.tmp 51, .tmp 53]) rfl ?_); at_builtin; refine Kd.R_append (Kd.int .i64) (w0 := w) w.heap.size rfl (.tmp 51) (.tmp 53) 23 3 (.int .i64 0) 8 rfl Tryd.underlying23 info3 rfl (by decide) (by omega) u10 x10_1 (wrap64 (Int.tdiv (wrap64 (65536 * (rd t192 x30_1))) (wrap64 ((rd t192 x30_1) + (rd t188 x30_1))))) [.int .i64 (wrap64 (Int.tdiv (wrap64 (65536 * (rd t192 x30_1))) (wrap64 ((rd t192 x30_1) + (rd t188 x30_1)))))] (fun k_ => some k_ ≠ (.slice (some ad197) t188.length co16 : Value).ownBlock ∧ some k_ ≠ (.slice (some ad196) t192.length co8 : Value).ownBlock) (fun _ => False) rfl rfl ?aP (fun _ hk => hk.elim) ?aF ?aO ?aB ?aS ?aL ?_; (case aP => exact rfl); (case aB => exact (by repeat (first | (with_reducible first | exact HB.out | apply below_alloc | apply pw_below_drewN | apply below_drew1) | exact HB.out))); (case aF => exact (fun k_ hk => ⟨Kd.fresh' (Kd.R_lt (by (with_reducible repeat (first | apply Kd.R_alloc | apply Kd.R_drewN | apply Kd.R_drew)); exact HO_6.out)) k_ hk, Kd.fresh' (Kd.R_lt (by (with_reducible repeat (first | apply Kd.R_alloc | apply Kd.R_drewN | apply Kd.R_drew)); exact HO_28.out)) k_ hk⟩)); (case aO => exact (by (with_reducible repeat (first | apply Kd.R_alloc | apply Kd.R_drewN | apply Kd.R_drew)); exact HO_10.out)); (case aS => exact (below_size (by repeat (first | (with_reducible first | exact HB.out | apply below_alloc | apply pw_below_drewN | apply below_drew1) | exact HB.out)))); (case aL => have := LMc15.out; omega); intro v200 w17 ho hb hg hat; rw [← Ny199.out] at ho; have n0_ := Aside0.mk (Kd.R_after (ok := (fun k_ => some k_ ≠ (.slice (some ad196) t192.length co8 : Value).ownBlock)) (by (with_reducible repeat (first | apply Kd.R_alloc | apply Kd.R_drewN | apply Kd.R_drew)); exact Kd.R_mono HO_6.out (fun _ hk => ⟨hk.2, hk.1⟩)) hg hat); have n1_ := Aside0.mk (Kd.R_after (ok := (fun k_ => some k_ ≠ (.slice (some ad197) t188.length co16 : Value).ownBlock)) (by (with_reducible repeat (first | apply Kd.R_alloc | apply Kd.R_drewN | apply Kd.R_drew)); exact HO_28.out) hg hat); have n2_ := Aside0.mk (hb); have n3_ := Aside0.mk (ho); clear HO_6; clear HO_28; clear HB; clear HO_10; have HO_6 := n0_; have HO_28 := n1_; have HB := n2_; have HO201 := n3_; clear n0_ n1_ n2_ n3_; clear ho hb hg hat))
           go_roundg k1
           case measure => have := HK1.out; omega
           case rel => exact ⟨(y199), (wrap64 (x30_1 + 1)), (by first | rfl | (simp; done) | (simp [*]; done)), H', ⟨by have := HK1.out; omega⟩, ⟨by (with_reducible repeat (first | apply Kd.R_alloc | apply Kd.R_drewN | apply Kd.R_drew)); exact Kd.R_mono HO_6.out (fun _ hk => ⟨hk.2, hk.1⟩)⟩, ⟨by (with_reducible repeat (first | apply Kd.R_alloc | apply Kd.R_drewN | apply Kd.R_drew)); exact HO201.out⟩, ⟨by (with_reducible repeat (first | apply Kd.R_alloc | apply Kd.R_drewN | apply Kd.R_drew)); exact HO_28.out⟩, ⟨by repeat (first | (with_reducible first | exact HB.out | apply below_alloc | apply pw_below_drewN | apply below_drew1) | exact HB.out)⟩⟩
          ·rw [if_neg c15] at H
           exact absurd H (by simp)
        ·rw [if_neg c13] at H
         have c13b0 : decide (0 < (wrap64 ((rd t192 x30_1) + (rd t188 x30_1)))) = false := decide_eq_false c13
         clear c13
         by_cases c18 : x10_1.length < 17592186044416
         ·rw [if_pos c18] at H
          have LMc18 := Aside0.mk c18
          clear c18
          obtain ⟨y202, hy202⟩ : ∃ y_ : List Int, y_ = (x10_1 ++ [0]) := ⟨_, rfl⟩
          replace H : (share_Factors.l0 k1 t188 y202 t192 (t192.length : Int) (wrap64 (x30_1 + 1))) = some (r1, r2) := by first | (rw [hy202]; with_reducible exact H) | (have H2_ := (Option.bind_some _ _).symm.trans H; rw [hy202]; with_reducible exact H2_) | (have H2_ := (Option.bind_some _ _).symm.trans H; with_reducible exact H2_) | with_reducible exact H | (rw [hy202]; exact H) | exact H
          have Ny202 := Aside0.mk hy202
          clear hy202
          have H' := Aside0.mk H
          clear H
          have p196 : 0 ≤ (x30_1 : Int) := of_decide_eq_true (by first | (with_reducible assumption) | assumption)
          have q196 : x30_1 < (t192.length : Int) := of_decide_eq_true (by first | (with_reducible assumption) | assumption)
          obtain ⟨ad196, e196, hx196_0⟩ := Kd.at_int (Kd.R_reads' HO_28.out).2.2 x30_1 p196 q196
          cases e196
          replace p196 := eq_true p196
          replace q196 := eq_true q196
          obtain ⟨Ao19, co19, eo19⟩ := Kd.R_slice HO_6.out
          subst eo19
          have p197 : 0 ≤ (x30_1 : Int) := of_decide_eq_true (by first | (with_reducible assumption) | assumption)
          have q197 : x30_1 < (t188.length : Int) := of_decide_eq_true (by first | (with_reducible assumption) | assumption)
          obtain ⟨ad197, e197, hx197_0⟩ := Kd.at_int (Kd.R_reads' HO_6.out).2.2 x30_1 p197 q197
          cases e197
          replace p197 := eq_true p197
          replace q197 := eq_true q197
          go_wp2_with (first | ((with_reducible refine gate_builtin (b := .append) (xs := #[.tmp 51, .tmp 53]) rfl ?_); at_builtin; refine Kd.R_append (Kd.int .i64) (w0 := w) w.heap.size rfl (.tmp 51) (.tmp 53) 23 3 (.int .i64 0) 8 rfl Tryd.underlying23 info3 rfl (by decide) (by omega) u10 x10_1 0 [.int .i64 0] (fun k_ => some k_ ≠ (.slice (some ad197) t188.length co19 : Value).ownBlock ∧ some k_ ≠ (.slice (some ad196) t192.length co8 : Value).ownBlock) (fun _ => False) rfl rfl ?aP (fun _ hk => hk.elim) ?aF ?aO ?aB ?aS ?aL ?_; (case aP => exact rfl); (case aB => exact (by repeat (first | (with_reducible first | exact HB.out | apply below_alloc | apply pw_below_drewN | apply below_drew1) | exact HB.out))); (case aF => exact (fun k_ hk => ⟨Kd.fresh' (Kd.R_lt (by (with_reducible repeat (first | apply Kd.R_alloc | apply Kd.R_drewN | apply Kd.R_drew)); exact HO_6.out)) k_ hk, Kd.fresh' (Kd.R_lt (by (with_reducible repeat (first | apply Kd.R_alloc | apply Kd.R_drewN | apply Kd.R_drew)); exact HO_28.out)) k_ hk⟩)); (case aO => exact (by (with_reducible repeat (first | apply Kd.R_alloc | apply Kd.R_drewN | apply Kd.R_drew)); exact HO_10.out)); (case aS => exact (below_size (by repeat (first | (with_reducible first | exact HB.out | apply below_alloc | apply pw_below_drewN | apply below_drew1) | exact HB.out)))); (case aL => have := LMc18.out; omega); intro v203 w20 ho hb hg hat; rw [← Ny202.out] at ho; have n0_ := Aside0.mk (Kd.R_after (ok := (fun k_ => some k_ ≠ (.slice (some ad196) t192.length co8 : Value).ownBlock)) (by (with_reducible repeat (first | apply Kd.R_alloc | apply Kd.R_drewN | apply Kd.R_drew)); exact Kd.R_mono HO_6.out (fun _ hk => ⟨hk.2, hk.1⟩)) hg hat); have n1_ := Aside0.mk (Kd.R_after (ok := (fun k_ => some k_ ≠ (.slice (some ad197) t188.length co19 : Value).ownBlock)) (by (with_reducible repeat (first | apply Kd.R_alloc | apply Kd.R_drewN | apply Kd.R_drew)); exact HO_28.out) hg hat); have n2_ := Aside0.mk (hb); have n3_ := Aside0.mk (ho); clear HO_6; clear HO_28; clear HB; clear HO_10; have HO_6 := n0_; have HO_28 := n1_; have HB := n2_; have HO204 := n3_; clear n0_ n1_ n2_ n3_; clear ho hb hg hat))
          go_roundg k1
          case measure => have := HK1.out; omega
          case rel => exact ⟨(y202), (wrap64 (x30_1 + 1)), (by first | rfl | (simp; done) | (simp [*]; done)), H', ⟨by have := HK1.out; omega⟩, ⟨by (with_reducible repeat (first | apply Kd.R_alloc | apply Kd.R_drewN | apply Kd.R_drew)); exact Kd.R_mono HO_6.out (fun _ hk => ⟨hk.2, hk.1⟩)⟩, ⟨by (with_reducible repeat (first | apply Kd.R_alloc | apply Kd.R_drewN | apply Kd.R_drew)); exact HO204.out⟩, ⟨by (with_reducible repeat (first | apply Kd.R_alloc | apply Kd.R_drewN | apply Kd.R_drew)); exact HO_28.out⟩, ⟨by repeat (first | (with_reducible first | exact HB.out | apply below_alloc | apply pw_below_drewN | apply below_drew1) | exact HB.out)⟩⟩
         ·rw [if_neg c18] at H
          exact absurd H (by simp)
       ·rw [if_neg c12] at H
        exact absurd H (by simp)
      ·rw [if_neg c11] at H
       exact absurd H (by simp)
     ·rw [if_neg c10] at H
      exact absurd H (by simp)
    ·rw [if_neg c9] at H
     have c9b0 : decide (x30_1 < (t192.length : Int)) = false := decide_eq_false c9
     clear c9
     simp only [Option.some.injEq, Prod.mk.injEq] at H
     obtain ⟨rfl, rfl⟩ := H
     go_wp2
     go_ret2
     exact ⟨_, by first | rfl | (simp [errW_none, errW_some] <;> rfl) | (simp [*, errW_none, errW_some] <;> rfl), by (with_reducible repeat (first | apply Kd.R_alloc | apply Kd.R_drewN | apply Kd.R_drew)); exact Kd.R_mono HO_10.out (fun _ hk => trivial), by repeat (first | (with_reducible first | exact HB.out | apply below_alloc | apply pw_below_drewN | apply below_drew1) | exact HB.out)⟩
 ·rw [if_neg c4] at H
  have c4b0 : (t189 == 0) = false := beq_eq_false_iff_ne.mpr c4
  have c4b1 : (t189 != 0) = true := bne_iff_ne.mpr c4
  simp only [Option.some.injEq, Prod.mk.injEq] at H
  obtain ⟨rfl, rfl⟩ := H
  go_enter Tryd.func20, Tryd.ntmps20
  go_wp2_with (first | ((with_reducible refine gate_callee (f := 18) rfl ?_); refine goesL_ (some 17) rfl rfl Tryd.func18 (by kernel_rfl) rfl #[.slice A0 l0.length c0, .slice A1 l1.length c1] rfl (by (try simp only [List.map_toArray, List.map_cons, List.map_nil]); first | done | rfl | (simp only [List.length_drop, List.length_take]; rfl)) ?_; (with_reducible refine (share_Parts.calls k _ _ l0 _ _ l1 t188 t189 _ ?side1 ?side2 ?side3 ?side4 ?side5 A3.out).mono ?_); (case side1 => exact Glob.below HG.out (by repeat (first | (with_reducible first | exact HB.out | apply below_alloc | apply pw_below_drewN | apply below_drew1) | exact HB.out))); (case side2 => repeat (first | exact HR0.out | (with_reducible refine Kd.C_alloc ?_ _) | (with_reducible refine Kd.C_drewN ?_ _) | (with_reducible refine Kd.C_drew ?_))); (case side3 => exact HC0.out); (case side4 => repeat (first | exact HR1.out | (with_reducible refine Kd.C_alloc ?_ _) | (with_reducible refine Kd.C_drewN ?_ _) | (with_reducible refine Kd.C_drew ?_))); (case side5 => exact HC1.out); rintro e w21 ⟨v190, rfl, ho0, hb⟩; refine ⟨_, rfl, ?_⟩; have n0_ := Aside0.mk (Kd.R_lower ho0 (below_size (by repeat (first | (with_reducible first | exact HB.out | apply below_alloc | apply pw_below_drewN | apply below_drew1) | exact HB.out)))); have n1_ := Aside0.mk (below_step (by repeat (first | (with_reducible first | exact HB.out | apply below_alloc | apply pw_below_drewN | apply below_drew1) | exact HB.out)) hb); clear HB; have HO191 := n0_; have HB := n1_; clear n0_ n1_; (try clear hb); (try clear hb2); (try clear hk); (try clear hi); (try clear ho0)))
  go_ret2
  exact ⟨_, by first | rfl | (simp [errW_none, errW_some] <;> rfl) | (simp [*, errW_none, errW_some] <;> rfl), by first | exact Kd.R_nil _ _ _ _ _ | exact Kd.N_nil _ _ _ _ _ | exact Kd.V_nil _ _ _ _ _ | exact Kd.Q_nil _ _ _ _ _ | exact Kd.S_nil _ _ _ _ _, by repeat (first | (with_reducible first | exact HB.out | apply below_alloc | apply pw_below_drewN | apply below_drew1) | exact HB.out)⟩
def gangerlaw11_four.f  : Option ((List (S37))) := some (([(⟨(⟨#[114, 111, 111, 116]⟩ : ByteArray), (⟨#[]⟩ : ByteArray), 1⟩ : S37), (⟨(⟨#[112, 104, 121, 115]⟩ : ByteArray), (⟨#[114, 111, 111, 116]⟩ : ByteArray), 3⟩ : S37), (⟨(⟨#[99, 104, 101, 109]⟩ : ByteArray), (⟨#[114, 111, 111, 116]⟩ : ByteArray), 1⟩ : S37), (⟨(⟨#[97, 110, 110]⟩ : ByteArray), (⟨#[112, 104, 121, 115]⟩ : ByteArray), 1⟩ : S37)] : List (S37)))
set_option maxHeartbeats 8000000 in
set_option maxRecDepth 100000 in
theorem gangerlaw11_four.calls  (r : List (S37)) (w : World) (h : gangerlaw11_four.f  = some r) :
  Calls Tryd.prog 22 #[] w fun e w' => ∃ v0_ : Value, e = .returned (v0_) ∧ Kd.R k37 37 w' w.heap.size (fun _ => True) v0_ r ∧ Below w.heap.size w w' := by
 have hu37 := Tryd.underlying37
 have HB := Aside0.mk (Below.refl w.heap.size w)
 have H : (some (([(⟨(⟨#[114, 111, 111, 116]⟩ : ByteArray), (⟨#[]⟩ : ByteArray), 1⟩ : S37), (⟨(⟨#[112, 104, 121, 115]⟩ : ByteArray), (⟨#[114, 111, 111, 116]⟩ : ByteArray), 3⟩ : S37), (⟨(⟨#[99, 104, 101, 109]⟩ : ByteArray), (⟨#[114, 111, 111, 116]⟩ : ByteArray), 1⟩ : S37), (⟨(⟨#[97, 110, 110]⟩ : ByteArray), (⟨#[112, 104, 121, 115]⟩ : ByteArray), 1⟩ : S37)] : List (S37)))) = some r := h
 clear h
 obtain ⟨y205, hy205⟩ : ∃ y_ : List (S37), y_ = (([(⟨(⟨#[114, 111, 111, 116]⟩ : ByteArray), (⟨#[]⟩ : ByteArray), 1⟩ : S37), (⟨(⟨#[112, 104, 121, 115]⟩ : ByteArray), (⟨#[114, 111, 111, 116]⟩ : ByteArray), 3⟩ : S37), (⟨(⟨#[99, 104, 101, 109]⟩ : ByteArray), (⟨#[114, 111, 111, 116]⟩ : ByteArray), 1⟩ : S37), (⟨(⟨#[97, 110, 110]⟩ : ByteArray), (⟨#[112, 104, 121, 115]⟩ : ByteArray), 1⟩ : S37)] : List (S37))) := ⟨_, rfl⟩
 replace H : (some y205) = some r := by first | (rw [hy205]; with_reducible exact H) | (have H2_ := (Option.bind_some _ _).symm.trans H; rw [hy205]; with_reducible exact H2_) | (have H2_ := (Option.bind_some _ _).symm.trans H; with_reducible exact H2_) | with_reducible exact H | (rw [hy205]; exact H) | exact H
 have Ny205 := Aside0.mk hy205
 clear hy205
 obtain rfl := Option.some.inj H
 go_enter Tryd.func22, Tryd.ntmps22
 go_wp2_with (first | ((with_reducible refine gate_dst (N := 5) rfl ?_); refine Kd.R_lit k37 _ 37 ?hg (N := 5) ?hd (xs := ([(⟨(⟨#[114, 111, 111, 116]⟩ : ByteArray), (⟨#[]⟩ : ByteArray), 1⟩ : S37), (⟨(⟨#[112, 104, 121, 115]⟩ : ByteArray), (⟨#[114, 111, 111, 116]⟩ : ByteArray), 3⟩ : S37), (⟨(⟨#[99, 104, 101, 109]⟩ : ByteArray), (⟨#[114, 111, 111, 116]⟩ : ByteArray), 1⟩ : S37), (⟨(⟨#[97, 110, 110]⟩ : ByteArray), (⟨#[112, 104, 121, 115]⟩ : ByteArray), 1⟩ : S37)] : List (S37))) (inner := [.string (⟨#[114, 111, 111, 116]⟩ : ByteArray), .string (⟨#[]⟩ : ByteArray), .int .i64 1, .string (⟨#[112, 104, 121, 115]⟩ : ByteArray), .string (⟨#[114, 111, 111, 116]⟩ : ByteArray), .int .i64 3, .string (⟨#[99, 104, 101, 109]⟩ : ByteArray), .string (⟨#[114, 111, 111, 116]⟩ : ByteArray), .int .i64 1, .string (⟨#[97, 110, 110]⟩ : ByteArray), .string (⟨#[112, 104, 121, 115]⟩ : ByteArray), .int .i64 1]) (ok := fun _ => True) (okp := fun _ => True) ?hr ?hp (fun _ hk => hk) trivial (Below.refl _ _) (Nat.le_refl _) (by simp) ?_; (case hd => rfl); (case hg => rfl); (case hr => first | (go_simp; done) | (go_simp; rfl)); (case hp => exact (Reps.c3 (show Kd.M k37 _ _ _ (⟨(⟨#[114, 111, 111, 116]⟩ : ByteArray), (⟨#[]⟩ : ByteArray), 1⟩ : S37) [.string (⟨#[114, 111, 111, 116]⟩ : ByteArray), .string (⟨#[]⟩ : ByteArray), .int .i64 1] from (k37_mkM _ _ _ (⟨(⟨#[114, 111, 111, 116]⟩ : ByteArray), (⟨#[]⟩ : ByteArray), 1⟩ : S37) )) (Reps.c3 (show Kd.M k37 _ _ _ (⟨(⟨#[112, 104, 121, 115]⟩ : ByteArray), (⟨#[114, 111, 111, 116]⟩ : ByteArray), 3⟩ : S37) [.string (⟨#[112, 104, 121, 115]⟩ : ByteArray), .string (⟨#[114, 111, 111, 116]⟩ : ByteArray), .int .i64 3] from (k37_mkM _ _ _ (⟨(⟨#[112, 104, 121, 115]⟩ : ByteArray), (⟨#[114, 111, 111, 116]⟩ : ByteArray), 3⟩ : S37) )) (Reps.c3 (show Kd.M k37 _ _ _ (⟨(⟨#[99, 104, 101, 109]⟩ : ByteArray), (⟨#[114, 111, 111, 116]⟩ : ByteArray), 1⟩ : S37) [.string (⟨#[99, 104, 101, 109]⟩ : ByteArray), .string (⟨#[114, 111, 111, 116]⟩ : ByteArray), .int .i64 1] from (k37_mkM _ _ _ (⟨(⟨#[99, 104, 101, 109]⟩ : ByteArray), (⟨#[114, 111, 111, 116]⟩ : ByteArray), 1⟩ : S37) )) (Reps.c3 (show Kd.M k37 _ _ _ (⟨(⟨#[97, 110, 110]⟩ : ByteArray), (⟨#[112, 104, 121, 115]⟩ : ByteArray), 1⟩ : S37) [.string (⟨#[97, 110, 110]⟩ : ByteArray), .string (⟨#[112, 104, 121, 115]⟩ : ByteArray), .int .i64 1] from (k37_mkM _ _ _ (⟨(⟨#[97, 110, 110]⟩ : ByteArray), (⟨#[112, 104, 121, 115]⟩ : ByteArray), 1⟩ : S37) )) (Reps.none _ _)))))); intro v206 w1 ho2 hb hg_ hnew_; clear hg_ hnew_; (first | rw [← Ny205.out] at ho2 | (simp only [Int.reduceToNat] at ho2; rw [← Ny205.out] at ho2)); have n0_ := Aside0.mk (Kd.R_lower ho2 (below_size (by repeat (first | (with_reducible first | exact HB.out | apply below_alloc | apply pw_below_drewN | apply below_drew1) | exact HB.out)))); have n1_ := Aside0.mk (below_step (by repeat (first | (with_reducible first | exact HB.out | apply below_alloc | apply pw_below_drewN | apply below_drew1) | exact HB.out)) hb); clear HB; have HO207 := n0_; have HB := n1_; clear n0_ n1_; clear hb ho2))
 go_ret
 exact ⟨_, by first | rfl | (simp [errW_none, errW_some] <;> rfl) | (simp [*, errW_none, errW_some] <;> rfl), by (with_reducible repeat (first | apply Kd.R_alloc | apply Kd.R_drewN | apply Kd.R_drew)); exact HO207.out, by repeat (first | (with_reducible first | exact HB.out | apply below_alloc | apply pw_below_drewN | apply below_drew1) | exact HB.out)⟩
end Go.Proofs.YtfccdngejfnmkaaDoor.P
