/- cut to what one law reaches -/
import Derived.Test.YtgkedamhicemiaaDoorJyJ4
namespace Go.Proofs.YtgkedamhicemiaaDoor.P
open Go.RowKit Go.Proofs.YtgkedamhicemiaaDoorW.PrintWords Go.Proofs.YtgkedamhicemiaaDoorW.PrintLast Go.Proofs.YtgkedamhicemiaaDoorW.PrintMore
attribute [local go_sem] max2_int min2_int max_two min_two max_three min_three max_four min_four
set_option linter.unusedVariables false
set_option linter.unusedSimpArgs false
attribute [local go_sem] isSome_setCell
theorem toL_inj {a b : ByteArray} (h : a.toList = b.toList) : a = b := by
  rw [ByteArray.toList_eq, ByteArray.toList_eq] at h
  apply ByteArray.ext
  exact Array.toList_inj.1 h
theorem toL_ne {a b : ByteArray} (h : (a.toList == b.toList) = false) : a ≠ b := by
  rintro rfl
  simp at h
/-- the place of a name, or -1 -/
def Fx (N : List ByteArray) (nm : ByteArray) (r : Int) : Prop := (r = -1 ∧ ∀ x ∈ N, x ≠ nm) ∨ ∃ i : Nat, r = i ∧ ∃ h : i < N.length, N[i] = nm
theorem clo78_at (x : S85) (nm : ByteArray) (gq : Nat) (W : World) (hq : W.cell? ⟨gq, 0, none⟩ = some (.string nm)) (r : Bool) (hr : (x.f0.toList == nm.toList) = r) :
    Calls Tryd.prog 78 #[.agg #[.string x.f0, .int .i64 x.f1, .int .i64 x.f2, .int .i64 x.f3], .pointer (some ⟨gq, 0, none⟩)] W fun e w' => e = .returned (.bool r) ∧ Below W.heap.size W w' := by
  have hu := Tryd.underlying85
  have hu41 := Tryd.underlying41
  have HQ := Aside0.mk hq
  clear hq
  go_enter Tryd.func78, Tryd.ntmps78
  go_wp2_with (first | ((with_reducible refine gate_dst (N := 2) rfl ?_); refine box_event ?hg (N := 2) ?hd (cs := #[.string x.f0, .int .i64 x.f1, .int .i64 x.f2, .int .i64 x.f3]) (t := 85) ?hr ?_; (case hd => rfl); (case hg => rfl); (case hr => first | (go_simp; done) | (go_simp; rfl)); intro gb1 hg w1 hbox hb; have kx0 := (blk_cell hbox 0).trans rfl; have kq := pw_cell_below hb HQ.out; have HB := Aside0.mk hb; clear hb hg hbox))
  go_ret
  exact ⟨rfl, HB.out⟩
set_option maxHeartbeats 2000000 in
theorem ix77_at (l : List S85) (A : Option Addr) (c : Nat) (nm : ByteArray) (gq : Nat) (W : World) (hC : Kd.C k85 W A l.length l) (hq : W.cell? ⟨gq, 0, none⟩ = some (.string nm)) :
    Calls Tryd.prog 77 #[.slice A l.length c, .func (.func 78) #[] #[.pointer (some ⟨gq, 0, none⟩)]] W fun e w' => ∃ r, e = .returned (.int .i64 r) ∧ Fx (l.map (·.f0)) nm r ∧ Below W.heap.size W w' := by
  have hu := Tryd.underlying85
  have hmax := hC.2.1
  have HC := Aside0.mk hC
  have HQ := Aside0.mk hq
  clear hC hq
  go_enter Tryd.func77, Tryd.ntmps77
  go_wp2
  go_loopg [8] (l.length + 1) (fun gk s8 wr => ∃ i : Int, s8 = .int .i64 i ∧ 0 ≤ i ∧ Aside0 (i + (gk : Int) = (l.length : Int) + 1) ∧ Aside0 (∀ j (h : j < l.length), (j : Int) < i → l[j].f0 ≠ nm) ∧ Aside0 (Below W.heap.size W wr))
  case atStart => exact ⟨0, rfl, Int.le_refl _, ⟨by omega⟩, ⟨fun j h h0 => by omega⟩, ⟨Below.refl _ _⟩⟩
  case round =>
    obtain ⟨i, rfl, i0, GK, NO, HB⟩ := hrel
    by_cases hlt : i < (l.length : Int)
    · obtain ⟨ad, eA, c0, c1, c2, c3⟩ := at_T85 (Kd.C_below HC.out HB.out) i i0 hlt
      subst eA
      obtain ⟨gk, rfl⟩ : ∃ m, gk = m + 1 := ⟨gk - 1, by have := GK.out; omega⟩
      have hli : i.toNat < l.length := by omega
      have hrd : rd_T85 l i = l[i.toNat] := by simp [rd_T85, List.getD_eq_getElem?_getD, hli]
      have HRD := Aside0.mk hrd
      clear hrd
      generalize rd_T85 l i = x at c0 c1 c2 c3 HRD
      cases hr : (x.f0.toList == nm.toList) with
      | true =>
        have HR := Aside0.mk hr
        clear hr
        go_wp2_with (first | (go_at_call 78; refine (clo78_at x nm gq _ (pw_cell_below HB.out HQ.out) true HR.out).mono ?_; rintro e w2 ⟨rfl, hb⟩; have HB2 := Aside0.mk (below_step HB.out hb); clear hb))
        go_ret
        exact ⟨i, rfl, Or.inr ⟨i.toNat, by omega, by simpa using hli, by rw [List.getElem_map, ← HRD.out]; exact toL_inj (eq_of_beq HR.out)⟩, HB2.out⟩
      | false =>
        have HR := Aside0.mk hr
        clear hr
        go_wp2_with (first | (go_at_call 78; refine (clo78_at x nm gq _ (pw_cell_below HB.out HQ.out) false HR.out).mono ?_; rintro e w2 ⟨rfl, hb⟩; have HB2 := Aside0.mk (below_step HB.out hb); clear hb))
        go_roundg gk
        case measure => exact Nat.lt_succ_self _
        case rel => exact ⟨i + 1, rfl, by omega, ⟨by have := GK.out; omega⟩, ⟨fun j h hj => by
          by_cases hji : (j : Int) < i
          · exact NO.out j h hji
          · have e : j = i.toNat := by omega
            subst e
            rw [← HRD.out]
            exact toL_ne HR.out⟩, HB2⟩
    · go_wp2
      go_ret
      exact ⟨-1, rfl, Or.inl ⟨rfl, fun x hx => by
        obtain ⟨y, hy, rfl⟩ := List.mem_map.1 hx
        obtain ⟨j, hj, rfl⟩ := List.getElem_of_mem hy
        exact NO.out j hj (by omega)⟩, HB.out⟩
theorem clo62_at (x : S87) (nm : ByteArray) (gq : Nat) (W : World) (hq : W.cell? ⟨gq, 3, none⟩ = some (.string nm)) (r : Bool) (hr : (x.f0.toList == nm.toList) = r) :
    Calls Tryd.prog 62 #[.agg #[.string x.f0, .int .i64 x.f1, .int .i64 x.f2], .pointer (some ⟨gq, 0, none⟩)] W fun e w' => e = .returned (.bool r) ∧ Below W.heap.size W w' := by
  have hu := Tryd.underlying87
  have hu41 := Tryd.underlying41
  have HQ := Aside0.mk hq
  clear hq
  go_enter Tryd.func62, Tryd.ntmps62
  go_wp2_with (first | ((with_reducible refine gate_dst (N := 2) rfl ?_); refine box_event ?hg (N := 2) ?hd (cs := #[.string x.f0, .int .i64 x.f1, .int .i64 x.f2]) (t := 87) ?hr ?_; (case hd => rfl); (case hg => rfl); (case hr => first | (go_simp; done) | (go_simp; rfl)); intro gb1 hg w1 hbox hb; have kx0 := (blk_cell hbox 0).trans rfl; have kq := pw_cell_below hb HQ.out; have HB := Aside0.mk hb; clear hb hg hbox))
  go_ret
  exact ⟨rfl, HB.out⟩
set_option maxHeartbeats 2000000 in
theorem ix61_at (l : List S87) (A : Option Addr) (c : Nat) (nm : ByteArray) (gq : Nat) (W : World) (hC : Kd.C k87 W A l.length l) (hq : W.cell? ⟨gq, 3, none⟩ = some (.string nm)) :
    Calls Tryd.prog 61 #[.slice A l.length c, .func (.func 62) #[] #[.pointer (some ⟨gq, 0, none⟩)]] W fun e w' => ∃ r, e = .returned (.int .i64 r) ∧ Fx (l.map (·.f0)) nm r ∧ Below W.heap.size W w' := by
  have hu := Tryd.underlying87
  have hmax := hC.2.1
  have HC := Aside0.mk hC
  have HQ := Aside0.mk hq
  clear hC hq
  go_enter Tryd.func61, Tryd.ntmps61
  go_wp2
  go_loopg [8] (l.length + 1) (fun gk s8 wr => ∃ i : Int, s8 = .int .i64 i ∧ 0 ≤ i ∧ Aside0 (i + (gk : Int) = (l.length : Int) + 1) ∧ Aside0 (∀ j (h : j < l.length), (j : Int) < i → l[j].f0 ≠ nm) ∧ Aside0 (Below W.heap.size W wr))
  case atStart => exact ⟨0, rfl, Int.le_refl _, ⟨by omega⟩, ⟨fun j h h0 => by omega⟩, ⟨Below.refl _ _⟩⟩
  case round =>
    obtain ⟨i, rfl, i0, GK, NO, HB⟩ := hrel
    by_cases hlt : i < (l.length : Int)
    · obtain ⟨ad, eA, c0, c1, c2⟩ := at_T87 (Kd.C_below HC.out HB.out) i i0 hlt
      subst eA
      obtain ⟨gk, rfl⟩ : ∃ m, gk = m + 1 := ⟨gk - 1, by have := GK.out; omega⟩
      have hli : i.toNat < l.length := by omega
      have hrd : rd_T87 l i = l[i.toNat] := by simp [rd_T87, List.getD_eq_getElem?_getD, hli]
      have HRD := Aside0.mk hrd
      clear hrd
      generalize rd_T87 l i = x at c0 c1 c2 HRD
      cases hr : (x.f0.toList == nm.toList) with
      | true =>
        have HR := Aside0.mk hr
        clear hr
        go_wp2_with (first | (go_at_call 62; refine (clo62_at x nm gq _ (pw_cell_below HB.out HQ.out) true HR.out).mono ?_; rintro e w2 ⟨rfl, hb⟩; have HB2 := Aside0.mk (below_step HB.out hb); clear hb))
        go_ret
        exact ⟨i, rfl, Or.inr ⟨i.toNat, by omega, by simpa using hli, by rw [List.getElem_map, ← HRD.out]; exact toL_inj (eq_of_beq HR.out)⟩, HB2.out⟩
      | false =>
        have HR := Aside0.mk hr
        clear hr
        go_wp2_with (first | (go_at_call 62; refine (clo62_at x nm gq _ (pw_cell_below HB.out HQ.out) false HR.out).mono ?_; rintro e w2 ⟨rfl, hb⟩; have HB2 := Aside0.mk (below_step HB.out hb); clear hb))
        go_roundg gk
        case measure => exact Nat.lt_succ_self _
        case rel => exact ⟨i + 1, rfl, by omega, ⟨by have := GK.out; omega⟩, ⟨fun j h hj => by
          by_cases hji : (j : Int) < i
          · exact NO.out j h hji
          · have e : j = i.toNat := by omega
            subst e
            rw [← HRD.out]
            exact toL_ne HR.out⟩, HB2⟩
    · go_wp2
      go_ret
      exact ⟨-1, rfl, Or.inl ⟨rfl, fun x hx => by
        obtain ⟨y, hy, rfl⟩ := List.mem_map.1 hx
        obtain ⟨j, hj, rfl⟩ := List.getElem_of_mem hy
        exact NO.out j hj (by omega)⟩, HB.out⟩
theorem clo64_at (x : S89) (nm : ByteArray) (gq : Nat) (W : World) (hq : W.cell? ⟨gq, 1, none⟩ = some (.string nm)) (r : Bool) (hr : (x.f0.toList == nm.toList) = r) :
    Calls Tryd.prog 64 #[.agg #[.string x.f0, .string x.f1, .int .i64 x.f2], .pointer (some ⟨gq, 0, none⟩)] W fun e w' => e = .returned (.bool r) ∧ Below W.heap.size W w' := by
  have hu := Tryd.underlying89
  have hu41 := Tryd.underlying41
  have HQ := Aside0.mk hq
  clear hq
  go_enter Tryd.func64, Tryd.ntmps64
  go_wp2_with (first | ((with_reducible refine gate_dst (N := 2) rfl ?_); refine box_event ?hg (N := 2) ?hd (cs := #[.string x.f0, .string x.f1, .int .i64 x.f2]) (t := 89) ?hr ?_; (case hd => rfl); (case hg => rfl); (case hr => first | (go_simp; done) | (go_simp; rfl)); intro gb1 hg w1 hbox hb; have kx0 := (blk_cell hbox 0).trans rfl; have kq := pw_cell_below hb HQ.out; have HB := Aside0.mk hb; clear hb hg hbox))
  go_ret
  exact ⟨rfl, HB.out⟩
set_option maxHeartbeats 2000000 in
theorem ix79_at (l : List S89) (A : Option Addr) (c : Nat) (nm : ByteArray) (gq : Nat) (W : World) (hC : Kd.C k89 W A l.length l) (hq : W.cell? ⟨gq, 1, none⟩ = some (.string nm)) :
    Calls Tryd.prog 79 #[.slice A l.length c, .func (.func 64) #[] #[.pointer (some ⟨gq, 0, none⟩)]] W fun e w' => ∃ r, e = .returned (.int .i64 r) ∧ Fx (l.map (·.f0)) nm r ∧ Below W.heap.size W w' := by
  have hu := Tryd.underlying89
  have hmax := hC.2.1
  have HC := Aside0.mk hC
  have HQ := Aside0.mk hq
  clear hC hq
  go_enter Tryd.func79, Tryd.ntmps79
  go_wp2
  go_loopg [8] (l.length + 1) (fun gk s8 wr => ∃ i : Int, s8 = .int .i64 i ∧ 0 ≤ i ∧ Aside0 (i + (gk : Int) = (l.length : Int) + 1) ∧ Aside0 (∀ j (h : j < l.length), (j : Int) < i → l[j].f0 ≠ nm) ∧ Aside0 (Below W.heap.size W wr))
  case atStart => exact ⟨0, rfl, Int.le_refl _, ⟨by omega⟩, ⟨fun j h h0 => by omega⟩, ⟨Below.refl _ _⟩⟩
  case round =>
    obtain ⟨i, rfl, i0, GK, NO, HB⟩ := hrel
    by_cases hlt : i < (l.length : Int)
    · obtain ⟨ad, eA, c0, c1, c2⟩ := at_T89 (Kd.C_below HC.out HB.out) i i0 hlt
      subst eA
      obtain ⟨gk, rfl⟩ : ∃ m, gk = m + 1 := ⟨gk - 1, by have := GK.out; omega⟩
      have hli : i.toNat < l.length := by omega
      have hrd : rd_T89 l i = l[i.toNat] := by simp [rd_T89, List.getD_eq_getElem?_getD, hli]
      have HRD := Aside0.mk hrd
      clear hrd
      generalize rd_T89 l i = x at c0 c1 c2 HRD
      cases hr : (x.f0.toList == nm.toList) with
      | true =>
        have HR := Aside0.mk hr
        clear hr
        go_wp2_with (first | (go_at_call 64; refine (clo64_at x nm gq _ (pw_cell_below HB.out HQ.out) true HR.out).mono ?_; rintro e w2 ⟨rfl, hb⟩; have HB2 := Aside0.mk (below_step HB.out hb); clear hb))
        go_ret
        exact ⟨i, rfl, Or.inr ⟨i.toNat, by omega, by simpa using hli, by rw [List.getElem_map, ← HRD.out]; exact toL_inj (eq_of_beq HR.out)⟩, HB2.out⟩
      | false =>
        have HR := Aside0.mk hr
        clear hr
        go_wp2_with (first | (go_at_call 64; refine (clo64_at x nm gq _ (pw_cell_below HB.out HQ.out) false HR.out).mono ?_; rintro e w2 ⟨rfl, hb⟩; have HB2 := Aside0.mk (below_step HB.out hb); clear hb))
        go_roundg gk
        case measure => exact Nat.lt_succ_self _
        case rel => exact ⟨i + 1, rfl, by omega, ⟨by have := GK.out; omega⟩, ⟨fun j h hj => by
          by_cases hji : (j : Int) < i
          · exact NO.out j h hji
          · have e : j = i.toNat := by omega
            subst e
            rw [← HRD.out]
            exact toL_ne HR.out⟩, HB2⟩
    · go_wp2
      go_ret
      exact ⟨-1, rfl, Or.inl ⟨rfl, fun x hx => by
        obtain ⟨y, hy, rfl⟩ := List.mem_map.1 hx
        obtain ⟨j, hj, rfl⟩ := List.getElem_of_mem hy
        exact NO.out j hj (by omega)⟩, HB.out⟩
end Go.Proofs.YtgkedamhicemiaaDoor.P
