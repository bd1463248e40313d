/- cut to what one law reaches -/
import Derived.Test.YtfccdngejfnmkaaDoorQfP0
import Derived.Test.YtfccdngejfnmkaaDoorQfP7
import Derived.Test.YtfccdngejfnmkaaDoorQfP9
import Derived.Test.YtfccdngejfnmkaaDoorQfP10
namespace Go.Proofs.YtfccdngejfnmkaaDoor.P
open Go.RowKit Go.Proofs.YtfccdngejfnmkaaDoorW.PrintWords Go.Proofs.YtfccdngejfnmkaaDoorW.PrintLast Go.Proofs.YtfccdngejfnmkaaDoorW.PrintMore
attribute [local go_sem] max2_int min2_int max_two min_two max_three min_three max_four min_four   -- for this text's walks alone
set_option linter.unusedVariables false
set_option linter.unusedSimpArgs false
attribute [local go_sem] isSome_setCell
def gangerref10_Check.f (k : Nat) (a0_0 : Int) (a0_1 : Int) (a0_2 : Int) (a0_3 : Int) (a0_4 : Int) (a0_5 : Int) (a0_6 : Int) (a0_7 : Int) (a0_8 : Int) (l0_9 : List (S56)) (l0_10 : List (S59)) (l0_11 : List (S37)) : Option Int :=
 if ((a0_0 = 2 ∧ a0_1 = 9 ∧ a0_2 = 9 ∧ a0_3 = 0 ∧ a0_4 = 0) ∧ (a0_5 = 0 ∧ a0_6 = 0 ∧ a0_7 = 0 ∧ a0_8 = 0)) ∧ (l0_9.length = 1 ∧ (rd_T56 l0_9 0).f0 = ⟨#[112]⟩ ∧ (rd_T56 l0_9 0).f1 = 0 ∧ (rd_T56 l0_9 0).f2 = 0 ∧ (rd_T56 l0_9 0).f3 = 9) ∧ (l0_10.length = 1 ∧ (rd_T59 l0_10 0).f0 = ⟨#[113]⟩ ∧ (rd_T59 l0_10 0).f1 = 0 ∧ (rd_T59 l0_10 0).f2 = 9) then
  (if l0_11.length = 0 ∨ 50 < l0_11.length then some 100 else gangerref10_tree.f k l0_11) else none
set_option maxHeartbeats 8000000 in
set_option maxRecDepth 1000000 in
theorem gangerref10_Check.calls (k : Nat) (a0_0 : Int) (a0_1 : Int) (a0_2 : Int) (a0_3 : Int) (a0_4 : Int) (a0_5 : Int) (a0_6 : Int) (a0_7 : Int) (a0_8 : Int) (A0_9 : Option Addr) (c0_9 : Nat) (l0_9 : List (S56)) (A0_10 : Option Addr) (c0_10 : Nat) (l0_10 : List (S59)) (A0_11 : Option Addr) (c0_11 : Nat) (l0_11 : List (S37)) (r : Int) (w : World) (hr0_9 : Kd.C k56 w A0_9 l0_9.length l0_9) (hc0_9 : l0_9.length ≤ c0_9) (hr0_10 : Kd.C k59 w A0_10 l0_10.length l0_10) (hc0_10 : l0_10.length ≤ c0_10) (hr0_11 : Kd.C k37 w A0_11 l0_11.length l0_11) (hc0_11 : l0_11.length ≤ c0_11) (h : gangerref10_Check.f k a0_0 a0_1 a0_2 a0_3 a0_4 a0_5 a0_6 a0_7 a0_8 l0_9 l0_10 l0_11 = some r) :
 Calls Tryd.prog 33 #[.agg #[.int .i64 a0_0, .int .i64 a0_1, .int .i64 a0_2, .int .i64 a0_3, .int .i64 a0_4, .int .i64 a0_5, .int .i64 a0_6, .int .i64 a0_7, .int .i64 a0_8, .slice A0_9 l0_9.length c0_9, .slice A0_10 l0_10.length c0_10, .slice A0_11 l0_11.length c0_11]] w fun e w' => e = .returned (.int .i64 r) ∧ Below w.heap.size w w' := by
 have hu64 := Tryd.underlying64
 have hu62 := Tryd.underlying62
 have hu56 := Tryd.underlying56
 have hu59 := Tryd.underlying59
 unfold gangerref10_Check.f at h
 by_cases hcond : ((a0_0 = 2 ∧ a0_1 = 9 ∧ a0_2 = 9 ∧ a0_3 = 0 ∧ a0_4 = 0) ∧ (a0_5 = 0 ∧ a0_6 = 0 ∧ a0_7 = 0 ∧ a0_8 = 0)) ∧ (l0_9.length = 1 ∧ (rd_T56 l0_9 0).f0 = ⟨#[112]⟩ ∧ (rd_T56 l0_9 0).f1 = 0 ∧ (rd_T56 l0_9 0).f2 = 0 ∧ (rd_T56 l0_9 0).f3 = 9) ∧ (l0_10.length = 1 ∧ (rd_T59 l0_10 0).f0 = ⟨#[113]⟩ ∧ (rd_T59 l0_10 0).f1 = 0 ∧ (rd_T59 l0_10 0).f2 = 9)
 case neg => rw [if_neg hcond] at h; cases h
 rw [if_pos hcond] at h
 obtain ⟨⟨⟨rfl, rfl, rfl, rfl, rfl⟩, rfl, rfl, rfl, rfl⟩, ⟨hl9, p0, p1, p2, p3⟩, ⟨hl10, q0, q1, q2⟩⟩ := hcond
 have HH := Aside0.mk h
 have HR11 := Aside0.mk hr0_11
 have HC11 := Aside0.mk hc0_11
 have R9 : Aside0 (∀ x : Int, x = 0 → ∃ ad, A0_9 = some ad ∧ w.cell? (ad.add (x.toNat * 4)) = some (.string ⟨#[112]⟩) ∧ w.cell? ⟨(ad.add (x.toNat * 4)).block, (ad.add (x.toNat * 4)).off + 1, none⟩ = some (.int .i64 0) ∧ w.cell? ⟨(ad.add (x.toNat * 4)).block, (ad.add (x.toNat * 4)).off + 2, none⟩ = some (.int .i64 0) ∧ w.cell? ⟨(ad.add (x.toNat * 4)).block, (ad.add (x.toNat * 4)).off + 3, none⟩ = some (.int .i64 9)) := ⟨by
  intro x hx
  obtain ⟨ad, e, x0, x1, x2, x3⟩ := at_T56 hr0_9 x (by omega) (by omega)
  have hz : rd_T56 l0_9 x = rd_T56 l0_9 0 := by rw [hx]
  rw [hz] at x0 x1 x2 x3
  rw [p0] at x0; rw [p1] at x1; rw [p2] at x2; rw [p3] at x3
  exact ⟨ad, e, x0, x1, x2, x3⟩⟩
 have R10 : Aside0 (∀ x : Int, x = 0 → ∃ ad, A0_10 = some ad ∧ w.cell? (ad.add (x.toNat * 3)) = some (.string ⟨#[113]⟩) ∧ w.cell? ⟨(ad.add (x.toNat * 3)).block, (ad.add (x.toNat * 3)).off + 1, none⟩ = some (.int .i64 0) ∧ w.cell? ⟨(ad.add (x.toNat * 3)).block, (ad.add (x.toNat * 3)).off + 2, none⟩ = some (.int .i64 9)) := ⟨by
  intro x hx
  obtain ⟨ad, e, x0, x1, x2⟩ := at_T59 hr0_10 x (by omega) (by omega)
  have hz : rd_T59 l0_10 x = rd_T59 l0_10 0 := by rw [hx]
  rw [hz] at x0 x1 x2
  rw [q0] at x0; rw [q1] at x1; rw [q2] at x2
  exact ⟨ad, e, x0, x1, x2⟩⟩
 rw [hl9, hl10]
 clear p0 p1 p2 p3 q0 q1 q2 h hr0_9 hr0_10 hr0_11 hc0_11 hc0_9 hc0_10 hl9 hl10
 have O : ∀ (n lo hi : Int) (b : Bool) W, gangerref10_out.f n lo hi = some b → Calls Tryd.prog 46 #[.int .i64 n, .int .i64 lo, .int .i64 hi] W fun e w' => e = .returned (.bool b) ∧ Drawn0 W w' := fun n lo hi b W h => gangerref10_out.calls n lo hi b W h
 by_cases hlen : l0_11.length = 0 ∨ 50 < l0_11.length
 ·have hr : r = 100 := by
   have h := HH.out
   rw [if_pos hlen] at h
   exact (Option.some.inj h).symm
  have ho : gangerref10_out.f (l0_11.length : Int) 1 50 = some true := by
   unfold gangerref10_out.f
   by_cases c : (l0_11.length : Int) < 1
   ·rw [if_pos c]
   ·rw [if_neg c, decide_eq_true (by omega)]
  subst hr
  clear HH hlen
  go_enter Tryd.func33, Tryd.ntmps33
  go_wp2_with (first | (go_at_call 46; (first | (with_reducible refine (O _ _ _ false _ (by decide)).mono ?_) | (with_reducible refine (O _ _ _ true _ ho).mono ?_)); rintro e w2 ⟨rfl, ⟨nd, rfl⟩⟩))
  go_ret
  exact ⟨rfl, by repeat (first | exact Below.refl _ _ | apply below_alloc | apply pw_below_drewN)⟩
 ·have h : gangerref10_tree.f k l0_11 = some r := by
   have h := HH.out
   rwa [if_neg hlen] at h
  have ho : gangerref10_out.f (l0_11.length : Int) 1 50 = some false := by
   unfold gangerref10_out.f
   rw [if_neg (by omega), decide_eq_false (by omega)]
  have HT := Aside0.mk h
  clear h HH hlen
  go_enter Tryd.func33, Tryd.ntmps33
  go_wp2_with (first | (go_at_call 46; (first | (with_reducible refine (O _ _ _ false _ (by decide)).mono ?_) | (with_reducible refine (O _ _ _ false _ ho).mono ?_)); rintro e w2 ⟨rfl, ⟨nd, rfl⟩⟩))
  go_loopg [4] 2 (fun gk v4 wr => ∃ x : Int, v4 = .int .i64 x ∧ Aside0 ((x = 0 ∧ gk = 2) ∨ (x = 1 ∧ gk = 1)) ∧ Aside0 (wr.heap[w.heap.size]? = some (.cells #[.int .i64 2, .int .i64 9, .int .i64 9, .int .i64 0, .int .i64 0, .int .i64 0, .int .i64 0, .int .i64 0, .int .i64 0, .slice A0_9 1 c0_9, .slice A0_10 1 c0_10, .slice A0_11 l0_11.length c0_11] 64 (0, 0))) ∧ Aside0 (Below w.heap.size w wr))
  case atStart => exact ⟨0, rfl, ⟨Or.inl ⟨rfl, rfl⟩⟩, ⟨blk_drewN (blk_alloc (blk_new w _) _) _⟩, ⟨by repeat (first | exact Below.refl _ _ | apply below_alloc | apply pw_below_drewN)⟩⟩
  case round =>
   obtain ⟨x, rfl, HX, BK, HB⟩ := hrel
   have b9 : wr.cell? ⟨w.heap.size, 9, none⟩ = some (.slice A0_9 1 c0_9) := (blk_cell BK.out 9).trans rfl
   have b10 : wr.cell? ⟨w.heap.size, 10, none⟩ = some (.slice A0_10 1 c0_10) := (blk_cell BK.out 10).trans rfl
   have b11 : wr.cell? ⟨w.heap.size, 11, none⟩ = some (.slice A0_11 l0_11.length c0_11) := (blk_cell BK.out 11).trans rfl
   rcases HX.out with ⟨hx, rfl⟩ | ⟨hx, rfl⟩
   ·obtain ⟨ad, e, xa, xb, xc, xd⟩ := R9.out x hx
    cases e
    replace xa := (HB.out.cell (World.block_lt_of_cell? w _ xa)).trans xa
    replace xb := (HB.out.cell (World.block_lt_of_cell? w _ xb)).trans xb
    replace xc := (HB.out.cell (World.block_lt_of_cell? w _ xc)).trans xc
    replace xd := (HB.out.cell (World.block_lt_of_cell? w _ xd)).trans xd
    have t1 : decide (x < (1 : Int)) = true := decide_eq_true (by omega)
    have t2 : (0 ≤ x) = True := eq_true (by omega)
    have t3 : (x < (1 : Int)) = True := eq_true (by omega)
    have t4 : decide ((0 : Int) < x) = false := decide_eq_false (by omega)
    have HX' := Aside0.mk hx
    have hN : gangerref09_Name.f 20 ⟨#[112]⟩ = some true := by decide +kernel
    clear HX hx
    go_wp2_with (first | (go_at_call 46; (with_reducible refine (O _ _ _ false _ (by decide)).mono ?_); rintro e w2 ⟨rfl, ⟨nd, rfl⟩⟩) | (go_at_call 47; (with_reducible refine (gangerref09_Name.calls 20 _ true _ hN).mono ?_); rintro e w2 ⟨rfl, ⟨nd, rfl⟩⟩))
    clear xa xb xc xd hN
    clear t1 t2 t3 b9 b10 b11
    go_loopg [6] 1 (fun gk v6 w' => v6 = .int .i64 0 ∧ Aside0 (w'.heap[w.heap.size]? = some (.cells #[.int .i64 2, .int .i64 9, .int .i64 9, .int .i64 0, .int .i64 0, .int .i64 0, .int .i64 0, .int .i64 0, .int .i64 0, .slice (some ad) 1 c0_9, .slice A0_10 1 c0_10, .slice A0_11 l0_11.length c0_11] 64 (0, 0))) ∧ Aside0 (Below w.heap.size w w'))
    case atStart => exact ⟨rfl, ⟨blk_drewN (blk_alloc BK.out _) _⟩, ⟨by repeat (first | exact HB.out | apply below_alloc | apply pw_below_drewN)⟩⟩
    case round =>
     clear BK HB
     obtain ⟨rfl, BK, HB⟩ := hrel
     go_wp2
     go_roundg 1
     case measure => omega
     case rel => exact ⟨wrap64 (x + 1), rfl, ⟨Or.inr ⟨by rw [HX'.out]; unfold wrap64; omega, rfl⟩⟩, ⟨by first | exact BK.out | exact blk_drewN BK.out _⟩, ⟨by repeat (first | exact HB.out | apply below_alloc | apply pw_below_drewN)⟩⟩
   ·have t1 : decide (x < (1 : Int)) = false := decide_eq_false (by omega)
    clear HX hx
    go_wp2
    clear t1 b9 b10 b11
    go_loopg [7] 2 (fun gk v7 wr => ∃ x : Int, v7 = .int .i64 x ∧ Aside0 ((x = 0 ∧ gk = 2) ∨ (x = 1 ∧ gk = 1)) ∧ Aside0 (wr.heap[w.heap.size]? = some (.cells #[.int .i64 2, .int .i64 9, .int .i64 9, .int .i64 0, .int .i64 0, .int .i64 0, .int .i64 0, .int .i64 0, .int .i64 0, .slice A0_9 1 c0_9, .slice A0_10 1 c0_10, .slice A0_11 l0_11.length c0_11] 64 (0, 0))) ∧ Aside0 (Below w.heap.size w wr))
    case atStart => exact ⟨0, rfl, ⟨Or.inl ⟨rfl, rfl⟩⟩, ⟨by first | exact BK.out | exact blk_drewN BK.out _⟩, ⟨by repeat (first | exact HB.out | apply below_alloc | apply pw_below_drewN)⟩⟩
    case round =>
     clear BK HB
     obtain ⟨z, rfl, HX, BK, HB⟩ := hrel
     have b9 : wr.cell? ⟨w.heap.size, 9, none⟩ = some (.slice A0_9 1 c0_9) := (blk_cell BK.out 9).trans rfl
     have b10 : wr.cell? ⟨w.heap.size, 10, none⟩ = some (.slice A0_10 1 c0_10) := (blk_cell BK.out 10).trans rfl
     have b11 : wr.cell? ⟨w.heap.size, 11, none⟩ = some (.slice A0_11 l0_11.length c0_11) := (blk_cell BK.out 11).trans rfl
     rcases HX.out with ⟨hx, rfl⟩ | ⟨hx, rfl⟩
     ·obtain ⟨ad, e, xa, xb, xc⟩ := R10.out z hx
      cases e
      replace xa := (HB.out.cell (World.block_lt_of_cell? w _ xa)).trans xa
      replace xb := (HB.out.cell (World.block_lt_of_cell? w _ xb)).trans xb
      replace xc := (HB.out.cell (World.block_lt_of_cell? w _ xc)).trans xc
      have t1 : decide (z < (1 : Int)) = true := decide_eq_true (by omega)
      have t2 : (0 ≤ z) = True := eq_true (by omega)
      have t3 : (z < (1 : Int)) = True := eq_true (by omega)
      have t4 : decide ((0 : Int) < z) = false := decide_eq_false (by omega)
      have HX' := Aside0.mk hx
      have hN : gangerref09_Name.f 20 ⟨#[113]⟩ = some true := by decide +kernel
      clear HX hx
      go_wp2_with (first | (go_at_call 46; (with_reducible refine (O _ _ _ false _ (by decide)).mono ?_); rintro e w2 ⟨rfl, ⟨nd, rfl⟩⟩) | (go_at_call 47; (with_reducible refine (gangerref09_Name.calls 20 _ true _ hN).mono ?_); rintro e w2 ⟨rfl, ⟨nd, rfl⟩⟩))
      clear xa xb xc hN
      clear t1 t2 t3 b9 b10 b11
      go_loopg [9] 1 (fun gk v9 w' => v9 = .int .i64 0 ∧ Aside0 (w'.heap[w.heap.size]? = some (.cells #[.int .i64 2, .int .i64 9, .int .i64 9, .int .i64 0, .int .i64 0, .int .i64 0, .int .i64 0, .int .i64 0, .int .i64 0, .slice A0_9 1 c0_9, .slice (some ad) 1 c0_10, .slice A0_11 l0_11.length c0_11] 64 (0, 0))) ∧ Aside0 (Below w.heap.size w w'))
      case atStart => exact ⟨rfl, ⟨blk_drewN (blk_alloc BK.out _) _⟩, ⟨by repeat (first | exact HB.out | apply below_alloc | apply pw_below_drewN)⟩⟩
      case round =>
       clear BK HB
       obtain ⟨rfl, BK, HB⟩ := hrel
       go_wp2
       go_roundg 1
       case measure => omega
       case rel => exact ⟨wrap64 (z + 1), rfl, ⟨Or.inr ⟨by rw [HX'.out]; unfold wrap64; omega, rfl⟩⟩, ⟨by first | exact BK.out | exact blk_drewN BK.out _⟩, ⟨by repeat (first | exact HB.out | apply below_alloc | apply pw_below_drewN)⟩⟩
     ·have t1 : decide (z < (1 : Int)) = false := decide_eq_false (by omega)
      clear HX hx
      go_wp2_with (first | (go_at_call 48; (with_reducible refine (gangerref10_tree.calls k A0_11 c0_11 l0_11 r _ ?s1 HC11.out HT.out).mono ?_); (case s1 => exact Kd.C_below HR11.out (by repeat (first | exact HB.out | apply below_alloc | apply pw_below_drewN))); rintro e w2 ⟨rfl, ⟨nd, rfl⟩⟩))
      go_ret
      exact ⟨rfl, by repeat (first | exact HB.out | apply below_alloc | apply pw_below_drewN)⟩
end Go.Proofs.YtfccdngejfnmkaaDoor.P
