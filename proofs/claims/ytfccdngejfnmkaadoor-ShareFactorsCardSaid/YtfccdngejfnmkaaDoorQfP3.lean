/- cut to what one law reaches -/
import Derived.Test.YtfccdngejfnmkaaDoorQfP0
import Derived.Test.YtfccdngejfnmkaaDoorQfP1
import Derived.Test.YtfccdngejfnmkaaDoorQfP2
namespace Go.Proofs.YtfccdngejfnmkaaDoor.P
open Go.RowKit Go.Proofs.YtfccdngejfnmkaaDoorW.PrintWords Go.Proofs.YtfccdngejfnmkaaDoorW.PrintLast Go.Proofs.YtfccdngejfnmkaaDoorW.PrintMore
attribute [local go_sem] max2_int min2_int max_two min_two max_three min_three max_four min_four   -- for this text's walks alone
set_option linter.unusedVariables false
set_option linter.unusedSimpArgs false
attribute [local go_sem] isSome_setCell
def inB (n lo hi : Int) : Bool := decide (lo ≤ n) && decide (n ≤ hi)
def conf_Check.f (k : Nat) (a0 a1 a2 a3 a4 a5 a6 a7 a8 : Int) (l9 : List S56) (l10 : List S59) (l11 : List S37) : Option Int :=
 if inB a4 0 1048576 = true ∧ inB a5 0 1048576 = true ∧ inB a6 0 1048576 = true ∧ inB a7 0 1048576 = true ∧ inB a8 0 1048576 = true then
  (if inB a0 1 4 = true ∧ inB a1 1 4294967296 = true ∧ inB a2 1 1073741824 = true ∧ inB a3 0 100 = true then
   (conf_parts.f k l9).bind fun p => if p = true then ((conf_classes.f k l10).bind fun q => if q = true then ((conf_accounts.f k l11).bind fun t => some (if t = true then 0 else 100)) else some 100) else some 100
  else some 100)
 else some 100
theorem conf_Check.mono : ∀ a0 a1 a2 a3 a4 a5 a6 a7 a8 l9 l10 l11 k, LeO (conf_Check.f k a0 a1 a2 a3 a4 a5 a6 a7 a8 l9 l10 l11) (conf_Check.f (k + 1) a0 a1 a2 a3 a4 a5 a6 a7 a8 l9 l10 l11) := by
 intro a0 a1 a2 a3 a4 a5 a6 a7 a8 l9 l10 l11 k
 unfold conf_Check.f
 repeat' first
   | (with_reducible exact conf_parts.mono _ _)
   | (with_reducible exact conf_classes.mono _ _)
   | (with_reducible exact conf_accounts.mono _ _)
   | (with_reducible exact LeO.refl _)
   | (with_reducible refine LeO.ite ?_ ?_)
   | (with_reducible refine LeO.bind ?_ (fun _ => ?_))
theorem conf_in_eq (n lo hi : Int) : conf_in.f n lo hi = some (inB n lo hi) := by
 unfold conf_in.f inB
 by_cases h : n ≥ lo
 ·rw [if_pos h, decide_eq_true (show lo ≤ n from h)]; rfl
 ·rw [if_neg h, decide_eq_false (show ¬ lo ≤ n from h)]; rfl
theorem run_index79 (cs : Array Value) (z : Int) (j : Nat) (hz : z = (j : Int)) (u : Value) (h : cs[j]? = some u) (hs : cs.size = 5) (w : World) : (Instr.index 79 (.agg cs) (.int .i64 z)).run Tryd.prog w = .ok u w := by
 subst hz
 have hj : j < cs.size := (Array.getElem?_eq_some_iff.1 h).1
 unfold Instr.index
 have h1 : (j : Int) < 5 := by omega
 have h0 : (0 : Int) ≤ (j : Int) := by omega
 simp [asIntOf, asInt, part, h0, h1, h, hs, Result.andThen]
 intro h2
 omega
set_option maxHeartbeats 8000000 in
set_option maxRecDepth 1000000 in
theorem conf_Check.calls (k : Nat) (a0_0 : Int) (a0_1 : Int) (a0_2 : Int) (a0_3 : Int) (a0_4 : Int) (a0_5 : Int) (a0_6 : Int) (a0_7 : Int) (a0_8 : Int) (A0_9 : Option Addr) (c0_9 : Nat) (l0_9 : List (S56)) (A0_10 : Option Addr) (c0_10 : Nat) (l0_10 : List (S59)) (A0_11 : Option Addr) (c0_11 : Nat) (l0_11 : List (S37)) (r : Int) (w : World) (hG : Glob w) (hr0_9 : Kd.C k56 w A0_9 l0_9.length l0_9) (hc0_9 : l0_9.length ≤ c0_9) (hr0_10 : Kd.C k59 w A0_10 l0_10.length l0_10) (hc0_10 : l0_10.length ≤ c0_10) (hr0_11 : Kd.C k37 w A0_11 l0_11.length l0_11) (hc0_11 : l0_11.length ≤ c0_11) (h : conf_Check.f k a0_0 a0_1 a0_2 a0_3 a0_4 a0_5 a0_6 a0_7 a0_8 l0_9 l0_10 l0_11 = some r) :
 Calls Tryd.prog 31 #[.agg #[.int .i64 a0_0, .int .i64 a0_1, .int .i64 a0_2, .int .i64 a0_3, .int .i64 a0_4, .int .i64 a0_5, .int .i64 a0_6, .int .i64 a0_7, .int .i64 a0_8, .slice A0_9 l0_9.length c0_9, .slice A0_10 l0_10.length c0_10, .slice A0_11 l0_11.length c0_11]] w fun e w' => e = .returned (.int .i64 r) ∧ Below w.heap.size w w' := by
 have hu64 := Tryd.underlying64
 have hu62 := Tryd.underlying62
 have HG := Aside0.mk hG
 have HR9 := Aside0.mk hr0_9
 have HC9 := Aside0.mk hc0_9
 have HR10 := Aside0.mk hr0_10
 have HC10 := Aside0.mk hc0_10
 have HR11 := Aside0.mk hr0_11
 have HC11 := Aside0.mk hc0_11
 have HH := Aside0.mk h
 clear hG hr0_9 hc0_9 hr0_10 hc0_10 hr0_11 hc0_11 h
 go_enter Tryd.func31, Tryd.ntmps31
 have hsz2 : (w.alloc (.cells #[.int .i64 a0_0, .int .i64 a0_1, .int .i64 a0_2, .int .i64 a0_3, .int .i64 a0_4, .int .i64 a0_5, .int .i64 a0_6, .int .i64 a0_7, .int .i64 a0_8, .slice A0_9 l0_9.length c0_9, .slice A0_10 l0_10.length c0_10, .slice A0_11 l0_11.length c0_11] 64)).heap.size = w.heap.size + 1 := by
  show (w.heap.push _).size = w.heap.size + 1
  rw [Array.size_push]
 go_wp2
 go_loopg [19] 6 (fun gk s19 wr => ∃ i : Nat, s19 = .int .i64 i ∧ 6 = i + gk ∧ i ≤ 5 ∧ Aside0 ((0 < i → inB a0_4 0 1048576 = true) ∧ (1 < i → inB a0_5 0 1048576 = true) ∧ (2 < i → inB a0_6 0 1048576 = true) ∧ (3 < i → inB a0_7 0 1048576 = true) ∧ (4 < i → inB a0_8 0 1048576 = true)) ∧ wr.heap[w.heap.size]? = some (.cells #[.int .i64 a0_0, .int .i64 a0_1, .int .i64 a0_2, .int .i64 a0_3, .int .i64 a0_4, .int .i64 a0_5, .int .i64 a0_6, .int .i64 a0_7, .int .i64 a0_8, .slice A0_9 l0_9.length c0_9, .slice A0_10 l0_10.length c0_10, .slice A0_11 l0_11.length c0_11] 64 (0, 0)) ∧ Aside0 (Below w.heap.size w wr))
 case atStart =>
  exact ⟨0, rfl, by omega, by omega, ⟨by simp⟩, blk_alloc (blk_new w _) _, ⟨below_alloc (below_alloc (Below.refl _ _) _) _⟩⟩
 case round =>
  obtain ⟨i, rfl, hgk, hi5, HP, hblk, HB⟩ := hrel
  obtain ⟨gk, rfl⟩ : ∃ m, gk = m + 1 := ⟨gk - 1, by omega⟩
  have HBK := Aside0.mk hblk
  clear hblk
  rcases i with _ | _ | _ | _ | _ | _ | i
  ·obtain ⟨b, hb⟩ : ∃ b, inB a0_4 0 1048576 = b := ⟨_, rfl⟩
   have hix := run_index79 #[.int .i64 a0_4, .int .i64 a0_5, .int .i64 a0_6, .int .i64 a0_7, .int .i64 a0_8] 0 0 rfl (.int .i64 a0_4) rfl rfl wr
   have C := fun W => conf_in.calls a0_4 0 1048576 b W ((conf_in_eq a0_4 0 1048576).trans (congrArg some hb))
   cases b with
   | true =>
    go_wp2_with (first | (go_at_call 42; (with_reducible refine (C _).mono ?_); rintro e w2 ⟨rfl, ⟨nd, rfl⟩⟩))
    go_roundg gk
    case measure => exact Nat.lt_succ_self _
    case rel => exact ⟨1, rfl, by omega, by omega, ⟨by have := HP.out; simp_all⟩, HBK.out, ⟨pw_below_drewN HB.out _⟩⟩
   | false =>
    have hr : r = 100 := by
     have h := HH.out
     unfold conf_Check.f at h
     rw [if_neg (by rw [hb]; simp)] at h
     exact (Option.some.inj h).symm
    subst hr
    go_wp2_with (first | (go_at_call 42; (with_reducible refine (C _).mono ?_); rintro e w2 ⟨rfl, ⟨nd, rfl⟩⟩))
    go_ret
    exact ⟨rfl, pw_below_drewN HB.out _⟩
  ·obtain ⟨b, hb⟩ : ∃ b, inB a0_5 0 1048576 = b := ⟨_, rfl⟩
   have hix := run_index79 #[.int .i64 a0_4, .int .i64 a0_5, .int .i64 a0_6, .int .i64 a0_7, .int .i64 a0_8] 1 1 rfl (.int .i64 a0_5) rfl rfl wr
   have C := fun W => conf_in.calls a0_5 0 1048576 b W ((conf_in_eq a0_5 0 1048576).trans (congrArg some hb))
   cases b with
   | true =>
    go_wp2_with (first | (go_at_call 42; (with_reducible refine (C _).mono ?_); rintro e w2 ⟨rfl, ⟨nd, rfl⟩⟩))
    go_roundg gk
    case measure => exact Nat.lt_succ_self _
    case rel => exact ⟨2, rfl, by omega, by omega, ⟨by have := HP.out; simp_all⟩, HBK.out, ⟨pw_below_drewN HB.out _⟩⟩
   | false =>
    have hr : r = 100 := by
     have h := HH.out
     unfold conf_Check.f at h
     rw [if_neg (by rw [hb]; simp)] at h
     exact (Option.some.inj h).symm
    subst hr
    go_wp2_with (first | (go_at_call 42; (with_reducible refine (C _).mono ?_); rintro e w2 ⟨rfl, ⟨nd, rfl⟩⟩))
    go_ret
    exact ⟨rfl, pw_below_drewN HB.out _⟩
  ·obtain ⟨b, hb⟩ : ∃ b, inB a0_6 0 1048576 = b := ⟨_, rfl⟩
   have hix := run_index79 #[.int .i64 a0_4, .int .i64 a0_5, .int .i64 a0_6, .int .i64 a0_7, .int .i64 a0_8] 2 2 rfl (.int .i64 a0_6) rfl rfl wr
   have C := fun W => conf_in.calls a0_6 0 1048576 b W ((conf_in_eq a0_6 0 1048576).trans (congrArg some hb))
   cases b with
   | true =>
    go_wp2_with (first | (go_at_call 42; (with_reducible refine (C _).mono ?_); rintro e w2 ⟨rfl, ⟨nd, rfl⟩⟩))
    go_roundg gk
    case measure => exact Nat.lt_succ_self _
    case rel => exact ⟨3, rfl, by omega, by omega, ⟨by have := HP.out; simp_all⟩, HBK.out, ⟨pw_below_drewN HB.out _⟩⟩
   | false =>
    have hr : r = 100 := by
     have h := HH.out
     unfold conf_Check.f at h
     rw [if_neg (by rw [hb]; simp)] at h
     exact (Option.some.inj h).symm
    subst hr
    go_wp2_with (first | (go_at_call 42; (with_reducible refine (C _).mono ?_); rintro e w2 ⟨rfl, ⟨nd, rfl⟩⟩))
    go_ret
    exact ⟨rfl, pw_below_drewN HB.out _⟩
  ·obtain ⟨b, hb⟩ : ∃ b, inB a0_7 0 1048576 = b := ⟨_, rfl⟩
   have hix := run_index79 #[.int .i64 a0_4, .int .i64 a0_5, .int .i64 a0_6, .int .i64 a0_7, .int .i64 a0_8] 3 3 rfl (.int .i64 a0_7) rfl rfl wr
   have C := fun W => conf_in.calls a0_7 0 1048576 b W ((conf_in_eq a0_7 0 1048576).trans (congrArg some hb))
   cases b with
   | true =>
    go_wp2_with (first | (go_at_call 42; (with_reducible refine (C _).mono ?_); rintro e w2 ⟨rfl, ⟨nd, rfl⟩⟩))
    go_roundg gk
    case measure => exact Nat.lt_succ_self _
    case rel => exact ⟨4, rfl, by omega, by omega, ⟨by have := HP.out; simp_all⟩, HBK.out, ⟨pw_below_drewN HB.out _⟩⟩
   | false =>
    have hr : r = 100 := by
     have h := HH.out
     unfold conf_Check.f at h
     rw [if_neg (by rw [hb]; simp)] at h
     exact (Option.some.inj h).symm
    subst hr
    go_wp2_with (first | (go_at_call 42; (with_reducible refine (C _).mono ?_); rintro e w2 ⟨rfl, ⟨nd, rfl⟩⟩))
    go_ret
    exact ⟨rfl, pw_below_drewN HB.out _⟩
  ·obtain ⟨b, hb⟩ : ∃ b, inB a0_8 0 1048576 = b := ⟨_, rfl⟩
   have hix := run_index79 #[.int .i64 a0_4, .int .i64 a0_5, .int .i64 a0_6, .int .i64 a0_7, .int .i64 a0_8] 4 4 rfl (.int .i64 a0_8) rfl rfl wr
   have C := fun W => conf_in.calls a0_8 0 1048576 b W ((conf_in_eq a0_8 0 1048576).trans (congrArg some hb))
   cases b with
   | true =>
    go_wp2_with (first | (go_at_call 42; (with_reducible refine (C _).mono ?_); rintro e w2 ⟨rfl, ⟨nd, rfl⟩⟩))
    go_roundg gk
    case measure => exact Nat.lt_succ_self _
    case rel => exact ⟨5, rfl, by omega, by omega, ⟨by have := HP.out; simp_all⟩, HBK.out, ⟨pw_below_drewN HB.out _⟩⟩
   | false =>
    have hr : r = 100 := by
     have h := HH.out
     unfold conf_Check.f at h
     rw [if_neg (by rw [hb]; simp)] at h
     exact (Option.some.inj h).symm
    subst hr
    go_wp2_with (first | (go_at_call 42; (with_reducible refine (C _).mono ?_); rintro e w2 ⟨rfl, ⟨nd, rfl⟩⟩))
    go_ret
    exact ⟨rfl, pw_below_drewN HB.out _⟩
  ·clear hgk
   have hw : inB a0_4 0 1048576 = true ∧ inB a0_5 0 1048576 = true ∧ inB a0_6 0 1048576 = true ∧ inB a0_7 0 1048576 = true ∧ inB a0_8 0 1048576 = true := by
    have h := HP.out
    exact ⟨h.1 (by omega), h.2.1 (by omega), h.2.2.1 (by omega), h.2.2.2.1 (by omega), h.2.2.2.2 (by omega)⟩
   have h := HH.out
   unfold conf_Check.f at h
   rw [if_pos hw] at h
   clear hw HP HH
   have x0 : wr.cell? ⟨w.heap.size, 0, none⟩ = some (.int .i64 a0_0) := (blk_cell HBK.out 0).trans rfl
   have x1 : wr.cell? ⟨w.heap.size, 1, none⟩ = some (.int .i64 a0_1) := (blk_cell HBK.out 1).trans rfl
   have x2 : wr.cell? ⟨w.heap.size, 2, none⟩ = some (.int .i64 a0_2) := (blk_cell HBK.out 2).trans rfl
   have x3 : wr.cell? ⟨w.heap.size, 3, none⟩ = some (.int .i64 a0_3) := (blk_cell HBK.out 3).trans rfl
   have x9 : wr.cell? ⟨w.heap.size, 9, none⟩ = some (.slice A0_9 l0_9.length c0_9) := (blk_cell HBK.out 9).trans rfl
   have x10 : wr.cell? ⟨w.heap.size, 10, none⟩ = some (.slice A0_10 l0_10.length c0_10) := (blk_cell HBK.out 10).trans rfl
   have x11 : wr.cell? ⟨w.heap.size, 11, none⟩ = some (.slice A0_11 l0_11.length c0_11) := (blk_cell HBK.out 11).trans rfl
   obtain ⟨b0, hb0⟩ : ∃ b, inB a0_0 1 4 = b := ⟨_, rfl⟩
   have C0 := fun W => conf_in.calls a0_0 1 4 b0 W ((conf_in_eq a0_0 1 4).trans (congrArg some hb0))
   obtain ⟨b1, hb1⟩ : ∃ b, inB a0_1 1 4294967296 = b := ⟨_, rfl⟩
   have C1 := fun W => conf_in.calls a0_1 1 4294967296 b1 W ((conf_in_eq a0_1 1 4294967296).trans (congrArg some hb1))
   obtain ⟨b2, hb2⟩ : ∃ b, inB a0_2 1 1073741824 = b := ⟨_, rfl⟩
   have C2 := fun W => conf_in.calls a0_2 1 1073741824 b2 W ((conf_in_eq a0_2 1 1073741824).trans (congrArg some hb2))
   obtain ⟨b3, hb3⟩ : ∃ b, inB a0_3 0 100 = b := ⟨_, rfl⟩
   have C3 := fun W => conf_in.calls a0_3 0 100 b3 W ((conf_in_eq a0_3 0 100).trans (congrArg some hb3))
   by_cases g0 : b0 = true
   case neg =>
    have g0' : b0 = false := by simpa using g0
    subst g0'
    rw [if_neg (by rw [hb0]; simp)] at h
    obtain rfl := Option.some.inj h
    clear h
    go_wp2_with (first | (go_at_call 42; (first | (with_reducible refine (C0 _).mono ?_)); rintro e w2 ⟨rfl, ⟨nd, rfl⟩⟩))
    go_ret
    exact ⟨rfl, by repeat (first | exact HB.out | apply pw_below_drewN)⟩
   subst g0
   by_cases g1 : b1 = true
   case neg =>
    have g1' : b1 = false := by simpa using g1
    subst g1'
    rw [if_neg (by rw [hb1]; simp)] at h
    obtain rfl := Option.some.inj h
    clear h
    go_wp2_with (first | (go_at_call 42; (first | (with_reducible refine (C0 _).mono ?_) | (with_reducible refine (C1 _).mono ?_)); rintro e w2 ⟨rfl, ⟨nd, rfl⟩⟩))
    go_ret
    exact ⟨rfl, by repeat (first | exact HB.out | apply pw_below_drewN)⟩
   subst g1
   by_cases g2 : b2 = true
   case neg =>
    have g2' : b2 = false := by simpa using g2
    subst g2'
    rw [if_neg (by rw [hb2]; simp)] at h
    obtain rfl := Option.some.inj h
    clear h
    go_wp2_with (first | (go_at_call 42; (first | (with_reducible refine (C0 _).mono ?_) | (with_reducible refine (C1 _).mono ?_) | (with_reducible refine (C2 _).mono ?_)); rintro e w2 ⟨rfl, ⟨nd, rfl⟩⟩))
    go_ret
    exact ⟨rfl, by repeat (first | exact HB.out | apply pw_below_drewN)⟩
   subst g2
   by_cases g3 : b3 = true
   case neg =>
    have g3' : b3 = false := by simpa using g3
    subst g3'
    rw [if_neg (by rw [hb3]; simp)] at h
    obtain rfl := Option.some.inj h
    clear h
    go_wp2_with (first | (go_at_call 42; (first | (with_reducible refine (C0 _).mono ?_) | (with_reducible refine (C1 _).mono ?_) | (with_reducible refine (C2 _).mono ?_) | (with_reducible refine (C3 _).mono ?_)); rintro e w2 ⟨rfl, ⟨nd, rfl⟩⟩))
    go_ret
    exact ⟨rfl, by repeat (first | exact HB.out | apply pw_below_drewN)⟩
   subst g3
   rw [if_pos ⟨hb0, hb1, hb2, hb3⟩] at h
   obtain ⟨p, hp, h⟩ := Option.bind_eq_some_iff.mp h
   have HPp := Aside0.mk hp
   clear hp hb0 hb1 hb2 hb3
   by_cases gp : p = true
   case neg =>
    have gp' : p = false := by simpa using gp
    subst gp'
    rw [if_neg (by simp)] at h
    obtain rfl := Option.some.inj h
    clear h
    go_wp2_with (first | (go_at_call 42; (first | (with_reducible refine (C0 _).mono ?_) | (with_reducible refine (C1 _).mono ?_) | (with_reducible refine (C2 _).mono ?_) | (with_reducible refine (C3 _).mono ?_)); rintro e w2 ⟨rfl, ⟨nd, rfl⟩⟩) | (go_at_call 43; (with_reducible refine (conf_parts.calls k A0_9 c0_9 l0_9 false _ ?s1 ?s2 ?s3 HPp.out).mono ?_); (case s1 => exact Glob.below HG.out (by repeat (first | exact HB.out | apply pw_below_drewN))); (case s2 => exact Kd.C_below HR9.out (by repeat (first | exact HB.out | apply pw_below_drewN))); (case s3 => exact HC9.out); rintro e w3 ⟨rfl, gb⟩; have HB3 := Aside0.mk (below_then (show Below w.heap.size w _ by repeat (first | exact HB.out | apply pw_below_drewN)) gb (below_size (show Below w.heap.size w _ by repeat (first | exact HB.out | apply pw_below_drewN)))); have K3 := Aside0.mk ((gb.block w.heap.size (blk_lt (blk_drewN HBK.out _))).trans (blk_drewN HBK.out _)); have y10 : w3.cell? ⟨w.heap.size, 10, none⟩ = some (.slice A0_10 l0_10.length c0_10) := (blk_cell K3.out 10).trans rfl; have y11 : w3.cell? ⟨w.heap.size, 11, none⟩ = some (.slice A0_11 l0_11.length c0_11) := (blk_cell K3.out 11).trans rfl; clear gb))
    go_ret
    exact ⟨rfl, HB3.out⟩
   subst gp
   rw [if_pos rfl] at h
   obtain ⟨q, hq, h⟩ := Option.bind_eq_some_iff.mp h
   have HQq := Aside0.mk hq
   clear hq
   by_cases gq : q = true
   case neg =>
    have gq' : q = false := by simpa using gq
    subst gq'
    rw [if_neg (by simp)] at h
    obtain rfl := Option.some.inj h
    clear h
    go_wp2_with (first | (go_at_call 42; (first | (with_reducible refine (C0 _).mono ?_) | (with_reducible refine (C1 _).mono ?_) | (with_reducible refine (C2 _).mono ?_) | (with_reducible refine (C3 _).mono ?_)); rintro e w2 ⟨rfl, ⟨nd, rfl⟩⟩) | (go_at_call 43; (with_reducible refine (conf_parts.calls k A0_9 c0_9 l0_9 true _ ?s1 ?s2 ?s3 HPp.out).mono ?_); (case s1 => exact Glob.below HG.out (by repeat (first | exact HB.out | apply pw_below_drewN))); (case s2 => exact Kd.C_below HR9.out (by repeat (first | exact HB.out | apply pw_below_drewN))); (case s3 => exact HC9.out); rintro e w3 ⟨rfl, gb⟩; have HB3 := Aside0.mk (below_then (show Below w.heap.size w _ by repeat (first | exact HB.out | apply pw_below_drewN)) gb (below_size (show Below w.heap.size w _ by repeat (first | exact HB.out | apply pw_below_drewN)))); have K3 := Aside0.mk ((gb.block w.heap.size (blk_lt (blk_drewN HBK.out _))).trans (blk_drewN HBK.out _)); have y10 : w3.cell? ⟨w.heap.size, 10, none⟩ = some (.slice A0_10 l0_10.length c0_10) := (blk_cell K3.out 10).trans rfl; have y11 : w3.cell? ⟨w.heap.size, 11, none⟩ = some (.slice A0_11 l0_11.length c0_11) := (blk_cell K3.out 11).trans rfl; clear gb) | (go_at_call 44; (with_reducible refine (conf_classes.calls k A0_10 c0_10 l0_10 false _ ?s1 ?s2 ?s3 HQq.out).mono ?_); (case s1 => exact Glob.below HG.out HB3.out); (case s2 => exact Kd.C_below HR10.out HB3.out); (case s3 => exact HC10.out); rintro e w4 ⟨rfl, gb⟩; have HB4 := Aside0.mk (below_then HB3.out gb (below_size HB3.out)); have K4 := Aside0.mk ((gb.block w.heap.size (blk_lt K3.out)).trans K3.out); have z11 : w4.cell? ⟨w.heap.size, 11, none⟩ = some (.slice A0_11 l0_11.length c0_11) := (blk_cell K4.out 11).trans rfl; clear gb))
    go_ret
    exact ⟨rfl, HB4.out⟩
   subst gq
   rw [if_pos rfl] at h
   obtain ⟨t, ht, h⟩ := Option.bind_eq_some_iff.mp h
   have HTt := Aside0.mk ht
   obtain rfl := Option.some.inj h
   clear ht h
   cases t with
   | true =>
    go_wp2_with (first | (go_at_call 42; (first | (with_reducible refine (C0 _).mono ?_) | (with_reducible refine (C1 _).mono ?_) | (with_reducible refine (C2 _).mono ?_) | (with_reducible refine (C3 _).mono ?_)); rintro e w2 ⟨rfl, ⟨nd, rfl⟩⟩) | (go_at_call 43; (with_reducible refine (conf_parts.calls k A0_9 c0_9 l0_9 true _ ?s1 ?s2 ?s3 HPp.out).mono ?_); (case s1 => exact Glob.below HG.out (by repeat (first | exact HB.out | apply pw_below_drewN))); (case s2 => exact Kd.C_below HR9.out (by repeat (first | exact HB.out | apply pw_below_drewN))); (case s3 => exact HC9.out); rintro e w3 ⟨rfl, gb⟩; have HB3 := Aside0.mk (below_then (show Below w.heap.size w _ by repeat (first | exact HB.out | apply pw_below_drewN)) gb (below_size (show Below w.heap.size w _ by repeat (first | exact HB.out | apply pw_below_drewN)))); have K3 := Aside0.mk ((gb.block w.heap.size (blk_lt (blk_drewN HBK.out _))).trans (blk_drewN HBK.out _)); have y10 : w3.cell? ⟨w.heap.size, 10, none⟩ = some (.slice A0_10 l0_10.length c0_10) := (blk_cell K3.out 10).trans rfl; have y11 : w3.cell? ⟨w.heap.size, 11, none⟩ = some (.slice A0_11 l0_11.length c0_11) := (blk_cell K3.out 11).trans rfl; clear gb) | (go_at_call 44; (with_reducible refine (conf_classes.calls k A0_10 c0_10 l0_10 true _ ?s1 ?s2 ?s3 HQq.out).mono ?_); (case s1 => exact Glob.below HG.out HB3.out); (case s2 => exact Kd.C_below HR10.out HB3.out); (case s3 => exact HC10.out); rintro e w4 ⟨rfl, gb⟩; have HB4 := Aside0.mk (below_then HB3.out gb (below_size HB3.out)); have K4 := Aside0.mk ((gb.block w.heap.size (blk_lt K3.out)).trans K3.out); have z11 : w4.cell? ⟨w.heap.size, 11, none⟩ = some (.slice A0_11 l0_11.length c0_11) := (blk_cell K4.out 11).trans rfl; clear gb) | (go_at_call 45; (with_reducible refine (conf_accounts.calls k A0_11 c0_11 l0_11 true _ ?s1 ?s2 ?s3 HTt.out).mono ?_); (case s1 => exact Glob.below HG.out HB4.out); (case s2 => exact Kd.C_below HR11.out HB4.out); (case s3 => exact HC11.out); rintro e w5 ⟨rfl, gb⟩; have HB5 := Aside0.mk (below_then HB4.out gb (below_size HB4.out)); clear gb))
    go_ret
    exact ⟨rfl, HB5.out⟩
   | false =>
    go_wp2_with (first | (go_at_call 42; (first | (with_reducible refine (C0 _).mono ?_) | (with_reducible refine (C1 _).mono ?_) | (with_reducible refine (C2 _).mono ?_) | (with_reducible refine (C3 _).mono ?_)); rintro e w2 ⟨rfl, ⟨nd, rfl⟩⟩) | (go_at_call 43; (with_reducible refine (conf_parts.calls k A0_9 c0_9 l0_9 true _ ?s1 ?s2 ?s3 HPp.out).mono ?_); (case s1 => exact Glob.below HG.out (by repeat (first | exact HB.out | apply pw_below_drewN))); (case s2 => exact Kd.C_below HR9.out (by repeat (first | exact HB.out | apply pw_below_drewN))); (case s3 => exact HC9.out); rintro e w3 ⟨rfl, gb⟩; have HB3 := Aside0.mk (below_then (show Below w.heap.size w _ by repeat (first | exact HB.out | apply pw_below_drewN)) gb (below_size (show Below w.heap.size w _ by repeat (first | exact HB.out | apply pw_below_drewN)))); have K3 := Aside0.mk ((gb.block w.heap.size (blk_lt (blk_drewN HBK.out _))).trans (blk_drewN HBK.out _)); have y10 : w3.cell? ⟨w.heap.size, 10, none⟩ = some (.slice A0_10 l0_10.length c0_10) := (blk_cell K3.out 10).trans rfl; have y11 : w3.cell? ⟨w.heap.size, 11, none⟩ = some (.slice A0_11 l0_11.length c0_11) := (blk_cell K3.out 11).trans rfl; clear gb) | (go_at_call 44; (with_reducible refine (conf_classes.calls k A0_10 c0_10 l0_10 true _ ?s1 ?s2 ?s3 HQq.out).mono ?_); (case s1 => exact Glob.below HG.out HB3.out); (case s2 => exact Kd.C_below HR10.out HB3.out); (case s3 => exact HC10.out); rintro e w4 ⟨rfl, gb⟩; have HB4 := Aside0.mk (below_then HB3.out gb (below_size HB3.out)); have K4 := Aside0.mk ((gb.block w.heap.size (blk_lt K3.out)).trans K3.out); have z11 : w4.cell? ⟨w.heap.size, 11, none⟩ = some (.slice A0_11 l0_11.length c0_11) := (blk_cell K4.out 11).trans rfl; clear gb) | (go_at_call 45; (with_reducible refine (conf_accounts.calls k A0_11 c0_11 l0_11 false _ ?s1 ?s2 ?s3 HTt.out).mono ?_); (case s1 => exact Glob.below HG.out HB4.out); (case s2 => exact Kd.C_below HR11.out HB4.out); (case s3 => exact HC11.out); rintro e w5 ⟨rfl, gb⟩; have HB5 := Aside0.mk (below_then HB4.out gb (below_size HB4.out)); clear gb))
    go_ret
    exact ⟨rfl, HB5.out⟩
  ·omega
def share_right.l0 : Nat → List Int → Int → Int → Option (Int)
 | 0, _, _, _ => none
 | k + 1, x25, x26, x27 => if x27 < x26 then (if 0 ≤ x27 then (if x27 < (x25.length : Int) then (if (rd x25 x27) < 0 then (some 2) else (share_right.l0 k x25 x26 (wrap64 (x27 + 1)))) else (none)) else (none)) else (some 0)
def share_right.f (k : Nat) (l0 : List (S37)) (l1 : List Int) : Option (Int) := (conf_Check.f k 1 1 1 0 0 0 0 0 0 (([(⟨(⟨#[120]⟩ : ByteArray), 0, 0, 1⟩ : S56)] : List (S56))) (([(⟨(⟨#[120]⟩ : ByteArray), 0, 1⟩ : S59)] : List (S59))) l0).bind fun t147 => (if t147 = 0 then (if (l1.length : Int) = (l0.length : Int) then (share_right.l0 k l1 (l1.length : Int) 0) else (some 2)) else (some t147))
theorem share_right.mono_l : ∀ k, (∀ y0 y1 y2, LeO (share_right.l0 k y0 y1 y2) (share_right.l0 (k + 1) y0 y1 y2))
 | 0 => fun _ _ _ r h => by simp [share_right.l0] at h
 | k + 1 => by
  have ih0 := share_right.mono_l k
  ·intro y0 y1 y2
   unfold share_right.l0
   repeat' first
   | (with_reducible exact ih0 _ _ _)
   | (with_reducible exact conf_Check.mono _ _ _ _ _ _ _ _ _ _ _ _ _)
   | (with_reducible exact LeO.refl _)
   | (with_reducible exact LeO.none _)
   | (with_reducible refine LeO.ite ?_ ?_)
   | (with_reducible refine LeO.bind ?_ (fun _ => ?_))
   | exact ih0 _ _ _
   | exact conf_Check.mono _ _ _ _ _ _ _ _ _ _ _ _ _
   | exact LeO.none _
   | refine LeO.ite ?_ ?_
   | refine LeO.bind ?_ (fun _ => ?_)
theorem share_right.mono : ∀ a0 a1 k, LeO (share_right.f k a0 a1) (share_right.f (k + 1) a0 a1) := by
 intro a0 a1 k
 have ih0 := share_right.mono_l k
 unfold share_right.f
 repeat' first
   | (with_reducible exact ih0 _ _ _)
   | (with_reducible exact conf_Check.mono _ _ _ _ _ _ _ _ _ _ _ _ _)
   | (with_reducible exact LeO.refl _)
   | (with_reducible exact LeO.none _)
   | (with_reducible refine LeO.ite ?_ ?_)
   | (with_reducible refine LeO.bind ?_ (fun _ => ?_))
   | exact ih0 _ _ _
   | exact conf_Check.mono _ _ _ _ _ _ _ _ _ _ _ _ _
   | exact LeO.none _
   | refine LeO.ite ?_ ?_
   | refine LeO.bind ?_ (fun _ => ?_)
set_option maxHeartbeats 8000000 in
set_option maxRecDepth 100000 in
theorem share_right.calls (k : Nat) (A0 : Option Addr) (c0 : Nat) (l0 : List (S37)) (A1 : Option Addr) (c1 : Nat) (l1 : List Int) (r : Int) (w : World) (hG : Glob w) (hr0 : Kd.C k37 w A0 l0.length l0) (hc0 : l0.length ≤ c0) (hr1 : Kd.C (Kd.int .i64) w A1 l1.length l1) (hc1 : l1.length ≤ c1) (h : share_right.f k l0 l1 = some r) :
  Calls Tryd.prog 23 #[.slice A0 l0.length c0, .slice A1 l1.length c1] w fun e w' => e = .returned (.int .i64 r) ∧ Below w.heap.size w w' := by
 have hu56 := Tryd.underlying56
 have hu59 := Tryd.underlying59
 have hu64 := Tryd.underlying64
 have HG := Aside0.mk hG
 clear hG
 have HR0 := Aside0.mk hr0
 have HC0 := Aside0.mk hc0
 clear hr0 hc0
 have HR1 := Aside0.mk hr1
 have HC1 := Aside0.mk hc1
 clear hr1 hc1
 have HB := Aside0.mk (Below.refl w.heap.size w)
 have H : ((conf_Check.f k 1 1 1 0 0 0 0 0 0 (([(⟨(⟨#[120]⟩ : ByteArray), 0, 0, 1⟩ : S56)] : List (S56))) (([(⟨(⟨#[120]⟩ : ByteArray), 0, 1⟩ : S59)] : List (S59))) l0).bind fun t147 => (if t147 = 0 then (if (l1.length : Int) = (l0.length : Int) then (share_right.l0 k l1 (l1.length : Int) 0) else (some 2)) else (some t147))) = some r := h
 clear h
 obtain ⟨y140, hy140⟩ : ∃ y_ : List (S56), y_ = (([(⟨(⟨#[120]⟩ : ByteArray), 0, 0, 1⟩ : S56)] : List (S56))) := ⟨_, rfl⟩
 replace H : ((conf_Check.f k 1 1 1 0 0 0 0 0 0 y140 (([(⟨(⟨#[120]⟩ : ByteArray), 0, 1⟩ : S59)] : List (S59))) l0).bind fun t147 => (if t147 = 0 then (if (l1.length : Int) = (l0.length : Int) then (share_right.l0 k l1 (l1.length : Int) 0) else (some 2)) else (some t147))) = some r := by first | (rw [hy140]; with_reducible exact H) | (have H2_ := (Option.bind_some _ _).symm.trans H; rw [hy140]; with_reducible exact H2_) | (have H2_ := (Option.bind_some _ _).symm.trans H; with_reducible exact H2_) | with_reducible exact H | (rw [hy140]; exact H) | exact H
 have Ny140 := Aside0.mk hy140
 clear hy140
 obtain ⟨y143, hy143⟩ : ∃ y_ : List (S59), y_ = (([(⟨(⟨#[120]⟩ : ByteArray), 0, 1⟩ : S59)] : List (S59))) := ⟨_, rfl⟩
 replace H : ((conf_Check.f k 1 1 1 0 0 0 0 0 0 y140 y143 l0).bind fun t147 => (if t147 = 0 then (if (l1.length : Int) = (l0.length : Int) then (share_right.l0 k l1 (l1.length : Int) 0) else (some 2)) else (some t147))) = some r := by first | (rw [hy143]; with_reducible exact H) | (have H2_ := (Option.bind_some _ _).symm.trans H; rw [hy143]; with_reducible exact H2_) | (have H2_ := (Option.bind_some _ _).symm.trans H; with_reducible exact H2_) | with_reducible exact H | (rw [hy143]; exact H) | exact H
 have Ny143 := Aside0.mk hy143
 clear hy143
 replace H := Option.bind_eq_some_iff.mp H
 obtain ⟨t147, A30, H⟩ := H
 replace H : (if t147 = 0 then (if (l1.length : Int) = (l0.length : Int) then (share_right.l0 k l1 (l1.length : Int) 0) else (some 2)) else (some t147)) = some r := H
 have A3 := Aside0.mk A30
 clear A30
 by_cases c4 : t147 = 0
 ·rw [if_pos c4] at H
  have c4b0 : (t147 == 0) = true := beq_iff_eq.mpr c4
  have c4b1 : (t147 != 0) = false := bne_eq_false_iff_eq.mpr c4
  clear c4
  by_cases c5 : (l1.length : Int) = (l0.length : Int)
  ·rw [if_pos c5] at H
   have c5b0 : ((l1.length : Int) == (l0.length : Int)) = true := beq_iff_eq.mpr c5
   have c5b1 : ((l1.length : Int) != (l0.length : Int)) = false := bne_eq_false_iff_eq.mpr c5
   have c5b2 : (l1.length == l0.length) = true := by first | simpa using c5 | (simp at c5 ⊢; omega)
   clear c5
   have H' := Aside0.mk H
   clear H
   go_enter Tryd.func23, Tryd.ntmps23
   go_wp2_with (first | ((with_reducible refine gate_dst (N := 10) rfl ?_); refine Kd.R_lit k56 _ 56 ?hg (N := 10) ?hd (xs := ([(⟨(⟨#[120]⟩ : ByteArray), 0, 0, 1⟩ : S56)] : List (S56))) (inner := [.string (⟨#[120]⟩ : ByteArray), .int .i64 0, .int .i64 0, .int .i64 1]) (ok := fun _ => True) (okp := fun _ => True) ?hr ?hp (fun _ hk => hk) trivial (Below.refl _ _) (Nat.le_refl _) (by simp) ?_; (case hd => rfl); (case hg => rfl); (case hr => first | (go_simp; done) | (go_simp; rfl)); (case hp => exact (Reps.c4 (show Kd.M k56 _ _ _ (⟨(⟨#[120]⟩ : ByteArray), 0, 0, 1⟩ : S56) [.string (⟨#[120]⟩ : ByteArray), .int .i64 0, .int .i64 0, .int .i64 1] from (k56_mkM _ _ _ (⟨(⟨#[120]⟩ : ByteArray), 0, 0, 1⟩ : S56) )) (Reps.none _ _))); intro v141 w6 ho7 hb hg_ hnew_; clear hg_ hnew_; (first | rw [← Ny140.out] at ho7 | (simp only [Int.reduceToNat] at ho7; rw [← Ny140.out] at ho7)); have n0_ := Aside0.mk (Kd.R_lower ho7 (below_size (by repeat (first | (with_reducible first | exact HB.out | apply below_alloc | apply pw_below_drewN | apply below_drew1) | exact HB.out)))); have n1_ := Aside0.mk (below_step (by repeat (first | (with_reducible first | exact HB.out | apply below_alloc | apply pw_below_drewN | apply below_drew1) | exact HB.out)) hb); clear HB; have HO142 := n0_; have HB := n1_; clear n0_ n1_; clear hb ho7) | ((with_reducible refine gate_dst (N := 12) rfl ?_); refine Kd.R_lit k59 _ 59 ?hg (N := 12) ?hd (xs := ([(⟨(⟨#[120]⟩ : ByteArray), 0, 1⟩ : S59)] : List (S59))) (inner := [.string (⟨#[120]⟩ : ByteArray), .int .i64 0, .int .i64 1]) (ok := fun _ => True) (okp := fun _ => True) ?hr ?hp (fun _ hk => hk) trivial (Below.refl _ _) (Nat.le_refl _) (by simp) ?_; (case hd => rfl); (case hg => rfl); (case hr => first | (go_simp; done) | (go_simp; rfl)); (case hp => exact (Reps.c3 (show Kd.M k59 _ _ _ (⟨(⟨#[120]⟩ : ByteArray), 0, 1⟩ : S59) [.string (⟨#[120]⟩ : ByteArray), .int .i64 0, .int .i64 1] from (k59_mkM _ _ _ (⟨(⟨#[120]⟩ : ByteArray), 0, 1⟩ : S59) )) (Reps.none _ _))); intro v144 w8 ho9 hb hg_ hnew_; clear hg_ hnew_; (first | rw [← Ny143.out] at ho9 | (simp only [Int.reduceToNat] at ho9; rw [← Ny143.out] at ho9)); have n0_ := Aside0.mk (Kd.R_below (by (with_reducible repeat (first | apply Kd.R_alloc | apply Kd.R_drewN | apply Kd.R_drew)); exact HO142.out) hb); have n1_ := Aside0.mk (Kd.R_lower ho9 (below_size (by repeat (first | (with_reducible first | exact HB.out | apply below_alloc | apply pw_below_drewN | apply below_drew1) | exact HB.out)))); have n2_ := Aside0.mk (below_step (by repeat (first | (with_reducible first | exact HB.out | apply below_alloc | apply pw_below_drewN | apply below_drew1) | exact HB.out)) hb); clear HO142; clear HB; have HO142 := n0_; have HO145 := n1_; have HB := n2_; clear n0_ n1_ n2_; clear hb ho9; obtain ⟨Ao10, co10, eo10⟩ := Kd.R_slice HO145.out; subst eo10; obtain ⟨Ao11, co11, eo11⟩ := Kd.R_slice HO142.out; subst eo11) | ((with_reducible refine gate_dst (N := 5) rfl ?_); refine box_event ?hg (N := 5) ?hd (cs := #[.int .i64 0, .int .i64 0, .int .i64 0, .int .i64 0, .int .i64 0, .int .i64 0, .int .i64 0, .int .i64 0, .int .i64 0, .slice none 0 0, .slice none 0 0, .slice none 0 0]) (t := 64) ?hr ?_; (case hd => rfl); (case hg => rfl); (case hr => first | (go_simp; done) | (go_simp; rfl)); intro gb146 hg w12 hbox hb; have n0_ := Aside0.mk (Kd.R_below (by (with_reducible repeat (first | apply Kd.R_alloc | apply Kd.R_drewN | apply Kd.R_drew)); exact HO142.out) hb); have n1_ := Aside0.mk (Kd.R_below (by (with_reducible repeat (first | apply Kd.R_alloc | apply Kd.R_drewN | apply Kd.R_drew)); exact HO145.out) hb); have n2_ := Aside0.mk (below_step (by repeat (first | (with_reducible first | exact HB.out | apply below_alloc | apply pw_below_drewN | apply below_drew1) | exact HB.out)) hb); have n3_ := Aside0.mk (hbox); have n4_ := Aside0.mk ((by rw [hg]; exact (below_size (by repeat (first | (with_reducible first | exact HB.out | apply below_alloc | apply pw_below_drewN | apply below_drew1) | exact HB.out))) : w.heap.size ≤ gb146)); have n5_ := Aside0.mk ((by rw [hg]; exact (below_size (by repeat (first | (with_reducible first | exact HB.out | apply below_alloc | apply pw_below_drewN | apply below_drew1) | exact HB.out))) : w.heap.size ≤ gb146)); clear HO142; clear HO145; clear HB; have HO142 := n0_; have HO145 := n1_; have HB := n2_; have BK146 := n3_; have GW146 := n4_; have GE146 := n5_; clear n0_ n1_ n2_ n3_ n4_ n5_; clear hb hbox hg; have hcz13_0 : w12.cell? ⟨gb146, 0, none⟩ = some (.int .i64 0) := (blk_cell BK146.out 0).trans rfl; have hcz13_1 : w12.cell? ⟨gb146, 1, none⟩ = some (.int .i64 0) := (blk_cell BK146.out 1).trans rfl; have hcz13_2 : w12.cell? ⟨gb146, 2, none⟩ = some (.int .i64 0) := (blk_cell BK146.out 2).trans rfl; have hcz13_3 : w12.cell? ⟨gb146, 3, none⟩ = some (.int .i64 0) := (blk_cell BK146.out 3).trans rfl; have hcz13_4 : w12.cell? ⟨gb146, 4, none⟩ = some (.int .i64 0) := (blk_cell BK146.out 4).trans rfl; have hcz13_5 : w12.cell? ⟨gb146, 5, none⟩ = some (.int .i64 0) := (blk_cell BK146.out 5).trans rfl; have hcz13_6 : w12.cell? ⟨gb146, 6, none⟩ = some (.int .i64 0) := (blk_cell BK146.out 6).trans rfl; have hcz13_7 : w12.cell? ⟨gb146, 7, none⟩ = some (.int .i64 0) := (blk_cell BK146.out 7).trans rfl; have hcz13_8 : w12.cell? ⟨gb146, 8, none⟩ = some (.int .i64 0) := (blk_cell BK146.out 8).trans rfl; have hcz13_9 : w12.cell? ⟨gb146, 9, none⟩ = some (.slice none 0 0) := (blk_cell BK146.out 9).trans rfl; have hcz13_10 : w12.cell? ⟨gb146, 10, none⟩ = some (.slice none 0 0) := (blk_cell BK146.out 10).trans rfl; have hcz13_11 : w12.cell? ⟨gb146, 11, none⟩ = some (.slice none 0 0) := (blk_cell BK146.out 11).trans rfl; have hfz13_0 := blk_frozen BK146.out 0; have hfz13_1 := blk_frozen BK146.out 1; have hfz13_2 := blk_frozen BK146.out 2; have hfz13_3 := blk_frozen BK146.out 3; have hfz13_4 := blk_frozen BK146.out 4; have hfz13_5 := blk_frozen BK146.out 5; have hfz13_6 := blk_frozen BK146.out 6; have hfz13_7 := blk_frozen BK146.out 7; have hfz13_8 := blk_frozen BK146.out 8; have hfz13_9 := blk_frozen BK146.out 9; have hfz13_10 := blk_frozen BK146.out 10; have hfz13_11 := blk_frozen BK146.out 11) | ((with_reducible refine gate_callee (f := 31) rfl ?_); refine goesL_ (some 16) rfl rfl Tryd.func31 (by kernel_rfl) rfl #[.agg #[.int .i64 1, .int .i64 1, .int .i64 1, .int .i64 0, .int .i64 0, .int .i64 0, .int .i64 0, .int .i64 0, .int .i64 0, .slice Ao11 y140.length co11, .slice Ao10 y143.length co10, .slice A0 l0.length c0]] rfl (by (try simp only [List.map_toArray, List.map_cons, List.map_nil]); first | done | rfl | (simp only [List.length_drop, List.length_take]; rfl)) ?_; (with_reducible refine (conf_Check.calls k 1 1 1 0 0 0 0 0 0 _ _ y140 _ _ y143 _ _ l0 t147 _ ?side1 ?side2 ?side3 ?side4 ?side5 ?side6 ?side7 A3.out).mono ?_); (case side1 => exact Glob.below HG.out (by repeat (first | (with_reducible first | exact HB.out | apply below_alloc | apply pw_below_drewN | apply below_drew1 | refine below_set ?_ GE146.out) | exact HB.out))); (case side2 => refine (Kd.R_reads' (e := 56) (base := w.heap.size) (ok := fun k_ => True) (n := y140.length) (c := co11) ?_).2.2; exact (by (with_reducible repeat (first | apply Kd.R_alloc | apply Kd.R_drewN | apply Kd.R_drew)); exact (Kd.R_mono (Kd.R_far (p := ⟨gb146, 11, none⟩) (Kd.R_far (p := ⟨gb146, 10, none⟩) (Kd.R_far (p := ⟨gb146, 9, none⟩) (Kd.R_far (p := ⟨gb146, 8, none⟩) (Kd.R_far (p := ⟨gb146, 7, none⟩) (Kd.R_far (p := ⟨gb146, 6, none⟩) (Kd.R_far (p := ⟨gb146, 5, none⟩) (Kd.R_far (p := ⟨gb146, 4, none⟩) (Kd.R_far (p := ⟨gb146, 3, none⟩) (Kd.R_far (p := ⟨gb146, 2, none⟩) (Kd.R_far (p := ⟨gb146, 1, none⟩) (Kd.R_far (p := ⟨gb146, 0, none⟩) (Kd.R_types HO142.out BK146.out (by decide)) (fun _ hk => hk.2) (.int .i64 1)) (fun _ hk => hk.2) (.int .i64 1)) (fun _ hk => hk.2) (.int .i64 1)) (fun _ hk => hk.2) (.int .i64 0)) (fun _ hk => hk.2) (.int .i64 0)) (fun _ hk => hk.2) (.int .i64 0)) (fun _ hk => hk.2) (.int .i64 0)) (fun _ hk => hk.2) (.int .i64 0)) (fun _ hk => hk.2) (.int .i64 0)) (fun _ hk => hk.2) (.slice Ao11 y140.length co11)) (fun _ hk => hk.2) (.slice Ao10 y143.length co10)) (fun _ hk => hk.2) (.slice A0 l0.length c0)) (fun _ h_ => h_.1)))); (case side3 => exact (Kd.R_reads' HO142.out).2.1); (case side4 => refine (Kd.R_reads' (e := 59) (base := w.heap.size) (ok := fun k_ => True) (n := y143.length) (c := co10) ?_).2.2; exact (by (with_reducible repeat (first | apply Kd.R_alloc | apply Kd.R_drewN | apply Kd.R_drew)); exact (Kd.R_mono (Kd.R_far (p := ⟨gb146, 11, none⟩) (Kd.R_far (p := ⟨gb146, 10, none⟩) (Kd.R_far (p := ⟨gb146, 9, none⟩) (Kd.R_far (p := ⟨gb146, 8, none⟩) (Kd.R_far (p := ⟨gb146, 7, none⟩) (Kd.R_far (p := ⟨gb146, 6, none⟩) (Kd.R_far (p := ⟨gb146, 5, none⟩) (Kd.R_far (p := ⟨gb146, 4, none⟩) (Kd.R_far (p := ⟨gb146, 3, none⟩) (Kd.R_far (p := ⟨gb146, 2, none⟩) (Kd.R_far (p := ⟨gb146, 1, none⟩) (Kd.R_far (p := ⟨gb146, 0, none⟩) (Kd.R_types HO145.out BK146.out (by decide)) (fun _ hk => hk.2) (.int .i64 1)) (fun _ hk => hk.2) (.int .i64 1)) (fun _ hk => hk.2) (.int .i64 1)) (fun _ hk => hk.2) (.int .i64 0)) (fun _ hk => hk.2) (.int .i64 0)) (fun _ hk => hk.2) (.int .i64 0)) (fun _ hk => hk.2) (.int .i64 0)) (fun _ hk => hk.2) (.int .i64 0)) (fun _ hk => hk.2) (.int .i64 0)) (fun _ hk => hk.2) (.slice Ao11 y140.length co11)) (fun _ hk => hk.2) (.slice Ao10 y143.length co10)) (fun _ hk => hk.2) (.slice A0 l0.length c0)) (fun _ h_ => h_.1)))); (case side5 => exact (Kd.R_reads' HO145.out).2.1); (case side6 => exact Kd.C_below HR0.out (by repeat (first | (with_reducible first | exact HB.out | apply below_alloc | apply pw_below_drewN | apply below_drew1 | refine below_set ?_ GE146.out) | exact HB.out))); (case side7 => exact HC0.out); rintro e w14 ⟨rfl, hb⟩; refine ⟨_, rfl, ?_⟩; have n0_ := Aside0.mk (Kd.R_below (by (with_reducible repeat (first | apply Kd.R_alloc | apply Kd.R_drewN | apply Kd.R_drew)); exact (Kd.R_mono (Kd.R_far (p := ⟨gb146, 11, none⟩) (Kd.R_far (p := ⟨gb146, 10, none⟩) (Kd.R_far (p := ⟨gb146, 9, none⟩) (Kd.R_far (p := ⟨gb146, 8, none⟩) (Kd.R_far (p := ⟨gb146, 7, none⟩) (Kd.R_far (p := ⟨gb146, 6, none⟩) (Kd.R_far (p := ⟨gb146, 5, none⟩) (Kd.R_far (p := ⟨gb146, 4, none⟩) (Kd.R_far (p := ⟨gb146, 3, none⟩) (Kd.R_far (p := ⟨gb146, 2, none⟩) (Kd.R_far (p := ⟨gb146, 1, none⟩) (Kd.R_far (p := ⟨gb146, 0, none⟩) (Kd.R_types HO142.out BK146.out (by decide)) (fun _ hk => hk.2) (.int .i64 1)) (fun _ hk => hk.2) (.int .i64 1)) (fun _ hk => hk.2) (.int .i64 1)) (fun _ hk => hk.2) (.int .i64 0)) (fun _ hk => hk.2) (.int .i64 0)) (fun _ hk => hk.2) (.int .i64 0)) (fun _ hk => hk.2) (.int .i64 0)) (fun _ hk => hk.2) (.int .i64 0)) (fun _ hk => hk.2) (.int .i64 0)) (fun _ hk => hk.2) (.slice Ao11 y140.length co11)) (fun _ hk => hk.2) (.slice Ao10 y143.length co10)) (fun _ hk => hk.2) (.slice A0 l0.length c0)) (fun _ h_ => h_.1))) hb); have n1_ := Aside0.mk (Kd.R_below (by (with_reducible repeat (first | apply Kd.R_alloc | apply Kd.R_drewN | apply Kd.R_drew)); exact (Kd.R_mono (Kd.R_far (p := ⟨gb146, 11, none⟩) (Kd.R_far (p := ⟨gb146, 10, none⟩) (Kd.R_far (p := ⟨gb146, 9, none⟩) (Kd.R_far (p := ⟨gb146, 8, none⟩) (Kd.R_far (p := ⟨gb146, 7, none⟩) (Kd.R_far (p := ⟨gb146, 6, none⟩) (Kd.R_far (p := ⟨gb146, 5, none⟩) (Kd.R_far (p := ⟨gb146, 4, none⟩) (Kd.R_far (p := ⟨gb146, 3, none⟩) (Kd.R_far (p := ⟨gb146, 2, none⟩) (Kd.R_far (p := ⟨gb146, 1, none⟩) (Kd.R_far (p := ⟨gb146, 0, none⟩) (Kd.R_types HO145.out BK146.out (by decide)) (fun _ hk => hk.2) (.int .i64 1)) (fun _ hk => hk.2) (.int .i64 1)) (fun _ hk => hk.2) (.int .i64 1)) (fun _ hk => hk.2) (.int .i64 0)) (fun _ hk => hk.2) (.int .i64 0)) (fun _ hk => hk.2) (.int .i64 0)) (fun _ hk => hk.2) (.int .i64 0)) (fun _ hk => hk.2) (.int .i64 0)) (fun _ hk => hk.2) (.int .i64 0)) (fun _ hk => hk.2) (.slice Ao11 y140.length co11)) (fun _ hk => hk.2) (.slice Ao10 y143.length co10)) (fun _ hk => hk.2) (.slice A0 l0.length c0)) (fun _ h_ => h_.1))) hb); have n2_ := Aside0.mk (blk_below (g := gb146) (o := .cells #[.int .i64 1, .int .i64 1, .int .i64 1, .int .i64 0, .int .i64 0, .int .i64 0, .int .i64 0, .int .i64 0, .int .i64 0, .slice Ao11 y140.length co11, .slice Ao10 y143.length co10, .slice A0 l0.length c0] 64 (0, 0)) (by (with_reducible repeat (first | refine blk_drewN ?_ _ | refine blk_drew ?_ | refine blk_alloc ?_ _)); refine blk_put (cs := #[.int .i64 1, .int .i64 1, .int .i64 1, .int .i64 0, .int .i64 0, .int .i64 0, .int .i64 0, .int .i64 0, .int .i64 0, .slice Ao11 y140.length co11, .slice Ao10 y143.length co10, .slice none 0 0]) ?_ 11 _ rfl; (with_reducible repeat (first | refine blk_drewN ?_ _ | refine blk_drew ?_ | refine blk_alloc ?_ _)); refine blk_put (cs := #[.int .i64 1, .int .i64 1, .int .i64 1, .int .i64 0, .int .i64 0, .int .i64 0, .int .i64 0, .int .i64 0, .int .i64 0, .slice Ao11 y140.length co11, .slice none 0 0, .slice none 0 0]) ?_ 10 _ rfl; (with_reducible repeat (first | refine blk_drewN ?_ _ | refine blk_drew ?_ | refine blk_alloc ?_ _)); refine blk_put (cs := #[.int .i64 1, .int .i64 1, .int .i64 1, .int .i64 0, .int .i64 0, .int .i64 0, .int .i64 0, .int .i64 0, .int .i64 0, .slice none 0 0, .slice none 0 0, .slice none 0 0]) ?_ 9 _ rfl; (with_reducible repeat (first | refine blk_drewN ?_ _ | refine blk_drew ?_ | refine blk_alloc ?_ _)); refine blk_put (cs := #[.int .i64 1, .int .i64 1, .int .i64 1, .int .i64 0, .int .i64 0, .int .i64 0, .int .i64 0, .int .i64 0, .int .i64 0, .slice none 0 0, .slice none 0 0, .slice none 0 0]) ?_ 8 _ rfl; (with_reducible repeat (first | refine blk_drewN ?_ _ | refine blk_drew ?_ | refine blk_alloc ?_ _)); refine blk_put (cs := #[.int .i64 1, .int .i64 1, .int .i64 1, .int .i64 0, .int .i64 0, .int .i64 0, .int .i64 0, .int .i64 0, .int .i64 0, .slice none 0 0, .slice none 0 0, .slice none 0 0]) ?_ 7 _ rfl; (with_reducible repeat (first | refine blk_drewN ?_ _ | refine blk_drew ?_ | refine blk_alloc ?_ _)); refine blk_put (cs := #[.int .i64 1, .int .i64 1, .int .i64 1, .int .i64 0, .int .i64 0, .int .i64 0, .int .i64 0, .int .i64 0, .int .i64 0, .slice none 0 0, .slice none 0 0, .slice none 0 0]) ?_ 6 _ rfl; (with_reducible repeat (first | refine blk_drewN ?_ _ | refine blk_drew ?_ | refine blk_alloc ?_ _)); refine blk_put (cs := #[.int .i64 1, .int .i64 1, .int .i64 1, .int .i64 0, .int .i64 0, .int .i64 0, .int .i64 0, .int .i64 0, .int .i64 0, .slice none 0 0, .slice none 0 0, .slice none 0 0]) ?_ 5 _ rfl; (with_reducible repeat (first | refine blk_drewN ?_ _ | refine blk_drew ?_ | refine blk_alloc ?_ _)); refine blk_put (cs := #[.int .i64 1, .int .i64 1, .int .i64 1, .int .i64 0, .int .i64 0, .int .i64 0, .int .i64 0, .int .i64 0, .int .i64 0, .slice none 0 0, .slice none 0 0, .slice none 0 0]) ?_ 4 _ rfl; (with_reducible repeat (first | refine blk_drewN ?_ _ | refine blk_drew ?_ | refine blk_alloc ?_ _)); refine blk_put (cs := #[.int .i64 1, .int .i64 1, .int .i64 1, .int .i64 0, .int .i64 0, .int .i64 0, .int .i64 0, .int .i64 0, .int .i64 0, .slice none 0 0, .slice none 0 0, .slice none 0 0]) ?_ 3 _ rfl; (with_reducible repeat (first | refine blk_drewN ?_ _ | refine blk_drew ?_ | refine blk_alloc ?_ _)); refine blk_put (cs := #[.int .i64 1, .int .i64 1, .int .i64 0, .int .i64 0, .int .i64 0, .int .i64 0, .int .i64 0, .int .i64 0, .int .i64 0, .slice none 0 0, .slice none 0 0, .slice none 0 0]) ?_ 2 _ rfl; (with_reducible repeat (first | refine blk_drewN ?_ _ | refine blk_drew ?_ | refine blk_alloc ?_ _)); refine blk_put (cs := #[.int .i64 1, .int .i64 0, .int .i64 0, .int .i64 0, .int .i64 0, .int .i64 0, .int .i64 0, .int .i64 0, .int .i64 0, .slice none 0 0, .slice none 0 0, .slice none 0 0]) ?_ 1 _ rfl; (with_reducible repeat (first | refine blk_drewN ?_ _ | refine blk_drew ?_ | refine blk_alloc ?_ _)); refine blk_put (cs := #[.int .i64 0, .int .i64 0, .int .i64 0, .int .i64 0, .int .i64 0, .int .i64 0, .int .i64 0, .int .i64 0, .int .i64 0, .slice none 0 0, .slice none 0 0, .slice none 0 0]) ?_ 0 _ rfl; (with_reducible repeat (first | refine blk_drewN ?_ _ | refine blk_drew ?_ | refine blk_alloc ?_ _)); exact BK146.out) hb); have n3_ := Aside0.mk (below_step (by repeat (first | (with_reducible first | exact HB.out | apply below_alloc | apply pw_below_drewN | apply below_drew1 | refine below_set ?_ GE146.out) | exact HB.out)) hb); clear HO142; clear HO145; clear BK146; clear HB; have HO142 := n0_; have HO145 := n1_; have BK146 := n2_; have HB := n3_; clear n0_ n1_ n2_ n3_; (try clear hb); (try clear hb2); (try clear hk); (try clear hi)))
   go_loopg [27] k (fun kq v27 w' => ∃ (x27_1 : Int), v27 = .int .i64 x27_1 ∧ Aside0 (share_right.l0 kq l1 (l1.length : Int) x27_1 = some r) ∧ Aside0 (kq ≤ k) ∧ Aside0 (Kd.R k56 56 w' w.heap.size (fun _ => True) (.slice Ao11 y140.length co11) y140) ∧ Aside0 (Kd.R k59 59 w' w.heap.size (fun _ => True) (.slice Ao10 y143.length co10) y143) ∧ Aside0 (w'.heap[gb146]? = some (.cells #[.int .i64 1, .int .i64 1, .int .i64 1, .int .i64 0, .int .i64 0, .int .i64 0, .int .i64 0, .int .i64 0, .int .i64 0, (.slice Ao11 y140.length co11), (.slice Ao10 y143.length co10), (.slice A0 l0.length c0)] 64 (0, 0))) ∧ Aside0 (Below w.heap.size w w'))
   case atStart => exact ⟨(0), (by first | rfl | (simp; done) | (simp [*]; done)), H', ⟨Nat.le_refl _⟩, ⟨by (with_reducible repeat (first | apply Kd.R_alloc | apply Kd.R_drewN | apply Kd.R_drew)); exact HO142.out⟩, ⟨by (with_reducible repeat (first | apply Kd.R_alloc | apply Kd.R_drewN | apply Kd.R_drew)); exact HO145.out⟩, ⟨by (with_reducible repeat (first | refine blk_drewN ?_ _ | refine blk_drew ?_ | refine blk_alloc ?_ _)); exact BK146.out⟩, ⟨by repeat (first | (with_reducible first | exact HB.out | apply below_alloc | apply pw_below_drewN | apply below_drew1 | refine below_set ?_ GE146.out) | exact HB.out)⟩⟩
   case round =>
    clear H'
    obtain ⟨x27_1, rfl, HA, HK1, HO_147009, HO_147010, BK146, HB⟩ := hrel
    cases gk with
    | zero => exact absurd HA.out (by simp [share_right.l0])
    | succ k1 =>
     have H := HA.out
     clear HA
     simp only [share_right.l0] at H
     by_cases c15 : x27_1 < (l1.length : Int)
     ·rw [if_pos c15] at H
      have c15b0 : decide (x27_1 < (l1.length : Int)) = true := decide_eq_true c15
      clear c15
      by_cases c16 : 0 ≤ x27_1
      ·rw [if_pos c16] at H
       have c16b0 : decide (0 ≤ x27_1) = true := decide_eq_true c16
       clear c16
       by_cases c17 : x27_1 < (l1.length : Int)
       ·rw [if_pos c17] at H
        have c17b0 : decide (x27_1 < (l1.length : Int)) = true := decide_eq_true c17
        clear c17
        by_cases c18 : (rd l1 x27_1) < 0
        ·rw [if_pos c18] at H
         have c18b0 : decide ((rd l1 x27_1) < 0) = true := decide_eq_true c18
         clear c18
         obtain rfl := Option.some.inj H
         have p148 : 0 ≤ (x27_1 : Int) := of_decide_eq_true (by first | (with_reducible assumption) | assumption)
         have q148 : x27_1 < (l1.length : Int) := of_decide_eq_true (by first | (with_reducible assumption) | assumption)
         obtain ⟨ad148, e148, hx148_0⟩ := Kd.at_int HR1.out x27_1 p148 q148
         cases e148
         replace hx148_0 := (HB.out.cell (World.block_lt_of_cell? w _ hx148_0)).trans hx148_0
         replace p148 := eq_true p148
         replace q148 := eq_true q148
         go_wp2
         go_ret
         exact ⟨by first | rfl | (simp [errW_none, errW_some] <;> rfl) | (simp [*, errW_none, errW_some] <;> rfl), by repeat (first | (with_reducible first | exact HB.out | apply below_alloc | apply pw_below_drewN | apply below_drew1 | refine below_set ?_ GE146.out) | exact HB.out)⟩
        ·rw [if_neg c18] at H
         have c18b0 : decide ((rd l1 x27_1) < 0) = false := decide_eq_false c18
         clear c18
         have H' := Aside0.mk H
         clear H
         have p148 : 0 ≤ (x27_1 : Int) := of_decide_eq_true (by first | (with_reducible assumption) | assumption)
         have q148 : x27_1 < (l1.length : Int) := of_decide_eq_true (by first | (with_reducible assumption) | assumption)
         obtain ⟨ad148, e148, hx148_0⟩ := Kd.at_int HR1.out x27_1 p148 q148
         cases e148
         replace hx148_0 := (HB.out.cell (World.block_lt_of_cell? w _ hx148_0)).trans hx148_0
         replace p148 := eq_true p148
         replace q148 := eq_true q148
         go_wp2
         go_roundg k1
         case measure => have := HK1.out; omega
         case rel => exact ⟨(wrap64 (x27_1 + 1)), (by first | rfl | (simp; done) | (simp [*]; done)), H', ⟨by have := HK1.out; omega⟩, ⟨by (with_reducible repeat (first | apply Kd.R_alloc | apply Kd.R_drewN | apply Kd.R_drew)); exact HO_147009.out⟩, ⟨by (with_reducible repeat (first | apply Kd.R_alloc | apply Kd.R_drewN | apply Kd.R_drew)); exact HO_147010.out⟩, ⟨by (with_reducible repeat (first | refine blk_drewN ?_ _ | refine blk_drew ?_ | refine blk_alloc ?_ _)); exact BK146.out⟩, ⟨by repeat (first | (with_reducible first | exact HB.out | apply below_alloc | apply pw_below_drewN | apply below_drew1 | refine below_set ?_ GE146.out) | exact HB.out)⟩⟩
       ·rw [if_neg c17] at H
        exact absurd H (by simp)
      ·rw [if_neg c16] at H
       exact absurd H (by simp)
     ·rw [if_neg c15] at H
      have c15b0 : decide (x27_1 < (l1.length : Int)) = false := decide_eq_false c15
      clear c15
      obtain rfl := Option.some.inj H
      go_wp2
      go_ret
      exact ⟨by first | rfl | (simp [errW_none, errW_some] <;> rfl) | (simp [*, errW_none, errW_some] <;> rfl), by repeat (first | (with_reducible first | exact HB.out | apply below_alloc | apply pw_below_drewN | apply below_drew1 | refine below_set ?_ GE146.out) | exact HB.out)⟩
  ·rw [if_neg c5] at H
   have c5b0 : ((l1.length : Int) == (l0.length : Int)) = false := beq_eq_false_iff_ne.mpr c5
   have c5b1 : ((l1.length : Int) != (l0.length : Int)) = true := bne_iff_ne.mpr c5
   have c5b2 : (l1.length == l0.length) = false := by first | simpa using c5 | (simp at c5 ⊢; omega)
   obtain rfl := Option.some.inj H
   go_enter Tryd.func23, Tryd.ntmps23
   go_wp2_with (first | ((with_reducible refine gate_dst (N := 10) rfl ?_); refine Kd.R_lit k56 _ 56 ?hg (N := 10) ?hd (xs := ([(⟨(⟨#[120]⟩ : ByteArray), 0, 0, 1⟩ : S56)] : List (S56))) (inner := [.string (⟨#[120]⟩ : ByteArray), .int .i64 0, .int .i64 0, .int .i64 1]) (ok := fun _ => True) (okp := fun _ => True) ?hr ?hp (fun _ hk => hk) trivial (Below.refl _ _) (Nat.le_refl _) (by simp) ?_; (case hd => rfl); (case hg => rfl); (case hr => first | (go_simp; done) | (go_simp; rfl)); (case hp => exact (Reps.c4 (show Kd.M k56 _ _ _ (⟨(⟨#[120]⟩ : ByteArray), 0, 0, 1⟩ : S56) [.string (⟨#[120]⟩ : ByteArray), .int .i64 0, .int .i64 0, .int .i64 1] from (k56_mkM _ _ _ (⟨(⟨#[120]⟩ : ByteArray), 0, 0, 1⟩ : S56) )) (Reps.none _ _))); intro v141 w19 ho20 hb hg_ hnew_; clear hg_ hnew_; (first | rw [← Ny140.out] at ho20 | (simp only [Int.reduceToNat] at ho20; rw [← Ny140.out] at ho20)); have n0_ := Aside0.mk (Kd.R_lower ho20 (below_size (by repeat (first | (with_reducible first | exact HB.out | apply below_alloc | apply pw_below_drewN | apply below_drew1) | exact HB.out)))); have n1_ := Aside0.mk (below_step (by repeat (first | (with_reducible first | exact HB.out | apply below_alloc | apply pw_below_drewN | apply below_drew1) | exact HB.out)) hb); clear HB; have HO142 := n0_; have HB := n1_; clear n0_ n1_; clear hb ho20) | ((with_reducible refine gate_dst (N := 12) rfl ?_); refine Kd.R_lit k59 _ 59 ?hg (N := 12) ?hd (xs := ([(⟨(⟨#[120]⟩ : ByteArray), 0, 1⟩ : S59)] : List (S59))) (inner := [.string (⟨#[120]⟩ : ByteArray), .int .i64 0, .int .i64 1]) (ok := fun _ => True) (okp := fun _ => True) ?hr ?hp (fun _ hk => hk) trivial (Below.refl _ _) (Nat.le_refl _) (by simp) ?_; (case hd => rfl); (case hg => rfl); (case hr => first | (go_simp; done) | (go_simp; rfl)); (case hp => exact (Reps.c3 (show Kd.M k59 _ _ _ (⟨(⟨#[120]⟩ : ByteArray), 0, 1⟩ : S59) [.string (⟨#[120]⟩ : ByteArray), .int .i64 0, .int .i64 1] from (k59_mkM _ _ _ (⟨(⟨#[120]⟩ : ByteArray), 0, 1⟩ : S59) )) (Reps.none _ _))); intro v144 w21 ho22 hb hg_ hnew_; clear hg_ hnew_; (first | rw [← Ny143.out] at ho22 | (simp only [Int.reduceToNat] at ho22; rw [← Ny143.out] at ho22)); have n0_ := Aside0.mk (Kd.R_below (by (with_reducible repeat (first | apply Kd.R_alloc | apply Kd.R_drewN | apply Kd.R_drew)); exact HO142.out) hb); have n1_ := Aside0.mk (Kd.R_lower ho22 (below_size (by repeat (first | (with_reducible first | exact HB.out | apply below_alloc | apply pw_below_drewN | apply below_drew1) | exact HB.out)))); have n2_ := Aside0.mk (below_step (by repeat (first | (with_reducible first | exact HB.out | apply below_alloc | apply pw_below_drewN | apply below_drew1) | exact HB.out)) hb); clear HO142; clear HB; have HO142 := n0_; have HO145 := n1_; have HB := n2_; clear n0_ n1_ n2_; clear hb ho22; obtain ⟨Ao23, co23, eo23⟩ := Kd.R_slice HO145.out; subst eo23; obtain ⟨Ao24, co24, eo24⟩ := Kd.R_slice HO142.out; subst eo24) | ((with_reducible refine gate_dst (N := 5) rfl ?_); refine box_event ?hg (N := 5) ?hd (cs := #[.int .i64 0, .int .i64 0, .int .i64 0, .int .i64 0, .int .i64 0, .int .i64 0, .int .i64 0, .int .i64 0, .int .i64 0, .slice none 0 0, .slice none 0 0, .slice none 0 0]) (t := 64) ?hr ?_; (case hd => rfl); (case hg => rfl); (case hr => first | (go_simp; done) | (go_simp; rfl)); intro gb146 hg w25 hbox hb; have n0_ := Aside0.mk (Kd.R_below (by (with_reducible repeat (first | apply Kd.R_alloc | apply Kd.R_drewN | apply Kd.R_drew)); exact HO142.out) hb); have n1_ := Aside0.mk (Kd.R_below (by (with_reducible repeat (first | apply Kd.R_alloc | apply Kd.R_drewN | apply Kd.R_drew)); exact HO145.out) hb); have n2_ := Aside0.mk (below_step (by repeat (first | (with_reducible first | exact HB.out | apply below_alloc | apply pw_below_drewN | apply below_drew1) | exact HB.out)) hb); have n3_ := Aside0.mk (hbox); have n4_ := Aside0.mk ((by rw [hg]; exact (below_size (by repeat (first | (with_reducible first | exact HB.out | apply below_alloc | apply pw_below_drewN | apply below_drew1) | exact HB.out))) : w.heap.size ≤ gb146)); have n5_ := Aside0.mk ((by rw [hg]; exact (below_size (by repeat (first | (with_reducible first | exact HB.out | apply below_alloc | apply pw_below_drewN | apply below_drew1) | exact HB.out))) : w.heap.size ≤ gb146)); clear HO142; clear HO145; clear HB; have HO142 := n0_; have HO145 := n1_; have HB := n2_; have BK146 := n3_; have GW146 := n4_; have GE146 := n5_; clear n0_ n1_ n2_ n3_ n4_ n5_; clear hb hbox hg; have hcz26_0 : w25.cell? ⟨gb146, 0, none⟩ = some (.int .i64 0) := (blk_cell BK146.out 0).trans rfl; have hcz26_1 : w25.cell? ⟨gb146, 1, none⟩ = some (.int .i64 0) := (blk_cell BK146.out 1).trans rfl; have hcz26_2 : w25.cell? ⟨gb146, 2, none⟩ = some (.int .i64 0) := (blk_cell BK146.out 2).trans rfl; have hcz26_3 : w25.cell? ⟨gb146, 3, none⟩ = some (.int .i64 0) := (blk_cell BK146.out 3).trans rfl; have hcz26_4 : w25.cell? ⟨gb146, 4, none⟩ = some (.int .i64 0) := (blk_cell BK146.out 4).trans rfl; have hcz26_5 : w25.cell? ⟨gb146, 5, none⟩ = some (.int .i64 0) := (blk_cell BK146.out 5).trans rfl; have hcz26_6 : w25.cell? ⟨gb146, 6, none⟩ = some (.int .i64 0) := (blk_cell BK146.out 6).trans rfl; have hcz26_7 : w25.cell? ⟨gb146, 7, none⟩ = some (.int .i64 0) := (blk_cell BK146.out 7).trans rfl; have hcz26_8 : w25.cell? ⟨gb146, 8, none⟩ = some (.int .i64 0) := (blk_cell BK146.out 8).trans rfl; have hcz26_9 : w25.cell? ⟨gb146, 9, none⟩ = some (.slice none 0 0) := (blk_cell BK146.out 9).trans rfl; have hcz26_10 : w25.cell? ⟨gb146, 10, none⟩ = some (.slice none 0 0) := (blk_cell BK146.out 10).trans rfl; have hcz26_11 : w25.cell? ⟨gb146, 11, none⟩ = some (.slice none 0 0) := (blk_cell BK146.out 11).trans rfl; have hfz26_0 := blk_frozen BK146.out 0; have hfz26_1 := blk_frozen BK146.out 1; have hfz26_2 := blk_frozen BK146.out 2; have hfz26_3 := blk_frozen BK146.out 3; have hfz26_4 := blk_frozen BK146.out 4; have hfz26_5 := blk_frozen BK146.out 5; have hfz26_6 := blk_frozen BK146.out 6; have hfz26_7 := blk_frozen BK146.out 7; have hfz26_8 := blk_frozen BK146.out 8; have hfz26_9 := blk_frozen BK146.out 9; have hfz26_10 := blk_frozen BK146.out 10; have hfz26_11 := blk_frozen BK146.out 11) | ((with_reducible refine gate_callee (f := 31) rfl ?_); refine goesL_ (some 16) rfl rfl Tryd.func31 (by kernel_rfl) rfl #[.agg #[.int .i64 1, .int .i64 1, .int .i64 1, .int .i64 0, .int .i64 0, .int .i64 0, .int .i64 0, .int .i64 0, .int .i64 0, .slice Ao24 y140.length co24, .slice Ao23 y143.length co23, .slice A0 l0.length c0]] rfl (by (try simp only [List.map_toArray, List.map_cons, List.map_nil]); first | done | rfl | (simp only [List.length_drop, List.length_take]; rfl)) ?_; (with_reducible refine (conf_Check.calls k 1 1 1 0 0 0 0 0 0 _ _ y140 _ _ y143 _ _ l0 t147 _ ?side1 ?side2 ?side3 ?side4 ?side5 ?side6 ?side7 A3.out).mono ?_); (case side1 => exact Glob.below HG.out (by repeat (first | (with_reducible first | exact HB.out | apply below_alloc | apply pw_below_drewN | apply below_drew1 | refine below_set ?_ GE146.out) | exact HB.out))); (case side2 => refine (Kd.R_reads' (e := 56) (base := w.heap.size) (ok := fun k_ => True) (n := y140.length) (c := co24) ?_).2.2; exact (by (with_reducible repeat (first | apply Kd.R_alloc | apply Kd.R_drewN | apply Kd.R_drew)); exact (Kd.R_mono (Kd.R_far (p := ⟨gb146, 11, none⟩) (Kd.R_far (p := ⟨gb146, 10, none⟩) (Kd.R_far (p := ⟨gb146, 9, none⟩) (Kd.R_far (p := ⟨gb146, 8, none⟩) (Kd.R_far (p := ⟨gb146, 7, none⟩) (Kd.R_far (p := ⟨gb146, 6, none⟩) (Kd.R_far (p := ⟨gb146, 5, none⟩) (Kd.R_far (p := ⟨gb146, 4, none⟩) (Kd.R_far (p := ⟨gb146, 3, none⟩) (Kd.R_far (p := ⟨gb146, 2, none⟩) (Kd.R_far (p := ⟨gb146, 1, none⟩) (Kd.R_far (p := ⟨gb146, 0, none⟩) (Kd.R_types HO142.out BK146.out (by decide)) (fun _ hk => hk.2) (.int .i64 1)) (fun _ hk => hk.2) (.int .i64 1)) (fun _ hk => hk.2) (.int .i64 1)) (fun _ hk => hk.2) (.int .i64 0)) (fun _ hk => hk.2) (.int .i64 0)) (fun _ hk => hk.2) (.int .i64 0)) (fun _ hk => hk.2) (.int .i64 0)) (fun _ hk => hk.2) (.int .i64 0)) (fun _ hk => hk.2) (.int .i64 0)) (fun _ hk => hk.2) (.slice Ao24 y140.length co24)) (fun _ hk => hk.2) (.slice Ao23 y143.length co23)) (fun _ hk => hk.2) (.slice A0 l0.length c0)) (fun _ h_ => h_.1)))); (case side3 => exact (Kd.R_reads' HO142.out).2.1); (case side4 => refine (Kd.R_reads' (e := 59) (base := w.heap.size) (ok := fun k_ => True) (n := y143.length) (c := co23) ?_).2.2; exact (by (with_reducible repeat (first | apply Kd.R_alloc | apply Kd.R_drewN | apply Kd.R_drew)); exact (Kd.R_mono (Kd.R_far (p := ⟨gb146, 11, none⟩) (Kd.R_far (p := ⟨gb146, 10, none⟩) (Kd.R_far (p := ⟨gb146, 9, none⟩) (Kd.R_far (p := ⟨gb146, 8, none⟩) (Kd.R_far (p := ⟨gb146, 7, none⟩) (Kd.R_far (p := ⟨gb146, 6, none⟩) (Kd.R_far (p := ⟨gb146, 5, none⟩) (Kd.R_far (p := ⟨gb146, 4, none⟩) (Kd.R_far (p := ⟨gb146, 3, none⟩) (Kd.R_far (p := ⟨gb146, 2, none⟩) (Kd.R_far (p := ⟨gb146, 1, none⟩) (Kd.R_far (p := ⟨gb146, 0, none⟩) (Kd.R_types HO145.out BK146.out (by decide)) (fun _ hk => hk.2) (.int .i64 1)) (fun _ hk => hk.2) (.int .i64 1)) (fun _ hk => hk.2) (.int .i64 1)) (fun _ hk => hk.2) (.int .i64 0)) (fun _ hk => hk.2) (.int .i64 0)) (fun _ hk => hk.2) (.int .i64 0)) (fun _ hk => hk.2) (.int .i64 0)) (fun _ hk => hk.2) (.int .i64 0)) (fun _ hk => hk.2) (.int .i64 0)) (fun _ hk => hk.2) (.slice Ao24 y140.length co24)) (fun _ hk => hk.2) (.slice Ao23 y143.length co23)) (fun _ hk => hk.2) (.slice A0 l0.length c0)) (fun _ h_ => h_.1)))); (case side5 => exact (Kd.R_reads' HO145.out).2.1); (case side6 => exact Kd.C_below HR0.out (by repeat (first | (with_reducible first | exact HB.out | apply below_alloc | apply pw_below_drewN | apply below_drew1 | refine below_set ?_ GE146.out) | exact HB.out))); (case side7 => exact HC0.out); rintro e w27 ⟨rfl, hb⟩; refine ⟨_, rfl, ?_⟩; have n0_ := Aside0.mk (Kd.R_below (by (with_reducible repeat (first | apply Kd.R_alloc | apply Kd.R_drewN | apply Kd.R_drew)); exact (Kd.R_mono (Kd.R_far (p := ⟨gb146, 11, none⟩) (Kd.R_far (p := ⟨gb146, 10, none⟩) (Kd.R_far (p := ⟨gb146, 9, none⟩) (Kd.R_far (p := ⟨gb146, 8, none⟩) (Kd.R_far (p := ⟨gb146, 7, none⟩) (Kd.R_far (p := ⟨gb146, 6, none⟩) (Kd.R_far (p := ⟨gb146, 5, none⟩) (Kd.R_far (p := ⟨gb146, 4, none⟩) (Kd.R_far (p := ⟨gb146, 3, none⟩) (Kd.R_far (p := ⟨gb146, 2, none⟩) (Kd.R_far (p := ⟨gb146, 1, none⟩) (Kd.R_far (p := ⟨gb146, 0, none⟩) (Kd.R_types HO142.out BK146.out (by decide)) (fun _ hk => hk.2) (.int .i64 1)) (fun _ hk => hk.2) (.int .i64 1)) (fun _ hk => hk.2) (.int .i64 1)) (fun _ hk => hk.2) (.int .i64 0)) (fun _ hk => hk.2) (.int .i64 0)) (fun _ hk => hk.2) (.int .i64 0)) (fun _ hk => hk.2) (.int .i64 0)) (fun _ hk => hk.2) (.int .i64 0)) (fun _ hk => hk.2) (.int .i64 0)) (fun _ hk => hk.2) (.slice Ao24 y140.length co24)) (fun _ hk => hk.2) (.slice Ao23 y143.length co23)) (fun _ hk => hk.2) (.slice A0 l0.length c0)) (fun _ h_ => h_.1))) hb); have n1_ := Aside0.mk (Kd.R_below (by (with_reducible repeat (first | apply Kd.R_alloc | apply Kd.R_drewN | apply Kd.R_drew)); exact (Kd.R_mono (Kd.R_far (p := ⟨gb146, 11, none⟩) (Kd.R_far (p := ⟨gb146, 10, none⟩) (Kd.R_far (p := ⟨gb146, 9, none⟩) (Kd.R_far (p := ⟨gb146, 8, none⟩) (Kd.R_far (p := ⟨gb146, 7, none⟩) (Kd.R_far (p := ⟨gb146, 6, none⟩) (Kd.R_far (p := ⟨gb146, 5, none⟩) (Kd.R_far (p := ⟨gb146, 4, none⟩) (Kd.R_far (p := ⟨gb146, 3, none⟩) (Kd.R_far (p := ⟨gb146, 2, none⟩) (Kd.R_far (p := ⟨gb146, 1, none⟩) (Kd.R_far (p := ⟨gb146, 0, none⟩) (Kd.R_types HO145.out BK146.out (by decide)) (fun _ hk => hk.2) (.int .i64 1)) (fun _ hk => hk.2) (.int .i64 1)) (fun _ hk => hk.2) (.int .i64 1)) (fun _ hk => hk.2) (.int .i64 0)) (fun _ hk => hk.2) (.int .i64 0)) (fun _ hk => hk.2) (.int .i64 0)) (fun _ hk => hk.2) (.int .i64 0)) (fun _ hk => hk.2) (.int .i64 0)) (fun _ hk => hk.2) (.int .i64 0)) (fun _ hk => hk.2) (.slice Ao24 y140.length co24)) (fun _ hk => hk.2) (.slice Ao23 y143.length co23)) (fun _ hk => hk.2) (.slice A0 l0.length c0)) (fun _ h_ => h_.1))) hb); have n2_ := Aside0.mk (blk_below (g := gb146) (o := .cells #[.int .i64 1, .int .i64 1, .int .i64 1, .int .i64 0, .int .i64 0, .int .i64 0, .int .i64 0, .int .i64 0, .int .i64 0, .slice Ao24 y140.length co24, .slice Ao23 y143.length co23, .slice A0 l0.length c0] 64 (0, 0)) (by (with_reducible repeat (first | refine blk_drewN ?_ _ | refine blk_drew ?_ | refine blk_alloc ?_ _)); refine blk_put (cs := #[.int .i64 1, .int .i64 1, .int .i64 1, .int .i64 0, .int .i64 0, .int .i64 0, .int .i64 0, .int .i64 0, .int .i64 0, .slice Ao24 y140.length co24, .slice Ao23 y143.length co23, .slice none 0 0]) ?_ 11 _ rfl; (with_reducible repeat (first | refine blk_drewN ?_ _ | refine blk_drew ?_ | refine blk_alloc ?_ _)); refine blk_put (cs := #[.int .i64 1, .int .i64 1, .int .i64 1, .int .i64 0, .int .i64 0, .int .i64 0, .int .i64 0, .int .i64 0, .int .i64 0, .slice Ao24 y140.length co24, .slice none 0 0, .slice none 0 0]) ?_ 10 _ rfl; (with_reducible repeat (first | refine blk_drewN ?_ _ | refine blk_drew ?_ | refine blk_alloc ?_ _)); refine blk_put (cs := #[.int .i64 1, .int .i64 1, .int .i64 1, .int .i64 0, .int .i64 0, .int .i64 0, .int .i64 0, .int .i64 0, .int .i64 0, .slice none 0 0, .slice none 0 0, .slice none 0 0]) ?_ 9 _ rfl; (with_reducible repeat (first | refine blk_drewN ?_ _ | refine blk_drew ?_ | refine blk_alloc ?_ _)); refine blk_put (cs := #[.int .i64 1, .int .i64 1, .int .i64 1, .int .i64 0, .int .i64 0, .int .i64 0, .int .i64 0, .int .i64 0, .int .i64 0, .slice none 0 0, .slice none 0 0, .slice none 0 0]) ?_ 8 _ rfl; (with_reducible repeat (first | refine blk_drewN ?_ _ | refine blk_drew ?_ | refine blk_alloc ?_ _)); refine blk_put (cs := #[.int .i64 1, .int .i64 1, .int .i64 1, .int .i64 0, .int .i64 0, .int .i64 0, .int .i64 0, .int .i64 0, .int .i64 0, .slice none 0 0, .slice none 0 0, .slice none 0 0]) ?_ 7 _ rfl; (with_reducible repeat (first | refine blk_drewN ?_ _ | refine blk_drew ?_ | refine blk_alloc ?_ _)); refine blk_put (cs := #[.int .i64 1, .int .i64 1, .int .i64 1, .int .i64 0, .int .i64 0, .int .i64 0, .int .i64 0, .int .i64 0, .int .i64 0, .slice none 0 0, .slice none 0 0, .slice none 0 0]) ?_ 6 _ rfl; (with_reducible repeat (first | refine blk_drewN ?_ _ | refine blk_drew ?_ | refine blk_alloc ?_ _)); refine blk_put (cs := #[.int .i64 1, .int .i64 1, .int .i64 1, .int .i64 0, .int .i64 0, .int .i64 0, .int .i64 0, .int .i64 0, .int .i64 0, .slice none 0 0, .slice none 0 0, .slice none 0 0]) ?_ 5 _ rfl; (with_reducible repeat (first | refine blk_drewN ?_ _ | refine blk_drew ?_ | refine blk_alloc ?_ _)); refine blk_put (cs := #[.int .i64 1, .int .i64 1, .int .i64 1, .int .i64 0, .int .i64 0, .int .i64 0, .int .i64 0, .int .i64 0, .int .i64 0, .slice none 0 0, .slice none 0 0, .slice none 0 0]) ?_ 4 _ rfl; (with_reducible repeat (first | refine blk_drewN ?_ _ | refine blk_drew ?_ | refine blk_alloc ?_ _)); refine blk_put (cs := #[.int .i64 1, .int .i64 1, .int .i64 1, .int .i64 0, .int .i64 0, .int .i64 0, .int .i64 0, .int .i64 0, .int .i64 0, .slice none 0 0, .slice none 0 0, .slice none 0 0]) ?_ 3 _ rfl; (with_reducible repeat (first | refine blk_drewN ?_ _ | refine blk_drew ?_ | refine blk_alloc ?_ _)); refine blk_put (cs := #[.int .i64 1, .int .i64 1, .int .i64 0, .int .i64 0, .int .i64 0, .int .i64 0, .int .i64 0, .int .i64 0, .int .i64 0, .slice none 0 0, .slice none 0 0, .slice none 0 0]) ?_ 2 _ rfl; (with_reducible repeat (first | refine blk_drewN ?_ _ | refine blk_drew ?_ | refine blk_alloc ?_ _)); refine blk_put (cs := #[.int .i64 1, .int .i64 0, .int .i64 0, .int .i64 0, .int .i64 0, .int .i64 0, .int .i64 0, .int .i64 0, .int .i64 0, .slice none 0 0, .slice none 0 0, .slice none 0 0]) ?_ 1 _ rfl; (with_reducible repeat (first | refine blk_drewN ?_ _ | refine blk_drew ?_ | refine blk_alloc ?_ _)); refine blk_put (cs := #[.int .i64 0, .int .i64 0, .int .i64 0, .int .i64 0, .int .i64 0, .int .i64 0, .int .i64 0, .int .i64 0, .int .i64 0, .slice none 0 0, .slice none 0 0, .slice none 0 0]) ?_ 0 _ rfl; (with_reducible repeat (first | refine blk_drewN ?_ _ | refine blk_drew ?_ | refine blk_alloc ?_ _)); exact BK146.out) hb); have n3_ := Aside0.mk (below_step (by repeat (first | (with_reducible first | exact HB.out | apply below_alloc | apply pw_below_drewN | apply below_drew1 | refine below_set ?_ GE146.out) | exact HB.out)) hb); clear HO142; clear HO145; clear BK146; clear HB; have HO142 := n0_; have HO145 := n1_; have BK146 := n2_; have HB := n3_; clear n0_ n1_ n2_ n3_; (try clear hb); (try clear hb2); (try clear hk); (try clear hi)))
   go_ret
   exact ⟨by first | rfl | (simp [errW_none, errW_some] <;> rfl) | (simp [*, errW_none, errW_some] <;> rfl), by repeat (first | (with_reducible first | exact HB.out | apply below_alloc | apply pw_below_drewN | apply below_drew1 | refine below_set ?_ GE146.out) | exact HB.out)⟩
 ·rw [if_neg c4] at H
  have c4b0 : (t147 == 0) = false := beq_eq_false_iff_ne.mpr c4
  have c4b1 : (t147 != 0) = true := bne_iff_ne.mpr c4
  obtain rfl := Option.some.inj H
  go_enter Tryd.func23, Tryd.ntmps23
  go_wp2_with (first | ((with_reducible refine gate_dst (N := 10) rfl ?_); refine Kd.R_lit k56 _ 56 ?hg (N := 10) ?hd (xs := ([(⟨(⟨#[120]⟩ : ByteArray), 0, 0, 1⟩ : S56)] : List (S56))) (inner := [.string (⟨#[120]⟩ : ByteArray), .int .i64 0, .int .i64 0, .int .i64 1]) (ok := fun _ => True) (okp := fun _ => True) ?hr ?hp (fun _ hk => hk) trivial (Below.refl _ _) (Nat.le_refl _) (by simp) ?_; (case hd => rfl); (case hg => rfl); (case hr => first | (go_simp; done) | (go_simp; rfl)); (case hp => exact (Reps.c4 (show Kd.M k56 _ _ _ (⟨(⟨#[120]⟩ : ByteArray), 0, 0, 1⟩ : S56) [.string (⟨#[120]⟩ : ByteArray), .int .i64 0, .int .i64 0, .int .i64 1] from (k56_mkM _ _ _ (⟨(⟨#[120]⟩ : ByteArray), 0, 0, 1⟩ : S56) )) (Reps.none _ _))); intro v141 w28 ho29 hb hg_ hnew_; clear hg_ hnew_; (first | rw [← Ny140.out] at ho29 | (simp only [Int.reduceToNat] at ho29; rw [← Ny140.out] at ho29)); have n0_ := Aside0.mk (Kd.R_lower ho29 (below_size (by repeat (first | (with_reducible first | exact HB.out | apply below_alloc | apply pw_below_drewN | apply below_drew1) | exact HB.out)))); have n1_ := Aside0.mk (below_step (by repeat (first | (with_reducible first | exact HB.out | apply below_alloc | apply pw_below_drewN | apply below_drew1) | exact HB.out)) hb); clear HB; have HO142 := n0_; have HB := n1_; clear n0_ n1_; clear hb ho29) | ((with_reducible refine gate_dst (N := 12) rfl ?_); refine Kd.R_lit k59 _ 59 ?hg (N := 12) ?hd (xs := ([(⟨(⟨#[120]⟩ : ByteArray), 0, 1⟩ : S59)] : List (S59))) (inner := [.string (⟨#[120]⟩ : ByteArray), .int .i64 0, .int .i64 1]) (ok := fun _ => True) (okp := fun _ => True) ?hr ?hp (fun _ hk => hk) trivial (Below.refl _ _) (Nat.le_refl _) (by simp) ?_; (case hd => rfl); (case hg => rfl); (case hr => first | (go_simp; done) | (go_simp; rfl)); (case hp => exact (Reps.c3 (show Kd.M k59 _ _ _ (⟨(⟨#[120]⟩ : ByteArray), 0, 1⟩ : S59) [.string (⟨#[120]⟩ : ByteArray), .int .i64 0, .int .i64 1] from (k59_mkM _ _ _ (⟨(⟨#[120]⟩ : ByteArray), 0, 1⟩ : S59) )) (Reps.none _ _))); intro v144 w30 ho31 hb hg_ hnew_; clear hg_ hnew_; (first | rw [← Ny143.out] at ho31 | (simp only [Int.reduceToNat] at ho31; rw [← Ny143.out] at ho31)); have n0_ := Aside0.mk (Kd.R_below (by (with_reducible repeat (first | apply Kd.R_alloc | apply Kd.R_drewN | apply Kd.R_drew)); exact HO142.out) hb); have n1_ := Aside0.mk (Kd.R_lower ho31 (below_size (by repeat (first | (with_reducible first | exact HB.out | apply below_alloc | apply pw_below_drewN | apply below_drew1) | exact HB.out)))); have n2_ := Aside0.mk (below_step (by repeat (first | (with_reducible first | exact HB.out | apply below_alloc | apply pw_below_drewN | apply below_drew1) | exact HB.out)) hb); clear HO142; clear HB; have HO142 := n0_; have HO145 := n1_; have HB := n2_; clear n0_ n1_ n2_; clear hb ho31; obtain ⟨Ao32, co32, eo32⟩ := Kd.R_slice HO145.out; subst eo32; obtain ⟨Ao33, co33, eo33⟩ := Kd.R_slice HO142.out; subst eo33) | ((with_reducible refine gate_dst (N := 5) rfl ?_); refine box_event ?hg (N := 5) ?hd (cs := #[.int .i64 0, .int .i64 0, .int .i64 0, .int .i64 0, .int .i64 0, .int .i64 0, .int .i64 0, .int .i64 0, .int .i64 0, .slice none 0 0, .slice none 0 0, .slice none 0 0]) (t := 64) ?hr ?_; (case hd => rfl); (case hg => rfl); (case hr => first | (go_simp; done) | (go_simp; rfl)); intro gb146 hg w34 hbox hb; have n0_ := Aside0.mk (Kd.R_below (by (with_reducible repeat (first | apply Kd.R_alloc | apply Kd.R_drewN | apply Kd.R_drew)); exact HO142.out) hb); have n1_ := Aside0.mk (Kd.R_below (by (with_reducible repeat (first | apply Kd.R_alloc | apply Kd.R_drewN | apply Kd.R_drew)); exact HO145.out) hb); have n2_ := Aside0.mk (below_step (by repeat (first | (with_reducible first | exact HB.out | apply below_alloc | apply pw_below_drewN | apply below_drew1) | exact HB.out)) hb); have n3_ := Aside0.mk (hbox); have n4_ := Aside0.mk ((by rw [hg]; exact (below_size (by repeat (first | (with_reducible first | exact HB.out | apply below_alloc | apply pw_below_drewN | apply below_drew1) | exact HB.out))) : w.heap.size ≤ gb146)); have n5_ := Aside0.mk ((by rw [hg]; exact (below_size (by repeat (first | (with_reducible first | exact HB.out | apply below_alloc | apply pw_below_drewN | apply below_drew1) | exact HB.out))) : w.heap.size ≤ gb146)); clear HO142; clear HO145; clear HB; have HO142 := n0_; have HO145 := n1_; have HB := n2_; have BK146 := n3_; have GW146 := n4_; have GE146 := n5_; clear n0_ n1_ n2_ n3_ n4_ n5_; clear hb hbox hg; have hcz35_0 : w34.cell? ⟨gb146, 0, none⟩ = some (.int .i64 0) := (blk_cell BK146.out 0).trans rfl; have hcz35_1 : w34.cell? ⟨gb146, 1, none⟩ = some (.int .i64 0) := (blk_cell BK146.out 1).trans rfl; have hcz35_2 : w34.cell? ⟨gb146, 2, none⟩ = some (.int .i64 0) := (blk_cell BK146.out 2).trans rfl; have hcz35_3 : w34.cell? ⟨gb146, 3, none⟩ = some (.int .i64 0) := (blk_cell BK146.out 3).trans rfl; have hcz35_4 : w34.cell? ⟨gb146, 4, none⟩ = some (.int .i64 0) := (blk_cell BK146.out 4).trans rfl; have hcz35_5 : w34.cell? ⟨gb146, 5, none⟩ = some (.int .i64 0) := (blk_cell BK146.out 5).trans rfl; have hcz35_6 : w34.cell? ⟨gb146, 6, none⟩ = some (.int .i64 0) := (blk_cell BK146.out 6).trans rfl; have hcz35_7 : w34.cell? ⟨gb146, 7, none⟩ = some (.int .i64 0) := (blk_cell BK146.out 7).trans rfl; have hcz35_8 : w34.cell? ⟨gb146, 8, none⟩ = some (.int .i64 0) := (blk_cell BK146.out 8).trans rfl; have hcz35_9 : w34.cell? ⟨gb146, 9, none⟩ = some (.slice none 0 0) := (blk_cell BK146.out 9).trans rfl; have hcz35_10 : w34.cell? ⟨gb146, 10, none⟩ = some (.slice none 0 0) := (blk_cell BK146.out 10).trans rfl; have hcz35_11 : w34.cell? ⟨gb146, 11, none⟩ = some (.slice none 0 0) := (blk_cell BK146.out 11).trans rfl; have hfz35_0 := blk_frozen BK146.out 0; have hfz35_1 := blk_frozen BK146.out 1; have hfz35_2 := blk_frozen BK146.out 2; have hfz35_3 := blk_frozen BK146.out 3; have hfz35_4 := blk_frozen BK146.out 4; have hfz35_5 := blk_frozen BK146.out 5; have hfz35_6 := blk_frozen BK146.out 6; have hfz35_7 := blk_frozen BK146.out 7; have hfz35_8 := blk_frozen BK146.out 8; have hfz35_9 := blk_frozen BK146.out 9; have hfz35_10 := blk_frozen BK146.out 10; have hfz35_11 := blk_frozen BK146.out 11) | ((with_reducible refine gate_callee (f := 31) rfl ?_); refine goesL_ (some 16) rfl rfl Tryd.func31 (by kernel_rfl) rfl #[.agg #[.int .i64 1, .int .i64 1, .int .i64 1, .int .i64 0, .int .i64 0, .int .i64 0, .int .i64 0, .int .i64 0, .int .i64 0, .slice Ao33 y140.length co33, .slice Ao32 y143.length co32, .slice A0 l0.length c0]] rfl (by (try simp only [List.map_toArray, List.map_cons, List.map_nil]); first | done | rfl | (simp only [List.length_drop, List.length_take]; rfl)) ?_; (with_reducible refine (conf_Check.calls k 1 1 1 0 0 0 0 0 0 _ _ y140 _ _ y143 _ _ l0 t147 _ ?side1 ?side2 ?side3 ?side4 ?side5 ?side6 ?side7 A3.out).mono ?_); (case side1 => exact Glob.below HG.out (by repeat (first | (with_reducible first | exact HB.out | apply below_alloc | apply pw_below_drewN | apply below_drew1 | refine below_set ?_ GE146.out) | exact HB.out))); (case side2 => refine (Kd.R_reads' (e := 56) (base := w.heap.size) (ok := fun k_ => True) (n := y140.length) (c := co33) ?_).2.2; exact (by (with_reducible repeat (first | apply Kd.R_alloc | apply Kd.R_drewN | apply Kd.R_drew)); exact (Kd.R_mono (Kd.R_far (p := ⟨gb146, 11, none⟩) (Kd.R_far (p := ⟨gb146, 10, none⟩) (Kd.R_far (p := ⟨gb146, 9, none⟩) (Kd.R_far (p := ⟨gb146, 8, none⟩) (Kd.R_far (p := ⟨gb146, 7, none⟩) (Kd.R_far (p := ⟨gb146, 6, none⟩) (Kd.R_far (p := ⟨gb146, 5, none⟩) (Kd.R_far (p := ⟨gb146, 4, none⟩) (Kd.R_far (p := ⟨gb146, 3, none⟩) (Kd.R_far (p := ⟨gb146, 2, none⟩) (Kd.R_far (p := ⟨gb146, 1, none⟩) (Kd.R_far (p := ⟨gb146, 0, none⟩) (Kd.R_types HO142.out BK146.out (by decide)) (fun _ hk => hk.2) (.int .i64 1)) (fun _ hk => hk.2) (.int .i64 1)) (fun _ hk => hk.2) (.int .i64 1)) (fun _ hk => hk.2) (.int .i64 0)) (fun _ hk => hk.2) (.int .i64 0)) (fun _ hk => hk.2) (.int .i64 0)) (fun _ hk => hk.2) (.int .i64 0)) (fun _ hk => hk.2) (.int .i64 0)) (fun _ hk => hk.2) (.int .i64 0)) (fun _ hk => hk.2) (.slice Ao33 y140.length co33)) (fun _ hk => hk.2) (.slice Ao32 y143.length co32)) (fun _ hk => hk.2) (.slice A0 l0.length c0)) (fun _ h_ => h_.1)))); (case side3 => exact (Kd.R_reads' HO142.out).2.1); (case side4 => refine (Kd.R_reads' (e := 59) (base := w.heap.size) (ok := fun k_ => True) (n := y143.length) (c := co32) ?_).2.2; exact (by (with_reducible repeat (first | apply Kd.R_alloc | apply Kd.R_drewN | apply Kd.R_drew)); exact (Kd.R_mono (Kd.R_far (p := ⟨gb146, 11, none⟩) (Kd.R_far (p := ⟨gb146, 10, none⟩) (Kd.R_far (p := ⟨gb146, 9, none⟩) (Kd.R_far (p := ⟨gb146, 8, none⟩) (Kd.R_far (p := ⟨gb146, 7, none⟩) (Kd.R_far (p := ⟨gb146, 6, none⟩) (Kd.R_far (p := ⟨gb146, 5, none⟩) (Kd.R_far (p := ⟨gb146, 4, none⟩) (Kd.R_far (p := ⟨gb146, 3, none⟩) (Kd.R_far (p := ⟨gb146, 2, none⟩) (Kd.R_far (p := ⟨gb146, 1, none⟩) (Kd.R_far (p := ⟨gb146, 0, none⟩) (Kd.R_types HO145.out BK146.out (by decide)) (fun _ hk => hk.2) (.int .i64 1)) (fun _ hk => hk.2) (.int .i64 1)) (fun _ hk => hk.2) (.int .i64 1)) (fun _ hk => hk.2) (.int .i64 0)) (fun _ hk => hk.2) (.int .i64 0)) (fun _ hk => hk.2) (.int .i64 0)) (fun _ hk => hk.2) (.int .i64 0)) (fun _ hk => hk.2) (.int .i64 0)) (fun _ hk => hk.2) (.int .i64 0)) (fun _ hk => hk.2) (.slice Ao33 y140.length co33)) (fun _ hk => hk.2) (.slice Ao32 y143.length co32)) (fun _ hk => hk.2) (.slice A0 l0.length c0)) (fun _ h_ => h_.1)))); (case side5 => exact (Kd.R_reads' HO145.out).2.1); (case side6 => exact Kd.C_below HR0.out (by repeat (first | (with_reducible first | exact HB.out | apply below_alloc | apply pw_below_drewN | apply below_drew1 | refine below_set ?_ GE146.out) | exact HB.out))); (case side7 => exact HC0.out); rintro e w36 ⟨rfl, hb⟩; refine ⟨_, rfl, ?_⟩; have n0_ := Aside0.mk (Kd.R_below (by (with_reducible repeat (first | apply Kd.R_alloc | apply Kd.R_drewN | apply Kd.R_drew)); exact (Kd.R_mono (Kd.R_far (p := ⟨gb146, 11, none⟩) (Kd.R_far (p := ⟨gb146, 10, none⟩) (Kd.R_far (p := ⟨gb146, 9, none⟩) (Kd.R_far (p := ⟨gb146, 8, none⟩) (Kd.R_far (p := ⟨gb146, 7, none⟩) (Kd.R_far (p := ⟨gb146, 6, none⟩) (Kd.R_far (p := ⟨gb146, 5, none⟩) (Kd.R_far (p := ⟨gb146, 4, none⟩) (Kd.R_far (p := ⟨gb146, 3, none⟩) (Kd.R_far (p := ⟨gb146, 2, none⟩) (Kd.R_far (p := ⟨gb146, 1, none⟩) (Kd.R_far (p := ⟨gb146, 0, none⟩) (Kd.R_types HO142.out BK146.out (by decide)) (fun _ hk => hk.2) (.int .i64 1)) (fun _ hk => hk.2) (.int .i64 1)) (fun _ hk => hk.2) (.int .i64 1)) (fun _ hk => hk.2) (.int .i64 0)) (fun _ hk => hk.2) (.int .i64 0)) (fun _ hk => hk.2) (.int .i64 0)) (fun _ hk => hk.2) (.int .i64 0)) (fun _ hk => hk.2) (.int .i64 0)) (fun _ hk => hk.2) (.int .i64 0)) (fun _ hk => hk.2) (.slice Ao33 y140.length co33)) (fun _ hk => hk.2) (.slice Ao32 y143.length co32)) (fun _ hk => hk.2) (.slice A0 l0.length c0)) (fun _ h_ => h_.1))) hb); have n1_ := Aside0.mk (Kd.R_below (by (with_reducible repeat (first | apply Kd.R_alloc | apply Kd.R_drewN | apply Kd.R_drew)); exact (Kd.R_mono (Kd.R_far (p := ⟨gb146, 11, none⟩) (Kd.R_far (p := ⟨gb146, 10, none⟩) (Kd.R_far (p := ⟨gb146, 9, none⟩) (Kd.R_far (p := ⟨gb146, 8, none⟩) (Kd.R_far (p := ⟨gb146, 7, none⟩) (Kd.R_far (p := ⟨gb146, 6, none⟩) (Kd.R_far (p := ⟨gb146, 5, none⟩) (Kd.R_far (p := ⟨gb146, 4, none⟩) (Kd.R_far (p := ⟨gb146, 3, none⟩) (Kd.R_far (p := ⟨gb146, 2, none⟩) (Kd.R_far (p := ⟨gb146, 1, none⟩) (Kd.R_far (p := ⟨gb146, 0, none⟩) (Kd.R_types HO145.out BK146.out (by decide)) (fun _ hk => hk.2) (.int .i64 1)) (fun _ hk => hk.2) (.int .i64 1)) (fun _ hk => hk.2) (.int .i64 1)) (fun _ hk => hk.2) (.int .i64 0)) (fun _ hk => hk.2) (.int .i64 0)) (fun _ hk => hk.2) (.int .i64 0)) (fun _ hk => hk.2) (.int .i64 0)) (fun _ hk => hk.2) (.int .i64 0)) (fun _ hk => hk.2) (.int .i64 0)) (fun _ hk => hk.2) (.slice Ao33 y140.length co33)) (fun _ hk => hk.2) (.slice Ao32 y143.length co32)) (fun _ hk => hk.2) (.slice A0 l0.length c0)) (fun _ h_ => h_.1))) hb); have n2_ := Aside0.mk (blk_below (g := gb146) (o := .cells #[.int .i64 1, .int .i64 1, .int .i64 1, .int .i64 0, .int .i64 0, .int .i64 0, .int .i64 0, .int .i64 0, .int .i64 0, .slice Ao33 y140.length co33, .slice Ao32 y143.length co32, .slice A0 l0.length c0] 64 (0, 0)) (by (with_reducible repeat (first | refine blk_drewN ?_ _ | refine blk_drew ?_ | refine blk_alloc ?_ _)); refine blk_put (cs := #[.int .i64 1, .int .i64 1, .int .i64 1, .int .i64 0, .int .i64 0, .int .i64 0, .int .i64 0, .int .i64 0, .int .i64 0, .slice Ao33 y140.length co33, .slice Ao32 y143.length co32, .slice none 0 0]) ?_ 11 _ rfl; (with_reducible repeat (first | refine blk_drewN ?_ _ | refine blk_drew ?_ | refine blk_alloc ?_ _)); refine blk_put (cs := #[.int .i64 1, .int .i64 1, .int .i64 1, .int .i64 0, .int .i64 0, .int .i64 0, .int .i64 0, .int .i64 0, .int .i64 0, .slice Ao33 y140.length co33, .slice none 0 0, .slice none 0 0]) ?_ 10 _ rfl; (with_reducible repeat (first | refine blk_drewN ?_ _ | refine blk_drew ?_ | refine blk_alloc ?_ _)); refine blk_put (cs := #[.int .i64 1, .int .i64 1, .int .i64 1, .int .i64 0, .int .i64 0, .int .i64 0, .int .i64 0, .int .i64 0, .int .i64 0, .slice none 0 0, .slice none 0 0, .slice none 0 0]) ?_ 9 _ rfl; (with_reducible repeat (first | refine blk_drewN ?_ _ | refine blk_drew ?_ | refine blk_alloc ?_ _)); refine blk_put (cs := #[.int .i64 1, .int .i64 1, .int .i64 1, .int .i64 0, .int .i64 0, .int .i64 0, .int .i64 0, .int .i64 0, .int .i64 0, .slice none 0 0, .slice none 0 0, .slice none 0 0]) ?_ 8 _ rfl; (with_reducible repeat (first | refine blk_drewN ?_ _ | refine blk_drew ?_ | refine blk_alloc ?_ _)); refine blk_put (cs := #[.int .i64 1, .int .i64 1, .int .i64 1, .int .i64 0, .int .i64 0, .int .i64 0, .int .i64 0, .int .i64 0, .int .i64 0, .slice none 0 0, .slice none 0 0, .slice none 0 0]) ?_ 7 _ rfl; (with_reducible repeat (first | refine blk_drewN ?_ _ | refine blk_drew ?_ | refine blk_alloc ?_ _)); refine blk_put (cs := #[.int .i64 1, .int .i64 1, .int .i64 1, .int .i64 0, .int .i64 0, .int .i64 0, .int .i64 0, .int .i64 0, .int .i64 0, .slice none 0 0, .slice none 0 0, .slice none 0 0]) ?_ 6 _ rfl; (with_reducible repeat (first | refine blk_drewN ?_ _ | refine blk_drew ?_ | refine blk_alloc ?_ _)); refine blk_put (cs := #[.int .i64 1, .int .i64 1, .int .i64 1, .int .i64 0, .int .i64 0, .int .i64 0, .int .i64 0, .int .i64 0, .int .i64 0, .slice none 0 0, .slice none 0 0, .slice none 0 0]) ?_ 5 _ rfl; (with_reducible repeat (first | refine blk_drewN ?_ _ | refine blk_drew ?_ | refine blk_alloc ?_ _)); refine blk_put (cs := #[.int .i64 1, .int .i64 1, .int .i64 1, .int .i64 0, .int .i64 0, .int .i64 0, .int .i64 0, .int .i64 0, .int .i64 0, .slice none 0 0, .slice none 0 0, .slice none 0 0]) ?_ 4 _ rfl; (with_reducible repeat (first | refine blk_drewN ?_ _ | refine blk_drew ?_ | refine blk_alloc ?_ _)); refine blk_put (cs := #[.int .i64 1, .int .i64 1, .int .i64 1, .int .i64 0, .int .i64 0, .int .i64 0, .int .i64 0, .int .i64 0, .int .i64 0, .slice none 0 0, .slice none 0 0, .slice none 0 0]) ?_ 3 _ rfl; (with_reducible repeat (first | refine blk_drewN ?_ _ | refine blk_drew ?_ | refine blk_alloc ?_ _)); refine blk_put (cs := #[.int .i64 1, .int .i64 1, .int .i64 0, .int .i64 0, .int .i64 0, .int .i64 0, .int .i64 0, .int .i64 0, .int .i64 0, .slice none 0 0, .slice none 0 0, .slice none 0 0]) ?_ 2 _ rfl; (with_reducible repeat (first | refine blk_drewN ?_ _ | refine blk_drew ?_ | refine blk_alloc ?_ _)); refine blk_put (cs := #[.int .i64 1, .int .i64 0, .int .i64 0, .int .i64 0, .int .i64 0, .int .i64 0, .int .i64 0, .int .i64 0, .int .i64 0, .slice none 0 0, .slice none 0 0, .slice none 0 0]) ?_ 1 _ rfl; (with_reducible repeat (first | refine blk_drewN ?_ _ | refine blk_drew ?_ | refine blk_alloc ?_ _)); refine blk_put (cs := #[.int .i64 0, .int .i64 0, .int .i64 0, .int .i64 0, .int .i64 0, .int .i64 0, .int .i64 0, .int .i64 0, .int .i64 0, .slice none 0 0, .slice none 0 0, .slice none 0 0]) ?_ 0 _ rfl; (with_reducible repeat (first | refine blk_drewN ?_ _ | refine blk_drew ?_ | refine blk_alloc ?_ _)); exact BK146.out) hb); have n3_ := Aside0.mk (below_step (by repeat (first | (with_reducible first | exact HB.out | apply below_alloc | apply pw_below_drewN | apply below_drew1 | refine below_set ?_ GE146.out) | exact HB.out)) hb); clear HO142; clear HO145; clear BK146; clear HB; have HO142 := n0_; have HO145 := n1_; have BK146 := n2_; have HB := n3_; clear n0_ n1_ n2_ n3_; (try clear hb); (try clear hb2); (try clear hk); (try clear hi)))
  go_ret
  exact ⟨by first | rfl | (simp [errW_none, errW_some] <;> rfl) | (simp [*, errW_none, errW_some] <;> rfl), by repeat (first | (with_reducible first | exact HB.out | apply below_alloc | apply pw_below_drewN | apply below_drew1 | refine below_set ?_ GE146.out) | exact HB.out)⟩
def lk : List (List UInt8 × Int) → List UInt8 → Int
 | [], _ => 0
 | (k, v) :: m, s => if k = s then v else lk m s
def plc : List S37 → Nat → List (List UInt8 × Int) → List Int
 | [], _, _ => []
 | a :: r, i, m => lk m a.f1.data.toList :: plc r (i + 1) ((a.f0.data.toList, (i : Int)) :: m)
def share_places.f (l : List S37) : Option (List Int) := if l.length ≤ 1000000 ∧ (∀ a ∈ l, a.f0.size ≤ 1000 ∧ a.f1.size ≤ 1000) then some (plc l 0 [([], -1)]) else none
def MapIs (W : World) (b : Nat) (m : List (List UInt8 × Int)) : Prop := ∃ (n : Nat) (D : DataW Unit), W.ownsMap Tryd.prog 9 (plainElem Tryd.prog 3) b n D ∧ n ≤ m.length ∧ Maps.IsMap D ∧ ∀ s : List UInt8, D.atKey (.string s) (.lit (.int .i64 0)) = .lit (.int .i64 (lk m s))
theorem MapIs.new (W : World) : MapIs (W.alloc (.map #[] 0)) W.heap.size [] := ⟨0, .map [], World.ownsMap_made W _ _ _, Nat.le_refl _, Maps.isMap_empty, fun _ => rfl⟩
theorem MapIs.kept {W W' : World} {b : Nat} {m : List (List UInt8 × Int)} {row : Option Nat} (h : MapIs W b m) (hg : W.grownBy W' row) (hne : some b ≠ row) : MapIs W' b m := by
 obtain ⟨n, D, h1, h2⟩ := h
 exact ⟨n, D, h1.kept hg hne, h2⟩
theorem MapIs.setCell {W : World} {b : Nat} {m : List (List UInt8 × Int)} (h : MapIs W b m) {p : Addr} (hp : b ≠ p.block) (u : Value) : MapIs (W.setCell p u) b m := by
 obtain ⟨n, D, h1, h2⟩ := h
 exact ⟨n, D, h1.setCell hp u, h2⟩
theorem MapIs.below {W W' : World} {b : Nat} {m : List (List UInt8 × Int)} (h : MapIs W b m) (hb : Below W.heap.size W W') : MapIs W' b m := by
 obtain ⟨n, D, h1, h2⟩ := h
 obtain ⟨es, clock, e1, e2⟩ := h1
 exact ⟨n, D, ⟨es, clock, (hb.block b (Array.getElem?_eq_some_iff.1 e1).1).trans e1, e2⟩, h2⟩
theorem MapIs.drew {W : World} {b : Nat} {m : List (List UInt8 × Int)} (h : MapIs W b m) : MapIs W.drew b m := h
theorem MapIs.lt {W : World} {b : Nat} {m : List (List UInt8 × Int)} (h : MapIs W b m) : b < W.heap.size := by
 obtain ⟨n, D, h1, h2⟩ := h
 exact h1.lt
theorem zero3 : Tryd.t3.zero = some (.int .i64 0) := by kernel_rfl
theorem zrun3 (w : World) : (zeroValue 3).run Tryd.prog w = .ok (.int .i64 0) w := by
 simp [zeroValue, zero3]
theorem key9 {s : ByteArray} (h : s.size ≤ 1000) : keyOf Tryd.prog 9 (.string s) = some (.string s.data.toList) := by
 rw [keyOf_string Tryd.underlying9]
 have : s.size ≤ maxLen := by unfold maxLen; omega
 simp [mapKey, Tryd.underlying9, this]
theorem wp_look (w : World) {ops : Array Oper} {rest : List Oper} {o : Oper} {a : Act} {Q : Exit → Act → World → Prop} (hg : o.guard = none) (m x : Operand) (hop : o.op = Op.lookup 66 m x false) (b : Nat) (ms : List (List UInt8 × Int)) (s : ByteArray)
  (hm : a.eval m = .map (some b)) (hM : MapIs w b ms) (hx : a.eval x = .string s) (hs : s.size ≤ 1000) (hK : wpList Tryd.prog ops Q rest (a.put o.dst (.int .i64 (lk ms s.data.toList))) w) : wpList Tryd.prog ops Q (o :: rest) a w := by
 obtain ⟨n, D, h1, h2, h3, h4⟩ := hM
 refine wpList_lookup_own_int w hg m x 66 hop 9 3 .i64 (Maps.string_keyed Tryd.underlying9) Tryd.underlying66 Tryd.underlying3 (zrun3 w) b n D hm h1 _ _ hx (key9 hs) (fun c hc _ => ?_)
 rw [h4] at hc
 injection hc with hc
 injection hc with _ hc
 rw [← hc]
 exact hK
theorem wp_upd_ (w : World) {ops : Array Oper} {rest : List Oper} {o : Oper} {a : Act} {Q : Exit → Act → World → Prop} (hg : o.guard = none) (m x v : Operand) (hop : o.op = Op.mapUpdate 66 m x v ∨ o.op = Op.insert 66 m x v) (b : Nat) (ms : List (List UInt8 × Int)) (s : ByteArray) (z : Int)
  (hm : a.eval m = .map (some b)) (hM : MapIs w b ms) (hl : ms.length < 10000000) (hx : a.eval x = .string s) (hs : s.size ≤ 1000) (hv : a.eval v = .int .i64 z) (hz : (Lit.int .i64 z).wf = true)
  (hK : ∀ w', MapIs w' b ((s.data.toList, z) :: ms) → w.grownBy w' (some b) → wpList Tryd.prog ops Q rest (a.put o.dst undef) w') : wpList Tryd.prog ops Q (o :: rest) a w := by
 obtain ⟨n, D, h1, h2, h3, h4⟩ := hM
 have hval : plainElem (H := Unit) Tryd.prog 3 (.int .i64 z) = some (.lit (.int .i64 z), []) := plainElem_int Tryd.underlying3 hz
 obtain ⟨w', hrun, r1, r2⟩ := h1.update (Maps.string_keyed Tryd.underlying9) Tryd.underlying66 (by unfold maxLen; omega) (key9 hs) hval
 refine wpList_plain hg fun K' hK' => ?_
 unfold Oper.wp
 have fin : MapIs w' b ((s.data.toList, z) :: ms) := by
  refine ⟨n + 1, _, r1, by simp; omega, h3.put _ _, fun s' => ?_⟩
  by_cases e : s.data.toList = s'
  ·subst e
   rw [Maps.atKey_put_same h3 (by simp [WideAt.IsKeyLit]), lk, if_pos rfl]
  ·have hne : (Lit.string s' : Lit) ≠ .string s.data.toList := by
    intro q
    cases q
    exact e rfl
   rw [Maps.atKey_put_other hne, h4, lk, if_neg e]
 rcases hop with hop | hop
 ·simp [execOp, hop, hm, hx, hv, hrun, Result.andThen]
  exact hK' _ _ (hK w' fin r2)
 ·simp [execOp, hop, hm, hx, hv, hrun, Result.andThen]
  exact hK' _ _ (hK w' fin r2)
theorem MapIs.upd {w : World} {b : Nat} {ms : List (List UInt8 × Int)} (hM : MapIs w b ms) (hl : ms.length < 10000000) (s : ByteArray) (hs : s.size ≤ 1000) (z : Int) (hz : (Lit.int .i64 z).wf = true) : ∃ w', (Instr.mapUpdate 66 (.map (some b)) (.string s) (.int .i64 z)).run Tryd.prog w = .ok () w' ∧ MapIs w' b ((s.data.toList, z) :: ms) ∧ w.grownBy w' (some b) := by
 obtain ⟨n, D, h1, h2, h3, h4⟩ := hM
 have hval : plainElem (H := Unit) Tryd.prog 3 (.int .i64 z) = some (.lit (.int .i64 z), []) := plainElem_int Tryd.underlying3 hz
 obtain ⟨w', hrun, r1, r2⟩ := h1.update (Maps.string_keyed Tryd.underlying9) Tryd.underlying66 (by unfold maxLen; omega) (key9 hs) hval
 refine ⟨w', hrun, ⟨n + 1, _, r1, by simp; omega, h3.put _ _, fun s' => ?_⟩, r2⟩
 by_cases e : s.data.toList = s'
 ·subst e
  rw [Maps.atKey_put_same h3 (by simp [WideAt.IsKeyLit]), lk, if_pos rfl]
 ·have hne : (Lit.string s' : Lit) ≠ .string s.data.toList := by
   intro q
   cases q
   exact e rfl
  rw [Maps.atKey_put_other hne, h4, lk, if_neg e]
theorem rd37 (l : List S37) (i : Nat) (h : i < l.length) : rd_T37 l (i : Int) = l[i] := by
 unfold rd_T37
 simp [List.getD, h]
set_option maxHeartbeats 8000000 in
set_option maxRecDepth 1000000 in
theorem share_places.calls (A0 : Option Addr) (c0 : Nat) (l0 : List S37) (r : List Int) (w : World) (hr0 : Kd.C k37 w A0 l0.length l0) (hc0 : l0.length ≤ c0) (h : share_places.f l0 = some r) :
  Calls Tryd.prog 24 #[.slice A0 l0.length c0] w fun e w' => ∃ v0_ : Value, e = .returned v0_ ∧ Kd.R (Kd.int .i64) 3 w' w.heap.size (fun _ => True) v0_ r ∧ Below w.heap.size w w' := by
 unfold share_places.f at h
 split at h
 case isFalse => cases h
 rename_i hc
 obtain ⟨hlen, hnames⟩ := hc
 have HH := Aside0.mk (Option.some.inj h)
 have HR0 := Aside0.mk hr0
 have HN := Aside0.mk hnames
 clear h hr0 hc0 hnames
 have hmm := @run_makeMap Tryd.prog
 obtain ⟨wm, hmi, hM0, hg0⟩ := (MapIs.new w).upd (by simp) ⟨#[]⟩ (by decide) (-1) (by decide)
 have HM := Aside0.mk hM0
 have hB0 : Below w.heap.size w wm := ⟨hg0.os, hg0.tape, hg0.output, Nat.le_trans (by show w.heap.size ≤ (w.heap.push _).size; simp) hg0.size, fun k hk => (hg0.block k (by show k < (w.heap.push _).size; simp; omega) (fun e => by injection e with e; omega)).trans (Below.heap_alloc w _ k hk)⟩
 have HB := Aside0.mk hB0
 clear hM0 hg0 hB0
 go_enter Tryd.func24, Tryd.ntmps24
 go_wp2
 go_loopg [4, 11] (l0.length + 1) (fun gk v4 v11 wr => ∃ (i : Nat) (xs : List Int) (m : List (List UInt8 × Int)), v11 = .int .i64 i ∧ l0.length + 1 = i + gk ∧ i ≤ l0.length ∧ xs.length = i ∧ m.length = i + 1 ∧ Aside0 (xs ++ plc (l0.drop i) i m = r) ∧ Aside0 (Kd.R (Kd.int .i64) 3 wr w.heap.size (fun k => k ≠ w.heap.size) v4 xs) ∧ Aside0 (MapIs wr w.heap.size m) ∧ Aside0 (Below w.heap.size w wr))
 case atStart => exact ⟨0, [], _, rfl, by omega, by omega, rfl, rfl, HH, ⟨Kd.R_nil _ _ _ _ _⟩, HM, HB⟩
 case round =>
  clear HM HB
  obtain ⟨i, xs, m, rfl, hgk, hi, rfl, hml, HA, HO, HM, HB⟩ := hrel
  obtain ⟨gk, rfl⟩ : ∃ q, gk = q + 1 := ⟨gk - 1, by omega⟩
  obtain ⟨Ao, co, eo⟩ := Kd.R_slice HO.out
  subst eo
  by_cases hlt : xs.length < l0.length
  ·have p0 : 0 ≤ (xs.length : Int) := by omega
   have q0 : (xs.length : Int) < (l0.length : Int) := by omega
   obtain ⟨ad, e0, hx0, hx1, hx2⟩ := at_T37 HR0.out (xs.length : Int) p0 (by omega)
   cases e0
   replace hx0 := (HB.out.cell (World.block_lt_of_cell? w _ hx0)).trans hx0
   replace hx1 := (HB.out.cell (World.block_lt_of_cell? w _ hx1)).trans hx1
   replace hx2 := (HB.out.cell (World.block_lt_of_cell? w _ hx2)).trans hx2
   simp only [Int.toNat_natCast] at hx0 hx1 hx2
   have hA := HA.out
   rw [List.drop_eq_getElem_cons hlt, ← rd37 l0 xs.length hlt, plc] at hA
   have hmem : rd_T37 l0 (xs.length : Int) ∈ l0 := by rw [rd37 l0 xs.length hlt]; exact List.getElem_mem hlt
   have hs0 := Aside0.mk (HN.out _ hmem).1
   have hs1 := Aside0.mk (HN.out _ hmem).2
   have hwf : Aside0 ((Lit.int .i64 (xs.length : Int)).wf = true) := ⟨by simp [Lit.wf, IntKind.min, IntKind.max, IntKind.signed, IntKind.bits]; omega⟩
   have hw64 : wrap64 ((xs.length : Int) + 1) = ((xs.length + 1 : Nat) : Int) := by unfold wrap64; omega
   obtain ⟨a, ha⟩ : ∃ a, a = rd_T37 l0 (xs.length : Int) := ⟨_, rfl⟩
   rw [← ha] at hx0 hx1 hx2 hA hs0 hs1
   clear hmem ha
   have HA2 := Aside0.mk hA
   have hlen2 : xs.length < 1000000 := by omega
   have hlm : m.length ≤ 1000001 := by omega
   clear hA HA
   have HGK := Aside0.mk hgk
   clear hgk
   go_wp2_with (first | ((with_reducible refine gate_dst (N := 6) rfl ?_); refine box_event ?hg (N := 6) ?hd (cs := #[.string (⟨#[]⟩ : ByteArray), .string (⟨#[]⟩ : ByteArray), .int .i64 0]) (t := 37) ?hr ?_; (case hd => rfl); (case hg => rfl); (case hr => first | (go_simp; done) | (go_simp; rfl)); intro gb hgb w1 hbox hb; have HO1 := Aside0.mk (Kd.R_below HO.out hb); have HM1 := Aside0.mk (HM.out.below hb); have HB1 := Aside0.mk (below_step HB.out hb); have BK := Aside0.mk hbox; have hgw : w.heap.size < gb := (by rw [hgb]; exact HM.out.lt); have hcz0 : w1.cell? ⟨gb, 0, none⟩ = some (.string (⟨#[]⟩ : ByteArray)) := (blk_cell BK.out 0).trans rfl; have hcz1 : w1.cell? ⟨gb, 1, none⟩ = some (.string (⟨#[]⟩ : ByteArray)) := (blk_cell BK.out 1).trans rfl; have hcz2 : w1.cell? ⟨gb, 2, none⟩ = some (.int .i64 0) := (blk_cell BK.out 2).trans rfl; have hfz0 := blk_frozen BK.out 0; have hfz1 := blk_frozen BK.out 1; have hfz2 := blk_frozen BK.out 2; clear hbox hb hgb) | (at_lookup; refine wp_look _ rfl (.tmp 17) (.tmp 19) rfl w.heap.size m a.f1 rfl ?hM rfl ?hs ?_; (case hM => repeat (first | exact HM1.out | (refine MapIs.setCell ?_ (by show w.heap.size ≠ gb; omega) _) | (refine MapIs.drew ?_))); (case hs => exact hs1.out)) | ((with_reducible refine gate_builtin (b := .append) (xs := #[.tmp 16, .tmp 21]) rfl ?_); at_builtin; refine Kd.R_append (Kd.int .i64) (w0 := w) w.heap.size rfl (.tmp 16) (.tmp 21) 23 3 (.int .i64 0) 8 rfl Tryd.underlying23 info3 rfl (by decide) (by omega) (.slice Ao xs.length co) xs (lk m a.f1.data.toList) [.int .i64 (lk m a.f1.data.toList)] (fun k => k ≠ w.heap.size) (fun _ => False) rfl (by first | (go_simp; done) | (go_simp; rfl)) ?aP (fun _ hk => hk.elim) ?aF ?aO ?aB ?aS ?aL ?_; (case aP => exact rfl); (case aB => exact (by repeat (first | exact HB1.out | apply below_alloc | apply below_drew1 | refine below_set ?_ (Nat.le_of_lt hgw)))); (case aF => exact fun k hk => by have := HM1.out.lt; intro e; subst e; exact absurd hk (by simp only [World.drew, World.setCell]; first | omega | (simp; omega))); (case aO => exact (by (with_reducible repeat (first | apply Kd.R_alloc | apply Kd.R_drewN | apply Kd.R_drew)); exact Kd.R_mono (Kd.R_far (p := ⟨gb, 2, none⟩) (Kd.R_far (p := ⟨gb, 1, none⟩) (Kd.R_far (p := ⟨gb, 0, none⟩) (Kd.R_types HO1.out BK.out (by decide)) (fun _ hk => hk.2) (.string a.f0)) (fun _ hk => hk.2) (.string a.f1)) (fun _ hk => hk.2) (.int .i64 a.f2)) (fun _ hk => hk.1))); (case aS => exact (below_size (by repeat (first | exact HB1.out | apply below_alloc | apply below_drew1 | refine below_set ?_ (Nat.le_of_lt hgw))))); (case aL => omega); intro v1 w3 ho hb hg hat; have BK3 := Aside0.mk (blk_grown (g := gb) (o := .cells #[.string a.f0, .string a.f1, .int .i64 a.f2] 37 (0, 0)) (by (with_reducible repeat (first | refine blk_drewN ?_ _ | refine blk_drew ?_ | refine blk_alloc ?_ _)); refine blk_put (cs := #[.string a.f0, .string a.f1, .int .i64 0]) ?_ 2 _ rfl; refine blk_put (cs := #[.string a.f0, .string (⟨#[]⟩ : ByteArray), .int .i64 0]) ?_ 1 _ rfl; refine blk_put (cs := #[.string (⟨#[]⟩ : ByteArray), .string (⟨#[]⟩ : ByteArray), .int .i64 0]) ?_ 0 _ rfl; exact BK.out) hg (Kd.R_ne HO1.out BK.out (by decide))); have hq0 : w3.cell? ⟨gb, 0, none⟩ = some (.string a.f0) := (blk_cell BK3.out 0).trans rfl; have HM3 := Aside0.mk (MapIs.kept (show MapIs _ w.heap.size m by repeat (first | exact HM1.out | (refine MapIs.setCell ?_ (by show w.heap.size ≠ gb; omega) _) | (refine MapIs.drew ?_))) hg (fun e => absurd rfl (HO1.out.1 _ e.symm))); have HO3 := Aside0.mk ho; have HB3 := Aside0.mk hb; clear ho hb hg hat) | (at_mapUpdate; refine wp_upd_ _ rfl (.tmp 23) (.tmp 25) (.tmp 26) (Or.inl rfl) w.heap.size m a.f0 (xs.length : Int) rfl ?hM ?hl rfl ?hs rfl ?hz ?_; (case hM => exact HM3.out); (case hl => omega); (case hs => exact hs0.out); (case hz => exact hwf.out); intro w4 hm4 hg4; have HM4 := Aside0.mk hm4; have HG4 := Aside0.mk hg4; clear hm4 hg4))
   have hgk := HGK.out
   go_roundg gk
   case measure => exact Nat.lt_succ_self _
   case rel =>
    refine ⟨xs.length + 1, xs ++ [lk m a.f1.data.toList], _, by first | rfl | (push_cast; rfl), by omega, by omega, by simp, by simp [hml], ⟨?_⟩, ⟨?_⟩, HM4, ⟨?_⟩⟩
    ·rw [List.append_assoc]
     exact HA2.out
    ·exact Kd.R_keep HO3.out ⟨HG4.out.size, fun j hj hne _ => HG4.out.block j hj (fun e => hne (Option.some.inj e))⟩ (fun k hk => hk)
    ·exact ⟨HG4.out.os.trans HB3.out.os, HG4.out.tape.trans HB3.out.tape, HG4.out.output.trans HB3.out.output, Nat.le_trans HB3.out.size HG4.out.size, fun j hj => (HG4.out.block j (by have := HM3.out.lt; omega) (fun e => by have := Option.some.inj e; omega)).trans (HB3.out.block j hj)⟩
  ·have hr : r = xs := by
    have hA := HA.out
    rw [List.drop_eq_nil_of_le (by omega), plc, List.append_nil] at hA
    exact hA.symm
   subst hr
   have hlt2 : ¬ (r.length : Int) < (l0.length : Int) := by omega
   clear hgk HA
   go_wp2
   go_ret
   exact ⟨_, rfl, Kd.R_mono HO.out (fun _ _ => trivial), HB.out⟩
def num_Add.f (a0 : Int) (a1 : Int) : Option (Int × Int) := if ((decide ((wrap64 (a0 + a1)) > a0)) != (decide (a1 > 0))) = true then (if a1 = 0 then (some (wrap64 (a0 + a1), 0)) else (some (0, 10))) else (some (wrap64 (a0 + a1), 0))
set_option maxHeartbeats 8000000 in
set_option maxRecDepth 100000 in
theorem num_Add.calls (a0 : Int) (a1 : Int) (r1 : Int) (r2 : Int) (w : World) (h : num_Add.f a0 a1 = some (r1, r2)) :
  Calls Tryd.prog 32 #[.int .i64 a0, .int .i64 a1] w fun e w' => e = .returned (.tuple #[.int .i64 r1, .int .i64 r2]) ∧ Drawn0 w w' := by
 have H : (if ((decide ((wrap64 (a0 + a1)) > a0)) != (decide (a1 > 0))) = true then (if a1 = 0 then (some (wrap64 (a0 + a1), 0)) else (some (0, 10))) else (some (wrap64 (a0 + a1), 0))) = some (r1, r2) := h
 clear h
 by_cases c3 : ((decide ((wrap64 (a0 + a1)) > a0)) != (decide (a1 > 0))) = true
 ·rw [if_pos c3] at H
  have c3b0 : ((decide ((wrap64 (a0 + a1)) > a0)) != (decide (a1 > 0))) = true := c3
  (try (have c3b1 : decide ((decide ((wrap64 (a0 + a1)) > a0)) = (decide (a1 > 0))) = false := by simpa using c3))
  (try (have c3b2 : ((decide ((wrap64 (a0 + a1)) > a0)) == (decide (a1 > 0))) = false := by simpa using c3))
  (try (have c3b3 : ¬ ((decide ((wrap64 (a0 + a1)) > a0)) = (decide (a1 > 0))) := by simpa using c3))
  clear c3
  by_cases c4 : a1 = 0
  ·rw [if_pos c4] at H
   have c4b0 : (a1 == 0) = true := beq_iff_eq.mpr c4
   have c4b1 : (a1 != 0) = false := bne_eq_false_iff_eq.mpr c4
   clear c4
   simp only [Option.some.injEq, Prod.mk.injEq] at H
   obtain ⟨rfl, rfl⟩ := H
   go_enter Tryd.func32, Tryd.ntmps32
   go_wp2
   go_ret2
   exact ⟨by first | rfl | (simp; done) | (simp [*]; done), by repeat (first | exact Drawn0.refl _ | apply Drawn0.step)⟩
  ·rw [if_neg c4] at H
   have c4b0 : (a1 == 0) = false := beq_eq_false_iff_ne.mpr c4
   have c4b1 : (a1 != 0) = true := bne_iff_ne.mpr c4
   simp only [Option.some.injEq, Prod.mk.injEq] at H
   obtain ⟨rfl, rfl⟩ := H
   go_enter Tryd.func32, Tryd.ntmps32
   go_wp2
   go_ret2
   exact ⟨by first | rfl | (simp; done) | (simp [*]; done), by repeat (first | exact Drawn0.refl _ | apply Drawn0.step)⟩
 ·rw [if_neg c3] at H
  have c3b0 : ((decide ((wrap64 (a0 + a1)) > a0)) != (decide (a1 > 0))) = false := by simpa using c3
  (try (have c3b1 : decide ((decide ((wrap64 (a0 + a1)) > a0)) = (decide (a1 > 0))) = true := by simpa using c3))
  (try (have c3b2 : ((decide ((wrap64 (a0 + a1)) > a0)) == (decide (a1 > 0))) = true := by simpa using c3))
  clear c3
  simp only [Option.some.injEq, Prod.mk.injEq] at H
  obtain ⟨rfl, rfl⟩ := H
  go_enter Tryd.func32, Tryd.ntmps32
  go_wp2
  go_ret2
  exact ⟨by first | rfl | (simp; done) | (simp [*]; done), by repeat (first | exact Drawn0.refl _ | apply Drawn0.step)⟩
def num_Sum.l0 : Nat → Int → List Int → Int → Int → Option (Int)
 | 0, _, _, _, _ => none
 | k + 1, x3, x8, x9, x10 => if x10 < x9 then (if 0 ≤ x10 then (if x10 < (x8.length : Int) then ((num_Add.f x3 (rd x8 x10)).bind fun bt150 => (if bt150.2 = 0 then (num_Sum.l0 k bt150.1 x8 x9 (wrap64 (x10 + 1))) else (if (rd x8 x10) > 0 then (num_Sum.l0 k 9223372036854775807 x8 x9 (wrap64 (x10 + 1))) else (num_Sum.l0 k (-9223372036854775808) x8 x9 (wrap64 (x10 + 1)))))) else (none)) else (none)) else (some x3)
def num_Sum.f (k : Nat) (l0 : List Int) : Option (Int) := num_Sum.l0 k 0 l0 (l0.length : Int) 0
theorem num_Sum.mono_l : ∀ k, (∀ y0 y1 y2 y3, LeO (num_Sum.l0 k y0 y1 y2 y3) (num_Sum.l0 (k + 1) y0 y1 y2 y3))
 | 0 => fun _ _ _ _ r h => by simp [num_Sum.l0] at h
 | k + 1 => by
  have ih0 := num_Sum.mono_l k
  ·intro y0 y1 y2 y3
   unfold num_Sum.l0
   repeat' first
   | (with_reducible exact ih0 _ _ _ _)
   | (with_reducible exact LeO.refl _)
   | (with_reducible exact LeO.none _)
   | (with_reducible refine LeO.ite ?_ ?_)
   | (with_reducible refine LeO.bind ?_ (fun _ => ?_))
   | exact ih0 _ _ _ _
   | exact LeO.none _
   | refine LeO.ite ?_ ?_
   | refine LeO.bind ?_ (fun _ => ?_)
theorem num_Sum.mono : ∀ a0 k, LeO (num_Sum.f k a0) (num_Sum.f (k + 1) a0) := by
 intro a0 k
 have ih0 := num_Sum.mono_l k
 unfold num_Sum.f
 repeat' first
   | (with_reducible exact ih0 _ _ _ _)
   | (with_reducible exact LeO.refl _)
   | (with_reducible exact LeO.none _)
   | (with_reducible refine LeO.ite ?_ ?_)
   | (with_reducible refine LeO.bind ?_ (fun _ => ?_))
   | exact ih0 _ _ _ _
   | exact LeO.none _
   | refine LeO.ite ?_ ?_
   | refine LeO.bind ?_ (fun _ => ?_)
set_option maxHeartbeats 8000000 in
set_option maxRecDepth 100000 in
theorem num_Sum.calls (k : Nat) (A0 : Option Addr) (c0 : Nat) (l0 : List Int) (r : Int) (w : World) (hr0 : Kd.C (Kd.int .i64) w A0 l0.length l0) (hc0 : l0.length ≤ c0) (h : num_Sum.f k l0 = some r) :
  Calls Tryd.prog 25 #[.slice A0 l0.length c0] w fun e w' => e = .returned (.int .i64 r) ∧ Drawn0 w w' := by
 have HR0 := Aside0.mk hr0
 have HC0 := Aside0.mk hc0
 clear hr0 hc0
 have H : (num_Sum.l0 k 0 l0 (l0.length : Int) 0) = some r := h
 clear h
 have H' := Aside0.mk H
 clear H
 go_enter Tryd.func25, Tryd.ntmps25
 go_wp2
 go_loopg [3, 10] k (fun kq v3 v10 w' => ∃ (x3_1 : Int) (x10_1 : Int), v3 = .int .i64 x3_1 ∧ v10 = .int .i64 x10_1 ∧ Aside0 (num_Sum.l0 kq x3_1 l0 (l0.length : Int) x10_1 = some r) ∧ Aside0 (kq ≤ k) ∧ Drawn0 w w')
 case atStart => exact ⟨(0), (0), (by first | rfl | (simp; done) | (simp [*]; done)), (by first | rfl | (simp; done) | (simp [*]; done)), H', ⟨Nat.le_refl _⟩, by repeat (first | exact Drawn0.refl _ | apply Drawn0.step)⟩
 case round =>
  clear H'
  obtain ⟨x3_1, x10_1, rfl, rfl, HA, HK1, ⟨m1, rfl⟩⟩ := hrel
  cases gk with
  | zero => exact absurd HA.out (by simp [num_Sum.l0])
  | succ k1 =>
   have H := HA.out
   clear HA
   simp only [num_Sum.l0] at H
   by_cases c2 : x10_1 < (l0.length : Int)
   ·rw [if_pos c2] at H
    have c2b0 : decide (x10_1 < (l0.length : Int)) = true := decide_eq_true c2
    clear c2
    by_cases c3 : 0 ≤ x10_1
    ·rw [if_pos c3] at H
     have c3b0 : decide (0 ≤ x10_1) = true := decide_eq_true c3
     clear c3
     by_cases c4 : x10_1 < (l0.length : Int)
     ·rw [if_pos c4] at H
      have c4b0 : decide (x10_1 < (l0.length : Int)) = true := decide_eq_true c4
      clear c4
      replace H := Option.bind_eq_some_iff.mp H
      obtain ⟨⟨t150, t151⟩, A50, H⟩ := H
      replace H : (if t151 = 0 then (num_Sum.l0 k1 t150 l0 (l0.length : Int) (wrap64 (x10_1 + 1))) else (if (rd l0 x10_1) > 0 then (num_Sum.l0 k1 9223372036854775807 l0 (l0.length : Int) (wrap64 (x10_1 + 1))) else (num_Sum.l0 k1 (-9223372036854775808) l0 (l0.length : Int) (wrap64 (x10_1 + 1))))) = some r := H
      have A5 := Aside0.mk A50
      clear A50
      by_cases c6 : t151 = 0
      ·rw [if_pos c6] at H
       have c6b0 : (t151 == 0) = true := beq_iff_eq.mpr c6
       have c6b1 : (t151 != 0) = false := bne_eq_false_iff_eq.mpr c6
       clear c6
       have H' := Aside0.mk H
       clear H
       have p149 : 0 ≤ (x10_1 : Int) := of_decide_eq_true (by first | (with_reducible assumption) | assumption)
       have q149 : x10_1 < (l0.length : Int) := of_decide_eq_true (by first | (with_reducible assumption) | assumption)
       obtain ⟨ad149, e149, hx149_0⟩ := Kd.at_int HR0.out x10_1 p149 q149
       cases e149
       replace p149 := eq_true p149
       replace q149 := eq_true q149
       go_wp2_with (first | ((with_reducible refine gate_callee (f := 32) rfl ?_); refine goesL_ (some 17) rfl rfl Tryd.func32 (by kernel_rfl) rfl #[.int .i64 x3_1, .int .i64 (rd l0 x10_1)] rfl (by (try simp only [List.map_toArray, List.map_cons, List.map_nil]); first | done | rfl | (simp only [List.length_drop, List.length_take]; rfl)) ?_; (with_reducible refine (num_Add.calls x3_1 (rd l0 x10_1) t150 t151 _ A5.out).mono ?_); rintro e w' ⟨rfl, ⟨nd, rfl⟩⟩; refine ⟨_, rfl, ?_⟩))
       go_roundg k1
       case measure => have := HK1.out; omega
       case rel => exact ⟨(t150), (wrap64 (x10_1 + 1)), (by first | rfl | (simp; done) | (simp [*]; done)), (by first | rfl | (simp; done) | (simp [*]; done)), H', ⟨by have := HK1.out; omega⟩, by repeat (first | exact Drawn0.refl _ | apply Drawn0.step)⟩
      ·rw [if_neg c6] at H
       have c6b0 : (t151 == 0) = false := beq_eq_false_iff_ne.mpr c6
       have c6b1 : (t151 != 0) = true := bne_iff_ne.mpr c6
       by_cases c7 : (rd l0 x10_1) > 0
       ·rw [if_pos c7] at H
        have c7b0 : decide (0 < (rd l0 x10_1)) = true := decide_eq_true c7
        clear c7
        have H' := Aside0.mk H
        clear H
        have p149 : 0 ≤ (x10_1 : Int) := of_decide_eq_true (by first | (with_reducible assumption) | assumption)
        have q149 : x10_1 < (l0.length : Int) := of_decide_eq_true (by first | (with_reducible assumption) | assumption)
        obtain ⟨ad149, e149, hx149_0⟩ := Kd.at_int HR0.out x10_1 p149 q149
        cases e149
        replace p149 := eq_true p149
        replace q149 := eq_true q149
        go_wp2_with (first | ((with_reducible refine gate_callee (f := 32) rfl ?_); refine goesL_ (some 17) rfl rfl Tryd.func32 (by kernel_rfl) rfl #[.int .i64 x3_1, .int .i64 (rd l0 x10_1)] rfl (by (try simp only [List.map_toArray, List.map_cons, List.map_nil]); first | done | rfl | (simp only [List.length_drop, List.length_take]; rfl)) ?_; (with_reducible refine (num_Add.calls x3_1 (rd l0 x10_1) t150 t151 _ A5.out).mono ?_); rintro e w' ⟨rfl, ⟨nd, rfl⟩⟩; refine ⟨_, rfl, ?_⟩))
        go_roundg k1
        case measure => have := HK1.out; omega
        case rel => exact ⟨(9223372036854775807), (wrap64 (x10_1 + 1)), (by first | rfl | (simp; done) | (simp [*]; done)), (by first | rfl | (simp; done) | (simp [*]; done)), H', ⟨by have := HK1.out; omega⟩, by repeat (first | exact Drawn0.refl _ | apply Drawn0.step)⟩
       ·rw [if_neg c7] at H
        have c7b0 : decide (0 < (rd l0 x10_1)) = false := decide_eq_false c7
        clear c7
        have H' := Aside0.mk H
        clear H
        have p149 : 0 ≤ (x10_1 : Int) := of_decide_eq_true (by first | (with_reducible assumption) | assumption)
        have q149 : x10_1 < (l0.length : Int) := of_decide_eq_true (by first | (with_reducible assumption) | assumption)
        obtain ⟨ad149, e149, hx149_0⟩ := Kd.at_int HR0.out x10_1 p149 q149
        cases e149
        replace p149 := eq_true p149
        replace q149 := eq_true q149
        go_wp2_with (first | ((with_reducible refine gate_callee (f := 32) rfl ?_); refine goesL_ (some 17) rfl rfl Tryd.func32 (by kernel_rfl) rfl #[.int .i64 x3_1, .int .i64 (rd l0 x10_1)] rfl (by (try simp only [List.map_toArray, List.map_cons, List.map_nil]); first | done | rfl | (simp only [List.length_drop, List.length_take]; rfl)) ?_; (with_reducible refine (num_Add.calls x3_1 (rd l0 x10_1) t150 t151 _ A5.out).mono ?_); rintro e w' ⟨rfl, ⟨nd, rfl⟩⟩; refine ⟨_, rfl, ?_⟩))
        go_roundg k1
        case measure => have := HK1.out; omega
        case rel => exact ⟨((-9223372036854775808)), (wrap64 (x10_1 + 1)), (by first | rfl | (simp; done) | (simp [*]; done)), (by first | rfl | (simp; done) | (simp [*]; done)), H', ⟨by have := HK1.out; omega⟩, by repeat (first | exact Drawn0.refl _ | apply Drawn0.step)⟩
     ·rw [if_neg c4] at H
      exact absurd H (by simp)
    ·rw [if_neg c3] at H
     exact absurd H (by simp)
   ·rw [if_neg c2] at H
    have c2b0 : decide (x10_1 < (l0.length : Int)) = false := decide_eq_false c2
    clear c2
    obtain rfl := Option.some.inj H
    go_wp2
    go_ret
    exact ⟨by first | rfl | (simp; done) | (simp [*]; done), by repeat (first | exact Drawn0.refl _ | apply Drawn0.step)⟩
end Go.Proofs.YtfccdngejfnmkaaDoor.P
