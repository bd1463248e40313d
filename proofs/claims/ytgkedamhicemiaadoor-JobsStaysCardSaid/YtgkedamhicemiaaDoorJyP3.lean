/- cut to what one law reaches -/
import Derived.Test.YtgkedamhicemiaaDoorJyP0
import Derived.Test.YtgkedamhicemiaaDoorJyP2
namespace Go.Proofs.YtgkedamhicemiaaDoor.P
open Go.RowKit Go.Proofs.YtgkedamhicemiaaDoorW.PrintWords Go.Proofs.YtgkedamhicemiaaDoorW.PrintLast Go.Proofs.YtgkedamhicemiaaDoorW.PrintMore
attribute [local go_sem] max2_int min2_int max_two min_two max_three min_three max_four min_four   -- for this text's walks alone
set_option linter.unusedVariables false
set_option linter.unusedSimpArgs false
attribute [local go_sem] isSome_setCell
def conf_classes.l0 : Nat → List (S87) → List ByteArray → List (S87) → Int → Int → Option (Bool)
 | 0, _, _, _, _, _ => none
 | k + 1, x0, x3, x6, x7, x8 => if x8 < x7 then (if 0 ≤ x8 then (if x8 < (x6.length : Int) then ((conf_in.f ((rd_T87 x6 x8).f1) 0 1048576).bind fun t121 => (if t121 = true then ((conf_in.f ((rd_T87 x6 x8).f2) 1 1048576).bind fun t122 => (if t122 = true then (if x3.length < 8796093022208 then (conf_classes.l0 k x0 (x3 ++ [(rd_T87 x6 x8).f0]) x6 x7 (wrap64 (x8 + 1))) else (none)) else (some false))) else (some false))) else (none)) else (none)) else ((conf_in.f (x0.length : Int) 1 8).bind fun t117 => (if t117 = true then ((conf_names.f k x3).bind fun t118 => (some t118)) else (some false)))
def conf_classes.f (k : Nat) (l0 : List (S87)) : Option (Bool) := conf_classes.l0 k l0 ([] : List ByteArray) l0 (l0.length : Int) 0
set_option maxHeartbeats 8000000 in
set_option maxRecDepth 100000 in
theorem conf_classes.calls (k : Nat) (A0 : Option Addr) (c0 : Nat) (l0 : List (S87)) (r : Bool) (w : World) (hG : Glob w) (hr0 : Kd.C k87 w A0 l0.length l0) (hc0 : l0.length ≤ c0) (h : conf_classes.f k l0 = some r) :
  Calls Tryd.prog 50 #[.slice A0 l0.length c0] w fun e w' => e = .returned (.bool r) ∧ Below w.heap.size w w' := by
 have hu87 := Tryd.underlying87
 have HG := Aside0.mk hG
 clear hG
 have HR0 := Aside0.mk hr0
 have HC0 := Aside0.mk hc0
 clear hr0 hc0
 have HB := Aside0.mk (Below.refl w.heap.size w)
 have H : (conf_classes.l0 k l0 ([] : List ByteArray) l0 (l0.length : Int) 0) = some r := h
 clear h
 have H' := Aside0.mk H
 clear H
 go_enter Tryd.func50, Tryd.ntmps50
 go_wp2
 go_loopg [3, 8] k (fun kq v3 v8 w' => ∃ (x3_1 : List ByteArray) (x8_1 : Int), v8 = .int .i64 x8_1 ∧ Aside0 (conf_classes.l0 kq l0 x3_1 l0 (l0.length : Int) x8_1 = some r) ∧ Aside0 (kq ≤ k) ∧ Aside0 (Kd.R Kd.string 9 w' w.heap.size (fun _ => True) v3 x3_1) ∧ Aside0 (Below w.heap.size w w'))
 case atStart => exact ⟨(([] : List ByteArray)), (0), (by first | rfl | (simp; done) | (simp [*]; done)), H', ⟨Nat.le_refl _⟩, ⟨by first | exact Kd.R_nil _ _ _ _ _ | exact Kd.N_nil _ _ _ _ _ | exact Kd.V_nil _ _ _ _ _ | exact Kd.Q_nil _ _ _ _ _ | exact Kd.S_nil _ _ _ _ _⟩, ⟨by repeat (first | (with_reducible first | exact HB.out | apply below_alloc | apply pw_below_drewN | apply below_drew1) | exact HB.out)⟩⟩
 case round =>
  clear H'
  obtain ⟨x3_1, x8_1, rfl, HA, HK1, HO_3, HB⟩ := hrel
  cases gk with
  | zero => exact absurd HA.out (by simp [conf_classes.l0])
  | succ k1 =>
   have H := HA.out
   clear HA
   simp only [conf_classes.l0] at H
   by_cases c2 : x8_1 < (l0.length : Int)
   ·rw [if_pos c2] at H
    have c2b0 : decide (x8_1 < (l0.length : Int)) = true := decide_eq_true c2
    clear c2
    by_cases c3 : 0 ≤ x8_1
    ·rw [if_pos c3] at H
     have c3b0 : decide (0 ≤ x8_1) = true := decide_eq_true c3
     clear c3
     by_cases c4 : x8_1 < (l0.length : Int)
     ·rw [if_pos c4] at H
      have c4b0 : decide (x8_1 < (l0.length : Int)) = true := decide_eq_true c4
      clear c4
      replace H := Option.bind_eq_some_iff.mp H
      obtain ⟨t121, A50, H⟩ := H
      replace H : (if t121 = true then ((conf_in.f ((rd_T87 l0 x8_1).f2) 1 1048576).bind fun t122 => (if t122 = true then (if x3_1.length < 8796093022208 then (conf_classes.l0 k1 l0 (x3_1 ++ [(rd_T87 l0 x8_1).f0]) l0 (l0.length : Int) (wrap64 (x8_1 + 1))) else (none)) else (some false))) else (some false)) = some r := H
      have A5 := Aside0.mk A50
      clear A50
      by_cases c6 : t121 = true
      ·subst c6
       have H1 : ((conf_in.f ((rd_T87 l0 x8_1).f2) 1 1048576).bind fun t122 => (if t122 = true then (if x3_1.length < 8796093022208 then (conf_classes.l0 k1 l0 (x3_1 ++ [(rd_T87 l0 x8_1).f0]) l0 (l0.length : Int) (wrap64 (x8_1 + 1))) else (none)) else (some false))) = some r := by rw [if_pos rfl] at H; exact H
       clear H
       have H := H1
       clear H1
       replace H := Option.bind_eq_some_iff.mp H
       obtain ⟨t122, A70, H⟩ := H
       replace H : (if t122 = true then (if x3_1.length < 8796093022208 then (conf_classes.l0 k1 l0 (x3_1 ++ [(rd_T87 l0 x8_1).f0]) l0 (l0.length : Int) (wrap64 (x8_1 + 1))) else (none)) else (some false)) = some r := H
       have A7 := Aside0.mk A70
       clear A70
       by_cases c8 : t122 = true
       ·subst c8
        have H1 : (if x3_1.length < 8796093022208 then (conf_classes.l0 k1 l0 (x3_1 ++ [(rd_T87 l0 x8_1).f0]) l0 (l0.length : Int) (wrap64 (x8_1 + 1))) else (none)) = some r := by rw [if_pos rfl] at H; exact H
        clear H
        have H := H1
        clear H1
        by_cases c9 : x3_1.length < 8796093022208
        ·rw [if_pos c9] at H
         have LMc9 := Aside0.mk c9
         clear c9
         obtain ⟨y123, hy123⟩ : ∃ y_ : List ByteArray, y_ = (x3_1 ++ [(rd_T87 l0 x8_1).f0]) := ⟨_, rfl⟩
         replace H : (conf_classes.l0 k1 l0 y123 l0 (l0.length : Int) (wrap64 (x8_1 + 1))) = some r := by first | (rw [hy123]; with_reducible exact H) | (have H2_ := (Option.bind_some _ _).symm.trans H; rw [hy123]; with_reducible exact H2_) | (have H2_ := (Option.bind_some _ _).symm.trans H; with_reducible exact H2_) | with_reducible exact H | (rw [hy123]; exact H) | exact H
         have Ny123 := Aside0.mk hy123
         clear hy123
         have H' := Aside0.mk H
         clear H
         have p119 : 0 ≤ (x8_1 : Int) := of_decide_eq_true (by first | (with_reducible assumption) | assumption)
         have q119 : x8_1 < (l0.length : Int) := of_decide_eq_true (by first | (with_reducible assumption) | assumption)
         obtain ⟨ad119, e119, hx119_0, hx119_1, hx119_2⟩ := at_T87 HR0.out x8_1 p119 q119
         cases e119
         replace hx119_0 := (HB.out.cell (World.block_lt_of_cell? w _ hx119_0)).trans hx119_0
         replace hx119_1 := (HB.out.cell (World.block_lt_of_cell? w _ hx119_1)).trans hx119_1
         replace hx119_2 := (HB.out.cell (World.block_lt_of_cell? w _ hx119_2)).trans hx119_2
         replace p119 := eq_true p119
         replace q119 := eq_true q119
         go_wp2_with (first | ((with_reducible refine gate_dst (N := 5) rfl ?_); refine box_event ?hg (N := 5) ?hd (cs := #[.string (⟨#[]⟩ : ByteArray), .int .i64 0, .int .i64 0]) (t := 87) ?hr ?_; (case hd => rfl); (case hg => rfl); (case hr => first | (go_simp; done) | (go_simp; rfl)); intro gb120 hg w10 hbox hb; have n0_ := Aside0.mk (Kd.R_below (by (with_reducible repeat (first | apply Kd.R_alloc | apply Kd.R_drewN | apply Kd.R_drew)); exact HO_3.out) hb); have n1_ := Aside0.mk (below_step (by repeat (first | (with_reducible first | exact HB.out | apply below_alloc | apply pw_below_drewN | apply below_drew1) | exact HB.out)) hb); have n2_ := Aside0.mk (hbox); have n3_ := Aside0.mk ((by rw [hg]; exact (below_size (by repeat (first | (with_reducible first | exact HB.out | apply below_alloc | apply pw_below_drewN | apply below_drew1) | exact HB.out))) : w.heap.size ≤ gb120)); have n4_ := Aside0.mk ((by rw [hg]; exact (below_size (by repeat (first | (with_reducible first | exact HB.out | apply below_alloc | apply pw_below_drewN | apply below_drew1) | exact HB.out))) : w.heap.size ≤ gb120)); clear HO_3; clear HB; have HO_3 := n0_; have HB := n1_; have BK120 := n2_; have GW120 := n3_; have GE120 := n4_; clear n0_ n1_ n2_ n3_ n4_; clear hb hbox hg; have hcz11_0 : w10.cell? ⟨gb120, 0, none⟩ = some (.string (⟨#[]⟩ : ByteArray)) := (blk_cell BK120.out 0).trans rfl; have hcz11_1 : w10.cell? ⟨gb120, 1, none⟩ = some (.int .i64 0) := (blk_cell BK120.out 1).trans rfl; have hcz11_2 : w10.cell? ⟨gb120, 2, none⟩ = some (.int .i64 0) := (blk_cell BK120.out 2).trans rfl; have hfz11_0 := blk_frozen BK120.out 0; have hfz11_1 := blk_frozen BK120.out 1; have hfz11_2 := blk_frozen BK120.out 2) | ((with_reducible refine gate_callee (f := 48) rfl ?_); refine goesL_ (some 14) rfl rfl Tryd.func48 (by kernel_rfl) rfl #[.int .i64 ((rd_T87 l0 x8_1).f1), .int .i64 0, .int .i64 1048576] rfl (by (try simp only [List.map_toArray, List.map_cons, List.map_nil]); first | done | rfl | (simp only [List.length_drop, List.length_take]; rfl)) ?_; (with_reducible refine (conf_in.calls ((rd_T87 l0 x8_1).f1) 0 1048576 true _ A5.out).mono ?_); rintro e w' ⟨rfl, ⟨nd, rfl⟩⟩; refine ⟨_, rfl, ?_⟩) | (go_at_call 48; (with_reducible refine (conf_in.calls ((rd_T87 l0 x8_1).f2) 1 1048576 true _ A7.out).mono ?_); rintro e w' ⟨rfl, ⟨nd, rfl⟩⟩) | ((with_reducible refine gate_builtin (b := .append) (xs := #[.tmp 22, .tmp 25]) rfl ?_); at_builtin; refine Kd.R_append Kd.string (w0 := w) w.heap.size rfl (.tmp 22) (.tmp 25) 131 9 (.string ⟨#[]⟩) 16 rfl Tryd.underlying131 info9 rfl (by decide) (by omega) u3 x3_1 ((rd_T87 l0 x8_1).f0) [.string ((rd_T87 l0 x8_1).f0)] (fun _ => True) (fun _ => False) rfl (by first | (go_simp; done) | (go_simp; rfl)) ?aP (fun _ hk => hk.elim) ?aF ?aO ?aB ?aS ?aL ?_; (case aP => exact rfl); (case aB => exact (by repeat (first | (with_reducible first | exact HB.out | apply below_alloc | apply pw_below_drewN | apply below_drew1 | refine below_set ?_ GE120.out) | exact HB.out))); (case aF => exact (fun _ _ => trivial)); (case aO => exact (by (with_reducible repeat (first | apply Kd.R_alloc | apply Kd.R_drewN | apply Kd.R_drew)); exact Kd.R_mono (Kd.R_far (p := ⟨gb120, 2, none⟩) (Kd.R_far (p := ⟨gb120, 1, none⟩) (Kd.R_far (p := ⟨gb120, 0, none⟩) (Kd.R_types HO_3.out BK120.out (by decide)) (fun _ hk => hk.2) (.string ((rd_T87 l0 x8_1).f0))) (fun _ hk => hk.2) (.int .i64 ((rd_T87 l0 x8_1).f1))) (fun _ hk => hk.2) (.int .i64 ((rd_T87 l0 x8_1).f2))) (fun _ hk => trivial))); (case aS => exact (below_size (by repeat (first | (with_reducible first | exact HB.out | apply below_alloc | apply pw_below_drewN | apply below_drew1 | refine below_set ?_ GE120.out) | exact HB.out)))); (case aL => have := LMc9.out; omega); intro v124 w12 ho hb hg hat; rw [← Ny123.out] at ho; have n0_ := Aside0.mk (blk_grown (g := gb120) (o := .cells #[.string ((rd_T87 l0 x8_1).f0), .int .i64 ((rd_T87 l0 x8_1).f1), .int .i64 ((rd_T87 l0 x8_1).f2)] 87 (0, 0)) (by (with_reducible repeat (first | refine blk_drewN ?_ _ | refine blk_drew ?_ | refine blk_alloc ?_ _)); refine blk_put (cs := #[.string ((rd_T87 l0 x8_1).f0), .int .i64 ((rd_T87 l0 x8_1).f1), .int .i64 0]) ?_ 2 _ rfl; (with_reducible repeat (first | refine blk_drewN ?_ _ | refine blk_drew ?_ | refine blk_alloc ?_ _)); refine blk_put (cs := #[.string ((rd_T87 l0 x8_1).f0), .int .i64 0, .int .i64 0]) ?_ 1 _ rfl; (with_reducible repeat (first | refine blk_drewN ?_ _ | refine blk_drew ?_ | refine blk_alloc ?_ _)); refine blk_put (cs := #[.string (⟨#[]⟩ : ByteArray), .int .i64 0, .int .i64 0]) ?_ 0 _ rfl; (with_reducible repeat (first | refine blk_drewN ?_ _ | refine blk_drew ?_ | refine blk_alloc ?_ _)); exact BK120.out) hg (Kd.R_ne HO_3.out BK120.out (by decide))); have n1_ := Aside0.mk (hb); have n2_ := Aside0.mk (ho); clear BK120; clear HB; clear HO_3; have BK120 := n0_; have HB := n1_; have HO125 := n2_; clear n0_ n1_ n2_; clear ho hb hg hat))
         go_roundg k1
         case measure => have := HK1.out; omega
         case rel => exact ⟨(y123), (wrap64 (x8_1 + 1)), (by first | rfl | (simp; done) | (simp [*]; done)), H', ⟨by have := HK1.out; omega⟩, ⟨by (with_reducible repeat (first | apply Kd.R_alloc | apply Kd.R_drewN | apply Kd.R_drew)); exact HO125.out⟩, ⟨by repeat (first | (with_reducible first | exact HB.out | apply below_alloc | apply pw_below_drewN | apply below_drew1 | refine below_set ?_ GE120.out) | exact HB.out)⟩⟩
        ·rw [if_neg c9] at H
         exact absurd H (by simp)
       ·replace c8 := Bool.eq_false_iff.mpr c8
        subst c8
        have H1 : (some false) = some r := by rw [if_neg (show ¬ (false = true) by decide)] at H; exact H
        clear H
        have H := H1
        clear H1
        obtain rfl := Option.some.inj H
        have p119 : 0 ≤ (x8_1 : Int) := of_decide_eq_true (by first | (with_reducible assumption) | assumption)
        have q119 : x8_1 < (l0.length : Int) := of_decide_eq_true (by first | (with_reducible assumption) | assumption)
        obtain ⟨ad119, e119, hx119_0, hx119_1, hx119_2⟩ := at_T87 HR0.out x8_1 p119 q119
        cases e119
        replace hx119_0 := (HB.out.cell (World.block_lt_of_cell? w _ hx119_0)).trans hx119_0
        replace hx119_1 := (HB.out.cell (World.block_lt_of_cell? w _ hx119_1)).trans hx119_1
        replace hx119_2 := (HB.out.cell (World.block_lt_of_cell? w _ hx119_2)).trans hx119_2
        replace p119 := eq_true p119
        replace q119 := eq_true q119
        go_wp2_with (first | ((with_reducible refine gate_dst (N := 5) rfl ?_); refine box_event ?hg (N := 5) ?hd (cs := #[.string (⟨#[]⟩ : ByteArray), .int .i64 0, .int .i64 0]) (t := 87) ?hr ?_; (case hd => rfl); (case hg => rfl); (case hr => first | (go_simp; done) | (go_simp; rfl)); intro gb120 hg w13 hbox hb; have n0_ := Aside0.mk (Kd.R_below (by (with_reducible repeat (first | apply Kd.R_alloc | apply Kd.R_drewN | apply Kd.R_drew)); exact HO_3.out) hb); have n1_ := Aside0.mk (below_step (by repeat (first | (with_reducible first | exact HB.out | apply below_alloc | apply pw_below_drewN | apply below_drew1) | exact HB.out)) hb); have n2_ := Aside0.mk (hbox); have n3_ := Aside0.mk ((by rw [hg]; exact (below_size (by repeat (first | (with_reducible first | exact HB.out | apply below_alloc | apply pw_below_drewN | apply below_drew1) | exact HB.out))) : w.heap.size ≤ gb120)); have n4_ := Aside0.mk ((by rw [hg]; exact (below_size (by repeat (first | (with_reducible first | exact HB.out | apply below_alloc | apply pw_below_drewN | apply below_drew1) | exact HB.out))) : w.heap.size ≤ gb120)); clear HO_3; clear HB; have HO_3 := n0_; have HB := n1_; have BK120 := n2_; have GW120 := n3_; have GE120 := n4_; clear n0_ n1_ n2_ n3_ n4_; clear hb hbox hg; have hcz14_0 : w13.cell? ⟨gb120, 0, none⟩ = some (.string (⟨#[]⟩ : ByteArray)) := (blk_cell BK120.out 0).trans rfl; have hcz14_1 : w13.cell? ⟨gb120, 1, none⟩ = some (.int .i64 0) := (blk_cell BK120.out 1).trans rfl; have hcz14_2 : w13.cell? ⟨gb120, 2, none⟩ = some (.int .i64 0) := (blk_cell BK120.out 2).trans rfl; have hfz14_0 := blk_frozen BK120.out 0; have hfz14_1 := blk_frozen BK120.out 1; have hfz14_2 := blk_frozen BK120.out 2) | ((with_reducible refine gate_callee (f := 48) rfl ?_); refine goesL_ (some 14) rfl rfl Tryd.func48 (by kernel_rfl) rfl #[.int .i64 ((rd_T87 l0 x8_1).f1), .int .i64 0, .int .i64 1048576] rfl (by (try simp only [List.map_toArray, List.map_cons, List.map_nil]); first | done | rfl | (simp only [List.length_drop, List.length_take]; rfl)) ?_; (with_reducible refine (conf_in.calls ((rd_T87 l0 x8_1).f1) 0 1048576 true _ A5.out).mono ?_); rintro e w' ⟨rfl, ⟨nd, rfl⟩⟩; refine ⟨_, rfl, ?_⟩) | (go_at_call 48; (with_reducible refine (conf_in.calls ((rd_T87 l0 x8_1).f2) 1 1048576 false _ A7.out).mono ?_); rintro e w' ⟨rfl, ⟨nd, rfl⟩⟩))
        go_ret
        exact ⟨by first | rfl | (simp [errW_none, errW_some] <;> rfl) | (simp [*, errW_none, errW_some] <;> rfl), by repeat (first | (with_reducible first | exact HB.out | apply below_alloc | apply pw_below_drewN | apply below_drew1 | refine below_set ?_ GE120.out) | exact HB.out)⟩
      ·replace c6 := Bool.eq_false_iff.mpr c6
       subst c6
       have H1 : (some false) = some r := by rw [if_neg (show ¬ (false = true) by decide)] at H; exact H
       clear H
       have H := H1
       clear H1
       obtain rfl := Option.some.inj H
       have p119 : 0 ≤ (x8_1 : Int) := of_decide_eq_true (by first | (with_reducible assumption) | assumption)
       have q119 : x8_1 < (l0.length : Int) := of_decide_eq_true (by first | (with_reducible assumption) | assumption)
       obtain ⟨ad119, e119, hx119_0, hx119_1, hx119_2⟩ := at_T87 HR0.out x8_1 p119 q119
       cases e119
       replace hx119_0 := (HB.out.cell (World.block_lt_of_cell? w _ hx119_0)).trans hx119_0
       replace hx119_1 := (HB.out.cell (World.block_lt_of_cell? w _ hx119_1)).trans hx119_1
       replace hx119_2 := (HB.out.cell (World.block_lt_of_cell? w _ hx119_2)).trans hx119_2
       replace p119 := eq_true p119
       replace q119 := eq_true q119
       go_wp2_with (first | ((with_reducible refine gate_dst (N := 5) rfl ?_); refine box_event ?hg (N := 5) ?hd (cs := #[.string (⟨#[]⟩ : ByteArray), .int .i64 0, .int .i64 0]) (t := 87) ?hr ?_; (case hd => rfl); (case hg => rfl); (case hr => first | (go_simp; done) | (go_simp; rfl)); intro gb120 hg w15 hbox hb; have n0_ := Aside0.mk (Kd.R_below (by (with_reducible repeat (first | apply Kd.R_alloc | apply Kd.R_drewN | apply Kd.R_drew)); exact HO_3.out) hb); have n1_ := Aside0.mk (below_step (by repeat (first | (with_reducible first | exact HB.out | apply below_alloc | apply pw_below_drewN | apply below_drew1) | exact HB.out)) hb); have n2_ := Aside0.mk (hbox); have n3_ := Aside0.mk ((by rw [hg]; exact (below_size (by repeat (first | (with_reducible first | exact HB.out | apply below_alloc | apply pw_below_drewN | apply below_drew1) | exact HB.out))) : w.heap.size ≤ gb120)); have n4_ := Aside0.mk ((by rw [hg]; exact (below_size (by repeat (first | (with_reducible first | exact HB.out | apply below_alloc | apply pw_below_drewN | apply below_drew1) | exact HB.out))) : w.heap.size ≤ gb120)); clear HO_3; clear HB; have HO_3 := n0_; have HB := n1_; have BK120 := n2_; have GW120 := n3_; have GE120 := n4_; clear n0_ n1_ n2_ n3_ n4_; clear hb hbox hg; have hcz16_0 : w15.cell? ⟨gb120, 0, none⟩ = some (.string (⟨#[]⟩ : ByteArray)) := (blk_cell BK120.out 0).trans rfl; have hcz16_1 : w15.cell? ⟨gb120, 1, none⟩ = some (.int .i64 0) := (blk_cell BK120.out 1).trans rfl; have hcz16_2 : w15.cell? ⟨gb120, 2, none⟩ = some (.int .i64 0) := (blk_cell BK120.out 2).trans rfl; have hfz16_0 := blk_frozen BK120.out 0; have hfz16_1 := blk_frozen BK120.out 1; have hfz16_2 := blk_frozen BK120.out 2) | ((with_reducible refine gate_callee (f := 48) rfl ?_); refine goesL_ (some 14) rfl rfl Tryd.func48 (by kernel_rfl) rfl #[.int .i64 ((rd_T87 l0 x8_1).f1), .int .i64 0, .int .i64 1048576] rfl (by (try simp only [List.map_toArray, List.map_cons, List.map_nil]); first | done | rfl | (simp only [List.length_drop, List.length_take]; rfl)) ?_; (with_reducible refine (conf_in.calls ((rd_T87 l0 x8_1).f1) 0 1048576 false _ A5.out).mono ?_); rintro e w' ⟨rfl, ⟨nd, rfl⟩⟩; refine ⟨_, rfl, ?_⟩))
       go_ret
       exact ⟨by first | rfl | (simp [errW_none, errW_some] <;> rfl) | (simp [*, errW_none, errW_some] <;> rfl), by repeat (first | (with_reducible first | exact HB.out | apply below_alloc | apply pw_below_drewN | apply below_drew1 | refine below_set ?_ GE120.out) | exact HB.out)⟩
     ·rw [if_neg c4] at H
      exact absurd H (by simp)
    ·rw [if_neg c3] at H
     exact absurd H (by simp)
   ·rw [if_neg c2] at H
    have c2b0 : decide (x8_1 < (l0.length : Int)) = false := decide_eq_false c2
    clear c2
    replace H := Option.bind_eq_some_iff.mp H
    obtain ⟨t117, A170, H⟩ := H
    replace H : (if t117 = true then ((conf_names.f k1 x3_1).bind fun t118 => (some t118)) else (some false)) = some r := H
    have A17 := Aside0.mk A170
    clear A170
    by_cases c18 : t117 = true
    ·subst c18
     have H1 : ((conf_names.f k1 x3_1).bind fun t118 => (some t118)) = some r := by rw [if_pos rfl] at H; exact H
     clear H
     have H := H1
     clear H1
     replace H := Option.bind_eq_some_iff.mp H
     obtain ⟨t118, A190, H⟩ := H
     replace H : (some t118) = some r := H
     have A19 := Aside0.mk A190
     clear A190
     obtain rfl := Option.some.inj H
     go_wp2_with (first | ((with_reducible refine gate_callee (f := 48) rfl ?_); refine goesL_ (some 30) rfl rfl Tryd.func48 (by kernel_rfl) rfl #[.int .i64 (l0.length : Int), .int .i64 1, .int .i64 8] rfl (by (try simp only [List.map_toArray, List.map_cons, List.map_nil]); first | done | rfl | (simp only [List.length_drop, List.length_take]; rfl)) ?_; (with_reducible refine (conf_in.calls (l0.length : Int) 1 8 true _ A17.out).mono ?_); rintro e w' ⟨rfl, ⟨nd, rfl⟩⟩; refine ⟨_, rfl, ?_⟩; obtain ⟨Ao20, co20, eo20⟩ := Kd.R_slice HO_3.out; subst eo20) | (go_at_call 71; (with_reducible refine (conf_names.calls k1 _ _ x3_1 t118 _ ?side1 ?side2 ?side3 A19.out).mono ?_); (case side1 => exact Glob.below HG.out (by repeat (first | (with_reducible first | exact HB.out | apply below_alloc | apply pw_below_drewN | apply below_drew1) | exact HB.out))); (case side2 => repeat (first | exact (Kd.R_reads' HO_3.out).2.2 | (with_reducible refine Kd.C_alloc ?_ _) | (with_reducible refine Kd.C_drewN ?_ _) | (with_reducible refine Kd.C_drew ?_))); (case side3 => exact (Kd.R_reads' HO_3.out).2.1); rintro e w21 ⟨rfl, hb⟩; have n0_ := Aside0.mk (Kd.R_below (by (with_reducible repeat (first | apply Kd.R_alloc | apply Kd.R_drewN | apply Kd.R_drew)); exact HO_3.out) hb); have n1_ := Aside0.mk (below_step (by repeat (first | (with_reducible first | exact HB.out | apply below_alloc | apply pw_below_drewN | apply below_drew1) | exact HB.out)) hb); clear HO_3; clear HB; have HO_3 := n0_; have HB := n1_; clear n0_ n1_; (try clear hb); (try clear hb2); (try clear hk); (try clear hi)))
     go_ret
     exact ⟨by first | rfl | (simp [errW_none, errW_some] <;> rfl) | (simp [*, errW_none, errW_some] <;> rfl), by repeat (first | (with_reducible first | exact HB.out | apply below_alloc | apply pw_below_drewN | apply below_drew1) | exact HB.out)⟩
    ·replace c18 := Bool.eq_false_iff.mpr c18
     subst c18
     have H1 : (some false) = some r := by rw [if_neg (show ¬ (false = true) by decide)] at H; exact H
     clear H
     have H := H1
     clear H1
     obtain rfl := Option.some.inj H
     go_wp2_with (first | ((with_reducible refine gate_callee (f := 48) rfl ?_); refine goesL_ (some 30) rfl rfl Tryd.func48 (by kernel_rfl) rfl #[.int .i64 (l0.length : Int), .int .i64 1, .int .i64 8] rfl (by (try simp only [List.map_toArray, List.map_cons, List.map_nil]); first | done | rfl | (simp only [List.length_drop, List.length_take]; rfl)) ?_; (with_reducible refine (conf_in.calls (l0.length : Int) 1 8 false _ A17.out).mono ?_); rintro e w' ⟨rfl, ⟨nd, rfl⟩⟩; refine ⟨_, rfl, ?_⟩))
     go_ret
     exact ⟨by first | rfl | (simp [errW_none, errW_some] <;> rfl) | (simp [*, errW_none, errW_some] <;> rfl), by repeat (first | (with_reducible first | exact HB.out | apply below_alloc | apply pw_below_drewN | apply below_drew1) | exact HB.out)⟩
def conf_accounts.l0 : Nat → List (S89) → List ByteArray → List (S89) → Int → Int → Option (Bool)
 | 0, _, _, _, _, _ => none
 | k + 1, x0, x3, x6, x7, x8 => if x8 < x7 then (if 0 ≤ x8 then (if x8 < (x6.length : Int) then ((conf_in.f ((rd_T89 x6 x8).f2) 1 1048576).bind fun t130 => (if t130 = true then (if ((x8 == 0) != (((rd_T89 x6 x8).f1).toList == ([] : List UInt8))) = true then (some false) else (if x8 > 0 then ((slices_Contains_string_string.f k x3 ((rd_T89 x6 x8).f1)).bind fun t131 => (if t131 = true then (if x3.length < 8796093022208 then (conf_accounts.l0 k x0 (x3 ++ [(rd_T89 x6 x8).f0]) x6 x7 (wrap64 (x8 + 1))) else (none)) else (some false))) else (if x3.length < 8796093022208 then (conf_accounts.l0 k x0 (x3 ++ [(rd_T89 x6 x8).f0]) x6 x7 (wrap64 (x8 + 1))) else (none)))) else (some false))) else (none)) else (none)) else ((conf_in.f (x0.length : Int) 1 50).bind fun t126 => (if t126 = true then ((conf_names.f k x3).bind fun t127 => (some t127)) else (some false)))
def conf_accounts.f (k : Nat) (l0 : List (S89)) : Option (Bool) := conf_accounts.l0 k l0 ([] : List ByteArray) l0 (l0.length : Int) 0
set_option maxHeartbeats 8000000 in
set_option maxRecDepth 100000 in
theorem conf_accounts.calls (k : Nat) (A0 : Option Addr) (c0 : Nat) (l0 : List (S89)) (r : Bool) (w : World) (hG : Glob w) (hr0 : Kd.C k89 w A0 l0.length l0) (hc0 : l0.length ≤ c0) (h : conf_accounts.f k l0 = some r) :
  Calls Tryd.prog 51 #[.slice A0 l0.length c0] w fun e w' => e = .returned (.bool r) ∧ Below w.heap.size w w' := by
 have hu89 := Tryd.underlying89
 have HG := Aside0.mk hG
 clear hG
 have HR0 := Aside0.mk hr0
 have HC0 := Aside0.mk hc0
 clear hr0 hc0
 have HB := Aside0.mk (Below.refl w.heap.size w)
 have H : (conf_accounts.l0 k l0 ([] : List ByteArray) l0 (l0.length : Int) 0) = some r := h
 clear h
 have H' := Aside0.mk H
 clear H
 go_enter Tryd.func51, Tryd.ntmps51
 go_wp2
 go_loopg [3, 8] k (fun kq v3 v8 w' => ∃ (x3_1 : List ByteArray) (x8_1 : Int), v8 = .int .i64 x8_1 ∧ Aside0 (conf_accounts.l0 kq l0 x3_1 l0 (l0.length : Int) x8_1 = some r) ∧ Aside0 (kq ≤ k) ∧ Aside0 (Kd.R Kd.string 9 w' w.heap.size (fun _ => True) v3 x3_1) ∧ Aside0 (Below w.heap.size w w'))
 case atStart => exact ⟨(([] : List ByteArray)), (0), (by first | rfl | (simp; done) | (simp [*]; done)), H', ⟨Nat.le_refl _⟩, ⟨by first | exact Kd.R_nil _ _ _ _ _ | exact Kd.N_nil _ _ _ _ _ | exact Kd.V_nil _ _ _ _ _ | exact Kd.Q_nil _ _ _ _ _ | exact Kd.S_nil _ _ _ _ _⟩, ⟨by repeat (first | (with_reducible first | exact HB.out | apply below_alloc | apply pw_below_drewN | apply below_drew1) | exact HB.out)⟩⟩
 case round =>
  clear H'
  obtain ⟨x3_1, x8_1, rfl, HA, HK1, HO_3, HB⟩ := hrel
  cases gk with
  | zero => exact absurd HA.out (by simp [conf_accounts.l0])
  | succ k1 =>
   have H := HA.out
   clear HA
   simp only [conf_accounts.l0] at H
   by_cases c2 : x8_1 < (l0.length : Int)
   ·rw [if_pos c2] at H
    have c2b0 : decide (x8_1 < (l0.length : Int)) = true := decide_eq_true c2
    clear c2
    by_cases c3 : 0 ≤ x8_1
    ·rw [if_pos c3] at H
     have c3b0 : decide (0 ≤ x8_1) = true := decide_eq_true c3
     clear c3
     by_cases c4 : x8_1 < (l0.length : Int)
     ·rw [if_pos c4] at H
      have c4b0 : decide (x8_1 < (l0.length : Int)) = true := decide_eq_true c4
      clear c4
      replace H := Option.bind_eq_some_iff.mp H
      obtain ⟨t130, A50, H⟩ := H
      replace H : (if t130 = true then (if ((x8_1 == 0) != (((rd_T89 l0 x8_1).f1).toList == ([] : List UInt8))) = true then (some false) else (if x8_1 > 0 then ((slices_Contains_string_string.f k1 x3_1 ((rd_T89 l0 x8_1).f1)).bind fun t131 => (if t131 = true then (if x3_1.length < 8796093022208 then (conf_accounts.l0 k1 l0 (x3_1 ++ [(rd_T89 l0 x8_1).f0]) l0 (l0.length : Int) (wrap64 (x8_1 + 1))) else (none)) else (some false))) else (if x3_1.length < 8796093022208 then (conf_accounts.l0 k1 l0 (x3_1 ++ [(rd_T89 l0 x8_1).f0]) l0 (l0.length : Int) (wrap64 (x8_1 + 1))) else (none)))) else (some false)) = some r := H
      have A5 := Aside0.mk A50
      clear A50
      by_cases c6 : t130 = true
      ·subst c6
       have H1 : (if ((x8_1 == 0) != (((rd_T89 l0 x8_1).f1).toList == ([] : List UInt8))) = true then (some false) else (if x8_1 > 0 then ((slices_Contains_string_string.f k1 x3_1 ((rd_T89 l0 x8_1).f1)).bind fun t131 => (if t131 = true then (if x3_1.length < 8796093022208 then (conf_accounts.l0 k1 l0 (x3_1 ++ [(rd_T89 l0 x8_1).f0]) l0 (l0.length : Int) (wrap64 (x8_1 + 1))) else (none)) else (some false))) else (if x3_1.length < 8796093022208 then (conf_accounts.l0 k1 l0 (x3_1 ++ [(rd_T89 l0 x8_1).f0]) l0 (l0.length : Int) (wrap64 (x8_1 + 1))) else (none)))) = some r := by rw [if_pos rfl] at H; exact H
       clear H
       have H := H1
       clear H1
       by_cases c7 : ((x8_1 == 0) != (((rd_T89 l0 x8_1).f1).toList == ([] : List UInt8))) = true
       ·rw [if_pos c7] at H
        have c7b0 : ((x8_1 == 0) != (((rd_T89 l0 x8_1).f1).toList == ([] : List UInt8))) = true := c7
        (try (have c7b1 : decide ((x8_1 == 0) = (((rd_T89 l0 x8_1).f1).toList == ([] : List UInt8))) = false := by simpa using c7))
        (try (have c7b2 : ((x8_1 == 0) == (((rd_T89 l0 x8_1).f1).toList == ([] : List UInt8))) = false := by simpa using c7))
        (try (have c7b3 : ¬ ((x8_1 == 0) = (((rd_T89 l0 x8_1).f1).toList == ([] : List UInt8))) := by simpa using c7))
        (try (have c7E0 := c7b0; simp only [isE_] at c7E0))
        (try (have c7E1 := c7b1; simp only [isE_] at c7E1))
        (try (have c7E2 := c7b2; simp only [isE_] at c7E2))
        (try (have c7E3 := c7b3; simp only [isE_] at c7E3))
        clear c7
        obtain rfl := Option.some.inj H
        have p128 : 0 ≤ (x8_1 : Int) := of_decide_eq_true (by first | (with_reducible assumption) | assumption)
        have q128 : x8_1 < (l0.length : Int) := of_decide_eq_true (by first | (with_reducible assumption) | assumption)
        obtain ⟨ad128, e128, hx128_0, hx128_1, hx128_2⟩ := at_T89 HR0.out x8_1 p128 q128
        cases e128
        replace hx128_0 := (HB.out.cell (World.block_lt_of_cell? w _ hx128_0)).trans hx128_0
        replace hx128_1 := (HB.out.cell (World.block_lt_of_cell? w _ hx128_1)).trans hx128_1
        replace hx128_2 := (HB.out.cell (World.block_lt_of_cell? w _ hx128_2)).trans hx128_2
        replace p128 := eq_true p128
        replace q128 := eq_true q128
        go_wp2_with (first | ((with_reducible refine gate_dst (N := 5) rfl ?_); refine box_event ?hg (N := 5) ?hd (cs := #[.string (⟨#[]⟩ : ByteArray), .string (⟨#[]⟩ : ByteArray), .int .i64 0]) (t := 89) ?hr ?_; (case hd => rfl); (case hg => rfl); (case hr => first | (go_simp; done) | (go_simp; rfl)); intro gb129 hg w8 hbox hb; have n0_ := Aside0.mk (Kd.R_below (by (with_reducible repeat (first | apply Kd.R_alloc | apply Kd.R_drewN | apply Kd.R_drew)); exact HO_3.out) hb); have n1_ := Aside0.mk (below_step (by repeat (first | (with_reducible first | exact HB.out | apply below_alloc | apply pw_below_drewN | apply below_drew1) | exact HB.out)) hb); have n2_ := Aside0.mk (hbox); have n3_ := Aside0.mk ((by rw [hg]; exact (below_size (by repeat (first | (with_reducible first | exact HB.out | apply below_alloc | apply pw_below_drewN | apply below_drew1) | exact HB.out))) : w.heap.size ≤ gb129)); have n4_ := Aside0.mk ((by rw [hg]; exact (below_size (by repeat (first | (with_reducible first | exact HB.out | apply below_alloc | apply pw_below_drewN | apply below_drew1) | exact HB.out))) : w.heap.size ≤ gb129)); clear HO_3; clear HB; have HO_3 := n0_; have HB := n1_; have BK129 := n2_; have GW129 := n3_; have GE129 := n4_; clear n0_ n1_ n2_ n3_ n4_; clear hb hbox hg; have hcz9_0 : w8.cell? ⟨gb129, 0, none⟩ = some (.string (⟨#[]⟩ : ByteArray)) := (blk_cell BK129.out 0).trans rfl; have hcz9_1 : w8.cell? ⟨gb129, 1, none⟩ = some (.string (⟨#[]⟩ : ByteArray)) := (blk_cell BK129.out 1).trans rfl; have hcz9_2 : w8.cell? ⟨gb129, 2, none⟩ = some (.int .i64 0) := (blk_cell BK129.out 2).trans rfl; have hfz9_0 := blk_frozen BK129.out 0; have hfz9_1 := blk_frozen BK129.out 1; have hfz9_2 := blk_frozen BK129.out 2) | ((with_reducible refine gate_callee (f := 48) rfl ?_); refine goesL_ (some 15) rfl rfl Tryd.func48 (by kernel_rfl) rfl #[.int .i64 ((rd_T89 l0 x8_1).f2), .int .i64 1, .int .i64 1048576] rfl (by (try simp only [List.map_toArray, List.map_cons, List.map_nil]); first | done | rfl | (simp only [List.length_drop, List.length_take]; rfl)) ?_; (with_reducible refine (conf_in.calls ((rd_T89 l0 x8_1).f2) 1 1048576 true _ A5.out).mono ?_); rintro e w' ⟨rfl, ⟨nd, rfl⟩⟩; refine ⟨_, rfl, ?_⟩))
        go_ret
        exact ⟨by first | rfl | (simp [errW_none, errW_some] <;> rfl) | (simp [*, errW_none, errW_some] <;> rfl), by repeat (first | (with_reducible first | exact HB.out | apply below_alloc | apply pw_below_drewN | apply below_drew1 | refine below_set ?_ GE129.out) | exact HB.out)⟩
       ·rw [if_neg c7] at H
        have c7b0 : ((x8_1 == 0) != (((rd_T89 l0 x8_1).f1).toList == ([] : List UInt8))) = false := by simpa using c7
        (try (have c7b1 : decide ((x8_1 == 0) = (((rd_T89 l0 x8_1).f1).toList == ([] : List UInt8))) = true := by simpa using c7))
        (try (have c7b2 : ((x8_1 == 0) == (((rd_T89 l0 x8_1).f1).toList == ([] : List UInt8))) = true := by simpa using c7))
        (try (have c7E0 := c7b0; simp only [isE_] at c7E0))
        (try (have c7E1 := c7b1; simp only [isE_] at c7E1))
        (try (have c7E2 := c7b2; simp only [isE_] at c7E2))
        (try (have c7E3 := c7b3; simp only [isE_] at c7E3))
        clear c7
        by_cases c10 : x8_1 > 0
        ·rw [if_pos c10] at H
         have c10b0 : decide (0 < x8_1) = true := decide_eq_true c10
         clear c10
         replace H := Option.bind_eq_some_iff.mp H
         obtain ⟨t131, A110, H⟩ := H
         replace H : (if t131 = true then (if x3_1.length < 8796093022208 then (conf_accounts.l0 k1 l0 (x3_1 ++ [(rd_T89 l0 x8_1).f0]) l0 (l0.length : Int) (wrap64 (x8_1 + 1))) else (none)) else (some false)) = some r := H
         have A11 := Aside0.mk A110
         clear A110
         by_cases c12 : t131 = true
         ·subst c12
          have H1 : (if x3_1.length < 8796093022208 then (conf_accounts.l0 k1 l0 (x3_1 ++ [(rd_T89 l0 x8_1).f0]) l0 (l0.length : Int) (wrap64 (x8_1 + 1))) else (none)) = some r := by rw [if_pos rfl] at H; exact H
          clear H
          have H := H1
          clear H1
          by_cases c13 : x3_1.length < 8796093022208
          ·rw [if_pos c13] at H
           have LMc13 := Aside0.mk c13
           clear c13
           obtain ⟨y132, hy132⟩ : ∃ y_ : List ByteArray, y_ = (x3_1 ++ [(rd_T89 l0 x8_1).f0]) := ⟨_, rfl⟩
           replace H : (conf_accounts.l0 k1 l0 y132 l0 (l0.length : Int) (wrap64 (x8_1 + 1))) = some r := by first | (rw [hy132]; with_reducible exact H) | (have H2_ := (Option.bind_some _ _).symm.trans H; rw [hy132]; with_reducible exact H2_) | (have H2_ := (Option.bind_some _ _).symm.trans H; with_reducible exact H2_) | with_reducible exact H | (rw [hy132]; exact H) | exact H
           have Ny132 := Aside0.mk hy132
           clear hy132
           have H' := Aside0.mk H
           clear H
           have p128 : 0 ≤ (x8_1 : Int) := of_decide_eq_true (by first | (with_reducible assumption) | assumption)
           have q128 : x8_1 < (l0.length : Int) := of_decide_eq_true (by first | (with_reducible assumption) | assumption)
           obtain ⟨ad128, e128, hx128_0, hx128_1, hx128_2⟩ := at_T89 HR0.out x8_1 p128 q128
           cases e128
           replace hx128_0 := (HB.out.cell (World.block_lt_of_cell? w _ hx128_0)).trans hx128_0
           replace hx128_1 := (HB.out.cell (World.block_lt_of_cell? w _ hx128_1)).trans hx128_1
           replace hx128_2 := (HB.out.cell (World.block_lt_of_cell? w _ hx128_2)).trans hx128_2
           replace p128 := eq_true p128
           replace q128 := eq_true q128
           go_wp2_with (first | ((with_reducible refine gate_dst (N := 5) rfl ?_); refine box_event ?hg (N := 5) ?hd (cs := #[.string (⟨#[]⟩ : ByteArray), .string (⟨#[]⟩ : ByteArray), .int .i64 0]) (t := 89) ?hr ?_; (case hd => rfl); (case hg => rfl); (case hr => first | (go_simp; done) | (go_simp; rfl)); intro gb129 hg w14 hbox hb; have n0_ := Aside0.mk (Kd.R_below (by (with_reducible repeat (first | apply Kd.R_alloc | apply Kd.R_drewN | apply Kd.R_drew)); exact HO_3.out) hb); have n1_ := Aside0.mk (below_step (by repeat (first | (with_reducible first | exact HB.out | apply below_alloc | apply pw_below_drewN | apply below_drew1) | exact HB.out)) hb); have n2_ := Aside0.mk (hbox); have n3_ := Aside0.mk ((by rw [hg]; exact (below_size (by repeat (first | (with_reducible first | exact HB.out | apply below_alloc | apply pw_below_drewN | apply below_drew1) | exact HB.out))) : w.heap.size ≤ gb129)); have n4_ := Aside0.mk ((by rw [hg]; exact (below_size (by repeat (first | (with_reducible first | exact HB.out | apply below_alloc | apply pw_below_drewN | apply below_drew1) | exact HB.out))) : w.heap.size ≤ gb129)); clear HO_3; clear HB; have HO_3 := n0_; have HB := n1_; have BK129 := n2_; have GW129 := n3_; have GE129 := n4_; clear n0_ n1_ n2_ n3_ n4_; clear hb hbox hg; have hcz15_0 : w14.cell? ⟨gb129, 0, none⟩ = some (.string (⟨#[]⟩ : ByteArray)) := (blk_cell BK129.out 0).trans rfl; have hcz15_1 : w14.cell? ⟨gb129, 1, none⟩ = some (.string (⟨#[]⟩ : ByteArray)) := (blk_cell BK129.out 1).trans rfl; have hcz15_2 : w14.cell? ⟨gb129, 2, none⟩ = some (.int .i64 0) := (blk_cell BK129.out 2).trans rfl; have hfz15_0 := blk_frozen BK129.out 0; have hfz15_1 := blk_frozen BK129.out 1; have hfz15_2 := blk_frozen BK129.out 2) | ((with_reducible refine gate_callee (f := 48) rfl ?_); refine goesL_ (some 15) rfl rfl Tryd.func48 (by kernel_rfl) rfl #[.int .i64 ((rd_T89 l0 x8_1).f2), .int .i64 1, .int .i64 1048576] rfl (by (try simp only [List.map_toArray, List.map_cons, List.map_nil]); first | done | rfl | (simp only [List.length_drop, List.length_take]; rfl)) ?_; (with_reducible refine (conf_in.calls ((rd_T89 l0 x8_1).f2) 1 1048576 true _ A5.out).mono ?_); rintro e w' ⟨rfl, ⟨nd, rfl⟩⟩; refine ⟨_, rfl, ?_⟩; obtain ⟨Ao16, co16, eo16⟩ := Kd.R_slice HO_3.out; subst eo16) | (go_at_call 72; (with_reducible refine (slices_Contains_string_string.calls k1 _ _ x3_1 ((rd_T89 l0 x8_1).f1) true _ ?side1 ?side2 A11.out).mono ?_); (case side1 => refine (Kd.R_reads' (e := 9) (base := w.heap.size) (ok := fun k_ => True) (n := x3_1.length) (c := co16) ?_).2.2; exact (by (with_reducible repeat (first | apply Kd.R_alloc | apply Kd.R_drewN | apply Kd.R_drew)); exact (Kd.R_mono (Kd.R_far (p := ⟨gb129, 2, none⟩) (Kd.R_far (p := ⟨gb129, 1, none⟩) (Kd.R_far (p := ⟨gb129, 0, none⟩) (Kd.R_types HO_3.out BK129.out (by decide)) (fun _ hk => hk.2) (.string ((rd_T89 l0 x8_1).f0))) (fun _ hk => hk.2) (.string ((rd_T89 l0 x8_1).f1))) (fun _ hk => hk.2) (.int .i64 ((rd_T89 l0 x8_1).f2))) (fun _ h_ => h_.1)))); (case side2 => exact (Kd.R_reads' HO_3.out).2.1); rintro e w' ⟨rfl, ⟨nd, rfl⟩⟩) | ((with_reducible refine gate_builtin (b := .append) (xs := #[.tmp 36, .tmp 39]) rfl ?_); at_builtin; refine Kd.R_append Kd.string (w0 := w) w.heap.size rfl (.tmp 36) (.tmp 39) 131 9 (.string ⟨#[]⟩) 16 rfl Tryd.underlying131 info9 rfl (by decide) (by omega) (.slice Ao16 x3_1.length co16) x3_1 ((rd_T89 l0 x8_1).f0) [.string ((rd_T89 l0 x8_1).f0)] (fun _ => True) (fun _ => False) rfl (by first | (go_simp; done) | (go_simp; rfl)) ?aP (fun _ hk => hk.elim) ?aF ?aO ?aB ?aS ?aL ?_; (case aP => exact rfl); (case aB => exact (by repeat (first | (with_reducible first | exact HB.out | apply below_alloc | apply pw_below_drewN | apply below_drew1 | refine below_set ?_ GE129.out) | exact HB.out))); (case aF => exact (fun _ _ => trivial)); (case aO => exact (by (with_reducible repeat (first | apply Kd.R_alloc | apply Kd.R_drewN | apply Kd.R_drew)); exact Kd.R_mono (Kd.R_far (p := ⟨gb129, 2, none⟩) (Kd.R_far (p := ⟨gb129, 1, none⟩) (Kd.R_far (p := ⟨gb129, 0, none⟩) (Kd.R_types HO_3.out BK129.out (by decide)) (fun _ hk => hk.2) (.string ((rd_T89 l0 x8_1).f0))) (fun _ hk => hk.2) (.string ((rd_T89 l0 x8_1).f1))) (fun _ hk => hk.2) (.int .i64 ((rd_T89 l0 x8_1).f2))) (fun _ hk => trivial))); (case aS => exact (below_size (by repeat (first | (with_reducible first | exact HB.out | apply below_alloc | apply pw_below_drewN | apply below_drew1 | refine below_set ?_ GE129.out) | exact HB.out)))); (case aL => have := LMc13.out; omega); intro v133 w17 ho hb hg hat; rw [← Ny132.out] at ho; have n0_ := Aside0.mk (blk_grown (g := gb129) (o := .cells #[.string ((rd_T89 l0 x8_1).f0), .string ((rd_T89 l0 x8_1).f1), .int .i64 ((rd_T89 l0 x8_1).f2)] 89 (0, 0)) (by (with_reducible repeat (first | refine blk_drewN ?_ _ | refine blk_drew ?_ | refine blk_alloc ?_ _)); refine blk_put (cs := #[.string ((rd_T89 l0 x8_1).f0), .string ((rd_T89 l0 x8_1).f1), .int .i64 0]) ?_ 2 _ rfl; (with_reducible repeat (first | refine blk_drewN ?_ _ | refine blk_drew ?_ | refine blk_alloc ?_ _)); refine blk_put (cs := #[.string ((rd_T89 l0 x8_1).f0), .string (⟨#[]⟩ : ByteArray), .int .i64 0]) ?_ 1 _ rfl; (with_reducible repeat (first | refine blk_drewN ?_ _ | refine blk_drew ?_ | refine blk_alloc ?_ _)); refine blk_put (cs := #[.string (⟨#[]⟩ : ByteArray), .string (⟨#[]⟩ : ByteArray), .int .i64 0]) ?_ 0 _ rfl; (with_reducible repeat (first | refine blk_drewN ?_ _ | refine blk_drew ?_ | refine blk_alloc ?_ _)); exact BK129.out) hg (Kd.R_ne HO_3.out BK129.out (by decide))); have n1_ := Aside0.mk (hb); have n2_ := Aside0.mk (ho); clear BK129; clear HB; clear HO_3; have BK129 := n0_; have HB := n1_; have HO134 := n2_; clear n0_ n1_ n2_; clear ho hb hg hat))
           go_roundg k1
           case measure => have := HK1.out; omega
           case rel => exact ⟨(y132), (wrap64 (x8_1 + 1)), (by first | rfl | (simp; done) | (simp [*]; done)), H', ⟨by have := HK1.out; omega⟩, ⟨by (with_reducible repeat (first | apply Kd.R_alloc | apply Kd.R_drewN | apply Kd.R_drew)); exact HO134.out⟩, ⟨by repeat (first | (with_reducible first | exact HB.out | apply below_alloc | apply pw_below_drewN | apply below_drew1 | refine below_set ?_ GE129.out) | exact HB.out)⟩⟩
          ·rw [if_neg c13] at H
           exact absurd H (by simp)
         ·replace c12 := Bool.eq_false_iff.mpr c12
          subst c12
          have H1 : (some false) = some r := by rw [if_neg (show ¬ (false = true) by decide)] at H; exact H
          clear H
          have H := H1
          clear H1
          obtain rfl := Option.some.inj H
          have p128 : 0 ≤ (x8_1 : Int) := of_decide_eq_true (by first | (with_reducible assumption) | assumption)
          have q128 : x8_1 < (l0.length : Int) := of_decide_eq_true (by first | (with_reducible assumption) | assumption)
          obtain ⟨ad128, e128, hx128_0, hx128_1, hx128_2⟩ := at_T89 HR0.out x8_1 p128 q128
          cases e128
          replace hx128_0 := (HB.out.cell (World.block_lt_of_cell? w _ hx128_0)).trans hx128_0
          replace hx128_1 := (HB.out.cell (World.block_lt_of_cell? w _ hx128_1)).trans hx128_1
          replace hx128_2 := (HB.out.cell (World.block_lt_of_cell? w _ hx128_2)).trans hx128_2
          replace p128 := eq_true p128
          replace q128 := eq_true q128
          go_wp2_with (first | ((with_reducible refine gate_dst (N := 5) rfl ?_); refine box_event ?hg (N := 5) ?hd (cs := #[.string (⟨#[]⟩ : ByteArray), .string (⟨#[]⟩ : ByteArray), .int .i64 0]) (t := 89) ?hr ?_; (case hd => rfl); (case hg => rfl); (case hr => first | (go_simp; done) | (go_simp; rfl)); intro gb129 hg w18 hbox hb; have n0_ := Aside0.mk (Kd.R_below (by (with_reducible repeat (first | apply Kd.R_alloc | apply Kd.R_drewN | apply Kd.R_drew)); exact HO_3.out) hb); have n1_ := Aside0.mk (below_step (by repeat (first | (with_reducible first | exact HB.out | apply below_alloc | apply pw_below_drewN | apply below_drew1) | exact HB.out)) hb); have n2_ := Aside0.mk (hbox); have n3_ := Aside0.mk ((by rw [hg]; exact (below_size (by repeat (first | (with_reducible first | exact HB.out | apply below_alloc | apply pw_below_drewN | apply below_drew1) | exact HB.out))) : w.heap.size ≤ gb129)); have n4_ := Aside0.mk ((by rw [hg]; exact (below_size (by repeat (first | (with_reducible first | exact HB.out | apply below_alloc | apply pw_below_drewN | apply below_drew1) | exact HB.out))) : w.heap.size ≤ gb129)); clear HO_3; clear HB; have HO_3 := n0_; have HB := n1_; have BK129 := n2_; have GW129 := n3_; have GE129 := n4_; clear n0_ n1_ n2_ n3_ n4_; clear hb hbox hg; have hcz19_0 : w18.cell? ⟨gb129, 0, none⟩ = some (.string (⟨#[]⟩ : ByteArray)) := (blk_cell BK129.out 0).trans rfl; have hcz19_1 : w18.cell? ⟨gb129, 1, none⟩ = some (.string (⟨#[]⟩ : ByteArray)) := (blk_cell BK129.out 1).trans rfl; have hcz19_2 : w18.cell? ⟨gb129, 2, none⟩ = some (.int .i64 0) := (blk_cell BK129.out 2).trans rfl; have hfz19_0 := blk_frozen BK129.out 0; have hfz19_1 := blk_frozen BK129.out 1; have hfz19_2 := blk_frozen BK129.out 2) | ((with_reducible refine gate_callee (f := 48) rfl ?_); refine goesL_ (some 15) rfl rfl Tryd.func48 (by kernel_rfl) rfl #[.int .i64 ((rd_T89 l0 x8_1).f2), .int .i64 1, .int .i64 1048576] rfl (by (try simp only [List.map_toArray, List.map_cons, List.map_nil]); first | done | rfl | (simp only [List.length_drop, List.length_take]; rfl)) ?_; (with_reducible refine (conf_in.calls ((rd_T89 l0 x8_1).f2) 1 1048576 true _ A5.out).mono ?_); rintro e w' ⟨rfl, ⟨nd, rfl⟩⟩; refine ⟨_, rfl, ?_⟩; obtain ⟨Ao20, co20, eo20⟩ := Kd.R_slice HO_3.out; subst eo20) | (go_at_call 72; (with_reducible refine (slices_Contains_string_string.calls k1 _ _ x3_1 ((rd_T89 l0 x8_1).f1) false _ ?side1 ?side2 A11.out).mono ?_); (case side1 => refine (Kd.R_reads' (e := 9) (base := w.heap.size) (ok := fun k_ => True) (n := x3_1.length) (c := co20) ?_).2.2; exact (by (with_reducible repeat (first | apply Kd.R_alloc | apply Kd.R_drewN | apply Kd.R_drew)); exact (Kd.R_mono (Kd.R_far (p := ⟨gb129, 2, none⟩) (Kd.R_far (p := ⟨gb129, 1, none⟩) (Kd.R_far (p := ⟨gb129, 0, none⟩) (Kd.R_types HO_3.out BK129.out (by decide)) (fun _ hk => hk.2) (.string ((rd_T89 l0 x8_1).f0))) (fun _ hk => hk.2) (.string ((rd_T89 l0 x8_1).f1))) (fun _ hk => hk.2) (.int .i64 ((rd_T89 l0 x8_1).f2))) (fun _ h_ => h_.1)))); (case side2 => exact (Kd.R_reads' HO_3.out).2.1); rintro e w' ⟨rfl, ⟨nd, rfl⟩⟩))
          go_ret
          exact ⟨by first | rfl | (simp [errW_none, errW_some] <;> rfl) | (simp [*, errW_none, errW_some] <;> rfl), by repeat (first | (with_reducible first | exact HB.out | apply below_alloc | apply pw_below_drewN | apply below_drew1 | refine below_set ?_ GE129.out) | exact HB.out)⟩
        ·rw [if_neg c10] at H
         have c10b0 : decide (0 < x8_1) = false := decide_eq_false c10
         clear c10
         by_cases c21 : x3_1.length < 8796093022208
         ·rw [if_pos c21] at H
          have LMc21 := Aside0.mk c21
          clear c21
          obtain ⟨y135, hy135⟩ : ∃ y_ : List ByteArray, y_ = (x3_1 ++ [(rd_T89 l0 x8_1).f0]) := ⟨_, rfl⟩
          replace H : (conf_accounts.l0 k1 l0 y135 l0 (l0.length : Int) (wrap64 (x8_1 + 1))) = some r := by first | (rw [hy135]; with_reducible exact H) | (have H2_ := (Option.bind_some _ _).symm.trans H; rw [hy135]; with_reducible exact H2_) | (have H2_ := (Option.bind_some _ _).symm.trans H; with_reducible exact H2_) | with_reducible exact H | (rw [hy135]; exact H) | exact H
          have Ny135 := Aside0.mk hy135
          clear hy135
          have H' := Aside0.mk H
          clear H
          have p128 : 0 ≤ (x8_1 : Int) := of_decide_eq_true (by first | (with_reducible assumption) | assumption)
          have q128 : x8_1 < (l0.length : Int) := of_decide_eq_true (by first | (with_reducible assumption) | assumption)
          obtain ⟨ad128, e128, hx128_0, hx128_1, hx128_2⟩ := at_T89 HR0.out x8_1 p128 q128
          cases e128
          replace hx128_0 := (HB.out.cell (World.block_lt_of_cell? w _ hx128_0)).trans hx128_0
          replace hx128_1 := (HB.out.cell (World.block_lt_of_cell? w _ hx128_1)).trans hx128_1
          replace hx128_2 := (HB.out.cell (World.block_lt_of_cell? w _ hx128_2)).trans hx128_2
          replace p128 := eq_true p128
          replace q128 := eq_true q128
          go_wp2_with (first | ((with_reducible refine gate_dst (N := 5) rfl ?_); refine box_event ?hg (N := 5) ?hd (cs := #[.string (⟨#[]⟩ : ByteArray), .string (⟨#[]⟩ : ByteArray), .int .i64 0]) (t := 89) ?hr ?_; (case hd => rfl); (case hg => rfl); (case hr => first | (go_simp; done) | (go_simp; rfl)); intro gb129 hg w22 hbox hb; have n0_ := Aside0.mk (Kd.R_below (by (with_reducible repeat (first | apply Kd.R_alloc | apply Kd.R_drewN | apply Kd.R_drew)); exact HO_3.out) hb); have n1_ := Aside0.mk (below_step (by repeat (first | (with_reducible first | exact HB.out | apply below_alloc | apply pw_below_drewN | apply below_drew1) | exact HB.out)) hb); have n2_ := Aside0.mk (hbox); have n3_ := Aside0.mk ((by rw [hg]; exact (below_size (by repeat (first | (with_reducible first | exact HB.out | apply below_alloc | apply pw_below_drewN | apply below_drew1) | exact HB.out))) : w.heap.size ≤ gb129)); have n4_ := Aside0.mk ((by rw [hg]; exact (below_size (by repeat (first | (with_reducible first | exact HB.out | apply below_alloc | apply pw_below_drewN | apply below_drew1) | exact HB.out))) : w.heap.size ≤ gb129)); clear HO_3; clear HB; have HO_3 := n0_; have HB := n1_; have BK129 := n2_; have GW129 := n3_; have GE129 := n4_; clear n0_ n1_ n2_ n3_ n4_; clear hb hbox hg; have hcz23_0 : w22.cell? ⟨gb129, 0, none⟩ = some (.string (⟨#[]⟩ : ByteArray)) := (blk_cell BK129.out 0).trans rfl; have hcz23_1 : w22.cell? ⟨gb129, 1, none⟩ = some (.string (⟨#[]⟩ : ByteArray)) := (blk_cell BK129.out 1).trans rfl; have hcz23_2 : w22.cell? ⟨gb129, 2, none⟩ = some (.int .i64 0) := (blk_cell BK129.out 2).trans rfl; have hfz23_0 := blk_frozen BK129.out 0; have hfz23_1 := blk_frozen BK129.out 1; have hfz23_2 := blk_frozen BK129.out 2) | ((with_reducible refine gate_callee (f := 48) rfl ?_); refine goesL_ (some 15) rfl rfl Tryd.func48 (by kernel_rfl) rfl #[.int .i64 ((rd_T89 l0 x8_1).f2), .int .i64 1, .int .i64 1048576] rfl (by (try simp only [List.map_toArray, List.map_cons, List.map_nil]); first | done | rfl | (simp only [List.length_drop, List.length_take]; rfl)) ?_; (with_reducible refine (conf_in.calls ((rd_T89 l0 x8_1).f2) 1 1048576 true _ A5.out).mono ?_); rintro e w' ⟨rfl, ⟨nd, rfl⟩⟩; refine ⟨_, rfl, ?_⟩) | ((with_reducible refine gate_builtin (b := .append) (xs := #[.tmp 36, .tmp 39]) rfl ?_); at_builtin; refine Kd.R_append Kd.string (w0 := w) w.heap.size rfl (.tmp 36) (.tmp 39) 131 9 (.string ⟨#[]⟩) 16 rfl Tryd.underlying131 info9 rfl (by decide) (by omega) u3 x3_1 ((rd_T89 l0 x8_1).f0) [.string ((rd_T89 l0 x8_1).f0)] (fun _ => True) (fun _ => False) rfl (by first | (go_simp; done) | (go_simp; rfl)) ?aP (fun _ hk => hk.elim) ?aF ?aO ?aB ?aS ?aL ?_; (case aP => exact rfl); (case aB => exact (by repeat (first | (with_reducible first | exact HB.out | apply below_alloc | apply pw_below_drewN | apply below_drew1 | refine below_set ?_ GE129.out) | exact HB.out))); (case aF => exact (fun _ _ => trivial)); (case aO => exact (by (with_reducible repeat (first | apply Kd.R_alloc | apply Kd.R_drewN | apply Kd.R_drew)); exact Kd.R_mono (Kd.R_far (p := ⟨gb129, 2, none⟩) (Kd.R_far (p := ⟨gb129, 1, none⟩) (Kd.R_far (p := ⟨gb129, 0, none⟩) (Kd.R_types HO_3.out BK129.out (by decide)) (fun _ hk => hk.2) (.string ((rd_T89 l0 x8_1).f0))) (fun _ hk => hk.2) (.string ((rd_T89 l0 x8_1).f1))) (fun _ hk => hk.2) (.int .i64 ((rd_T89 l0 x8_1).f2))) (fun _ hk => trivial))); (case aS => exact (below_size (by repeat (first | (with_reducible first | exact HB.out | apply below_alloc | apply pw_below_drewN | apply below_drew1 | refine below_set ?_ GE129.out) | exact HB.out)))); (case aL => have := LMc21.out; omega); intro v136 w24 ho hb hg hat; rw [← Ny135.out] at ho; have n0_ := Aside0.mk (blk_grown (g := gb129) (o := .cells #[.string ((rd_T89 l0 x8_1).f0), .string ((rd_T89 l0 x8_1).f1), .int .i64 ((rd_T89 l0 x8_1).f2)] 89 (0, 0)) (by (with_reducible repeat (first | refine blk_drewN ?_ _ | refine blk_drew ?_ | refine blk_alloc ?_ _)); refine blk_put (cs := #[.string ((rd_T89 l0 x8_1).f0), .string ((rd_T89 l0 x8_1).f1), .int .i64 0]) ?_ 2 _ rfl; (with_reducible repeat (first | refine blk_drewN ?_ _ | refine blk_drew ?_ | refine blk_alloc ?_ _)); refine blk_put (cs := #[.string ((rd_T89 l0 x8_1).f0), .string (⟨#[]⟩ : ByteArray), .int .i64 0]) ?_ 1 _ rfl; (with_reducible repeat (first | refine blk_drewN ?_ _ | refine blk_drew ?_ | refine blk_alloc ?_ _)); refine blk_put (cs := #[.string (⟨#[]⟩ : ByteArray), .string (⟨#[]⟩ : ByteArray), .int .i64 0]) ?_ 0 _ rfl; (with_reducible repeat (first | refine blk_drewN ?_ _ | refine blk_drew ?_ | refine blk_alloc ?_ _)); exact BK129.out) hg (Kd.R_ne HO_3.out BK129.out (by decide))); have n1_ := Aside0.mk (hb); have n2_ := Aside0.mk (ho); clear BK129; clear HB; clear HO_3; have BK129 := n0_; have HB := n1_; have HO137 := n2_; clear n0_ n1_ n2_; clear ho hb hg hat))
          go_roundg k1
          case measure => have := HK1.out; omega
          case rel => exact ⟨(y135), (wrap64 (x8_1 + 1)), (by first | rfl | (simp; done) | (simp [*]; done)), H', ⟨by have := HK1.out; omega⟩, ⟨by (with_reducible repeat (first | apply Kd.R_alloc | apply Kd.R_drewN | apply Kd.R_drew)); exact HO137.out⟩, ⟨by repeat (first | (with_reducible first | exact HB.out | apply below_alloc | apply pw_below_drewN | apply below_drew1 | refine below_set ?_ GE129.out) | exact HB.out)⟩⟩
         ·rw [if_neg c21] at H
          exact absurd H (by simp)
      ·replace c6 := Bool.eq_false_iff.mpr c6
       subst c6
       have H1 : (some false) = some r := by rw [if_neg (show ¬ (false = true) by decide)] at H; exact H
       clear H
       have H := H1
       clear H1
       obtain rfl := Option.some.inj H
       have p128 : 0 ≤ (x8_1 : Int) := of_decide_eq_true (by first | (with_reducible assumption) | assumption)
       have q128 : x8_1 < (l0.length : Int) := of_decide_eq_true (by first | (with_reducible assumption) | assumption)
       obtain ⟨ad128, e128, hx128_0, hx128_1, hx128_2⟩ := at_T89 HR0.out x8_1 p128 q128
       cases e128
       replace hx128_0 := (HB.out.cell (World.block_lt_of_cell? w _ hx128_0)).trans hx128_0
       replace hx128_1 := (HB.out.cell (World.block_lt_of_cell? w _ hx128_1)).trans hx128_1
       replace hx128_2 := (HB.out.cell (World.block_lt_of_cell? w _ hx128_2)).trans hx128_2
       replace p128 := eq_true p128
       replace q128 := eq_true q128
       go_wp2_with (first | ((with_reducible refine gate_dst (N := 5) rfl ?_); refine box_event ?hg (N := 5) ?hd (cs := #[.string (⟨#[]⟩ : ByteArray), .string (⟨#[]⟩ : ByteArray), .int .i64 0]) (t := 89) ?hr ?_; (case hd => rfl); (case hg => rfl); (case hr => first | (go_simp; done) | (go_simp; rfl)); intro gb129 hg w25 hbox hb; have n0_ := Aside0.mk (Kd.R_below (by (with_reducible repeat (first | apply Kd.R_alloc | apply Kd.R_drewN | apply Kd.R_drew)); exact HO_3.out) hb); have n1_ := Aside0.mk (below_step (by repeat (first | (with_reducible first | exact HB.out | apply below_alloc | apply pw_below_drewN | apply below_drew1) | exact HB.out)) hb); have n2_ := Aside0.mk (hbox); have n3_ := Aside0.mk ((by rw [hg]; exact (below_size (by repeat (first | (with_reducible first | exact HB.out | apply below_alloc | apply pw_below_drewN | apply below_drew1) | exact HB.out))) : w.heap.size ≤ gb129)); have n4_ := Aside0.mk ((by rw [hg]; exact (below_size (by repeat (first | (with_reducible first | exact HB.out | apply below_alloc | apply pw_below_drewN | apply below_drew1) | exact HB.out))) : w.heap.size ≤ gb129)); clear HO_3; clear HB; have HO_3 := n0_; have HB := n1_; have BK129 := n2_; have GW129 := n3_; have GE129 := n4_; clear n0_ n1_ n2_ n3_ n4_; clear hb hbox hg; have hcz26_0 : w25.cell? ⟨gb129, 0, none⟩ = some (.string (⟨#[]⟩ : ByteArray)) := (blk_cell BK129.out 0).trans rfl; have hcz26_1 : w25.cell? ⟨gb129, 1, none⟩ = some (.string (⟨#[]⟩ : ByteArray)) := (blk_cell BK129.out 1).trans rfl; have hcz26_2 : w25.cell? ⟨gb129, 2, none⟩ = some (.int .i64 0) := (blk_cell BK129.out 2).trans rfl; have hfz26_0 := blk_frozen BK129.out 0; have hfz26_1 := blk_frozen BK129.out 1; have hfz26_2 := blk_frozen BK129.out 2) | ((with_reducible refine gate_callee (f := 48) rfl ?_); refine goesL_ (some 15) rfl rfl Tryd.func48 (by kernel_rfl) rfl #[.int .i64 ((rd_T89 l0 x8_1).f2), .int .i64 1, .int .i64 1048576] rfl (by (try simp only [List.map_toArray, List.map_cons, List.map_nil]); first | done | rfl | (simp only [List.length_drop, List.length_take]; rfl)) ?_; (with_reducible refine (conf_in.calls ((rd_T89 l0 x8_1).f2) 1 1048576 false _ A5.out).mono ?_); rintro e w' ⟨rfl, ⟨nd, rfl⟩⟩; refine ⟨_, rfl, ?_⟩))
       go_ret
       exact ⟨by first | rfl | (simp [errW_none, errW_some] <;> rfl) | (simp [*, errW_none, errW_some] <;> rfl), by repeat (first | (with_reducible first | exact HB.out | apply below_alloc | apply pw_below_drewN | apply below_drew1 | refine below_set ?_ GE129.out) | exact HB.out)⟩
     ·rw [if_neg c4] at H
      exact absurd H (by simp)
    ·rw [if_neg c3] at H
     exact absurd H (by simp)
   ·rw [if_neg c2] at H
    have c2b0 : decide (x8_1 < (l0.length : Int)) = false := decide_eq_false c2
    clear c2
    replace H := Option.bind_eq_some_iff.mp H
    obtain ⟨t126, A270, H⟩ := H
    replace H : (if t126 = true then ((conf_names.f k1 x3_1).bind fun t127 => (some t127)) else (some false)) = some r := H
    have A27 := Aside0.mk A270
    clear A270
    by_cases c28 : t126 = true
    ·subst c28
     have H1 : ((conf_names.f k1 x3_1).bind fun t127 => (some t127)) = some r := by rw [if_pos rfl] at H; exact H
     clear H
     have H := H1
     clear H1
     replace H := Option.bind_eq_some_iff.mp H
     obtain ⟨t127, A290, H⟩ := H
     replace H : (some t127) = some r := H
     have A29 := Aside0.mk A290
     clear A290
     obtain rfl := Option.some.inj H
     go_wp2_with (first | ((with_reducible refine gate_callee (f := 48) rfl ?_); refine goesL_ (some 44) rfl rfl Tryd.func48 (by kernel_rfl) rfl #[.int .i64 (l0.length : Int), .int .i64 1, .int .i64 50] rfl (by (try simp only [List.map_toArray, List.map_cons, List.map_nil]); first | done | rfl | (simp only [List.length_drop, List.length_take]; rfl)) ?_; (with_reducible refine (conf_in.calls (l0.length : Int) 1 50 true _ A27.out).mono ?_); rintro e w' ⟨rfl, ⟨nd, rfl⟩⟩; refine ⟨_, rfl, ?_⟩; obtain ⟨Ao30, co30, eo30⟩ := Kd.R_slice HO_3.out; subst eo30) | (go_at_call 71; (with_reducible refine (conf_names.calls k1 _ _ x3_1 t127 _ ?side1 ?side2 ?side3 A29.out).mono ?_); (case side1 => exact Glob.below HG.out (by repeat (first | (with_reducible first | exact HB.out | apply below_alloc | apply pw_below_drewN | apply below_drew1) | exact HB.out))); (case side2 => repeat (first | exact (Kd.R_reads' HO_3.out).2.2 | (with_reducible refine Kd.C_alloc ?_ _) | (with_reducible refine Kd.C_drewN ?_ _) | (with_reducible refine Kd.C_drew ?_))); (case side3 => exact (Kd.R_reads' HO_3.out).2.1); rintro e w31 ⟨rfl, hb⟩; have n0_ := Aside0.mk (Kd.R_below (by (with_reducible repeat (first | apply Kd.R_alloc | apply Kd.R_drewN | apply Kd.R_drew)); exact HO_3.out) hb); have n1_ := Aside0.mk (below_step (by repeat (first | (with_reducible first | exact HB.out | apply below_alloc | apply pw_below_drewN | apply below_drew1) | exact HB.out)) hb); clear HO_3; clear HB; have HO_3 := n0_; have HB := n1_; clear n0_ n1_; (try clear hb); (try clear hb2); (try clear hk); (try clear hi)))
     go_ret
     exact ⟨by first | rfl | (simp [errW_none, errW_some] <;> rfl) | (simp [*, errW_none, errW_some] <;> rfl), by repeat (first | (with_reducible first | exact HB.out | apply below_alloc | apply pw_below_drewN | apply below_drew1) | exact HB.out)⟩
    ·replace c28 := Bool.eq_false_iff.mpr c28
     subst c28
     have H1 : (some false) = some r := by rw [if_neg (show ¬ (false = true) by decide)] at H; exact H
     clear H
     have H := H1
     clear H1
     obtain rfl := Option.some.inj H
     go_wp2_with (first | ((with_reducible refine gate_callee (f := 48) rfl ?_); refine goesL_ (some 44) rfl rfl Tryd.func48 (by kernel_rfl) rfl #[.int .i64 (l0.length : Int), .int .i64 1, .int .i64 50] rfl (by (try simp only [List.map_toArray, List.map_cons, List.map_nil]); first | done | rfl | (simp only [List.length_drop, List.length_take]; rfl)) ?_; (with_reducible refine (conf_in.calls (l0.length : Int) 1 50 false _ A27.out).mono ?_); rintro e w' ⟨rfl, ⟨nd, rfl⟩⟩; refine ⟨_, rfl, ?_⟩))
     go_ret
     exact ⟨by first | rfl | (simp [errW_none, errW_some] <;> rfl) | (simp [*, errW_none, errW_some] <;> rfl), by repeat (first | (with_reducible first | exact HB.out | apply below_alloc | apply pw_below_drewN | apply below_drew1) | exact HB.out)⟩
def inB (n lo hi : Int) : Bool := decide (lo ≤ n) && decide (n ≤ hi)
def conf_Check.f (k : Nat) (a0 a1 a2 a3 a4 a5 a6 a7 a8 : Int) (l9 : List S85) (l10 : List S87) (l11 : List S89) : Option Int :=
 if inB a4 0 1048576 = true ∧ inB a5 0 1048576 = true ∧ inB a6 0 1048576 = true ∧ inB a7 0 1048576 = true ∧ inB a8 0 1048576 = true then
  (if inB a0 1 4 = true ∧ inB a1 1 4294967296 = true ∧ inB a2 1 1073741824 = true ∧ inB a3 0 100 = true then
   (conf_parts.f k l9).bind fun p => if p = true then ((conf_classes.f k l10).bind fun q => if q = true then ((conf_accounts.f k l11).bind fun t => some (if t = true then 0 else 100)) else some 100) else some 100
  else some 100)
 else some 100
theorem conf_in_eq (n lo hi : Int) : conf_in.f n lo hi = some (inB n lo hi) := by
 unfold conf_in.f inB
 by_cases h : n ≥ lo
 ·rw [if_pos h, decide_eq_true (show lo ≤ n from h)]; rfl
 ·rw [if_neg h, decide_eq_false (show ¬ lo ≤ n from h)]; rfl
theorem run_index61 (cs : Array Value) (z : Int) (j : Nat) (hz : z = (j : Int)) (u : Value) (h : cs[j]? = some u) (hs : cs.size = 5) (w : World) : (Instr.index 108 (.agg cs) (.int .i64 z)).run Tryd.prog w = .ok u w := by
 subst hz
 have hj : j < cs.size := (Array.getElem?_eq_some_iff.1 h).1
 unfold Instr.index
 have h1 : (j : Int) < 5 := by omega
 have h0 : (0 : Int) ≤ (j : Int) := by omega
 simp [asIntOf, asInt, part, h0, h1, h, hs, Result.andThen]
 intro h2
 omega
set_option maxHeartbeats 8000000 in
set_option maxRecDepth 1000000 in
theorem conf_Check.calls (k : Nat) (a0_0 : Int) (a0_1 : Int) (a0_2 : Int) (a0_3 : Int) (a0_4 : Int) (a0_5 : Int) (a0_6 : Int) (a0_7 : Int) (a0_8 : Int) (A0_9 : Option Addr) (c0_9 : Nat) (l0_9 : List (S85)) (A0_10 : Option Addr) (c0_10 : Nat) (l0_10 : List (S87)) (A0_11 : Option Addr) (c0_11 : Nat) (l0_11 : List (S89)) (r : Int) (w : World) (hG : Glob w) (hr0_9 : Kd.C k85 w A0_9 l0_9.length l0_9) (hc0_9 : l0_9.length ≤ c0_9) (hr0_10 : Kd.C k87 w A0_10 l0_10.length l0_10) (hc0_10 : l0_10.length ≤ c0_10) (hr0_11 : Kd.C k89 w A0_11 l0_11.length l0_11) (hc0_11 : l0_11.length ≤ c0_11) (h : conf_Check.f k a0_0 a0_1 a0_2 a0_3 a0_4 a0_5 a0_6 a0_7 a0_8 l0_9 l0_10 l0_11 = some r) :
 Calls Tryd.prog 31 #[.agg #[.int .i64 a0_0, .int .i64 a0_1, .int .i64 a0_2, .int .i64 a0_3, .int .i64 a0_4, .int .i64 a0_5, .int .i64 a0_6, .int .i64 a0_7, .int .i64 a0_8, .slice A0_9 l0_9.length c0_9, .slice A0_10 l0_10.length c0_10, .slice A0_11 l0_11.length c0_11]] w fun e w' => e = .returned (.int .i64 r) ∧ Below w.heap.size w w' := by
 have hu28 := Tryd.underlying32
 have hu23 := Tryd.underlying27
 have HG := Aside0.mk hG
 have HR9 := Aside0.mk hr0_9
 have HC9 := Aside0.mk hc0_9
 have HR10 := Aside0.mk hr0_10
 have HC10 := Aside0.mk hc0_10
 have HR11 := Aside0.mk hr0_11
 have HC11 := Aside0.mk hc0_11
 have HH := Aside0.mk h
 clear hG hr0_9 hc0_9 hr0_10 hc0_10 hr0_11 hc0_11 h
 go_enter Tryd.func31, Tryd.ntmps31
 have hsz2 : (w.alloc (.cells #[.int .i64 a0_0, .int .i64 a0_1, .int .i64 a0_2, .int .i64 a0_3, .int .i64 a0_4, .int .i64 a0_5, .int .i64 a0_6, .int .i64 a0_7, .int .i64 a0_8, .slice A0_9 l0_9.length c0_9, .slice A0_10 l0_10.length c0_10, .slice A0_11 l0_11.length c0_11] 32)).heap.size = w.heap.size + 1 := by
  show (w.heap.push _).size = w.heap.size + 1
  rw [Array.size_push]
 go_wp2
 go_loopg [19] 6 (fun gk s19 wr => ∃ i : Nat, s19 = .int .i64 i ∧ 6 = i + gk ∧ i ≤ 5 ∧ Aside0 ((0 < i → inB a0_4 0 1048576 = true) ∧ (1 < i → inB a0_5 0 1048576 = true) ∧ (2 < i → inB a0_6 0 1048576 = true) ∧ (3 < i → inB a0_7 0 1048576 = true) ∧ (4 < i → inB a0_8 0 1048576 = true)) ∧ wr.heap[w.heap.size]? = some (.cells #[.int .i64 a0_0, .int .i64 a0_1, .int .i64 a0_2, .int .i64 a0_3, .int .i64 a0_4, .int .i64 a0_5, .int .i64 a0_6, .int .i64 a0_7, .int .i64 a0_8, .slice A0_9 l0_9.length c0_9, .slice A0_10 l0_10.length c0_10, .slice A0_11 l0_11.length c0_11] 32 (0, 0)) ∧ Aside0 (Below w.heap.size w wr))
 case atStart =>
  exact ⟨0, rfl, by omega, by omega, ⟨by simp⟩, blk_alloc (blk_new w _) _, ⟨below_alloc (below_alloc (Below.refl _ _) _) _⟩⟩
 case round =>
  obtain ⟨i, rfl, hgk, hi5, HP, hblk, HB⟩ := hrel
  obtain ⟨gk, rfl⟩ : ∃ m, gk = m + 1 := ⟨gk - 1, by omega⟩
  have HBK := Aside0.mk hblk
  clear hblk
  rcases i with _ | _ | _ | _ | _ | _ | i
  ·obtain ⟨b, hb⟩ : ∃ b, inB a0_4 0 1048576 = b := ⟨_, rfl⟩
   have hix := run_index61 #[.int .i64 a0_4, .int .i64 a0_5, .int .i64 a0_6, .int .i64 a0_7, .int .i64 a0_8] 0 0 rfl (.int .i64 a0_4) rfl rfl wr
   have C := fun W => conf_in.calls a0_4 0 1048576 b W ((conf_in_eq a0_4 0 1048576).trans (congrArg some hb))
   cases b with
   | true =>
    go_wp2_with (first | (go_at_call 48; (with_reducible refine (C _).mono ?_); rintro e w2 ⟨rfl, ⟨nd, rfl⟩⟩))
    go_roundg gk
    case measure => exact Nat.lt_succ_self _
    case rel => exact ⟨1, rfl, by omega, by omega, ⟨by have := HP.out; simp_all⟩, HBK.out, ⟨pw_below_drewN HB.out _⟩⟩
   | false =>
    have hr : r = 100 := by
     have h := HH.out
     unfold conf_Check.f at h
     rw [if_neg (by rw [hb]; simp)] at h
     exact (Option.some.inj h).symm
    subst hr
    go_wp2_with (first | (go_at_call 48; (with_reducible refine (C _).mono ?_); rintro e w2 ⟨rfl, ⟨nd, rfl⟩⟩))
    go_ret
    exact ⟨rfl, pw_below_drewN HB.out _⟩
  ·obtain ⟨b, hb⟩ : ∃ b, inB a0_5 0 1048576 = b := ⟨_, rfl⟩
   have hix := run_index61 #[.int .i64 a0_4, .int .i64 a0_5, .int .i64 a0_6, .int .i64 a0_7, .int .i64 a0_8] 1 1 rfl (.int .i64 a0_5) rfl rfl wr
   have C := fun W => conf_in.calls a0_5 0 1048576 b W ((conf_in_eq a0_5 0 1048576).trans (congrArg some hb))
   cases b with
   | true =>
    go_wp2_with (first | (go_at_call 48; (with_reducible refine (C _).mono ?_); rintro e w2 ⟨rfl, ⟨nd, rfl⟩⟩))
    go_roundg gk
    case measure => exact Nat.lt_succ_self _
    case rel => exact ⟨2, rfl, by omega, by omega, ⟨by have := HP.out; simp_all⟩, HBK.out, ⟨pw_below_drewN HB.out _⟩⟩
   | false =>
    have hr : r = 100 := by
     have h := HH.out
     unfold conf_Check.f at h
     rw [if_neg (by rw [hb]; simp)] at h
     exact (Option.some.inj h).symm
    subst hr
    go_wp2_with (first | (go_at_call 48; (with_reducible refine (C _).mono ?_); rintro e w2 ⟨rfl, ⟨nd, rfl⟩⟩))
    go_ret
    exact ⟨rfl, pw_below_drewN HB.out _⟩
  ·obtain ⟨b, hb⟩ : ∃ b, inB a0_6 0 1048576 = b := ⟨_, rfl⟩
   have hix := run_index61 #[.int .i64 a0_4, .int .i64 a0_5, .int .i64 a0_6, .int .i64 a0_7, .int .i64 a0_8] 2 2 rfl (.int .i64 a0_6) rfl rfl wr
   have C := fun W => conf_in.calls a0_6 0 1048576 b W ((conf_in_eq a0_6 0 1048576).trans (congrArg some hb))
   cases b with
   | true =>
    go_wp2_with (first | (go_at_call 48; (with_reducible refine (C _).mono ?_); rintro e w2 ⟨rfl, ⟨nd, rfl⟩⟩))
    go_roundg gk
    case measure => exact Nat.lt_succ_self _
    case rel => exact ⟨3, rfl, by omega, by omega, ⟨by have := HP.out; simp_all⟩, HBK.out, ⟨pw_below_drewN HB.out _⟩⟩
   | false =>
    have hr : r = 100 := by
     have h := HH.out
     unfold conf_Check.f at h
     rw [if_neg (by rw [hb]; simp)] at h
     exact (Option.some.inj h).symm
    subst hr
    go_wp2_with (first | (go_at_call 48; (with_reducible refine (C _).mono ?_); rintro e w2 ⟨rfl, ⟨nd, rfl⟩⟩))
    go_ret
    exact ⟨rfl, pw_below_drewN HB.out _⟩
  ·obtain ⟨b, hb⟩ : ∃ b, inB a0_7 0 1048576 = b := ⟨_, rfl⟩
   have hix := run_index61 #[.int .i64 a0_4, .int .i64 a0_5, .int .i64 a0_6, .int .i64 a0_7, .int .i64 a0_8] 3 3 rfl (.int .i64 a0_7) rfl rfl wr
   have C := fun W => conf_in.calls a0_7 0 1048576 b W ((conf_in_eq a0_7 0 1048576).trans (congrArg some hb))
   cases b with
   | true =>
    go_wp2_with (first | (go_at_call 48; (with_reducible refine (C _).mono ?_); rintro e w2 ⟨rfl, ⟨nd, rfl⟩⟩))
    go_roundg gk
    case measure => exact Nat.lt_succ_self _
    case rel => exact ⟨4, rfl, by omega, by omega, ⟨by have := HP.out; simp_all⟩, HBK.out, ⟨pw_below_drewN HB.out _⟩⟩
   | false =>
    have hr : r = 100 := by
     have h := HH.out
     unfold conf_Check.f at h
     rw [if_neg (by rw [hb]; simp)] at h
     exact (Option.some.inj h).symm
    subst hr
    go_wp2_with (first | (go_at_call 48; (with_reducible refine (C _).mono ?_); rintro e w2 ⟨rfl, ⟨nd, rfl⟩⟩))
    go_ret
    exact ⟨rfl, pw_below_drewN HB.out _⟩
  ·obtain ⟨b, hb⟩ : ∃ b, inB a0_8 0 1048576 = b := ⟨_, rfl⟩
   have hix := run_index61 #[.int .i64 a0_4, .int .i64 a0_5, .int .i64 a0_6, .int .i64 a0_7, .int .i64 a0_8] 4 4 rfl (.int .i64 a0_8) rfl rfl wr
   have C := fun W => conf_in.calls a0_8 0 1048576 b W ((conf_in_eq a0_8 0 1048576).trans (congrArg some hb))
   cases b with
   | true =>
    go_wp2_with (first | (go_at_call 48; (with_reducible refine (C _).mono ?_); rintro e w2 ⟨rfl, ⟨nd, rfl⟩⟩))
    go_roundg gk
    case measure => exact Nat.lt_succ_self _
    case rel => exact ⟨5, rfl, by omega, by omega, ⟨by have := HP.out; simp_all⟩, HBK.out, ⟨pw_below_drewN HB.out _⟩⟩
   | false =>
    have hr : r = 100 := by
     have h := HH.out
     unfold conf_Check.f at h
     rw [if_neg (by rw [hb]; simp)] at h
     exact (Option.some.inj h).symm
    subst hr
    go_wp2_with (first | (go_at_call 48; (with_reducible refine (C _).mono ?_); rintro e w2 ⟨rfl, ⟨nd, rfl⟩⟩))
    go_ret
    exact ⟨rfl, pw_below_drewN HB.out _⟩
  ·clear hgk
   have hw : inB a0_4 0 1048576 = true ∧ inB a0_5 0 1048576 = true ∧ inB a0_6 0 1048576 = true ∧ inB a0_7 0 1048576 = true ∧ inB a0_8 0 1048576 = true := by
    have h := HP.out
    exact ⟨h.1 (by omega), h.2.1 (by omega), h.2.2.1 (by omega), h.2.2.2.1 (by omega), h.2.2.2.2 (by omega)⟩
   have h := HH.out
   unfold conf_Check.f at h
   rw [if_pos hw] at h
   clear hw HP HH
   have x0 : wr.cell? ⟨w.heap.size, 0, none⟩ = some (.int .i64 a0_0) := (blk_cell HBK.out 0).trans rfl
   have x1 : wr.cell? ⟨w.heap.size, 1, none⟩ = some (.int .i64 a0_1) := (blk_cell HBK.out 1).trans rfl
   have x2 : wr.cell? ⟨w.heap.size, 2, none⟩ = some (.int .i64 a0_2) := (blk_cell HBK.out 2).trans rfl
   have x3 : wr.cell? ⟨w.heap.size, 3, none⟩ = some (.int .i64 a0_3) := (blk_cell HBK.out 3).trans rfl
   have x9 : wr.cell? ⟨w.heap.size, 9, none⟩ = some (.slice A0_9 l0_9.length c0_9) := (blk_cell HBK.out 9).trans rfl
   have x10 : wr.cell? ⟨w.heap.size, 10, none⟩ = some (.slice A0_10 l0_10.length c0_10) := (blk_cell HBK.out 10).trans rfl
   have x11 : wr.cell? ⟨w.heap.size, 11, none⟩ = some (.slice A0_11 l0_11.length c0_11) := (blk_cell HBK.out 11).trans rfl
   obtain ⟨b0, hb0⟩ : ∃ b, inB a0_0 1 4 = b := ⟨_, rfl⟩
   have C0 := fun W => conf_in.calls a0_0 1 4 b0 W ((conf_in_eq a0_0 1 4).trans (congrArg some hb0))
   obtain ⟨b1, hb1⟩ : ∃ b, inB a0_1 1 4294967296 = b := ⟨_, rfl⟩
   have C1 := fun W => conf_in.calls a0_1 1 4294967296 b1 W ((conf_in_eq a0_1 1 4294967296).trans (congrArg some hb1))
   obtain ⟨b2, hb2⟩ : ∃ b, inB a0_2 1 1073741824 = b := ⟨_, rfl⟩
   have C2 := fun W => conf_in.calls a0_2 1 1073741824 b2 W ((conf_in_eq a0_2 1 1073741824).trans (congrArg some hb2))
   obtain ⟨b3, hb3⟩ : ∃ b, inB a0_3 0 100 = b := ⟨_, rfl⟩
   have C3 := fun W => conf_in.calls a0_3 0 100 b3 W ((conf_in_eq a0_3 0 100).trans (congrArg some hb3))
   by_cases g0 : b0 = true
   case neg =>
    have g0' : b0 = false := by simpa using g0
    subst g0'
    rw [if_neg (by rw [hb0]; simp)] at h
    obtain rfl := Option.some.inj h
    clear h
    go_wp2_with (first | (go_at_call 48; (first | (with_reducible refine (C0 _).mono ?_)); rintro e w2 ⟨rfl, ⟨nd, rfl⟩⟩))
    go_ret
    exact ⟨rfl, by repeat (first | exact HB.out | apply pw_below_drewN)⟩
   subst g0
   by_cases g1 : b1 = true
   case neg =>
    have g1' : b1 = false := by simpa using g1
    subst g1'
    rw [if_neg (by rw [hb1]; simp)] at h
    obtain rfl := Option.some.inj h
    clear h
    go_wp2_with (first | (go_at_call 48; (first | (with_reducible refine (C0 _).mono ?_) | (with_reducible refine (C1 _).mono ?_)); rintro e w2 ⟨rfl, ⟨nd, rfl⟩⟩))
    go_ret
    exact ⟨rfl, by repeat (first | exact HB.out | apply pw_below_drewN)⟩
   subst g1
   by_cases g2 : b2 = true
   case neg =>
    have g2' : b2 = false := by simpa using g2
    subst g2'
    rw [if_neg (by rw [hb2]; simp)] at h
    obtain rfl := Option.some.inj h
    clear h
    go_wp2_with (first | (go_at_call 48; (first | (with_reducible refine (C0 _).mono ?_) | (with_reducible refine (C1 _).mono ?_) | (with_reducible refine (C2 _).mono ?_)); rintro e w2 ⟨rfl, ⟨nd, rfl⟩⟩))
    go_ret
    exact ⟨rfl, by repeat (first | exact HB.out | apply pw_below_drewN)⟩
   subst g2
   by_cases g3 : b3 = true
   case neg =>
    have g3' : b3 = false := by simpa using g3
    subst g3'
    rw [if_neg (by rw [hb3]; simp)] at h
    obtain rfl := Option.some.inj h
    clear h
    go_wp2_with (first | (go_at_call 48; (first | (with_reducible refine (C0 _).mono ?_) | (with_reducible refine (C1 _).mono ?_) | (with_reducible refine (C2 _).mono ?_) | (with_reducible refine (C3 _).mono ?_)); rintro e w2 ⟨rfl, ⟨nd, rfl⟩⟩))
    go_ret
    exact ⟨rfl, by repeat (first | exact HB.out | apply pw_below_drewN)⟩
   subst g3
   rw [if_pos ⟨hb0, hb1, hb2, hb3⟩] at h
   obtain ⟨p, hp, h⟩ := Option.bind_eq_some_iff.mp h
   have HPp := Aside0.mk hp
   clear hp hb0 hb1 hb2 hb3
   by_cases gp : p = true
   case neg =>
    have gp' : p = false := by simpa using gp
    subst gp'
    rw [if_neg (by simp)] at h
    obtain rfl := Option.some.inj h
    clear h
    go_wp2_with (first | (go_at_call 48; (first | (with_reducible refine (C0 _).mono ?_) | (with_reducible refine (C1 _).mono ?_) | (with_reducible refine (C2 _).mono ?_) | (with_reducible refine (C3 _).mono ?_)); rintro e w2 ⟨rfl, ⟨nd, rfl⟩⟩) | (go_at_call 49; (with_reducible refine (conf_parts.calls k A0_9 c0_9 l0_9 false _ ?s1 ?s2 ?s3 HPp.out).mono ?_); (case s1 => exact Glob.below HG.out (by repeat (first | exact HB.out | apply pw_below_drewN))); (case s2 => exact Kd.C_below HR9.out (by repeat (first | exact HB.out | apply pw_below_drewN))); (case s3 => exact HC9.out); rintro e w3 ⟨rfl, gb⟩; have HB3 := Aside0.mk (below_then (show Below w.heap.size w _ by repeat (first | exact HB.out | apply pw_below_drewN)) gb (below_size (show Below w.heap.size w _ by repeat (first | exact HB.out | apply pw_below_drewN)))); have K3 := Aside0.mk ((gb.block w.heap.size (blk_lt (blk_drewN HBK.out _))).trans (blk_drewN HBK.out _)); have y10 : w3.cell? ⟨w.heap.size, 10, none⟩ = some (.slice A0_10 l0_10.length c0_10) := (blk_cell K3.out 10).trans rfl; have y11 : w3.cell? ⟨w.heap.size, 11, none⟩ = some (.slice A0_11 l0_11.length c0_11) := (blk_cell K3.out 11).trans rfl; clear gb))
    go_ret
    exact ⟨rfl, HB3.out⟩
   subst gp
   rw [if_pos rfl] at h
   obtain ⟨q, hq, h⟩ := Option.bind_eq_some_iff.mp h
   have HQq := Aside0.mk hq
   clear hq
   by_cases gq : q = true
   case neg =>
    have gq' : q = false := by simpa using gq
    subst gq'
    rw [if_neg (by simp)] at h
    obtain rfl := Option.some.inj h
    clear h
    go_wp2_with (first | (go_at_call 48; (first | (with_reducible refine (C0 _).mono ?_) | (with_reducible refine (C1 _).mono ?_) | (with_reducible refine (C2 _).mono ?_) | (with_reducible refine (C3 _).mono ?_)); rintro e w2 ⟨rfl, ⟨nd, rfl⟩⟩) | (go_at_call 49; (with_reducible refine (conf_parts.calls k A0_9 c0_9 l0_9 true _ ?s1 ?s2 ?s3 HPp.out).mono ?_); (case s1 => exact Glob.below HG.out (by repeat (first | exact HB.out | apply pw_below_drewN))); (case s2 => exact Kd.C_below HR9.out (by repeat (first | exact HB.out | apply pw_below_drewN))); (case s3 => exact HC9.out); rintro e w3 ⟨rfl, gb⟩; have HB3 := Aside0.mk (below_then (show Below w.heap.size w _ by repeat (first | exact HB.out | apply pw_below_drewN)) gb (below_size (show Below w.heap.size w _ by repeat (first | exact HB.out | apply pw_below_drewN)))); have K3 := Aside0.mk ((gb.block w.heap.size (blk_lt (blk_drewN HBK.out _))).trans (blk_drewN HBK.out _)); have y10 : w3.cell? ⟨w.heap.size, 10, none⟩ = some (.slice A0_10 l0_10.length c0_10) := (blk_cell K3.out 10).trans rfl; have y11 : w3.cell? ⟨w.heap.size, 11, none⟩ = some (.slice A0_11 l0_11.length c0_11) := (blk_cell K3.out 11).trans rfl; clear gb) | (go_at_call 50; (with_reducible refine (conf_classes.calls k A0_10 c0_10 l0_10 false _ ?s1 ?s2 ?s3 HQq.out).mono ?_); (case s1 => exact Glob.below HG.out HB3.out); (case s2 => exact Kd.C_below HR10.out HB3.out); (case s3 => exact HC10.out); rintro e w4 ⟨rfl, gb⟩; have HB4 := Aside0.mk (below_then HB3.out gb (below_size HB3.out)); have K4 := Aside0.mk ((gb.block w.heap.size (blk_lt K3.out)).trans K3.out); have z11 : w4.cell? ⟨w.heap.size, 11, none⟩ = some (.slice A0_11 l0_11.length c0_11) := (blk_cell K4.out 11).trans rfl; clear gb))
    go_ret
    exact ⟨rfl, HB4.out⟩
   subst gq
   rw [if_pos rfl] at h
   obtain ⟨t, ht, h⟩ := Option.bind_eq_some_iff.mp h
   have HTt := Aside0.mk ht
   obtain rfl := Option.some.inj h
   clear ht h
   cases t with
   | true =>
    go_wp2_with (first | (go_at_call 48; (first | (with_reducible refine (C0 _).mono ?_) | (with_reducible refine (C1 _).mono ?_) | (with_reducible refine (C2 _).mono ?_) | (with_reducible refine (C3 _).mono ?_)); rintro e w2 ⟨rfl, ⟨nd, rfl⟩⟩) | (go_at_call 49; (with_reducible refine (conf_parts.calls k A0_9 c0_9 l0_9 true _ ?s1 ?s2 ?s3 HPp.out).mono ?_); (case s1 => exact Glob.below HG.out (by repeat (first | exact HB.out | apply pw_below_drewN))); (case s2 => exact Kd.C_below HR9.out (by repeat (first | exact HB.out | apply pw_below_drewN))); (case s3 => exact HC9.out); rintro e w3 ⟨rfl, gb⟩; have HB3 := Aside0.mk (below_then (show Below w.heap.size w _ by repeat (first | exact HB.out | apply pw_below_drewN)) gb (below_size (show Below w.heap.size w _ by repeat (first | exact HB.out | apply pw_below_drewN)))); have K3 := Aside0.mk ((gb.block w.heap.size (blk_lt (blk_drewN HBK.out _))).trans (blk_drewN HBK.out _)); have y10 : w3.cell? ⟨w.heap.size, 10, none⟩ = some (.slice A0_10 l0_10.length c0_10) := (blk_cell K3.out 10).trans rfl; have y11 : w3.cell? ⟨w.heap.size, 11, none⟩ = some (.slice A0_11 l0_11.length c0_11) := (blk_cell K3.out 11).trans rfl; clear gb) | (go_at_call 50; (with_reducible refine (conf_classes.calls k A0_10 c0_10 l0_10 true _ ?s1 ?s2 ?s3 HQq.out).mono ?_); (case s1 => exact Glob.below HG.out HB3.out); (case s2 => exact Kd.C_below HR10.out HB3.out); (case s3 => exact HC10.out); rintro e w4 ⟨rfl, gb⟩; have HB4 := Aside0.mk (below_then HB3.out gb (below_size HB3.out)); have K4 := Aside0.mk ((gb.block w.heap.size (blk_lt K3.out)).trans K3.out); have z11 : w4.cell? ⟨w.heap.size, 11, none⟩ = some (.slice A0_11 l0_11.length c0_11) := (blk_cell K4.out 11).trans rfl; clear gb) | (go_at_call 51; (with_reducible refine (conf_accounts.calls k A0_11 c0_11 l0_11 true _ ?s1 ?s2 ?s3 HTt.out).mono ?_); (case s1 => exact Glob.below HG.out HB4.out); (case s2 => exact Kd.C_below HR11.out HB4.out); (case s3 => exact HC11.out); rintro e w5 ⟨rfl, gb⟩; have HB5 := Aside0.mk (below_then HB4.out gb (below_size HB4.out)); clear gb))
    go_ret
    exact ⟨rfl, HB5.out⟩
   | false =>
    go_wp2_with (first | (go_at_call 48; (first | (with_reducible refine (C0 _).mono ?_) | (with_reducible refine (C1 _).mono ?_) | (with_reducible refine (C2 _).mono ?_) | (with_reducible refine (C3 _).mono ?_)); rintro e w2 ⟨rfl, ⟨nd, rfl⟩⟩) | (go_at_call 49; (with_reducible refine (conf_parts.calls k A0_9 c0_9 l0_9 true _ ?s1 ?s2 ?s3 HPp.out).mono ?_); (case s1 => exact Glob.below HG.out (by repeat (first | exact HB.out | apply pw_below_drewN))); (case s2 => exact Kd.C_below HR9.out (by repeat (first | exact HB.out | apply pw_below_drewN))); (case s3 => exact HC9.out); rintro e w3 ⟨rfl, gb⟩; have HB3 := Aside0.mk (below_then (show Below w.heap.size w _ by repeat (first | exact HB.out | apply pw_below_drewN)) gb (below_size (show Below w.heap.size w _ by repeat (first | exact HB.out | apply pw_below_drewN)))); have K3 := Aside0.mk ((gb.block w.heap.size (blk_lt (blk_drewN HBK.out _))).trans (blk_drewN HBK.out _)); have y10 : w3.cell? ⟨w.heap.size, 10, none⟩ = some (.slice A0_10 l0_10.length c0_10) := (blk_cell K3.out 10).trans rfl; have y11 : w3.cell? ⟨w.heap.size, 11, none⟩ = some (.slice A0_11 l0_11.length c0_11) := (blk_cell K3.out 11).trans rfl; clear gb) | (go_at_call 50; (with_reducible refine (conf_classes.calls k A0_10 c0_10 l0_10 true _ ?s1 ?s2 ?s3 HQq.out).mono ?_); (case s1 => exact Glob.below HG.out HB3.out); (case s2 => exact Kd.C_below HR10.out HB3.out); (case s3 => exact HC10.out); rintro e w4 ⟨rfl, gb⟩; have HB4 := Aside0.mk (below_then HB3.out gb (below_size HB3.out)); have K4 := Aside0.mk ((gb.block w.heap.size (blk_lt K3.out)).trans K3.out); have z11 : w4.cell? ⟨w.heap.size, 11, none⟩ = some (.slice A0_11 l0_11.length c0_11) := (blk_cell K4.out 11).trans rfl; clear gb) | (go_at_call 51; (with_reducible refine (conf_accounts.calls k A0_11 c0_11 l0_11 false _ ?s1 ?s2 ?s3 HTt.out).mono ?_); (case s1 => exact Glob.below HG.out HB4.out); (case s2 => exact Kd.C_below HR11.out HB4.out); (case s3 => exact HC11.out); rintro e w5 ⟨rfl, gb⟩; have HB5 := Aside0.mk (below_then HB4.out gb (below_size HB4.out)); clear gb))
    go_ret
    exact ⟨rfl, HB5.out⟩
  ·omega
def api_Part_52.f (l0 : List (S85)) : Option ((List (S85))) := (some (([] : List (S85)) : List (S85))).bind fun y138 => (if y138.length + l0.length < 3518437208883 then (some (y138 ++ l0)) else (none))
set_option maxHeartbeats 8000000 in
set_option maxRecDepth 100000 in
theorem api_Part_52.calls_some (ad0 : Addr) (c0 : Nat) (l0 : List (S85)) (r : List (S85)) (w : World) (hr0 : Kd.C k85 w (some ad0) l0.length l0) (hc0 : l0.length ≤ c0) (h : api_Part_52.f l0 = some r) :
  Calls Tryd.prog 52 #[.slice (some ad0) l0.length c0] w fun e w' => ∃ v0_ : Value, e = .returned (v0_) ∧ Kd.R k85 85 w' w.heap.size (fun _ => True) v0_ r ∧ Below w.heap.size w w' := by
 have heqn_ : ∀ w, (binOp .eql 28 (.slice (some ad0) l0.length c0) (.slice none 0 0)).run Tryd.prog w = .ok (.bool false) w := fun w => Go.Lib.run_eql_slice_nil w 28 _ (some ad0) l0.length c0 0 0 Tryd.underlying28
 have HR0 := Aside0.mk hr0
 have HC0 := Aside0.mk hc0
 clear hr0 hc0
 have HB := Aside0.mk (Below.refl w.heap.size w)
 have H : ((some (([] : List (S85)) : List (S85))).bind fun y138 => (if y138.length + l0.length < 3518437208883 then (some (y138 ++ l0)) else (none))) = some r := h
 clear h
 obtain ⟨y138, hy138⟩ : ∃ y_ : List (S85), y_ = (([] : List (S85))) := ⟨_, rfl⟩
 replace H : (if y138.length + l0.length < 3518437208883 then (some (y138 ++ l0)) else (none)) = some r := by first | (rw [hy138]; with_reducible exact H) | (have H2_ := (Option.bind_some _ _).symm.trans H; rw [hy138]; with_reducible exact H2_) | (have H2_ := (Option.bind_some _ _).symm.trans H; with_reducible exact H2_) | with_reducible exact H | (rw [hy138]; exact H) | exact H
 have Ny138 := Aside0.mk hy138
 clear hy138
 by_cases c2 : y138.length + l0.length < 3518437208883
 ·rw [if_pos c2] at H
  have LMc2 := Aside0.mk c2
  clear c2
  obtain ⟨y141, hy141⟩ : ∃ y_ : List (S85), y_ = (y138 ++ l0) := ⟨_, rfl⟩
  replace H : (some y141) = some r := by first | (rw [hy141]; with_reducible exact H) | (have H2_ := (Option.bind_some _ _).symm.trans H; rw [hy141]; with_reducible exact H2_) | (have H2_ := (Option.bind_some _ _).symm.trans H; with_reducible exact H2_) | with_reducible exact H | (rw [hy141]; exact H) | exact H
  have Ny141 := Aside0.mk hy141
  clear hy141
  obtain rfl := Option.some.inj H
  go_enter Tryd.func52, Tryd.ntmps52
  go_wp2_with (first | ((with_reducible refine gate_dst (N := 5) rfl ?_); refine Kd.R_lit k85 _ 85 ?hg (N := 5) ?hd (xs := ([] : List (S85))) (inner := []) (ok := fun _ => True) (okp := fun _ => True) ?hr ?hp (fun _ hk => hk) trivial (Below.refl _ _) (Nat.le_refl _) (by simp) ?_; (case hd => rfl); (case hg => rfl); (case hr => first | (go_simp; done) | (go_simp; rfl)); (case hp => exact (Reps.none _ _)); intro v139 w3 ho4 hb hg_ hnew_; clear hg_ hnew_; (first | rw [← Ny138.out] at ho4 | (simp only [Int.reduceToNat] at ho4; rw [← Ny138.out] at ho4)); have n0_ := Aside0.mk (Kd.R_lower ho4 (below_size (by repeat (first | (with_reducible first | exact HB.out | apply below_alloc | apply pw_below_drewN | apply below_drew1) | exact HB.out)))); have n1_ := Aside0.mk (below_step (by repeat (first | (with_reducible first | exact HB.out | apply below_alloc | apply pw_below_drewN | apply below_drew1) | exact HB.out)) hb); clear HB; have HO140 := n0_; have HB := n1_; clear n0_ n1_; clear hb ho4) | ((with_reducible refine gate_builtin (b := .append) (xs := #[.tmp 5, .tmp 6]) rfl ?_); at_builtin; refine Kd.R_append_rows k85 (w0 := w) w.heap.size rfl (.tmp 5) (.tmp 6) 28 85 (.agg #[(.string ⟨#[]⟩), (.int .i64 0), (.int .i64 0), (.int .i64 0)]) 40 rfl Tryd.underlying28 info85 rfl (by decide) (by omega) v139 y138 l0 _ _ _ (fun _ => True) (fun _ => False) rfl rfl ?aO ?aR (fun _ _ h => h) (fun _ h => h.elim) ?aF ?aB ?aS ?aL ?_; (case aR => repeat (first | exact (Kd.C_below HR0.out HB.out) | (with_reducible refine Kd.C_alloc ?_ _) | (with_reducible refine Kd.C_drewN ?_ _) | (with_reducible refine Kd.C_drew ?_))); (case aB => exact (by repeat (first | (with_reducible first | exact HB.out | apply below_alloc | apply pw_below_drewN | apply below_drew1) | exact HB.out))); (case aF => exact (fun _ _ => trivial)); (case aO => exact (by (with_reducible repeat (first | apply Kd.R_alloc | apply Kd.R_drewN | apply Kd.R_drew)); exact HO140.out)); (case aS => exact (below_size (by repeat (first | (with_reducible first | exact HB.out | apply below_alloc | apply pw_below_drewN | apply below_drew1) | exact HB.out)))); (case aL => have := LMc2.out; omega); intro v142 w5 ho hb hg hat; rw [← Ny141.out] at ho; have n0_ := Aside0.mk (hb); have n1_ := Aside0.mk (ho); clear HB; clear HO140; have HB := n0_; have HO143 := n1_; clear n0_ n1_; clear ho hb hg hat))
  go_ret
  exact ⟨_, by first | rfl | (simp [errW_none, errW_some] <;> rfl) | (simp [*, errW_none, errW_some] <;> rfl), by (with_reducible repeat (first | apply Kd.R_alloc | apply Kd.R_drewN | apply Kd.R_drew)); exact HO143.out, by repeat (first | (with_reducible first | exact HB.out | apply below_alloc | apply pw_below_drewN | apply below_drew1) | exact HB.out)⟩
 ·rw [if_neg c2] at H
  exact absurd H (by simp)
theorem api_Part_52.calls (A0 : Option Addr) (c0 : Nat) (l0 : List (S85)) (r : List (S85)) (w : World) (hr0 : Kd.C k85 w A0 l0.length l0) (hc0 : l0.length ≤ c0) (h : api_Part_52.f l0 = some r) :
  Calls Tryd.prog 52 #[.slice A0 l0.length c0] w fun e w' => ∃ v0_ : Value, e = .returned (v0_) ∧ Kd.R k85 85 w' w.heap.size (fun _ => True) v0_ r ∧ Below w.heap.size w w' := by
 cases A0 with
 | some ad0 => exact api_Part_52.calls_some ad0 c0 l0 r w hr0 hc0 h
 | none =>
  have hl : l0 = [] := by
   cases l0 with
   | nil => rfl
   | cons x l => obtain ⟨ad, e, _⟩ := hr0.2.2 (by simp); cases e
  subst hl
  have hr : r = [] := by
   unfold api_Part_52.f at h
   simpa using h.symm
  subst hr
  have heqn_ : ∀ w, (binOp .eql 28 (.slice none 0 c0) (.slice none 0 0)).run Tryd.prog w = .ok (.bool true) w := fun w => Go.Lib.run_eql_slice_nil w 28 _ none 0 c0 0 0 Tryd.underlying28
  go_enter Tryd.func52, Tryd.ntmps52
  go_wp2
  go_ret
  exact ⟨_, rfl, Kd.R_nil _ _ _ _ _, Below.refl _ _⟩
def api_Class_53.f (l0 : List (S87)) : Option ((List (S87))) := (some (([] : List (S87)) : List (S87))).bind fun y144 => (if y144.length + l0.length < 4398046511104 then (some (y144 ++ l0)) else (none))
set_option maxHeartbeats 8000000 in
set_option maxRecDepth 100000 in
theorem api_Class_53.calls_some (ad0 : Addr) (c0 : Nat) (l0 : List (S87)) (r : List (S87)) (w : World) (hr0 : Kd.C k87 w (some ad0) l0.length l0) (hc0 : l0.length ≤ c0) (h : api_Class_53.f l0 = some r) :
  Calls Tryd.prog 53 #[.slice (some ad0) l0.length c0] w fun e w' => ∃ v0_ : Value, e = .returned (v0_) ∧ Kd.R k87 87 w' w.heap.size (fun _ => True) v0_ r ∧ Below w.heap.size w w' := by
 have heqn_ : ∀ w, (binOp .eql 29 (.slice (some ad0) l0.length c0) (.slice none 0 0)).run Tryd.prog w = .ok (.bool false) w := fun w => Go.Lib.run_eql_slice_nil w 29 _ (some ad0) l0.length c0 0 0 Tryd.underlying29
 have HR0 := Aside0.mk hr0
 have HC0 := Aside0.mk hc0
 clear hr0 hc0
 have HB := Aside0.mk (Below.refl w.heap.size w)
 have H : ((some (([] : List (S87)) : List (S87))).bind fun y144 => (if y144.length + l0.length < 4398046511104 then (some (y144 ++ l0)) else (none))) = some r := h
 clear h
 obtain ⟨y144, hy144⟩ : ∃ y_ : List (S87), y_ = (([] : List (S87))) := ⟨_, rfl⟩
 replace H : (if y144.length + l0.length < 4398046511104 then (some (y144 ++ l0)) else (none)) = some r := by first | (rw [hy144]; with_reducible exact H) | (have H2_ := (Option.bind_some _ _).symm.trans H; rw [hy144]; with_reducible exact H2_) | (have H2_ := (Option.bind_some _ _).symm.trans H; with_reducible exact H2_) | with_reducible exact H | (rw [hy144]; exact H) | exact H
 have Ny144 := Aside0.mk hy144
 clear hy144
 by_cases c2 : y144.length + l0.length < 4398046511104
 ·rw [if_pos c2] at H
  have LMc2 := Aside0.mk c2
  clear c2
  obtain ⟨y147, hy147⟩ : ∃ y_ : List (S87), y_ = (y144 ++ l0) := ⟨_, rfl⟩
  replace H : (some y147) = some r := by first | (rw [hy147]; with_reducible exact H) | (have H2_ := (Option.bind_some _ _).symm.trans H; rw [hy147]; with_reducible exact H2_) | (have H2_ := (Option.bind_some _ _).symm.trans H; with_reducible exact H2_) | with_reducible exact H | (rw [hy147]; exact H) | exact H
  have Ny147 := Aside0.mk hy147
  clear hy147
  obtain rfl := Option.some.inj H
  go_enter Tryd.func53, Tryd.ntmps53
  go_wp2_with (first | ((with_reducible refine gate_dst (N := 5) rfl ?_); refine Kd.R_lit k87 _ 87 ?hg (N := 5) ?hd (xs := ([] : List (S87))) (inner := []) (ok := fun _ => True) (okp := fun _ => True) ?hr ?hp (fun _ hk => hk) trivial (Below.refl _ _) (Nat.le_refl _) (by simp) ?_; (case hd => rfl); (case hg => rfl); (case hr => first | (go_simp; done) | (go_simp; rfl)); (case hp => exact (Reps.none _ _)); intro v145 w3 ho4 hb hg_ hnew_; clear hg_ hnew_; (first | rw [← Ny144.out] at ho4 | (simp only [Int.reduceToNat] at ho4; rw [← Ny144.out] at ho4)); have n0_ := Aside0.mk (Kd.R_lower ho4 (below_size (by repeat (first | (with_reducible first | exact HB.out | apply below_alloc | apply pw_below_drewN | apply below_drew1) | exact HB.out)))); have n1_ := Aside0.mk (below_step (by repeat (first | (with_reducible first | exact HB.out | apply below_alloc | apply pw_below_drewN | apply below_drew1) | exact HB.out)) hb); clear HB; have HO146 := n0_; have HB := n1_; clear n0_ n1_; clear hb ho4) | ((with_reducible refine gate_builtin (b := .append) (xs := #[.tmp 5, .tmp 6]) rfl ?_); at_builtin; refine Kd.R_append_rows k87 (w0 := w) w.heap.size rfl (.tmp 5) (.tmp 6) 29 87 (.agg #[(.string ⟨#[]⟩), (.int .i64 0), (.int .i64 0)]) 32 rfl Tryd.underlying29 info87 rfl (by decide) (by omega) v145 y144 l0 _ _ _ (fun _ => True) (fun _ => False) rfl rfl ?aO ?aR (fun _ _ h => h) (fun _ h => h.elim) ?aF ?aB ?aS ?aL ?_; (case aR => repeat (first | exact (Kd.C_below HR0.out HB.out) | (with_reducible refine Kd.C_alloc ?_ _) | (with_reducible refine Kd.C_drewN ?_ _) | (with_reducible refine Kd.C_drew ?_))); (case aB => exact (by repeat (first | (with_reducible first | exact HB.out | apply below_alloc | apply pw_below_drewN | apply below_drew1) | exact HB.out))); (case aF => exact (fun _ _ => trivial)); (case aO => exact (by (with_reducible repeat (first | apply Kd.R_alloc | apply Kd.R_drewN | apply Kd.R_drew)); exact HO146.out)); (case aS => exact (below_size (by repeat (first | (with_reducible first | exact HB.out | apply below_alloc | apply pw_below_drewN | apply below_drew1) | exact HB.out)))); (case aL => have := LMc2.out; omega); intro v148 w5 ho hb hg hat; rw [← Ny147.out] at ho; have n0_ := Aside0.mk (hb); have n1_ := Aside0.mk (ho); clear HB; clear HO146; have HB := n0_; have HO149 := n1_; clear n0_ n1_; clear ho hb hg hat))
  go_ret
  exact ⟨_, by first | rfl | (simp [errW_none, errW_some] <;> rfl) | (simp [*, errW_none, errW_some] <;> rfl), by (with_reducible repeat (first | apply Kd.R_alloc | apply Kd.R_drewN | apply Kd.R_drew)); exact HO149.out, by repeat (first | (with_reducible first | exact HB.out | apply below_alloc | apply pw_below_drewN | apply below_drew1) | exact HB.out)⟩
 ·rw [if_neg c2] at H
  exact absurd H (by simp)
theorem api_Class_53.calls (A0 : Option Addr) (c0 : Nat) (l0 : List (S87)) (r : List (S87)) (w : World) (hr0 : Kd.C k87 w A0 l0.length l0) (hc0 : l0.length ≤ c0) (h : api_Class_53.f l0 = some r) :
  Calls Tryd.prog 53 #[.slice A0 l0.length c0] w fun e w' => ∃ v0_ : Value, e = .returned (v0_) ∧ Kd.R k87 87 w' w.heap.size (fun _ => True) v0_ r ∧ Below w.heap.size w w' := by
 cases A0 with
 | some ad0 => exact api_Class_53.calls_some ad0 c0 l0 r w hr0 hc0 h
 | none =>
  have hl : l0 = [] := by
   cases l0 with
   | nil => rfl
   | cons x l => obtain ⟨ad, e, _⟩ := hr0.2.2 (by simp); cases e
  subst hl
  have hr : r = [] := by
   unfold api_Class_53.f at h
   simpa using h.symm
  subst hr
  have heqn_ : ∀ w, (binOp .eql 29 (.slice none 0 c0) (.slice none 0 0)).run Tryd.prog w = .ok (.bool true) w := fun w => Go.Lib.run_eql_slice_nil w 29 _ none 0 c0 0 0 Tryd.underlying29
  go_enter Tryd.func53, Tryd.ntmps53
  go_wp2
  go_ret
  exact ⟨_, rfl, Kd.R_nil _ _ _ _ _, Below.refl _ _⟩
def api_Account_54.f (l0 : List (S89)) : Option ((List (S89))) := (some (([] : List (S89)) : List (S89))).bind fun y150 => (if y150.length + l0.length < 3518437208883 then (some (y150 ++ l0)) else (none))
set_option maxHeartbeats 8000000 in
set_option maxRecDepth 100000 in
theorem api_Account_54.calls_some (ad0 : Addr) (c0 : Nat) (l0 : List (S89)) (r : List (S89)) (w : World) (hr0 : Kd.C k89 w (some ad0) l0.length l0) (hc0 : l0.length ≤ c0) (h : api_Account_54.f l0 = some r) :
  Calls Tryd.prog 54 #[.slice (some ad0) l0.length c0] w fun e w' => ∃ v0_ : Value, e = .returned (v0_) ∧ Kd.R k89 89 w' w.heap.size (fun _ => True) v0_ r ∧ Below w.heap.size w w' := by
 have heqn_ : ∀ w, (binOp .eql 30 (.slice (some ad0) l0.length c0) (.slice none 0 0)).run Tryd.prog w = .ok (.bool false) w := fun w => Go.Lib.run_eql_slice_nil w 30 _ (some ad0) l0.length c0 0 0 Tryd.underlying30
 have HR0 := Aside0.mk hr0
 have HC0 := Aside0.mk hc0
 clear hr0 hc0
 have HB := Aside0.mk (Below.refl w.heap.size w)
 have H : ((some (([] : List (S89)) : List (S89))).bind fun y150 => (if y150.length + l0.length < 3518437208883 then (some (y150 ++ l0)) else (none))) = some r := h
 clear h
 obtain ⟨y150, hy150⟩ : ∃ y_ : List (S89), y_ = (([] : List (S89))) := ⟨_, rfl⟩
 replace H : (if y150.length + l0.length < 3518437208883 then (some (y150 ++ l0)) else (none)) = some r := by first | (rw [hy150]; with_reducible exact H) | (have H2_ := (Option.bind_some _ _).symm.trans H; rw [hy150]; with_reducible exact H2_) | (have H2_ := (Option.bind_some _ _).symm.trans H; with_reducible exact H2_) | with_reducible exact H | (rw [hy150]; exact H) | exact H
 have Ny150 := Aside0.mk hy150
 clear hy150
 by_cases c2 : y150.length + l0.length < 3518437208883
 ·rw [if_pos c2] at H
  have LMc2 := Aside0.mk c2
  clear c2
  obtain ⟨y153, hy153⟩ : ∃ y_ : List (S89), y_ = (y150 ++ l0) := ⟨_, rfl⟩
  replace H : (some y153) = some r := by first | (rw [hy153]; with_reducible exact H) | (have H2_ := (Option.bind_some _ _).symm.trans H; rw [hy153]; with_reducible exact H2_) | (have H2_ := (Option.bind_some _ _).symm.trans H; with_reducible exact H2_) | with_reducible exact H | (rw [hy153]; exact H) | exact H
  have Ny153 := Aside0.mk hy153
  clear hy153
  obtain rfl := Option.some.inj H
  go_enter Tryd.func54, Tryd.ntmps54
  go_wp2_with (first | ((with_reducible refine gate_dst (N := 5) rfl ?_); refine Kd.R_lit k89 _ 89 ?hg (N := 5) ?hd (xs := ([] : List (S89))) (inner := []) (ok := fun _ => True) (okp := fun _ => True) ?hr ?hp (fun _ hk => hk) trivial (Below.refl _ _) (Nat.le_refl _) (by simp) ?_; (case hd => rfl); (case hg => rfl); (case hr => first | (go_simp; done) | (go_simp; rfl)); (case hp => exact (Reps.none _ _)); intro v151 w3 ho4 hb hg_ hnew_; clear hg_ hnew_; (first | rw [← Ny150.out] at ho4 | (simp only [Int.reduceToNat] at ho4; rw [← Ny150.out] at ho4)); have n0_ := Aside0.mk (Kd.R_lower ho4 (below_size (by repeat (first | (with_reducible first | exact HB.out | apply below_alloc | apply pw_below_drewN | apply below_drew1) | exact HB.out)))); have n1_ := Aside0.mk (below_step (by repeat (first | (with_reducible first | exact HB.out | apply below_alloc | apply pw_below_drewN | apply below_drew1) | exact HB.out)) hb); clear HB; have HO152 := n0_; have HB := n1_; clear n0_ n1_; clear hb ho4) | ((with_reducible refine gate_builtin (b := .append) (xs := #[.tmp 5, .tmp 6]) rfl ?_); at_builtin; refine Kd.R_append_rows k89 (w0 := w) w.heap.size rfl (.tmp 5) (.tmp 6) 30 89 (.agg #[(.string ⟨#[]⟩), (.string ⟨#[]⟩), (.int .i64 0)]) 40 rfl Tryd.underlying30 info89 rfl (by decide) (by omega) v151 y150 l0 _ _ _ (fun _ => True) (fun _ => False) rfl rfl ?aO ?aR (fun _ _ h => h) (fun _ h => h.elim) ?aF ?aB ?aS ?aL ?_; (case aR => repeat (first | exact (Kd.C_below HR0.out HB.out) | (with_reducible refine Kd.C_alloc ?_ _) | (with_reducible refine Kd.C_drewN ?_ _) | (with_reducible refine Kd.C_drew ?_))); (case aB => exact (by repeat (first | (with_reducible first | exact HB.out | apply below_alloc | apply pw_below_drewN | apply below_drew1) | exact HB.out))); (case aF => exact (fun _ _ => trivial)); (case aO => exact (by (with_reducible repeat (first | apply Kd.R_alloc | apply Kd.R_drewN | apply Kd.R_drew)); exact HO152.out)); (case aS => exact (below_size (by repeat (first | (with_reducible first | exact HB.out | apply below_alloc | apply pw_below_drewN | apply below_drew1) | exact HB.out)))); (case aL => have := LMc2.out; omega); intro v154 w5 ho hb hg hat; rw [← Ny153.out] at ho; have n0_ := Aside0.mk (hb); have n1_ := Aside0.mk (ho); clear HB; clear HO152; have HB := n0_; have HO155 := n1_; clear n0_ n1_; clear ho hb hg hat))
  go_ret
  exact ⟨_, by first | rfl | (simp [errW_none, errW_some] <;> rfl) | (simp [*, errW_none, errW_some] <;> rfl), by (with_reducible repeat (first | apply Kd.R_alloc | apply Kd.R_drewN | apply Kd.R_drew)); exact HO155.out, by repeat (first | (with_reducible first | exact HB.out | apply below_alloc | apply pw_below_drewN | apply below_drew1) | exact HB.out)⟩
 ·rw [if_neg c2] at H
  exact absurd H (by simp)
theorem api_Account_54.calls (A0 : Option Addr) (c0 : Nat) (l0 : List (S89)) (r : List (S89)) (w : World) (hr0 : Kd.C k89 w A0 l0.length l0) (hc0 : l0.length ≤ c0) (h : api_Account_54.f l0 = some r) :
  Calls Tryd.prog 54 #[.slice A0 l0.length c0] w fun e w' => ∃ v0_ : Value, e = .returned (v0_) ∧ Kd.R k89 89 w' w.heap.size (fun _ => True) v0_ r ∧ Below w.heap.size w w' := by
 cases A0 with
 | some ad0 => exact api_Account_54.calls_some ad0 c0 l0 r w hr0 hc0 h
 | none =>
  have hl : l0 = [] := by
   cases l0 with
   | nil => rfl
   | cons x l => obtain ⟨ad, e, _⟩ := hr0.2.2 (by simp); cases e
  subst hl
  have hr : r = [] := by
   unfold api_Account_54.f at h
   simpa using h.symm
  subst hr
  have heqn_ : ∀ w, (binOp .eql 30 (.slice none 0 c0) (.slice none 0 0)).run Tryd.prog w = .ok (.bool true) w := fun w => Go.Lib.run_eql_slice_nil w 30 _ none 0 c0 0 0 Tryd.underlying30
  go_enter Tryd.func54, Tryd.ntmps54
  go_wp2
  go_ret
  exact ⟨_, rfl, Kd.R_nil _ _ _ _ _, Below.refl _ _⟩
end Go.Proofs.YtgkedamhicemiaaDoor.P
