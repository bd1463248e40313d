/- cut to what one law reaches -/
import Derived.Test.YtgkedamhicemiaaDoorJyJ11
import Derived.Test.YtgkedamhicemiaaDoorJyP9
import Derived.Test.YtgkedamhicemiaaDoorJyP10
namespace Go.Proofs.YtgkedamhicemiaaDoor.P
open Go.RowKit Go.Proofs.YtgkedamhicemiaaDoorW.PrintWords Go.Proofs.YtgkedamhicemiaaDoorW.PrintLast Go.Proofs.YtgkedamhicemiaaDoorW.PrintMore
attribute [local go_sem] max2_int min2_int max_two min_two max_three min_three max_four min_four
set_option linter.unusedVariables false
set_option linter.unusedSimpArgs false
attribute [local go_sem] isSome_setCell
theorem s06_l (l : List Int) (m : Int) (hl : l.length < 17592186044416) : ∀ n i : Nat, n + i = l.length → gangerref06_Same.l0 (n + 1) (i : Int) l m l m = some true
  | 0, i, h => by unfold gangerref06_Same.l0; rw [if_neg (by omega)]
  | n + 1, i, h => by
    have e2 : wrap64 ((i : Int) + 1) = ((i + 1 : Nat) : Int) := by unfold wrap64; omega
    unfold gangerref06_Same.l0
    rw [if_pos (by omega), if_pos (by omega), if_pos (by omega), if_pos rfl, e2]
    exact s06_l l m hl n (i + 1) (by omega)
theorem s06 (l : List Int) (m : Int) (hl : l.length < 17592186044416) : gangerref06_Same.f (l.length + 2) l m l m = some true := by
  unfold gangerref06_Same.f
  rw [if_pos rfl]
  show (if (m != m) = true then some false else gangerref06_Same.l0 (l.length + 1) 0 l m l m) = some true
  rw [if_neg (by simp)]
  exact s06_l l m hl l.length 0 (by omega)
theorem sj_l (l : List Int) (hl : l.length < 35184372088832) : ∀ n i e : Nat, n + i = l.length → gangerref08_SameJobs.l0 (n + 1 + e) l l (i : Int) = some true
  | 0, i, e, h => by rw [show 0 + 1 + e = e + 1 by omega]; unfold gangerref08_SameJobs.l0; rw [if_neg (by omega)]
  | n + 1, i, e, h => by
    have e2 : wrap64 ((i : Int) + 1) = ((i + 1 : Nat) : Int) := by unfold wrap64; omega
    rw [show n + 1 + 1 + e = (n + 1 + e) + 1 by omega]
    unfold gangerref08_SameJobs.l0
    rw [if_pos (by omega), if_pos (by omega), if_pos (by omega), if_pos rfl, e2]
    exact sj_l l hl n (i + 1) e (by omega)
theorem sj (l : List Int) (hl : l.length < 35184372088832) (k : Nat) (hk : l.length < k) : gangerref08_SameJobs.f k l l = some true := by
  unfold gangerref08_SameJobs.f
  rw [if_pos rfl]
  have h := sj_l l hl l.length 0 (k - l.length - 1) (by omega)
  rw [show l.length + 1 + (k - l.length - 1) = k by omega] at h
  exact h
theorem s08_l (b : Bool) (l : List S105) (hl : l.length < 4398046511104) (hj : ∀ n ∈ l, n.f1.length < 35184372088832) (m : Nat) (hm : ∀ n ∈ l, n.f1.length ≤ m) : ∀ n i : Nat, n + i = l.length → gangerref08_Same.l0 (n + m + 2) (i : Int) b l b l = some true
  | 0, i, h => by rw [show 0 + m + 2 = (m + 1) + 1 by omega]; unfold gangerref08_Same.l0; rw [if_neg (by omega)]
  | n + 1, i, h => by
    have hi : i < l.length := by omega
    have hr : rd_T105 l (i : Int) = l[i] := by simp [rd_T105, List.getD_eq_getElem?_getD, hi]
    have e2 : wrap64 ((i : Int) + 1) = ((i + 1 : Nat) : Int) := by unfold wrap64; omega
    rw [show n + 1 + m + 2 = (n + m + 2) + 1 by omega]
    unfold gangerref08_Same.l0
    rw [if_pos (by omega), if_pos (by omega), if_pos (by omega), if_pos rfl, hr, sj _ (hj _ (List.getElem_mem hi)) _ (by have := hm _ (List.getElem_mem hi); omega), Option.bind_some, if_pos rfl, e2]
    exact s08_l b l hl hj m hm n (i + 1) (by omega)
theorem s08 (b : Bool) (l : List S105) (hl : l.length < 4398046511104) (hj : ∀ n ∈ l, n.f1.length < 35184372088832) : ∃ k, gangerref08_Same.f k b l b l = some true := by
  obtain ⟨m, hm⟩ : ∃ m, ∀ n ∈ l, n.f1.length ≤ m := ⟨35184372088832, fun n hn => Nat.le_of_lt (hj n hn)⟩
  refine ⟨l.length + m + 2 + 1, ?_⟩
  unfold gangerref08_Same.f
  rw [if_neg (by simp)]
  show (if ((l.length : Int) != (l.length : Int)) = true then some false else gangerref08_Same.l0 (l.length + m + 2) 0 b l b l) = some true
  rw [if_neg (by simp)]
  exact s08_l b l hl hj m hm l.length 0 (by omega)
set_option maxHeartbeats 8000000 in
set_option maxRecDepth 100000 in
theorem sameS_at (s : S41) (hs : szS s) (A6 : Option Addr) (c6 : Nat) (A9 : Option Addr) (c9 : Nat) (B6 : Option Addr) (d6 : Nat) (B9 : Option Addr) (d9 : Nat) (W : World) (h6 : Kd.C (Kd.int .i64) W A6 s.f6.f0.length s.f6.f0) (hc6 : s.f6.f0.length ≤ c6) (h9 : Kd.C k105 W A9 s.f7.f1.length s.f7.f1) (hc9 : s.f7.f1.length ≤ c9) (g6 : Kd.C (Kd.int .i64) W B6 s.f6.f0.length s.f6.f0) (gc6 : s.f6.f0.length ≤ d6) (g9 : Kd.C k105 W B9 s.f7.f1.length s.f7.f1) (gc9 : s.f7.f1.length ≤ d9) :
    Calls Tryd.prog 26 #[.agg #[.string s.f0, .string s.f1, .string s.f2, .string s.f3, .int .i64 s.f4, .int .i64 s.f5, .slice A6 s.f6.f0.length c6, .int .i64 s.f6.f1, .bool s.f7.f0, .slice A9 s.f7.f1.length c9, .int .i64 s.f8, .int .i64 s.f9, .bool s.f10, .bool s.f11, .string s.f12], .agg #[.string s.f0, .string s.f1, .string s.f2, .string s.f3, .int .i64 s.f4, .int .i64 s.f5, .slice B6 s.f6.f0.length d6, .int .i64 s.f6.f1, .bool s.f7.f0, .slice B9 s.f7.f1.length d9, .int .i64 s.f8, .int .i64 s.f9, .bool s.f10, .bool s.f11, .string s.f12]] W fun e w' => e = .returned (.bool true) ∧ Below W.heap.size W w' := by
  have hu41 := Tryd.underlying41
  have hu36 := Tryd.underlying36
  have hu39 := Tryd.underlying39
  obtain ⟨k8, hk8⟩ := s08 s.f7.f0 s.f7.f1 hs.2.2.2.2.2.1 hs.2.2.2.2.2.2.1
  have H6 := Aside0.mk (s06 s.f6.f0 s.f6.f1 hs.2.2.2.2.1)
  have H8 := Aside0.mk hk8
  have HA6 := Aside0.mk h6
  have HC6 := Aside0.mk hc6
  have HA9 := Aside0.mk h9
  have HC9 := Aside0.mk hc9
  have GA6 := Aside0.mk g6
  have GC6 := Aside0.mk gc6
  have GA9 := Aside0.mk g9
  have GC9 := Aside0.mk gc9
  clear h6 hc6 h9 hc9 g6 gc6 g9 gc9 hs hk8
  go_enter Tryd.func26, Tryd.ntmps26
  go_wp2_with (first | ((with_reducible refine gate_dst (N := 2) rfl ?_); refine box_event ?hg (N := 2) ?hd (cs := #[.string s.f0, .string s.f1, .string s.f2, .string s.f3, .int .i64 s.f4, .int .i64 s.f5, .slice A6 s.f6.f0.length c6, .int .i64 s.f6.f1, .bool s.f7.f0, .slice A9 s.f7.f1.length c9, .int .i64 s.f8, .int .i64 s.f9, .bool s.f10, .bool s.f11, .string s.f12]) (t := 41) ?hr ?_; (case hd => rfl); (case hg => rfl); (case hr => first | (go_simp; done) | (go_simp; rfl)); intro gbx hg wx hbox hb; have KX := Aside0.mk hbox; have HB := Aside0.mk hb; clear hb hg hbox) | ((with_reducible refine gate_dst (N := 3) rfl ?_); refine box_event ?hg (N := 3) ?hd (cs := #[.string s.f0, .string s.f1, .string s.f2, .string s.f3, .int .i64 s.f4, .int .i64 s.f5, .slice B6 s.f6.f0.length d6, .int .i64 s.f6.f1, .bool s.f7.f0, .slice B9 s.f7.f1.length d9, .int .i64 s.f8, .int .i64 s.f9, .bool s.f10, .bool s.f11, .string s.f12]) (t := 41) ?hr ?_; (case hd => rfl); (case hg => rfl); (case hr => first | (go_simp; done) | (go_simp; rfl)); intro gby hg wy hbox hb; have KY := Aside0.mk hbox; have n0_ := Aside0.mk (blk_below KX.out hb); have n1_ := Aside0.mk (below_step HB.out hb); (try clear KX); (try clear HB); have KX := n0_; clear n0_; have HB := n1_; clear n1_; have kx0 := (blk_cell KX.out 0).trans rfl; have kx1 := (blk_cell KX.out 1).trans rfl; have kx2 := (blk_cell KX.out 2).trans rfl; have kx3 := (blk_cell KX.out 3).trans rfl; have kx4 := (blk_cell KX.out 4).trans rfl; have kx5 := (blk_cell KX.out 5).trans rfl; have kx10 := (blk_cell KX.out 10).trans rfl; have kx11 := (blk_cell KX.out 11).trans rfl; have kx12 := (blk_cell KX.out 12).trans rfl; have kx13 := (blk_cell KX.out 13).trans rfl; have kx14 := (blk_cell KX.out 14).trans rfl; have ky0 := (blk_cell KY.out 0).trans rfl; have ky1 := (blk_cell KY.out 1).trans rfl; have ky2 := (blk_cell KY.out 2).trans rfl; have ky3 := (blk_cell KY.out 3).trans rfl; have ky4 := (blk_cell KY.out 4).trans rfl; have ky5 := (blk_cell KY.out 5).trans rfl; have ky10 := (blk_cell KY.out 10).trans rfl; have ky11 := (blk_cell KY.out 11).trans rfl; have ky12 := (blk_cell KY.out 12).trans rfl; have ky13 := (blk_cell KY.out 13).trans rfl; have ky14 := (blk_cell KY.out 14).trans rfl; clear hb hg hbox) | ((with_reducible refine gate_ (.load 36 (.tmp 85)) rfl ?_); (try (refine gate_guard (by rfl) ?_; dsimp only)); refine agg_load rfl (N := 86) rfl rfl Tryd.underlying36 info36s (g := gbx) (off := 6) rfl [.slice A6 s.f6.f0.length c6, .int .i64 s.f6.f1] rfl (blk_seg KX.out 6 2 rfl) ?_) | ((with_reducible refine gate_ (.load 36 (.tmp 87)) rfl ?_); (try (refine gate_guard (by rfl) ?_; dsimp only)); refine agg_load rfl (N := 88) rfl rfl Tryd.underlying36 info36s (g := gby) (off := 6) rfl [.slice B6 s.f6.f0.length d6, .int .i64 s.f6.f1] rfl (blk_seg KY.out 6 2 rfl) ?_) | ((with_reducible refine gate_ (.load 39 (.tmp 92)) rfl ?_); (try (refine gate_guard (by rfl) ?_; dsimp only)); refine agg_load rfl (N := 93) rfl rfl Tryd.underlying39 info39s (g := gbx) (off := 8) rfl [.bool s.f7.f0, .slice A9 s.f7.f1.length c9] rfl (blk_seg KX.out 8 2 rfl) ?_) | ((with_reducible refine gate_ (.load 39 (.tmp 94)) rfl ?_); (try (refine gate_guard (by rfl) ?_; dsimp only)); refine agg_load rfl (N := 95) rfl rfl Tryd.underlying39 info39s (g := gby) (off := 8) rfl [.bool s.f7.f0, .slice B9 s.f7.f1.length d9] rfl (blk_seg KY.out 8 2 rfl) ?_) | (go_at_call 45; (with_reducible refine (gangerref06_Same.calls _ A6 c6 _ _ B6 d6 _ _ true _ (Kd.C_below HA6.out HB.out) HC6.out (Kd.C_below GA6.out HB.out) GC6.out H6.out).mono ?_); rintro e w5 ⟨rfl, hb⟩; have n0_ := Aside0.mk (below_step HB.out hb); have n1_ := Aside0.mk (blk_below KX.out hb); have n2_ := Aside0.mk (blk_below KY.out hb); (try clear HB); (try clear KX); (try clear KY); have HB := n0_; clear n0_; have KX := n1_; clear n1_; have KY := n2_; clear n2_; clear hb) | (go_at_call 46; (with_reducible refine (gangerref08_Same.calls _ _ A9 c9 _ _ B9 d9 _ true _ (Kd.C_below HA9.out HB.out) HC9.out (Kd.C_below GA9.out HB.out) GC9.out H8.out).mono ?_); rintro e w6 ⟨rfl, hb⟩; have n0_ := Aside0.mk (below_step HB.out hb); have n1_ := Aside0.mk (blk_below KX.out hb); have n2_ := Aside0.mk (blk_below KY.out hb); (try clear HB); (try clear KX); (try clear KY); have HB := n0_; clear n0_; have KX := n1_; clear n1_; have KY := n2_; clear n2_; clear hb))
  go_ret
  exact ⟨rfl, HB.out⟩
set_option maxHeartbeats 8000000 in
set_option maxRecDepth 100000 in
theorem sameJ_at (j : S58) (hs : szS j.f3) (A6 : Option Addr) (c6 : Nat) (A9 : Option Addr) (c9 : Nat) (B6 : Option Addr) (d6 : Nat) (B9 : Option Addr) (d9 : Nat) (W : World) (h6 : Kd.C (Kd.int .i64) W A6 j.f3.f6.f0.length j.f3.f6.f0) (hc6 : j.f3.f6.f0.length ≤ c6) (h9 : Kd.C k105 W A9 j.f3.f7.f1.length j.f3.f7.f1) (hc9 : j.f3.f7.f1.length ≤ c9) (g6 : Kd.C (Kd.int .i64) W B6 j.f3.f6.f0.length j.f3.f6.f0) (gc6 : j.f3.f6.f0.length ≤ d6) (g9 : Kd.C k105 W B9 j.f3.f7.f1.length j.f3.f7.f1) (gc9 : j.f3.f7.f1.length ≤ d9) :
    Calls Tryd.prog 24 #[.agg #[.int .u32 j.f0, .int .u32 j.f1, .int .i64 j.f2, .string j.f3.f0, .string j.f3.f1, .string j.f3.f2, .string j.f3.f3, .int .i64 j.f3.f4, .int .i64 j.f3.f5, .slice A6 j.f3.f6.f0.length c6, .int .i64 j.f3.f6.f1, .bool j.f3.f7.f0, .slice A9 j.f3.f7.f1.length c9, .int .i64 j.f3.f8, .int .i64 j.f3.f9, .bool j.f3.f10, .bool j.f3.f11, .string j.f3.f12, .int .i64 j.f4, .int .i64 j.f5, .int .i64 j.f6, .int .i64 j.f7, .int .i64 j.f8, .int .i64 j.f9, .int .i64 j.f10.f0, .int .i64 j.f10.f1], .agg #[.int .u32 j.f0, .int .u32 j.f1, .int .i64 j.f2, .string j.f3.f0, .string j.f3.f1, .string j.f3.f2, .string j.f3.f3, .int .i64 j.f3.f4, .int .i64 j.f3.f5, .slice B6 j.f3.f6.f0.length d6, .int .i64 j.f3.f6.f1, .bool j.f3.f7.f0, .slice B9 j.f3.f7.f1.length d9, .int .i64 j.f3.f8, .int .i64 j.f3.f9, .bool j.f3.f10, .bool j.f3.f11, .string j.f3.f12, .int .i64 j.f4, .int .i64 j.f5, .int .i64 j.f6, .int .i64 j.f7, .int .i64 j.f8, .int .i64 j.f9, .int .i64 j.f10.f0, .int .i64 j.f10.f1]] W fun e w' => e = .returned (.bool true) ∧ Below W.heap.size W w' := by
  have hu58 := Tryd.underlying58
  have hu55 := Tryd.underlying55
  have HS := Aside0.mk hs
  have HA6 := Aside0.mk h6
  have HC6 := Aside0.mk hc6
  have HA9 := Aside0.mk h9
  have HC9 := Aside0.mk hc9
  have GA6 := Aside0.mk g6
  have GC6 := Aside0.mk gc6
  have GA9 := Aside0.mk g9
  have GC9 := Aside0.mk gc9
  clear h6 hc6 h9 hc9 g6 gc6 g9 gc9 hs
  go_enter Tryd.func24, Tryd.ntmps24
  go_wp2_with (first | ((with_reducible refine gate_dst (N := 2) rfl ?_); refine box_event ?hg (N := 2) ?hd (cs := #[.int .u32 j.f0, .int .u32 j.f1, .int .i64 j.f2, .string j.f3.f0, .string j.f3.f1, .string j.f3.f2, .string j.f3.f3, .int .i64 j.f3.f4, .int .i64 j.f3.f5, .slice A6 j.f3.f6.f0.length c6, .int .i64 j.f3.f6.f1, .bool j.f3.f7.f0, .slice A9 j.f3.f7.f1.length c9, .int .i64 j.f3.f8, .int .i64 j.f3.f9, .bool j.f3.f10, .bool j.f3.f11, .string j.f3.f12, .int .i64 j.f4, .int .i64 j.f5, .int .i64 j.f6, .int .i64 j.f7, .int .i64 j.f8, .int .i64 j.f9, .int .i64 j.f10.f0, .int .i64 j.f10.f1]) (t := 58) ?hr ?_; (case hd => rfl); (case hg => rfl); (case hr => first | (go_simp; done) | (go_simp; rfl)); intro gbx hg wx hbox hb; have KX := Aside0.mk hbox; have HB := Aside0.mk hb; clear hb hg hbox) | ((with_reducible refine gate_dst (N := 3) rfl ?_); refine box_event ?hg (N := 3) ?hd (cs := #[.int .u32 j.f0, .int .u32 j.f1, .int .i64 j.f2, .string j.f3.f0, .string j.f3.f1, .string j.f3.f2, .string j.f3.f3, .int .i64 j.f3.f4, .int .i64 j.f3.f5, .slice B6 j.f3.f6.f0.length d6, .int .i64 j.f3.f6.f1, .bool j.f3.f7.f0, .slice B9 j.f3.f7.f1.length d9, .int .i64 j.f3.f8, .int .i64 j.f3.f9, .bool j.f3.f10, .bool j.f3.f11, .string j.f3.f12, .int .i64 j.f4, .int .i64 j.f5, .int .i64 j.f6, .int .i64 j.f7, .int .i64 j.f8, .int .i64 j.f9, .int .i64 j.f10.f0, .int .i64 j.f10.f1]) (t := 58) ?hr ?_; (case hd => rfl); (case hg => rfl); (case hr => first | (go_simp; done) | (go_simp; rfl)); intro gby hg wy hbox hb; have KY := Aside0.mk hbox; have n0_ := Aside0.mk (blk_below KX.out hb); have n1_ := Aside0.mk (below_step HB.out hb); (try clear KX); (try clear HB); have KX := n0_; clear n0_; have HB := n1_; clear n1_; have kx0 := (blk_cell KX.out 0).trans rfl; have kx1 := (blk_cell KX.out 1).trans rfl; have kx2 := (blk_cell KX.out 2).trans rfl; have kx18 := (blk_cell KX.out 18).trans rfl; have kx19 := (blk_cell KX.out 19).trans rfl; have kx20 := (blk_cell KX.out 20).trans rfl; have kx21 := (blk_cell KX.out 21).trans rfl; have kx22 := (blk_cell KX.out 22).trans rfl; have kx23 := (blk_cell KX.out 23).trans rfl; have kx24 := (blk_cell KX.out 24).trans rfl; have kx25 := (blk_cell KX.out 25).trans rfl; have ky0 := (blk_cell KY.out 0).trans rfl; have ky1 := (blk_cell KY.out 1).trans rfl; have ky2 := (blk_cell KY.out 2).trans rfl; have ky18 := (blk_cell KY.out 18).trans rfl; have ky19 := (blk_cell KY.out 19).trans rfl; have ky20 := (blk_cell KY.out 20).trans rfl; have ky21 := (blk_cell KY.out 21).trans rfl; have ky22 := (blk_cell KY.out 22).trans rfl; have ky23 := (blk_cell KY.out 23).trans rfl; have ky24 := (blk_cell KY.out 24).trans rfl; have ky25 := (blk_cell KY.out 25).trans rfl; clear hb hg hbox) | ((with_reducible refine gate_ (.load 41 (.tmp 74)) rfl ?_); (try (refine gate_guard (by rfl) ?_; dsimp only)); refine agg_load rfl (N := 75) rfl rfl Tryd.underlying41 info41s (g := gbx) (off := 3) rfl [.string j.f3.f0, .string j.f3.f1, .string j.f3.f2, .string j.f3.f3, .int .i64 j.f3.f4, .int .i64 j.f3.f5, .slice A6 j.f3.f6.f0.length c6, .int .i64 j.f3.f6.f1, .bool j.f3.f7.f0, .slice A9 j.f3.f7.f1.length c9, .int .i64 j.f3.f8, .int .i64 j.f3.f9, .bool j.f3.f10, .bool j.f3.f11, .string j.f3.f12] rfl (blk_seg KX.out 3 15 rfl) ?_) | ((with_reducible refine gate_ (.load 41 (.tmp 76)) rfl ?_); (try (refine gate_guard (by rfl) ?_; dsimp only)); refine agg_load rfl (N := 77) rfl rfl Tryd.underlying41 info41s (g := gby) (off := 3) rfl [.string j.f3.f0, .string j.f3.f1, .string j.f3.f2, .string j.f3.f3, .int .i64 j.f3.f4, .int .i64 j.f3.f5, .slice B6 j.f3.f6.f0.length d6, .int .i64 j.f3.f6.f1, .bool j.f3.f7.f0, .slice B9 j.f3.f7.f1.length d9, .int .i64 j.f3.f8, .int .i64 j.f3.f9, .bool j.f3.f10, .bool j.f3.f11, .string j.f3.f12] rfl (blk_seg KY.out 3 15 rfl) ?_) | (go_at_call 26; refine (sameS_at j.f3 HS.out A6 c6 A9 c9 B6 d6 B9 d9 _ (Kd.C_below HA6.out HB.out) HC6.out (Kd.C_below HA9.out HB.out) HC9.out (Kd.C_below GA6.out HB.out) GC6.out (Kd.C_below GA9.out HB.out) GC9.out).mono ?_; rintro e w6 ⟨rfl, hb⟩; have n0_ := Aside0.mk (below_step HB.out hb); have n1_ := Aside0.mk (blk_below KX.out hb); have n2_ := Aside0.mk (blk_below KY.out hb); (try clear HB); (try clear KX); (try clear KY); have HB := n0_; clear n0_; have KX := n1_; clear n1_; have KY := n2_; clear n2_; clear hb))
  go_ret
  exact ⟨rfl, HB.out⟩
end Go.Proofs.YtgkedamhicemiaaDoor.P
