/- cut to what one law reaches -/
import Derived.Test.YtfccdngejfnmkaaDoorQnP0
import Derived.Test.YtfccdngejfnmkaaDoorQnP7
import Derived.Test.YtfccdngejfnmkaaDoorQnP9
import Derived.Test.YtfccdngejfnmkaaDoorQnP10
namespace Go.Proofs.YtfccdngejfnmkaaDoor.P
open Go.RowKit Go.Proofs.YtfccdngejfnmkaaDoorW.PrintWords Go.Proofs.YtfccdngejfnmkaaDoorW.PrintLast Go.Proofs.YtfccdngejfnmkaaDoorW.PrintMore
attribute [local go_sem] max2_int min2_int max_two min_two max_three min_three max_four min_four   -- for this text's walks alone
set_option linter.unusedVariables false
set_option linter.unusedSimpArgs false
attribute [local go_sem] isSome_setCell
mutual
def gangerref10_Check.j0 : Nat → Bool → Int → Int → Int → Int → Int → Int → Int → Int → Int → List (S56) → List (S59) → List (S37) → Option (Int)
 | 0, _, _, _, _, _, _, _, _, _, _, _, _, _ => none
 | k + 1, x34, x279000, x279001, x279002, x279003, x279004, x279005, x279006, x279007, x279008, x279009, x279010, x279011 => if x34 = true then (some 100) else ((gangerref10_out.f x279000 1 4).bind fun t285 => (if t285 = true then (gangerref10_Check.j1 k true x279000 x279001 x279002 x279003 x279004 x279005 x279006 x279007 x279008 x279009 x279010 x279011) else ((gangerref10_out.f x279001 1 4294967296).bind fun t286 => (if t286 = true then (gangerref10_Check.j1 k true x279000 x279001 x279002 x279003 x279004 x279005 x279006 x279007 x279008 x279009 x279010 x279011) else ((gangerref10_out.f x279002 1 1073741824).bind fun t287 => (if t287 = true then (gangerref10_Check.j1 k true x279000 x279001 x279002 x279003 x279004 x279005 x279006 x279007 x279008 x279009 x279010 x279011) else ((gangerref10_out.f x279003 0 100).bind fun t288 => (gangerref10_Check.j1 k t288 x279000 x279001 x279002 x279003 x279004 x279005 x279006 x279007 x279008 x279009 x279010 x279011))))))))
def gangerref10_Check.j1 : Nat → Bool → Int → Int → Int → Int → Int → Int → Int → Int → Int → List (S56) → List (S59) → List (S37) → Option (Int)
 | 0, _, _, _, _, _, _, _, _, _, _, _, _, _ => none
 | k + 1, x52, x279000, x279001, x279002, x279003, x279004, x279005, x279006, x279007, x279008, x279009, x279010, x279011 => if x52 = true then (some 100) else ((gangerref10_out.f (x279009.length : Int) 1 8).bind fun t289 => (if t289 = true then (gangerref10_Check.j2 k true x279000 x279001 x279002 x279003 x279004 x279005 x279006 x279007 x279008 x279009 x279010 x279011) else ((gangerref10_out.f (x279010.length : Int) 1 8).bind fun t290 => (if t290 = true then (gangerref10_Check.j2 k true x279000 x279001 x279002 x279003 x279004 x279005 x279006 x279007 x279008 x279009 x279010 x279011) else ((gangerref10_out.f (x279011.length : Int) 1 50).bind fun t291 => (gangerref10_Check.j2 k t291 x279000 x279001 x279002 x279003 x279004 x279005 x279006 x279007 x279008 x279009 x279010 x279011))))))
def gangerref10_Check.j2 : Nat → Bool → Int → Int → Int → Int → Int → Int → Int → Int → Int → List (S56) → List (S59) → List (S37) → Option (Int)
 | 0, _, _, _, _, _, _, _, _, _, _, _, _, _ => none
 | k + 1, x68, x279000, x279001, x279002, x279003, x279004, x279005, x279006, x279007, x279008, x279009, x279010, x279011 => if x68 = true then (some 100) else (gangerref10_Check.l0 k 0 x279000 x279001 x279002 x279003 x279004 x279005 x279006 x279007 x279008 x279009 x279010 x279011)
def gangerref10_Check.l0 : Nat → Int → Int → Int → Int → Int → Int → Int → Int → Int → Int → List (S56) → List (S59) → List (S37) → Option (Int)
 | 0, _, _, _, _, _, _, _, _, _, _, _, _, _ => none
 | k + 1, x4, x279000, x279001, x279002, x279003, x279004, x279005, x279006, x279007, x279008, x279009, x279010, x279011 => if x4 < (x279009.length : Int) then (if 0 ≤ x4 then ((gangerref09_Name.f k ((rd_T56 x279009 x4).f0)).bind fun t294 => (if t294 = true then ((gangerref10_out.f ((rd_T56 x279009 x4).f1) 0 10).bind fun t295 => (if t295 = true then (gangerref10_Check.j4 k x4 true x279000 x279001 x279002 x279003 x279004 x279005 x279006 x279007 x279008 x279009 x279010 x279011 ((rd_T56 x279009 x4).f0) ((rd_T56 x279009 x4).f1) ((rd_T56 x279009 x4).f2) ((rd_T56 x279009 x4).f3)) else ((gangerref10_out.f ((rd_T56 x279009 x4).f2) 0 1048576).bind fun t296 => (if t296 = true then (gangerref10_Check.j4 k x4 true x279000 x279001 x279002 x279003 x279004 x279005 x279006 x279007 x279008 x279009 x279010 x279011 ((rd_T56 x279009 x4).f0) ((rd_T56 x279009 x4).f1) ((rd_T56 x279009 x4).f2) ((rd_T56 x279009 x4).f3)) else ((gangerref10_out.f ((rd_T56 x279009 x4).f3) 1 1073741824).bind fun t297 => (gangerref10_Check.j4 k x4 t297 x279000 x279001 x279002 x279003 x279004 x279005 x279006 x279007 x279008 x279009 x279010 x279011 ((rd_T56 x279009 x4).f0) ((rd_T56 x279009 x4).f1) ((rd_T56 x279009 x4).f2) ((rd_T56 x279009 x4).f3))))))) else (gangerref10_Check.j4 k x4 true x279000 x279001 x279002 x279003 x279004 x279005 x279006 x279007 x279008 x279009 x279010 x279011 ((rd_T56 x279009 x4).f0) ((rd_T56 x279009 x4).f1) ((rd_T56 x279009 x4).f2) ((rd_T56 x279009 x4).f3)))) else (none)) else (gangerref10_Check.l2 k 0 x279000 x279001 x279002 x279003 x279004 x279005 x279006 x279007 x279008 x279009 x279010 x279011)
def gangerref10_Check.j4 : Nat → Int → Bool → Int → Int → Int → Int → Int → Int → Int → Int → Int → List (S56) → List (S59) → List (S37) → ByteArray → Int → Int → Int → Option (Int)
 | 0, _, _, _, _, _, _, _, _, _, _, _, _, _, _, _, _, _, _ => none
 | k + 1, x4, x99, x279000, x279001, x279002, x279003, x279004, x279005, x279006, x279007, x279008, x279009, x279010, x279011, x294000, x294001, x294002, x294003 => if x99 = true then (some 100) else (gangerref10_Check.l1 k x4 0 x279000 x279001 x279002 x279003 x279004 x279005 x279006 x279007 x279008 x279009 x279010 x279011 x294000 x294001 x294002 x294003)
def gangerref10_Check.l1 : Nat → Int → Int → Int → Int → Int → Int → Int → Int → Int → Int → Int → List (S56) → List (S59) → List (S37) → ByteArray → Int → Int → Int → Option (Int)
 | 0, _, _, _, _, _, _, _, _, _, _, _, _, _, _, _, _, _, _ => none
 | k + 1, x4, x6, x279000, x279001, x279002, x279003, x279004, x279005, x279006, x279007, x279008, x279009, x279010, x279011, x294000, x294001, x294002, x294003 => if x6 < x4 then (if 0 ≤ x6 then (if x6 < (x279009.length : Int) then (if ((rd_T56 x279009 x6).f0).toList = x294000.toList then (some 100) else (gangerref10_Check.l1 k x4 (wrap64 (x6 + 1)) x279000 x279001 x279002 x279003 x279004 x279005 x279006 x279007 x279008 x279009 x279010 x279011 x294000 x294001 x294002 x294003)) else (none)) else (none)) else (gangerref10_Check.l0 k (wrap64 (x4 + 1)) x279000 x279001 x279002 x279003 x279004 x279005 x279006 x279007 x279008 x279009 x279010 x279011)
def gangerref10_Check.l2 : Nat → Int → Int → Int → Int → Int → Int → Int → Int → Int → Int → List (S56) → List (S59) → List (S37) → Option (Int)
 | 0, _, _, _, _, _, _, _, _, _, _, _, _, _ => none
 | k + 1, x7, x279000, x279001, x279002, x279003, x279004, x279005, x279006, x279007, x279008, x279009, x279010, x279011 => if x7 < (x279010.length : Int) then (if 0 ≤ x7 then ((gangerref09_Name.f k ((rd_T59 x279010 x7).f0)).bind fun t302 => (if t302 = true then ((gangerref10_out.f ((rd_T59 x279010 x7).f1) 0 1048576).bind fun t303 => (if t303 = true then (gangerref10_Check.j7 k x7 true x279000 x279001 x279002 x279003 x279004 x279005 x279006 x279007 x279008 x279009 x279010 x279011 ((rd_T59 x279010 x7).f0) ((rd_T59 x279010 x7).f1) ((rd_T59 x279010 x7).f2)) else ((gangerref10_out.f ((rd_T59 x279010 x7).f2) 1 1048576).bind fun t304 => (gangerref10_Check.j7 k x7 t304 x279000 x279001 x279002 x279003 x279004 x279005 x279006 x279007 x279008 x279009 x279010 x279011 ((rd_T59 x279010 x7).f0) ((rd_T59 x279010 x7).f1) ((rd_T59 x279010 x7).f2))))) else (gangerref10_Check.j7 k x7 true x279000 x279001 x279002 x279003 x279004 x279005 x279006 x279007 x279008 x279009 x279010 x279011 ((rd_T59 x279010 x7).f0) ((rd_T59 x279010 x7).f1) ((rd_T59 x279010 x7).f2)))) else (none)) else ((gangerref10_tree.f k x279011).bind fun t299 => (some t299))
def gangerref10_Check.j7 : Nat → Int → Bool → Int → Int → Int → Int → Int → Int → Int → Int → Int → List (S56) → List (S59) → List (S37) → ByteArray → Int → Int → Option (Int)
 | 0, _, _, _, _, _, _, _, _, _, _, _, _, _, _, _, _, _ => none
 | k + 1, x7, x139, x279000, x279001, x279002, x279003, x279004, x279005, x279006, x279007, x279008, x279009, x279010, x279011, x302000, x302001, x302002 => if x139 = true then (some 100) else (gangerref10_Check.l3 k x7 0 x279000 x279001 x279002 x279003 x279004 x279005 x279006 x279007 x279008 x279009 x279010 x279011 x302000 x302001 x302002)
def gangerref10_Check.l3 : Nat → Int → Int → Int → Int → Int → Int → Int → Int → Int → Int → Int → List (S56) → List (S59) → List (S37) → ByteArray → Int → Int → Option (Int)
 | 0, _, _, _, _, _, _, _, _, _, _, _, _, _, _, _, _, _ => none
 | k + 1, x7, x9, x279000, x279001, x279002, x279003, x279004, x279005, x279006, x279007, x279008, x279009, x279010, x279011, x302000, x302001, x302002 => if x9 < x7 then (if 0 ≤ x9 then (if x9 < (x279010.length : Int) then (if ((rd_T59 x279010 x9).f0).toList = x302000.toList then (some 100) else (gangerref10_Check.l3 k x7 (wrap64 (x9 + 1)) x279000 x279001 x279002 x279003 x279004 x279005 x279006 x279007 x279008 x279009 x279010 x279011 x302000 x302001 x302002)) else (none)) else (none)) else (gangerref10_Check.l2 k (wrap64 (x7 + 1)) x279000 x279001 x279002 x279003 x279004 x279005 x279006 x279007 x279008 x279009 x279010 x279011)
end
def gangerref10_Check.f (k : Nat) (a0_0 : Int) (a0_1 : Int) (a0_2 : Int) (a0_3 : Int) (a0_4 : Int) (a0_5 : Int) (a0_6 : Int) (a0_7 : Int) (a0_8 : Int) (l0_9 : List (S56)) (l0_10 : List (S59)) (l0_11 : List (S37)) : Option (Int) := (gangerref10_out.f a0_4 0 1048576).bind fun t280 => (if t280 = true then (gangerref10_Check.j0 k true a0_0 a0_1 a0_2 a0_3 a0_4 a0_5 a0_6 a0_7 a0_8 l0_9 l0_10 l0_11) else ((gangerref10_out.f a0_5 0 1048576).bind fun t281 => (if t281 = true then (gangerref10_Check.j0 k true a0_0 a0_1 a0_2 a0_3 a0_4 a0_5 a0_6 a0_7 a0_8 l0_9 l0_10 l0_11) else ((gangerref10_out.f a0_6 0 1048576).bind fun t282 => (if t282 = true then (gangerref10_Check.j0 k true a0_0 a0_1 a0_2 a0_3 a0_4 a0_5 a0_6 a0_7 a0_8 l0_9 l0_10 l0_11) else ((gangerref10_out.f a0_7 0 1048576).bind fun t283 => (if t283 = true then (gangerref10_Check.j0 k true a0_0 a0_1 a0_2 a0_3 a0_4 a0_5 a0_6 a0_7 a0_8 l0_9 l0_10 l0_11) else ((gangerref10_out.f a0_8 0 1048576).bind fun t284 => (gangerref10_Check.j0 k t284 a0_0 a0_1 a0_2 a0_3 a0_4 a0_5 a0_6 a0_7 a0_8 l0_9 l0_10 l0_11)))))))))
set_option maxHeartbeats 8000000 in
set_option maxRecDepth 100000 in
theorem gangerref10_Check.calls (k : Nat) (a0_0 : Int) (a0_1 : Int) (a0_2 : Int) (a0_3 : Int) (a0_4 : Int) (a0_5 : Int) (a0_6 : Int) (a0_7 : Int) (a0_8 : Int) (A0_9 : Option Addr) (c0_9 : Nat) (l0_9 : List (S56)) (A0_10 : Option Addr) (c0_10 : Nat) (l0_10 : List (S59)) (A0_11 : Option Addr) (c0_11 : Nat) (l0_11 : List (S37)) (r : Int) (w : World) (hr0_9 : Kd.C k56 w A0_9 l0_9.length l0_9) (hc0_9 : l0_9.length ≤ c0_9) (hr0_10 : Kd.C k59 w A0_10 l0_10.length l0_10) (hc0_10 : l0_10.length ≤ c0_10) (hr0_11 : Kd.C k37 w A0_11 l0_11.length l0_11) (hc0_11 : l0_11.length ≤ c0_11) (h : gangerref10_Check.f k a0_0 a0_1 a0_2 a0_3 a0_4 a0_5 a0_6 a0_7 a0_8 l0_9 l0_10 l0_11 = some r) :
  Calls Tryd.prog 33 #[.agg #[.int .i64 a0_0, .int .i64 a0_1, .int .i64 a0_2, .int .i64 a0_3, .int .i64 a0_4, .int .i64 a0_5, .int .i64 a0_6, .int .i64 a0_7, .int .i64 a0_8, .slice A0_9 l0_9.length c0_9, .slice A0_10 l0_10.length c0_10, .slice A0_11 l0_11.length c0_11]] w fun e w' => e = .returned (.int .i64 r) ∧ Below w.heap.size w w' := by
 have hu64 := Tryd.underlying64
 have hu62 := Tryd.underlying62
 have hu56 := Tryd.underlying56
 have hu59 := Tryd.underlying59
 have HR0_9 := Aside0.mk hr0_9
 have HC0_9 := Aside0.mk hc0_9
 clear hr0_9 hc0_9
 have HR0_10 := Aside0.mk hr0_10
 have HC0_10 := Aside0.mk hc0_10
 clear hr0_10 hc0_10
 have HR0_11 := Aside0.mk hr0_11
 have HC0_11 := Aside0.mk hc0_11
 clear hr0_11 hc0_11
 have HB := Aside0.mk (Below.refl w.heap.size w)
 have H : ((gangerref10_out.f a0_4 0 1048576).bind fun t280 => (if t280 = true then (gangerref10_Check.j0 k true a0_0 a0_1 a0_2 a0_3 a0_4 a0_5 a0_6 a0_7 a0_8 l0_9 l0_10 l0_11) else ((gangerref10_out.f a0_5 0 1048576).bind fun t281 => (if t281 = true then (gangerref10_Check.j0 k true a0_0 a0_1 a0_2 a0_3 a0_4 a0_5 a0_6 a0_7 a0_8 l0_9 l0_10 l0_11) else ((gangerref10_out.f a0_6 0 1048576).bind fun t282 => (if t282 = true then (gangerref10_Check.j0 k true a0_0 a0_1 a0_2 a0_3 a0_4 a0_5 a0_6 a0_7 a0_8 l0_9 l0_10 l0_11) else ((gangerref10_out.f a0_7 0 1048576).bind fun t283 => (if t283 = true then (gangerref10_Check.j0 k true a0_0 a0_1 a0_2 a0_3 a0_4 a0_5 a0_6 a0_7 a0_8 l0_9 l0_10 l0_11) else ((gangerref10_out.f a0_8 0 1048576).bind fun t284 => (gangerref10_Check.j0 k t284 a0_0 a0_1 a0_2 a0_3 a0_4 a0_5 a0_6 a0_7 a0_8 l0_9 l0_10 l0_11)))))))))) = some r := h
 clear h
 have HC2 := Aside0.mk H
 clear H
 go_enter Tryd.func33, Tryd.ntmps33
 go_upto_region 2 with (first | ((with_reducible refine gate_dst (N := 1) rfl ?_); (try (refine gate_guard (by rfl) ?_; dsimp only)); refine box_event ?hg (N := 1) ?hd (cs := #[.int .i64 a0_0, .int .i64 a0_1, .int .i64 a0_2, .int .i64 a0_3, .int .i64 a0_4, .int .i64 a0_5, .int .i64 a0_6, .int .i64 a0_7, .int .i64 a0_8, .slice A0_9 l0_9.length c0_9, .slice A0_10 l0_10.length c0_10, .slice A0_11 l0_11.length c0_11]) (t := 64) ?hr ?_; (case hd => rfl); (case hg => rfl); (case hr => first | (go_simp; done) | (go_simp; rfl)); intro gb278 hg w3 hbox hb; have n0_ := Aside0.mk (below_step (by repeat (first | (with_reducible first | exact HB.out | apply below_alloc | apply pw_below_drewN | apply below_drew1) | exact HB.out)) hb); have n1_ := Aside0.mk (hbox); have n2_ := Aside0.mk ((by rw [hg]; exact (below_size (by repeat (first | (with_reducible first | exact HB.out | apply below_alloc | apply pw_below_drewN | apply below_drew1) | exact HB.out))) : w.heap.size ≤ gb278)); have n3_ := Aside0.mk ((by rw [hg]; exact (below_size (by repeat (first | (with_reducible first | exact HB.out | apply below_alloc | apply pw_below_drewN | apply below_drew1) | exact HB.out))) : w.heap.size ≤ gb278)); clear HB; have HB := n0_; have BK278 := n1_; have GW278 := n2_; have GE278 := n3_; clear n0_ n1_ n2_ n3_; clear hb hbox hg; have hcz4_0 : w3.cell? ⟨gb278, 0, none⟩ = some (.int .i64 a0_0) := (blk_cell BK278.out 0).trans rfl; have hcz4_1 : w3.cell? ⟨gb278, 1, none⟩ = some (.int .i64 a0_1) := (blk_cell BK278.out 1).trans rfl; have hcz4_2 : w3.cell? ⟨gb278, 2, none⟩ = some (.int .i64 a0_2) := (blk_cell BK278.out 2).trans rfl; have hcz4_3 : w3.cell? ⟨gb278, 3, none⟩ = some (.int .i64 a0_3) := (blk_cell BK278.out 3).trans rfl; have hcz4_4 : w3.cell? ⟨gb278, 4, none⟩ = some (.int .i64 a0_4) := (blk_cell BK278.out 4).trans rfl; have hcz4_5 : w3.cell? ⟨gb278, 5, none⟩ = some (.int .i64 a0_5) := (blk_cell BK278.out 5).trans rfl; have hcz4_6 : w3.cell? ⟨gb278, 6, none⟩ = some (.int .i64 a0_6) := (blk_cell BK278.out 6).trans rfl; have hcz4_7 : w3.cell? ⟨gb278, 7, none⟩ = some (.int .i64 a0_7) := (blk_cell BK278.out 7).trans rfl; have hcz4_8 : w3.cell? ⟨gb278, 8, none⟩ = some (.int .i64 a0_8) := (blk_cell BK278.out 8).trans rfl; have hcz4_9 : w3.cell? ⟨gb278, 9, none⟩ = some (.slice A0_9 l0_9.length c0_9) := (blk_cell BK278.out 9).trans rfl; have hcz4_10 : w3.cell? ⟨gb278, 10, none⟩ = some (.slice A0_10 l0_10.length c0_10) := (blk_cell BK278.out 10).trans rfl; have hcz4_11 : w3.cell? ⟨gb278, 11, none⟩ = some (.slice A0_11 l0_11.length c0_11) := (blk_cell BK278.out 11).trans rfl; have hfz4_0 := blk_frozen BK278.out 0; have hfz4_1 := blk_frozen BK278.out 1; have hfz4_2 := blk_frozen BK278.out 2; have hfz4_3 := blk_frozen BK278.out 3; have hfz4_4 := blk_frozen BK278.out 4; have hfz4_5 := blk_frozen BK278.out 5; have hfz4_6 := blk_frozen BK278.out 6; have hfz4_7 := blk_frozen BK278.out 7; have hfz4_8 := blk_frozen BK278.out 8; have hfz4_9 := blk_frozen BK278.out 9; have hfz4_10 := blk_frozen BK278.out 10; have hfz4_11 := blk_frozen BK278.out 11) | ((with_reducible refine gate_dst (N := 3) rfl ?_); (try (refine gate_guard (by rfl) ?_; dsimp only)); refine box_event ?hg (N := 3) ?hd (cs := #[.int .i64 0, .int .i64 0, .int .i64 0, .int .i64 0, .int .i64 0]) (t := 62) ?hr ?_; (case hd => rfl); (case hg => rfl); (case hr => first | (go_simp; done) | (go_simp; rfl)); intro gb279 hg w5 hbox hb; have n0_ := Aside0.mk (blk_below (g := gb278) (o := .cells #[.int .i64 a0_0, .int .i64 a0_1, .int .i64 a0_2, .int .i64 a0_3, .int .i64 a0_4, .int .i64 a0_5, .int .i64 a0_6, .int .i64 a0_7, .int .i64 a0_8, .slice A0_9 l0_9.length c0_9, .slice A0_10 l0_10.length c0_10, .slice A0_11 l0_11.length c0_11] 64 (0, 0)) (by (with_reducible repeat (first | refine blk_drewN ?_ _ | refine blk_drew ?_ | refine blk_alloc ?_ _)); exact BK278.out) hb); have n1_ := Aside0.mk (below_step (by repeat (first | (with_reducible first | exact HB.out | apply below_alloc | apply pw_below_drewN | apply below_drew1 | refine below_set ?_ GE278.out) | exact HB.out)) hb); have n2_ := Aside0.mk (hbox); have n3_ := Aside0.mk ((by rw [hg]; exact (below_size (by repeat (first | (with_reducible first | exact HB.out | apply below_alloc | apply pw_below_drewN | apply below_drew1 | refine below_set ?_ GE278.out) | exact HB.out))) : w.heap.size ≤ gb279)); have n4_ := Aside0.mk ((by rw [hg]; exact (below_size (by repeat (first | (with_reducible first | exact HB.out | apply below_alloc | apply pw_below_drewN | apply below_drew1 | refine below_set ?_ GE278.out) | exact HB.out))) : w.heap.size ≤ gb279)); have n5_ := Aside0.mk ((by rw [hg]; exact Nat.ne_of_lt (blk_lt (g := gb278) (o := .cells #[.int .i64 a0_0, .int .i64 a0_1, .int .i64 a0_2, .int .i64 a0_3, .int .i64 a0_4, .int .i64 a0_5, .int .i64 a0_6, .int .i64 a0_7, .int .i64 a0_8, .slice A0_9 l0_9.length c0_9, .slice A0_10 l0_10.length c0_10, .slice A0_11 l0_11.length c0_11] 64 (0, 0)) (by (with_reducible repeat (first | refine blk_drewN ?_ _ | refine blk_drew ?_ | refine blk_alloc ?_ _)); exact BK278.out)) : gb278 ≠ gb279)); have n6_ := Aside0.mk ((by rw [hg]; exact Nat.ne_of_gt (blk_lt (g := gb278) (o := .cells #[.int .i64 a0_0, .int .i64 a0_1, .int .i64 a0_2, .int .i64 a0_3, .int .i64 a0_4, .int .i64 a0_5, .int .i64 a0_6, .int .i64 a0_7, .int .i64 a0_8, .slice A0_9 l0_9.length c0_9, .slice A0_10 l0_10.length c0_10, .slice A0_11 l0_11.length c0_11] 64 (0, 0)) (by (with_reducible repeat (first | refine blk_drewN ?_ _ | refine blk_drew ?_ | refine blk_alloc ?_ _)); exact BK278.out)) : gb279 ≠ gb278)); clear BK278; clear HB; have BK278 := n0_; have HB := n1_; have BK279 := n2_; have GW279 := n3_; have GE279 := n4_; have NB278_279 := n5_; have NB279_278 := n6_; clear n0_ n1_ n2_ n3_ n4_ n5_ n6_; clear hb hbox hg; have hnb6 := NB279_278.out; have hnc6 := NB278_279.out; have hcz7_0 : w5.cell? ⟨gb279, 0, none⟩ = some (.int .i64 0) := (blk_cell BK279.out 0).trans rfl; have hcz7_1 : w5.cell? ⟨gb279, 1, none⟩ = some (.int .i64 0) := (blk_cell BK279.out 1).trans rfl; have hcz7_2 : w5.cell? ⟨gb279, 2, none⟩ = some (.int .i64 0) := (blk_cell BK279.out 2).trans rfl; have hcz7_3 : w5.cell? ⟨gb279, 3, none⟩ = some (.int .i64 0) := (blk_cell BK279.out 3).trans rfl; have hcz7_4 : w5.cell? ⟨gb279, 4, none⟩ = some (.int .i64 0) := (blk_cell BK279.out 4).trans rfl; have hfz7_0 := blk_frozen BK279.out 0; have hfz7_1 := blk_frozen BK279.out 1; have hfz7_2 := blk_frozen BK279.out 2; have hfz7_3 := blk_frozen BK279.out 3; have hfz7_4 := blk_frozen BK279.out 4))
 repeat (go_quiet (first | ((with_reducible refine gate_dst (N := 1) rfl ?_); (try (refine gate_guard (by rfl) ?_; dsimp only)); refine box_event ?hg (N := 1) ?hd (cs := #[.int .i64 a0_0, .int .i64 a0_1, .int .i64 a0_2, .int .i64 a0_3, .int .i64 a0_4, .int .i64 a0_5, .int .i64 a0_6, .int .i64 a0_7, .int .i64 a0_8, .slice A0_9 l0_9.length c0_9, .slice A0_10 l0_10.length c0_10, .slice A0_11 l0_11.length c0_11]) (t := 64) ?hr ?_; (case hd => rfl); (case hg => rfl); (case hr => first | (go_simp; done) | (go_simp; rfl)); intro gb278 hg w3 hbox hb; have n0_ := Aside0.mk (below_step (by repeat (first | (with_reducible first | exact HB.out | apply below_alloc | apply pw_below_drewN | apply below_drew1) | exact HB.out)) hb); have n1_ := Aside0.mk (hbox); have n2_ := Aside0.mk ((by rw [hg]; exact (below_size (by repeat (first | (with_reducible first | exact HB.out | apply below_alloc | apply pw_below_drewN | apply below_drew1) | exact HB.out))) : w.heap.size ≤ gb278)); have n3_ := Aside0.mk ((by rw [hg]; exact (below_size (by repeat (first | (with_reducible first | exact HB.out | apply below_alloc | apply pw_below_drewN | apply below_drew1) | exact HB.out))) : w.heap.size ≤ gb278)); clear HB; have HB := n0_; have BK278 := n1_; have GW278 := n2_; have GE278 := n3_; clear n0_ n1_ n2_ n3_; clear hb hbox hg; have hcz4_0 : w3.cell? ⟨gb278, 0, none⟩ = some (.int .i64 a0_0) := (blk_cell BK278.out 0).trans rfl; have hcz4_1 : w3.cell? ⟨gb278, 1, none⟩ = some (.int .i64 a0_1) := (blk_cell BK278.out 1).trans rfl; have hcz4_2 : w3.cell? ⟨gb278, 2, none⟩ = some (.int .i64 a0_2) := (blk_cell BK278.out 2).trans rfl; have hcz4_3 : w3.cell? ⟨gb278, 3, none⟩ = some (.int .i64 a0_3) := (blk_cell BK278.out 3).trans rfl; have hcz4_4 : w3.cell? ⟨gb278, 4, none⟩ = some (.int .i64 a0_4) := (blk_cell BK278.out 4).trans rfl; have hcz4_5 : w3.cell? ⟨gb278, 5, none⟩ = some (.int .i64 a0_5) := (blk_cell BK278.out 5).trans rfl; have hcz4_6 : w3.cell? ⟨gb278, 6, none⟩ = some (.int .i64 a0_6) := (blk_cell BK278.out 6).trans rfl; have hcz4_7 : w3.cell? ⟨gb278, 7, none⟩ = some (.int .i64 a0_7) := (blk_cell BK278.out 7).trans rfl; have hcz4_8 : w3.cell? ⟨gb278, 8, none⟩ = some (.int .i64 a0_8) := (blk_cell BK278.out 8).trans rfl; have hcz4_9 : w3.cell? ⟨gb278, 9, none⟩ = some (.slice A0_9 l0_9.length c0_9) := (blk_cell BK278.out 9).trans rfl; have hcz4_10 : w3.cell? ⟨gb278, 10, none⟩ = some (.slice A0_10 l0_10.length c0_10) := (blk_cell BK278.out 10).trans rfl; have hcz4_11 : w3.cell? ⟨gb278, 11, none⟩ = some (.slice A0_11 l0_11.length c0_11) := (blk_cell BK278.out 11).trans rfl; have hfz4_0 := blk_frozen BK278.out 0; have hfz4_1 := blk_frozen BK278.out 1; have hfz4_2 := blk_frozen BK278.out 2; have hfz4_3 := blk_frozen BK278.out 3; have hfz4_4 := blk_frozen BK278.out 4; have hfz4_5 := blk_frozen BK278.out 5; have hfz4_6 := blk_frozen BK278.out 6; have hfz4_7 := blk_frozen BK278.out 7; have hfz4_8 := blk_frozen BK278.out 8; have hfz4_9 := blk_frozen BK278.out 9; have hfz4_10 := blk_frozen BK278.out 10; have hfz4_11 := blk_frozen BK278.out 11) | ((with_reducible refine gate_dst (N := 3) rfl ?_); (try (refine gate_guard (by rfl) ?_; dsimp only)); refine box_event ?hg (N := 3) ?hd (cs := #[.int .i64 0, .int .i64 0, .int .i64 0, .int .i64 0, .int .i64 0]) (t := 62) ?hr ?_; (case hd => rfl); (case hg => rfl); (case hr => first | (go_simp; done) | (go_simp; rfl)); intro gb279 hg w5 hbox hb; have n0_ := Aside0.mk (blk_below (g := gb278) (o := .cells #[.int .i64 a0_0, .int .i64 a0_1, .int .i64 a0_2, .int .i64 a0_3, .int .i64 a0_4, .int .i64 a0_5, .int .i64 a0_6, .int .i64 a0_7, .int .i64 a0_8, .slice A0_9 l0_9.length c0_9, .slice A0_10 l0_10.length c0_10, .slice A0_11 l0_11.length c0_11] 64 (0, 0)) (by (with_reducible repeat (first | refine blk_drewN ?_ _ | refine blk_drew ?_ | refine blk_alloc ?_ _)); exact BK278.out) hb); have n1_ := Aside0.mk (below_step (by repeat (first | (with_reducible first | exact HB.out | apply below_alloc | apply pw_below_drewN | apply below_drew1 | refine below_set ?_ GE278.out) | exact HB.out)) hb); have n2_ := Aside0.mk (hbox); have n3_ := Aside0.mk ((by rw [hg]; exact (below_size (by repeat (first | (with_reducible first | exact HB.out | apply below_alloc | apply pw_below_drewN | apply below_drew1 | refine below_set ?_ GE278.out) | exact HB.out))) : w.heap.size ≤ gb279)); have n4_ := Aside0.mk ((by rw [hg]; exact (below_size (by repeat (first | (with_reducible first | exact HB.out | apply below_alloc | apply pw_below_drewN | apply below_drew1 | refine below_set ?_ GE278.out) | exact HB.out))) : w.heap.size ≤ gb279)); have n5_ := Aside0.mk ((by rw [hg]; exact Nat.ne_of_lt (blk_lt (g := gb278) (o := .cells #[.int .i64 a0_0, .int .i64 a0_1, .int .i64 a0_2, .int .i64 a0_3, .int .i64 a0_4, .int .i64 a0_5, .int .i64 a0_6, .int .i64 a0_7, .int .i64 a0_8, .slice A0_9 l0_9.length c0_9, .slice A0_10 l0_10.length c0_10, .slice A0_11 l0_11.length c0_11] 64 (0, 0)) (by (with_reducible repeat (first | refine blk_drewN ?_ _ | refine blk_drew ?_ | refine blk_alloc ?_ _)); exact BK278.out)) : gb278 ≠ gb279)); have n6_ := Aside0.mk ((by rw [hg]; exact Nat.ne_of_gt (blk_lt (g := gb278) (o := .cells #[.int .i64 a0_0, .int .i64 a0_1, .int .i64 a0_2, .int .i64 a0_3, .int .i64 a0_4, .int .i64 a0_5, .int .i64 a0_6, .int .i64 a0_7, .int .i64 a0_8, .slice A0_9 l0_9.length c0_9, .slice A0_10 l0_10.length c0_10, .slice A0_11 l0_11.length c0_11] 64 (0, 0)) (by (with_reducible repeat (first | refine blk_drewN ?_ _ | refine blk_drew ?_ | refine blk_alloc ?_ _)); exact BK278.out)) : gb279 ≠ gb278)); clear BK278; clear HB; have BK278 := n0_; have HB := n1_; have BK279 := n2_; have GW279 := n3_; have GE279 := n4_; have NB278_279 := n5_; have NB279_278 := n6_; clear n0_ n1_ n2_ n3_ n4_ n5_ n6_; clear hb hbox hg; have hnb6 := NB279_278.out; have hnc6 := NB278_279.out; have hcz7_0 : w5.cell? ⟨gb279, 0, none⟩ = some (.int .i64 0) := (blk_cell BK279.out 0).trans rfl; have hcz7_1 : w5.cell? ⟨gb279, 1, none⟩ = some (.int .i64 0) := (blk_cell BK279.out 1).trans rfl; have hcz7_2 : w5.cell? ⟨gb279, 2, none⟩ = some (.int .i64 0) := (blk_cell BK279.out 2).trans rfl; have hcz7_3 : w5.cell? ⟨gb279, 3, none⟩ = some (.int .i64 0) := (blk_cell BK279.out 3).trans rfl; have hcz7_4 : w5.cell? ⟨gb279, 4, none⟩ = some (.int .i64 0) := (blk_cell BK279.out 4).trans rfl; have hfz7_0 := blk_frozen BK279.out 0; have hfz7_1 := blk_frozen BK279.out 1; have hfz7_2 := blk_frozen BK279.out 2; have hfz7_3 := blk_frozen BK279.out 3; have hfz7_4 := blk_frozen BK279.out 4)); go_upto_region 2 with (first | ((with_reducible refine gate_dst (N := 1) rfl ?_); (try (refine gate_guard (by rfl) ?_; dsimp only)); refine box_event ?hg (N := 1) ?hd (cs := #[.int .i64 a0_0, .int .i64 a0_1, .int .i64 a0_2, .int .i64 a0_3, .int .i64 a0_4, .int .i64 a0_5, .int .i64 a0_6, .int .i64 a0_7, .int .i64 a0_8, .slice A0_9 l0_9.length c0_9, .slice A0_10 l0_10.length c0_10, .slice A0_11 l0_11.length c0_11]) (t := 64) ?hr ?_; (case hd => rfl); (case hg => rfl); (case hr => first | (go_simp; done) | (go_simp; rfl)); intro gb278 hg w3 hbox hb; have n0_ := Aside0.mk (below_step (by repeat (first | (with_reducible first | exact HB.out | apply below_alloc | apply pw_below_drewN | apply below_drew1) | exact HB.out)) hb); have n1_ := Aside0.mk (hbox); have n2_ := Aside0.mk ((by rw [hg]; exact (below_size (by repeat (first | (with_reducible first | exact HB.out | apply below_alloc | apply pw_below_drewN | apply below_drew1) | exact HB.out))) : w.heap.size ≤ gb278)); have n3_ := Aside0.mk ((by rw [hg]; exact (below_size (by repeat (first | (with_reducible first | exact HB.out | apply below_alloc | apply pw_below_drewN | apply below_drew1) | exact HB.out))) : w.heap.size ≤ gb278)); clear HB; have HB := n0_; have BK278 := n1_; have GW278 := n2_; have GE278 := n3_; clear n0_ n1_ n2_ n3_; clear hb hbox hg; have hcz4_0 : w3.cell? ⟨gb278, 0, none⟩ = some (.int .i64 a0_0) := (blk_cell BK278.out 0).trans rfl; have hcz4_1 : w3.cell? ⟨gb278, 1, none⟩ = some (.int .i64 a0_1) := (blk_cell BK278.out 1).trans rfl; have hcz4_2 : w3.cell? ⟨gb278, 2, none⟩ = some (.int .i64 a0_2) := (blk_cell BK278.out 2).trans rfl; have hcz4_3 : w3.cell? ⟨gb278, 3, none⟩ = some (.int .i64 a0_3) := (blk_cell BK278.out 3).trans rfl; have hcz4_4 : w3.cell? ⟨gb278, 4, none⟩ = some (.int .i64 a0_4) := (blk_cell BK278.out 4).trans rfl; have hcz4_5 : w3.cell? ⟨gb278, 5, none⟩ = some (.int .i64 a0_5) := (blk_cell BK278.out 5).trans rfl; have hcz4_6 : w3.cell? ⟨gb278, 6, none⟩ = some (.int .i64 a0_6) := (blk_cell BK278.out 6).trans rfl; have hcz4_7 : w3.cell? ⟨gb278, 7, none⟩ = some (.int .i64 a0_7) := (blk_cell BK278.out 7).trans rfl; have hcz4_8 : w3.cell? ⟨gb278, 8, none⟩ = some (.int .i64 a0_8) := (blk_cell BK278.out 8).trans rfl; have hcz4_9 : w3.cell? ⟨gb278, 9, none⟩ = some (.slice A0_9 l0_9.length c0_9) := (blk_cell BK278.out 9).trans rfl; have hcz4_10 : w3.cell? ⟨gb278, 10, none⟩ = some (.slice A0_10 l0_10.length c0_10) := (blk_cell BK278.out 10).trans rfl; have hcz4_11 : w3.cell? ⟨gb278, 11, none⟩ = some (.slice A0_11 l0_11.length c0_11) := (blk_cell BK278.out 11).trans rfl; have hfz4_0 := blk_frozen BK278.out 0; have hfz4_1 := blk_frozen BK278.out 1; have hfz4_2 := blk_frozen BK278.out 2; have hfz4_3 := blk_frozen BK278.out 3; have hfz4_4 := blk_frozen BK278.out 4; have hfz4_5 := blk_frozen BK278.out 5; have hfz4_6 := blk_frozen BK278.out 6; have hfz4_7 := blk_frozen BK278.out 7; have hfz4_8 := blk_frozen BK278.out 8; have hfz4_9 := blk_frozen BK278.out 9; have hfz4_10 := blk_frozen BK278.out 10; have hfz4_11 := blk_frozen BK278.out 11) | ((with_reducible refine gate_dst (N := 3) rfl ?_); (try (refine gate_guard (by rfl) ?_; dsimp only)); refine box_event ?hg (N := 3) ?hd (cs := #[.int .i64 0, .int .i64 0, .int .i64 0, .int .i64 0, .int .i64 0]) (t := 62) ?hr ?_; (case hd => rfl); (case hg => rfl); (case hr => first | (go_simp; done) | (go_simp; rfl)); intro gb279 hg w5 hbox hb; have n0_ := Aside0.mk (blk_below (g := gb278) (o := .cells #[.int .i64 a0_0, .int .i64 a0_1, .int .i64 a0_2, .int .i64 a0_3, .int .i64 a0_4, .int .i64 a0_5, .int .i64 a0_6, .int .i64 a0_7, .int .i64 a0_8, .slice A0_9 l0_9.length c0_9, .slice A0_10 l0_10.length c0_10, .slice A0_11 l0_11.length c0_11] 64 (0, 0)) (by (with_reducible repeat (first | refine blk_drewN ?_ _ | refine blk_drew ?_ | refine blk_alloc ?_ _)); exact BK278.out) hb); have n1_ := Aside0.mk (below_step (by repeat (first | (with_reducible first | exact HB.out | apply below_alloc | apply pw_below_drewN | apply below_drew1 | refine below_set ?_ GE278.out) | exact HB.out)) hb); have n2_ := Aside0.mk (hbox); have n3_ := Aside0.mk ((by rw [hg]; exact (below_size (by repeat (first | (with_reducible first | exact HB.out | apply below_alloc | apply pw_below_drewN | apply below_drew1 | refine below_set ?_ GE278.out) | exact HB.out))) : w.heap.size ≤ gb279)); have n4_ := Aside0.mk ((by rw [hg]; exact (below_size (by repeat (first | (with_reducible first | exact HB.out | apply below_alloc | apply pw_below_drewN | apply below_drew1 | refine below_set ?_ GE278.out) | exact HB.out))) : w.heap.size ≤ gb279)); have n5_ := Aside0.mk ((by rw [hg]; exact Nat.ne_of_lt (blk_lt (g := gb278) (o := .cells #[.int .i64 a0_0, .int .i64 a0_1, .int .i64 a0_2, .int .i64 a0_3, .int .i64 a0_4, .int .i64 a0_5, .int .i64 a0_6, .int .i64 a0_7, .int .i64 a0_8, .slice A0_9 l0_9.length c0_9, .slice A0_10 l0_10.length c0_10, .slice A0_11 l0_11.length c0_11] 64 (0, 0)) (by (with_reducible repeat (first | refine blk_drewN ?_ _ | refine blk_drew ?_ | refine blk_alloc ?_ _)); exact BK278.out)) : gb278 ≠ gb279)); have n6_ := Aside0.mk ((by rw [hg]; exact Nat.ne_of_gt (blk_lt (g := gb278) (o := .cells #[.int .i64 a0_0, .int .i64 a0_1, .int .i64 a0_2, .int .i64 a0_3, .int .i64 a0_4, .int .i64 a0_5, .int .i64 a0_6, .int .i64 a0_7, .int .i64 a0_8, .slice A0_9 l0_9.length c0_9, .slice A0_10 l0_10.length c0_10, .slice A0_11 l0_11.length c0_11] 64 (0, 0)) (by (with_reducible repeat (first | refine blk_drewN ?_ _ | refine blk_drew ?_ | refine blk_alloc ?_ _)); exact BK278.out)) : gb279 ≠ gb278)); clear BK278; clear HB; have BK278 := n0_; have HB := n1_; have BK279 := n2_; have GW279 := n3_; have GE279 := n4_; have NB278_279 := n5_; have NB279_278 := n6_; clear n0_ n1_ n2_ n3_ n4_ n5_ n6_; clear hb hbox hg; have hnb6 := NB279_278.out; have hnc6 := NB278_279.out; have hcz7_0 : w5.cell? ⟨gb279, 0, none⟩ = some (.int .i64 0) := (blk_cell BK279.out 0).trans rfl; have hcz7_1 : w5.cell? ⟨gb279, 1, none⟩ = some (.int .i64 0) := (blk_cell BK279.out 1).trans rfl; have hcz7_2 : w5.cell? ⟨gb279, 2, none⟩ = some (.int .i64 0) := (blk_cell BK279.out 2).trans rfl; have hcz7_3 : w5.cell? ⟨gb279, 3, none⟩ = some (.int .i64 0) := (blk_cell BK279.out 3).trans rfl; have hcz7_4 : w5.cell? ⟨gb279, 4, none⟩ = some (.int .i64 0) := (blk_cell BK279.out 4).trans rfl; have hfz7_0 := blk_frozen BK279.out 0; have hfz7_1 := blk_frozen BK279.out 1; have hfz7_2 := blk_frozen BK279.out 2; have hfz7_3 := blk_frozen BK279.out 3; have hfz7_4 := blk_frozen BK279.out 4)))
 (try simp only [Act.put, List.setIfInBounds_toArray, List.set_cons_zero, List.set_cons_succ])
 go_cut [34] (fun v34 wc => ∃ (kq : Nat) (x34_1 : Bool), v34 = .bool x34_1 ∧ Aside0 (gangerref10_Check.j0 kq x34_1 a0_0 a0_1 a0_2 a0_3 a0_4 a0_5 a0_6 a0_7 a0_8 l0_9 l0_10 l0_11 = some r) ∧ Aside0 (kq ≤ k) ∧ Aside0 (wc.heap[gb278]? = some (.cells #[.int .i64 a0_0, .int .i64 a0_1, .int .i64 a0_2, .int .i64 a0_3, .int .i64 a0_4, .int .i64 a0_5, .int .i64 a0_6, .int .i64 a0_7, .int .i64 a0_8, (.slice A0_9 l0_9.length c0_9), (.slice A0_10 l0_10.length c0_10), (.slice A0_11 l0_11.length c0_11)] 64 (0, 0))) ∧ Aside0 (wc.heap[gb279]? = some (.cells #[.int .i64 a0_4, .int .i64 a0_5, .int .i64 a0_6, .int .i64 a0_7, .int .i64 a0_8] 62 (0, 0))) ∧ Aside0 (Below w.heap.size w wc))
 case first =>
  have H := HC2.out
  clear HC2
  replace H := Option.bind_eq_some_iff.mp H
  obtain ⟨t280, A80, H⟩ := H
  replace H : (if t280 = true then (gangerref10_Check.j0 k true a0_0 a0_1 a0_2 a0_3 a0_4 a0_5 a0_6 a0_7 a0_8 l0_9 l0_10 l0_11) else ((gangerref10_out.f a0_5 0 1048576).bind fun t281 => (if t281 = true then (gangerref10_Check.j0 k true a0_0 a0_1 a0_2 a0_3 a0_4 a0_5 a0_6 a0_7 a0_8 l0_9 l0_10 l0_11) else ((gangerref10_out.f a0_6 0 1048576).bind fun t282 => (if t282 = true then (gangerref10_Check.j0 k true a0_0 a0_1 a0_2 a0_3 a0_4 a0_5 a0_6 a0_7 a0_8 l0_9 l0_10 l0_11) else ((gangerref10_out.f a0_7 0 1048576).bind fun t283 => (if t283 = true then (gangerref10_Check.j0 k true a0_0 a0_1 a0_2 a0_3 a0_4 a0_5 a0_6 a0_7 a0_8 l0_9 l0_10 l0_11) else ((gangerref10_out.f a0_8 0 1048576).bind fun t284 => (gangerref10_Check.j0 k t284 a0_0 a0_1 a0_2 a0_3 a0_4 a0_5 a0_6 a0_7 a0_8 l0_9 l0_10 l0_11))))))))) = some r := H
  have A8 := Aside0.mk A80
  clear A80
  by_cases c9 : t280 = true
  ·subst c9
   have H1 : (gangerref10_Check.j0 k true a0_0 a0_1 a0_2 a0_3 a0_4 a0_5 a0_6 a0_7 a0_8 l0_9 l0_10 l0_11) = some r := by rw [if_pos rfl] at H; exact H
   clear H
   have H := H1
   clear H1
   have H' := Aside0.mk H
   clear H
   have hnb10 := NB279_278.out
   have hnc10 := NB278_279.out
   have hcz11_0 : w5.cell? ⟨gb279, 0, none⟩ = some (.int .i64 0) := (blk_cell BK279.out 0).trans rfl
   have hcz11_1 : w5.cell? ⟨gb279, 1, none⟩ = some (.int .i64 0) := (blk_cell BK279.out 1).trans rfl
   have hcz11_2 : w5.cell? ⟨gb279, 2, none⟩ = some (.int .i64 0) := (blk_cell BK279.out 2).trans rfl
   have hcz11_3 : w5.cell? ⟨gb279, 3, none⟩ = some (.int .i64 0) := (blk_cell BK279.out 3).trans rfl
   have hcz11_4 : w5.cell? ⟨gb279, 4, none⟩ = some (.int .i64 0) := (blk_cell BK279.out 4).trans rfl
   have hfz11_0 := blk_frozen BK279.out 0
   have hfz11_1 := blk_frozen BK279.out 1
   have hfz11_2 := blk_frozen BK279.out 2
   have hfz11_3 := blk_frozen BK279.out 3
   have hfz11_4 := blk_frozen BK279.out 4
   go_wp2_with (first | (go_at_call 46; (with_reducible refine (gangerref10_out.calls a0_4 0 1048576 true _ A8.out).mono ?_); rintro e w' ⟨rfl, ⟨nd, rfl⟩⟩; (try first | exact ⟨rfl, _, World.drewN_drewN _ _ _⟩ | exact ⟨rfl, _, Eq.trans (World.drewN_drewN _ _ _) (congrArg (World.drewN _) (Nat.add_assoc _ _ _))⟩)))
   repeat (go_quiet (first | (go_at_call 46; (with_reducible refine (gangerref10_out.calls a0_4 0 1048576 true _ A8.out).mono ?_); rintro e w' ⟨rfl, ⟨nd, rfl⟩⟩; (try first | exact ⟨rfl, _, World.drewN_drewN _ _ _⟩ | exact ⟨rfl, _, Eq.trans (World.drewN_drewN _ _ _) (congrArg (World.drewN _) (Nat.add_assoc _ _ _))⟩))); try go_wp2_with (first | (go_at_call 46; (with_reducible refine (gangerref10_out.calls a0_4 0 1048576 true _ A8.out).mono ?_); rintro e w' ⟨rfl, ⟨nd, rfl⟩⟩; (try first | exact ⟨rfl, _, World.drewN_drewN _ _ _⟩ | exact ⟨rfl, _, Eq.trans (World.drewN_drewN _ _ _) (congrArg (World.drewN _) (Nat.add_assoc _ _ _))⟩))))
   go_meet
   case rel => exact ⟨_, (true), (by first | rfl | (simp; done) | (simp [*]; done)), H', ⟨by first | omega | exact Nat.le_refl _⟩, ⟨by (with_reducible repeat (first | refine blk_drewN ?_ _ | refine blk_drew ?_ | refine blk_alloc ?_ _)); refine blk_far ?_ NB278_279.out _; (with_reducible repeat (first | refine blk_drewN ?_ _ | refine blk_drew ?_ | refine blk_alloc ?_ _)); refine blk_far ?_ NB278_279.out _; (with_reducible repeat (first | refine blk_drewN ?_ _ | refine blk_drew ?_ | refine blk_alloc ?_ _)); refine blk_far ?_ NB278_279.out _; (with_reducible repeat (first | refine blk_drewN ?_ _ | refine blk_drew ?_ | refine blk_alloc ?_ _)); refine blk_far ?_ NB278_279.out _; (with_reducible repeat (first | refine blk_drewN ?_ _ | refine blk_drew ?_ | refine blk_alloc ?_ _)); refine blk_far ?_ NB278_279.out _; (with_reducible repeat (first | refine blk_drewN ?_ _ | refine blk_drew ?_ | refine blk_alloc ?_ _)); exact BK278.out⟩, ⟨by (with_reducible repeat (first | refine blk_drewN ?_ _ | refine blk_drew ?_ | refine blk_alloc ?_ _)); refine blk_put (cs := #[.int .i64 a0_4, .int .i64 a0_5, .int .i64 a0_6, .int .i64 a0_7, .int .i64 0]) ?_ 4 _ rfl; (with_reducible repeat (first | refine blk_drewN ?_ _ | refine blk_drew ?_ | refine blk_alloc ?_ _)); refine blk_put (cs := #[.int .i64 a0_4, .int .i64 a0_5, .int .i64 a0_6, .int .i64 0, .int .i64 0]) ?_ 3 _ rfl; (with_reducible repeat (first | refine blk_drewN ?_ _ | refine blk_drew ?_ | refine blk_alloc ?_ _)); refine blk_put (cs := #[.int .i64 a0_4, .int .i64 a0_5, .int .i64 0, .int .i64 0, .int .i64 0]) ?_ 2 _ rfl; (with_reducible repeat (first | refine blk_drewN ?_ _ | refine blk_drew ?_ | refine blk_alloc ?_ _)); refine blk_put (cs := #[.int .i64 a0_4, .int .i64 0, .int .i64 0, .int .i64 0, .int .i64 0]) ?_ 1 _ rfl; (with_reducible repeat (first | refine blk_drewN ?_ _ | refine blk_drew ?_ | refine blk_alloc ?_ _)); refine blk_put (cs := #[.int .i64 0, .int .i64 0, .int .i64 0, .int .i64 0, .int .i64 0]) ?_ 0 _ rfl; (with_reducible repeat (first | refine blk_drewN ?_ _ | refine blk_drew ?_ | refine blk_alloc ?_ _)); exact BK279.out⟩, ⟨by repeat (first | (with_reducible first | exact HB.out | apply below_alloc | apply pw_below_drewN | apply below_drew1 | refine below_set ?_ GE278.out | refine below_set ?_ GE279.out) | exact HB.out)⟩⟩
  ·replace c9 := Bool.eq_false_iff.mpr c9
   subst c9
   have H1 : ((gangerref10_out.f a0_5 0 1048576).bind fun t281 => (if t281 = true then (gangerref10_Check.j0 k true a0_0 a0_1 a0_2 a0_3 a0_4 a0_5 a0_6 a0_7 a0_8 l0_9 l0_10 l0_11) else ((gangerref10_out.f a0_6 0 1048576).bind fun t282 => (if t282 = true then (gangerref10_Check.j0 k true a0_0 a0_1 a0_2 a0_3 a0_4 a0_5 a0_6 a0_7 a0_8 l0_9 l0_10 l0_11) else ((gangerref10_out.f a0_7 0 1048576).bind fun t283 => (if t283 = true then (gangerref10_Check.j0 k true a0_0 a0_1 a0_2 a0_3 a0_4 a0_5 a0_6 a0_7 a0_8 l0_9 l0_10 l0_11) else ((gangerref10_out.f a0_8 0 1048576).bind fun t284 => (gangerref10_Check.j0 k t284 a0_0 a0_1 a0_2 a0_3 a0_4 a0_5 a0_6 a0_7 a0_8 l0_9 l0_10 l0_11)))))))) = some r := by rw [if_neg (show ¬ (false = true) by decide)] at H; exact H
   clear H
   have H := H1
   clear H1
   replace H := Option.bind_eq_some_iff.mp H
   obtain ⟨t281, A120, H⟩ := H
   replace H : (if t281 = true then (gangerref10_Check.j0 k true a0_0 a0_1 a0_2 a0_3 a0_4 a0_5 a0_6 a0_7 a0_8 l0_9 l0_10 l0_11) else ((gangerref10_out.f a0_6 0 1048576).bind fun t282 => (if t282 = true then (gangerref10_Check.j0 k true a0_0 a0_1 a0_2 a0_3 a0_4 a0_5 a0_6 a0_7 a0_8 l0_9 l0_10 l0_11) else ((gangerref10_out.f a0_7 0 1048576).bind fun t283 => (if t283 = true then (gangerref10_Check.j0 k true a0_0 a0_1 a0_2 a0_3 a0_4 a0_5 a0_6 a0_7 a0_8 l0_9 l0_10 l0_11) else ((gangerref10_out.f a0_8 0 1048576).bind fun t284 => (gangerref10_Check.j0 k t284 a0_0 a0_1 a0_2 a0_3 a0_4 a0_5 a0_6 a0_7 a0_8 l0_9 l0_10 l0_11))))))) = some r := H
   have A12 := Aside0.mk A120
   clear A120
   by_cases c13 : t281 = true
   ·subst c13
    have H1 : (gangerref10_Check.j0 k true a0_0 a0_1 a0_2 a0_3 a0_4 a0_5 a0_6 a0_7 a0_8 l0_9 l0_10 l0_11) = some r := by rw [if_pos rfl] at H; exact H
    clear H
    have H := H1
    clear H1
    have H' := Aside0.mk H
    clear H
    have hnb14 := NB279_278.out
    have hnc14 := NB278_279.out
    have hcz15_0 : w5.cell? ⟨gb279, 0, none⟩ = some (.int .i64 0) := (blk_cell BK279.out 0).trans rfl
    have hcz15_1 : w5.cell? ⟨gb279, 1, none⟩ = some (.int .i64 0) := (blk_cell BK279.out 1).trans rfl
    have hcz15_2 : w5.cell? ⟨gb279, 2, none⟩ = some (.int .i64 0) := (blk_cell BK279.out 2).trans rfl
    have hcz15_3 : w5.cell? ⟨gb279, 3, none⟩ = some (.int .i64 0) := (blk_cell BK279.out 3).trans rfl
    have hcz15_4 : w5.cell? ⟨gb279, 4, none⟩ = some (.int .i64 0) := (blk_cell BK279.out 4).trans rfl
    have hfz15_0 := blk_frozen BK279.out 0
    have hfz15_1 := blk_frozen BK279.out 1
    have hfz15_2 := blk_frozen BK279.out 2
    have hfz15_3 := blk_frozen BK279.out 3
    have hfz15_4 := blk_frozen BK279.out 4
    go_wp2_with (first | (go_at_call 46; (with_reducible refine (gangerref10_out.calls a0_4 0 1048576 false _ A8.out).mono ?_); rintro e w' ⟨rfl, ⟨nd, rfl⟩⟩; (try first | exact ⟨rfl, _, World.drewN_drewN _ _ _⟩ | exact ⟨rfl, _, Eq.trans (World.drewN_drewN _ _ _) (congrArg (World.drewN _) (Nat.add_assoc _ _ _))⟩)) | (go_at_call 46; (with_reducible refine (gangerref10_out.calls a0_5 0 1048576 true _ A12.out).mono ?_); rintro e w' ⟨rfl, ⟨nd, rfl⟩⟩; (try first | exact ⟨rfl, _, World.drewN_drewN _ _ _⟩ | exact ⟨rfl, _, Eq.trans (World.drewN_drewN _ _ _) (congrArg (World.drewN _) (Nat.add_assoc _ _ _))⟩)))
    repeat (go_quiet (first | (go_at_call 46; (with_reducible refine (gangerref10_out.calls a0_4 0 1048576 false _ A8.out).mono ?_); rintro e w' ⟨rfl, ⟨nd, rfl⟩⟩; (try first | exact ⟨rfl, _, World.drewN_drewN _ _ _⟩ | exact ⟨rfl, _, Eq.trans (World.drewN_drewN _ _ _) (congrArg (World.drewN _) (Nat.add_assoc _ _ _))⟩)) | (go_at_call 46; (with_reducible refine (gangerref10_out.calls a0_5 0 1048576 true _ A12.out).mono ?_); rintro e w' ⟨rfl, ⟨nd, rfl⟩⟩; (try first | exact ⟨rfl, _, World.drewN_drewN _ _ _⟩ | exact ⟨rfl, _, Eq.trans (World.drewN_drewN _ _ _) (congrArg (World.drewN _) (Nat.add_assoc _ _ _))⟩))); try go_wp2_with (first | (go_at_call 46; (with_reducible refine (gangerref10_out.calls a0_4 0 1048576 false _ A8.out).mono ?_); rintro e w' ⟨rfl, ⟨nd, rfl⟩⟩; (try first | exact ⟨rfl, _, World.drewN_drewN _ _ _⟩ | exact ⟨rfl, _, Eq.trans (World.drewN_drewN _ _ _) (congrArg (World.drewN _) (Nat.add_assoc _ _ _))⟩)) | (go_at_call 46; (with_reducible refine (gangerref10_out.calls a0_5 0 1048576 true _ A12.out).mono ?_); rintro e w' ⟨rfl, ⟨nd, rfl⟩⟩; (try first | exact ⟨rfl, _, World.drewN_drewN _ _ _⟩ | exact ⟨rfl, _, Eq.trans (World.drewN_drewN _ _ _) (congrArg (World.drewN _) (Nat.add_assoc _ _ _))⟩))))
    go_meet
    case rel => exact ⟨_, (true), (by first | rfl | (simp; done) | (simp [*]; done)), H', ⟨by first | omega | exact Nat.le_refl _⟩, ⟨by (with_reducible repeat (first | refine blk_drewN ?_ _ | refine blk_drew ?_ | refine blk_alloc ?_ _)); refine blk_far ?_ NB278_279.out _; (with_reducible repeat (first | refine blk_drewN ?_ _ | refine blk_drew ?_ | refine blk_alloc ?_ _)); refine blk_far ?_ NB278_279.out _; (with_reducible repeat (first | refine blk_drewN ?_ _ | refine blk_drew ?_ | refine blk_alloc ?_ _)); refine blk_far ?_ NB278_279.out _; (with_reducible repeat (first | refine blk_drewN ?_ _ | refine blk_drew ?_ | refine blk_alloc ?_ _)); refine blk_far ?_ NB278_279.out _; (with_reducible repeat (first | refine blk_drewN ?_ _ | refine blk_drew ?_ | refine blk_alloc ?_ _)); refine blk_far ?_ NB278_279.out _; (with_reducible repeat (first | refine blk_drewN ?_ _ | refine blk_drew ?_ | refine blk_alloc ?_ _)); exact BK278.out⟩, ⟨by (with_reducible repeat (first | refine blk_drewN ?_ _ | refine blk_drew ?_ | refine blk_alloc ?_ _)); refine blk_put (cs := #[.int .i64 a0_4, .int .i64 a0_5, .int .i64 a0_6, .int .i64 a0_7, .int .i64 0]) ?_ 4 _ rfl; (with_reducible repeat (first | refine blk_drewN ?_ _ | refine blk_drew ?_ | refine blk_alloc ?_ _)); refine blk_put (cs := #[.int .i64 a0_4, .int .i64 a0_5, .int .i64 a0_6, .int .i64 0, .int .i64 0]) ?_ 3 _ rfl; (with_reducible repeat (first | refine blk_drewN ?_ _ | refine blk_drew ?_ | refine blk_alloc ?_ _)); refine blk_put (cs := #[.int .i64 a0_4, .int .i64 a0_5, .int .i64 0, .int .i64 0, .int .i64 0]) ?_ 2 _ rfl; (with_reducible repeat (first | refine blk_drewN ?_ _ | refine blk_drew ?_ | refine blk_alloc ?_ _)); refine blk_put (cs := #[.int .i64 a0_4, .int .i64 0, .int .i64 0, .int .i64 0, .int .i64 0]) ?_ 1 _ rfl; (with_reducible repeat (first | refine blk_drewN ?_ _ | refine blk_drew ?_ | refine blk_alloc ?_ _)); refine blk_put (cs := #[.int .i64 0, .int .i64 0, .int .i64 0, .int .i64 0, .int .i64 0]) ?_ 0 _ rfl; (with_reducible repeat (first | refine blk_drewN ?_ _ | refine blk_drew ?_ | refine blk_alloc ?_ _)); exact BK279.out⟩, ⟨by repeat (first | (with_reducible first | exact HB.out | apply below_alloc | apply pw_below_drewN | apply below_drew1 | refine below_set ?_ GE278.out | refine below_set ?_ GE279.out) | exact HB.out)⟩⟩
   ·replace c13 := Bool.eq_false_iff.mpr c13
    subst c13
    have H1 : ((gangerref10_out.f a0_6 0 1048576).bind fun t282 => (if t282 = true then (gangerref10_Check.j0 k true a0_0 a0_1 a0_2 a0_3 a0_4 a0_5 a0_6 a0_7 a0_8 l0_9 l0_10 l0_11) else ((gangerref10_out.f a0_7 0 1048576).bind fun t283 => (if t283 = true then (gangerref10_Check.j0 k true a0_0 a0_1 a0_2 a0_3 a0_4 a0_5 a0_6 a0_7 a0_8 l0_9 l0_10 l0_11) else ((gangerref10_out.f a0_8 0 1048576).bind fun t284 => (gangerref10_Check.j0 k t284 a0_0 a0_1 a0_2 a0_3 a0_4 a0_5 a0_6 a0_7 a0_8 l0_9 l0_10 l0_11)))))) = some r := by rw [if_neg (show ¬ (false = true) by decide)] at H; exact H
    clear H
    have H := H1
    clear H1
    replace H := Option.bind_eq_some_iff.mp H
    obtain ⟨t282, A160, H⟩ := H
    replace H : (if t282 = true then (gangerref10_Check.j0 k true a0_0 a0_1 a0_2 a0_3 a0_4 a0_5 a0_6 a0_7 a0_8 l0_9 l0_10 l0_11) else ((gangerref10_out.f a0_7 0 1048576).bind fun t283 => (if t283 = true then (gangerref10_Check.j0 k true a0_0 a0_1 a0_2 a0_3 a0_4 a0_5 a0_6 a0_7 a0_8 l0_9 l0_10 l0_11) else ((gangerref10_out.f a0_8 0 1048576).bind fun t284 => (gangerref10_Check.j0 k t284 a0_0 a0_1 a0_2 a0_3 a0_4 a0_5 a0_6 a0_7 a0_8 l0_9 l0_10 l0_11))))) = some r := H
    have A16 := Aside0.mk A160
    clear A160
    by_cases c17 : t282 = true
    ·subst c17
     have H1 : (gangerref10_Check.j0 k true a0_0 a0_1 a0_2 a0_3 a0_4 a0_5 a0_6 a0_7 a0_8 l0_9 l0_10 l0_11) = some r := by rw [if_pos rfl] at H; exact H
     clear H
     have H := H1
     clear H1
     have H' := Aside0.mk H
     clear H
     have hnb18 := NB279_278.out
     have hnc18 := NB278_279.out
     have hcz19_0 : w5.cell? ⟨gb279, 0, none⟩ = some (.int .i64 0) := (blk_cell BK279.out 0).trans rfl
     have hcz19_1 : w5.cell? ⟨gb279, 1, none⟩ = some (.int .i64 0) := (blk_cell BK279.out 1).trans rfl
     have hcz19_2 : w5.cell? ⟨gb279, 2, none⟩ = some (.int .i64 0) := (blk_cell BK279.out 2).trans rfl
     have hcz19_3 : w5.cell? ⟨gb279, 3, none⟩ = some (.int .i64 0) := (blk_cell BK279.out 3).trans rfl
     have hcz19_4 : w5.cell? ⟨gb279, 4, none⟩ = some (.int .i64 0) := (blk_cell BK279.out 4).trans rfl
     have hfz19_0 := blk_frozen BK279.out 0
     have hfz19_1 := blk_frozen BK279.out 1
     have hfz19_2 := blk_frozen BK279.out 2
     have hfz19_3 := blk_frozen BK279.out 3
     have hfz19_4 := blk_frozen BK279.out 4
     go_wp2_with (first | (go_at_call 46; (with_reducible refine (gangerref10_out.calls a0_4 0 1048576 false _ A8.out).mono ?_); rintro e w' ⟨rfl, ⟨nd, rfl⟩⟩; (try first | exact ⟨rfl, _, World.drewN_drewN _ _ _⟩ | exact ⟨rfl, _, Eq.trans (World.drewN_drewN _ _ _) (congrArg (World.drewN _) (Nat.add_assoc _ _ _))⟩)) | (go_at_call 46; (with_reducible refine (gangerref10_out.calls a0_5 0 1048576 false _ A12.out).mono ?_); rintro e w' ⟨rfl, ⟨nd, rfl⟩⟩; (try first | exact ⟨rfl, _, World.drewN_drewN _ _ _⟩ | exact ⟨rfl, _, Eq.trans (World.drewN_drewN _ _ _) (congrArg (World.drewN _) (Nat.add_assoc _ _ _))⟩)) | (go_at_call 46; (with_reducible refine (gangerref10_out.calls a0_6 0 1048576 true _ A16.out).mono ?_); rintro e w' ⟨rfl, ⟨nd, rfl⟩⟩; (try first | exact ⟨rfl, _, World.drewN_drewN _ _ _⟩ | exact ⟨rfl, _, Eq.trans (World.drewN_drewN _ _ _) (congrArg (World.drewN _) (Nat.add_assoc _ _ _))⟩)))
     repeat (go_quiet (first | (go_at_call 46; (with_reducible refine (gangerref10_out.calls a0_4 0 1048576 false _ A8.out).mono ?_); rintro e w' ⟨rfl, ⟨nd, rfl⟩⟩; (try first | exact ⟨rfl, _, World.drewN_drewN _ _ _⟩ | exact ⟨rfl, _, Eq.trans (World.drewN_drewN _ _ _) (congrArg (World.drewN _) (Nat.add_assoc _ _ _))⟩)) | (go_at_call 46; (with_reducible refine (gangerref10_out.calls a0_5 0 1048576 false _ A12.out).mono ?_); rintro e w' ⟨rfl, ⟨nd, rfl⟩⟩; (try first | exact ⟨rfl, _, World.drewN_drewN _ _ _⟩ | exact ⟨rfl, _, Eq.trans (World.drewN_drewN _ _ _) (congrArg (World.drewN _) (Nat.add_assoc _ _ _))⟩)) | (go_at_call 46; (with_reducible refine (gangerref10_out.calls a0_6 0 1048576 true _ A16.out).mono ?_); rintro e w' ⟨rfl, ⟨nd, rfl⟩⟩; (try first | exact ⟨rfl, _, World.drewN_drewN _ _ _⟩ | exact ⟨rfl, _, Eq.trans (World.drewN_drewN _ _ _) (congrArg (World.drewN _) (Nat.add_assoc _ _ _))⟩))); try go_wp2_with (first | (go_at_call 46; (with_reducible refine (gangerref10_out.calls a0_4 0 1048576 false _ A8.out).mono ?_); rintro e w' ⟨rfl, ⟨nd, rfl⟩⟩; (try first | exact ⟨rfl, _, World.drewN_drewN _ _ _⟩ | exact ⟨rfl, _, Eq.trans (World.drewN_drewN _ _ _) (congrArg (World.drewN _) (Nat.add_assoc _ _ _))⟩)) | (go_at_call 46; (with_reducible refine (gangerref10_out.calls a0_5 0 1048576 false _ A12.out).mono ?_); rintro e w' ⟨rfl, ⟨nd, rfl⟩⟩; (try first | exact ⟨rfl, _, World.drewN_drewN _ _ _⟩ | exact ⟨rfl, _, Eq.trans (World.drewN_drewN _ _ _) (congrArg (World.drewN _) (Nat.add_assoc _ _ _))⟩)) | (go_at_call 46; (with_reducible refine (gangerref10_out.calls a0_6 0 1048576 true _ A16.out).mono ?_); rintro e w' ⟨rfl, ⟨nd, rfl⟩⟩; (try first | exact ⟨rfl, _, World.drewN_drewN _ _ _⟩ | exact ⟨rfl, _, Eq.trans (World.drewN_drewN _ _ _) (congrArg (World.drewN _) (Nat.add_assoc _ _ _))⟩))))
     go_meet
     case rel => exact ⟨_, (true), (by first | rfl | (simp; done) | (simp [*]; done)), H', ⟨by first | omega | exact Nat.le_refl _⟩, ⟨by (with_reducible repeat (first | refine blk_drewN ?_ _ | refine blk_drew ?_ | refine blk_alloc ?_ _)); refine blk_far ?_ NB278_279.out _; (with_reducible repeat (first | refine blk_drewN ?_ _ | refine blk_drew ?_ | refine blk_alloc ?_ _)); refine blk_far ?_ NB278_279.out _; (with_reducible repeat (first | refine blk_drewN ?_ _ | refine blk_drew ?_ | refine blk_alloc ?_ _)); refine blk_far ?_ NB278_279.out _; (with_reducible repeat (first | refine blk_drewN ?_ _ | refine blk_drew ?_ | refine blk_alloc ?_ _)); refine blk_far ?_ NB278_279.out _; (with_reducible repeat (first | refine blk_drewN ?_ _ | refine blk_drew ?_ | refine blk_alloc ?_ _)); refine blk_far ?_ NB278_279.out _; (with_reducible repeat (first | refine blk_drewN ?_ _ | refine blk_drew ?_ | refine blk_alloc ?_ _)); exact BK278.out⟩, ⟨by (with_reducible repeat (first | refine blk_drewN ?_ _ | refine blk_drew ?_ | refine blk_alloc ?_ _)); refine blk_put (cs := #[.int .i64 a0_4, .int .i64 a0_5, .int .i64 a0_6, .int .i64 a0_7, .int .i64 0]) ?_ 4 _ rfl; (with_reducible repeat (first | refine blk_drewN ?_ _ | refine blk_drew ?_ | refine blk_alloc ?_ _)); refine blk_put (cs := #[.int .i64 a0_4, .int .i64 a0_5, .int .i64 a0_6, .int .i64 0, .int .i64 0]) ?_ 3 _ rfl; (with_reducible repeat (first | refine blk_drewN ?_ _ | refine blk_drew ?_ | refine blk_alloc ?_ _)); refine blk_put (cs := #[.int .i64 a0_4, .int .i64 a0_5, .int .i64 0, .int .i64 0, .int .i64 0]) ?_ 2 _ rfl; (with_reducible repeat (first | refine blk_drewN ?_ _ | refine blk_drew ?_ | refine blk_alloc ?_ _)); refine blk_put (cs := #[.int .i64 a0_4, .int .i64 0, .int .i64 0, .int .i64 0, .int .i64 0]) ?_ 1 _ rfl; (with_reducible repeat (first | refine blk_drewN ?_ _ | refine blk_drew ?_ | refine blk_alloc ?_ _)); refine blk_put (cs := #[.int .i64 0, .int .i64 0, .int .i64 0, .int .i64 0, .int .i64 0]) ?_ 0 _ rfl; (with_reducible repeat (first | refine blk_drewN ?_ _ | refine blk_drew ?_ | refine blk_alloc ?_ _)); exact BK279.out⟩, ⟨by repeat (first | (with_reducible first | exact HB.out | apply below_alloc | apply pw_below_drewN | apply below_drew1 | refine below_set ?_ GE278.out | refine below_set ?_ GE279.out) | exact HB.out)⟩⟩
    ·replace c17 := Bool.eq_false_iff.mpr c17
     subst c17
     have H1 : ((gangerref10_out.f a0_7 0 1048576).bind fun t283 => (if t283 = true then (gangerref10_Check.j0 k true a0_0 a0_1 a0_2 a0_3 a0_4 a0_5 a0_6 a0_7 a0_8 l0_9 l0_10 l0_11) else ((gangerref10_out.f a0_8 0 1048576).bind fun t284 => (gangerref10_Check.j0 k t284 a0_0 a0_1 a0_2 a0_3 a0_4 a0_5 a0_6 a0_7 a0_8 l0_9 l0_10 l0_11)))) = some r := by rw [if_neg (show ¬ (false = true) by decide)] at H; exact H
     clear H
     have H := H1
     clear H1
     replace H := Option.bind_eq_some_iff.mp H
     obtain ⟨t283, A200, H⟩ := H
     replace H : (if t283 = true then (gangerref10_Check.j0 k true a0_0 a0_1 a0_2 a0_3 a0_4 a0_5 a0_6 a0_7 a0_8 l0_9 l0_10 l0_11) else ((gangerref10_out.f a0_8 0 1048576).bind fun t284 => (gangerref10_Check.j0 k t284 a0_0 a0_1 a0_2 a0_3 a0_4 a0_5 a0_6 a0_7 a0_8 l0_9 l0_10 l0_11))) = some r := H
     have A20 := Aside0.mk A200
     clear A200
     by_cases c21 : t283 = true
     ·subst c21
      have H1 : (gangerref10_Check.j0 k true a0_0 a0_1 a0_2 a0_3 a0_4 a0_5 a0_6 a0_7 a0_8 l0_9 l0_10 l0_11) = some r := by rw [if_pos rfl] at H; exact H
      clear H
      have H := H1
      clear H1
      have H' := Aside0.mk H
      clear H
      have hnb22 := NB279_278.out
      have hnc22 := NB278_279.out
      have hcz23_0 : w5.cell? ⟨gb279, 0, none⟩ = some (.int .i64 0) := (blk_cell BK279.out 0).trans rfl
      have hcz23_1 : w5.cell? ⟨gb279, 1, none⟩ = some (.int .i64 0) := (blk_cell BK279.out 1).trans rfl
      have hcz23_2 : w5.cell? ⟨gb279, 2, none⟩ = some (.int .i64 0) := (blk_cell BK279.out 2).trans rfl
      have hcz23_3 : w5.cell? ⟨gb279, 3, none⟩ = some (.int .i64 0) := (blk_cell BK279.out 3).trans rfl
      have hcz23_4 : w5.cell? ⟨gb279, 4, none⟩ = some (.int .i64 0) := (blk_cell BK279.out 4).trans rfl
      have hfz23_0 := blk_frozen BK279.out 0
      have hfz23_1 := blk_frozen BK279.out 1
      have hfz23_2 := blk_frozen BK279.out 2
      have hfz23_3 := blk_frozen BK279.out 3
      have hfz23_4 := blk_frozen BK279.out 4
      go_wp2_with (first | (go_at_call 46; (with_reducible refine (gangerref10_out.calls a0_4 0 1048576 false _ A8.out).mono ?_); rintro e w' ⟨rfl, ⟨nd, rfl⟩⟩; (try first | exact ⟨rfl, _, World.drewN_drewN _ _ _⟩ | exact ⟨rfl, _, Eq.trans (World.drewN_drewN _ _ _) (congrArg (World.drewN _) (Nat.add_assoc _ _ _))⟩)) | (go_at_call 46; (with_reducible refine (gangerref10_out.calls a0_5 0 1048576 false _ A12.out).mono ?_); rintro e w' ⟨rfl, ⟨nd, rfl⟩⟩; (try first | exact ⟨rfl, _, World.drewN_drewN _ _ _⟩ | exact ⟨rfl, _, Eq.trans (World.drewN_drewN _ _ _) (congrArg (World.drewN _) (Nat.add_assoc _ _ _))⟩)) | (go_at_call 46; (with_reducible refine (gangerref10_out.calls a0_6 0 1048576 false _ A16.out).mono ?_); rintro e w' ⟨rfl, ⟨nd, rfl⟩⟩; (try first | exact ⟨rfl, _, World.drewN_drewN _ _ _⟩ | exact ⟨rfl, _, Eq.trans (World.drewN_drewN _ _ _) (congrArg (World.drewN _) (Nat.add_assoc _ _ _))⟩)) | (go_at_call 46; (with_reducible refine (gangerref10_out.calls a0_7 0 1048576 true _ A20.out).mono ?_); rintro e w' ⟨rfl, ⟨nd, rfl⟩⟩; (try first | exact ⟨rfl, _, World.drewN_drewN _ _ _⟩ | exact ⟨rfl, _, Eq.trans (World.drewN_drewN _ _ _) (congrArg (World.drewN _) (Nat.add_assoc _ _ _))⟩)))
      repeat (go_quiet (first | (go_at_call 46; (with_reducible refine (gangerref10_out.calls a0_4 0 1048576 false _ A8.out).mono ?_); rintro e w' ⟨rfl, ⟨nd, rfl⟩⟩; (try first | exact ⟨rfl, _, World.drewN_drewN _ _ _⟩ | exact ⟨rfl, _, Eq.trans (World.drewN_drewN _ _ _) (congrArg (World.drewN _) (Nat.add_assoc _ _ _))⟩)) | (go_at_call 46; (with_reducible refine (gangerref10_out.calls a0_5 0 1048576 false _ A12.out).mono ?_); rintro e w' ⟨rfl, ⟨nd, rfl⟩⟩; (try first | exact ⟨rfl, _, World.drewN_drewN _ _ _⟩ | exact ⟨rfl, _, Eq.trans (World.drewN_drewN _ _ _) (congrArg (World.drewN _) (Nat.add_assoc _ _ _))⟩)) | (go_at_call 46; (with_reducible refine (gangerref10_out.calls a0_6 0 1048576 false _ A16.out).mono ?_); rintro e w' ⟨rfl, ⟨nd, rfl⟩⟩; (try first | exact ⟨rfl, _, World.drewN_drewN _ _ _⟩ | exact ⟨rfl, _, Eq.trans (World.drewN_drewN _ _ _) (congrArg (World.drewN _) (Nat.add_assoc _ _ _))⟩)) | (go_at_call 46; (with_reducible refine (gangerref10_out.calls a0_7 0 1048576 true _ A20.out).mono ?_); rintro e w' ⟨rfl, ⟨nd, rfl⟩⟩; (try first | exact ⟨rfl, _, World.drewN_drewN _ _ _⟩ | exact ⟨rfl, _, Eq.trans (World.drewN_drewN _ _ _) (congrArg (World.drewN _) (Nat.add_assoc _ _ _))⟩))); try go_wp2_with (first | (go_at_call 46; (with_reducible refine (gangerref10_out.calls a0_4 0 1048576 false _ A8.out).mono ?_); rintro e w' ⟨rfl, ⟨nd, rfl⟩⟩; (try first | exact ⟨rfl, _, World.drewN_drewN _ _ _⟩ | exact ⟨rfl, _, Eq.trans (World.drewN_drewN _ _ _) (congrArg (World.drewN _) (Nat.add_assoc _ _ _))⟩)) | (go_at_call 46; (with_reducible refine (gangerref10_out.calls a0_5 0 1048576 false _ A12.out).mono ?_); rintro e w' ⟨rfl, ⟨nd, rfl⟩⟩; (try first | exact ⟨rfl, _, World.drewN_drewN _ _ _⟩ | exact ⟨rfl, _, Eq.trans (World.drewN_drewN _ _ _) (congrArg (World.drewN _) (Nat.add_assoc _ _ _))⟩)) | (go_at_call 46; (with_reducible refine (gangerref10_out.calls a0_6 0 1048576 false _ A16.out).mono ?_); rintro e w' ⟨rfl, ⟨nd, rfl⟩⟩; (try first | exact ⟨rfl, _, World.drewN_drewN _ _ _⟩ | exact ⟨rfl, _, Eq.trans (World.drewN_drewN _ _ _) (congrArg (World.drewN _) (Nat.add_assoc _ _ _))⟩)) | (go_at_call 46; (with_reducible refine (gangerref10_out.calls a0_7 0 1048576 true _ A20.out).mono ?_); rintro e w' ⟨rfl, ⟨nd, rfl⟩⟩; (try first | exact ⟨rfl, _, World.drewN_drewN _ _ _⟩ | exact ⟨rfl, _, Eq.trans (World.drewN_drewN _ _ _) (congrArg (World.drewN _) (Nat.add_assoc _ _ _))⟩))))
      go_meet
      case rel => exact ⟨_, (true), (by first | rfl | (simp; done) | (simp [*]; done)), H', ⟨by first | omega | exact Nat.le_refl _⟩, ⟨by (with_reducible repeat (first | refine blk_drewN ?_ _ | refine blk_drew ?_ | refine blk_alloc ?_ _)); refine blk_far ?_ NB278_279.out _; (with_reducible repeat (first | refine blk_drewN ?_ _ | refine blk_drew ?_ | refine blk_alloc ?_ _)); refine blk_far ?_ NB278_279.out _; (with_reducible repeat (first | refine blk_drewN ?_ _ | refine blk_drew ?_ | refine blk_alloc ?_ _)); refine blk_far ?_ NB278_279.out _; (with_reducible repeat (first | refine blk_drewN ?_ _ | refine blk_drew ?_ | refine blk_alloc ?_ _)); refine blk_far ?_ NB278_279.out _; (with_reducible repeat (first | refine blk_drewN ?_ _ | refine blk_drew ?_ | refine blk_alloc ?_ _)); refine blk_far ?_ NB278_279.out _; (with_reducible repeat (first | refine blk_drewN ?_ _ | refine blk_drew ?_ | refine blk_alloc ?_ _)); exact BK278.out⟩, ⟨by (with_reducible repeat (first | refine blk_drewN ?_ _ | refine blk_drew ?_ | refine blk_alloc ?_ _)); refine blk_put (cs := #[.int .i64 a0_4, .int .i64 a0_5, .int .i64 a0_6, .int .i64 a0_7, .int .i64 0]) ?_ 4 _ rfl; (with_reducible repeat (first | refine blk_drewN ?_ _ | refine blk_drew ?_ | refine blk_alloc ?_ _)); refine blk_put (cs := #[.int .i64 a0_4, .int .i64 a0_5, .int .i64 a0_6, .int .i64 0, .int .i64 0]) ?_ 3 _ rfl; (with_reducible repeat (first | refine blk_drewN ?_ _ | refine blk_drew ?_ | refine blk_alloc ?_ _)); refine blk_put (cs := #[.int .i64 a0_4, .int .i64 a0_5, .int .i64 0, .int .i64 0, .int .i64 0]) ?_ 2 _ rfl; (with_reducible repeat (first | refine blk_drewN ?_ _ | refine blk_drew ?_ | refine blk_alloc ?_ _)); refine blk_put (cs := #[.int .i64 a0_4, .int .i64 0, .int .i64 0, .int .i64 0, .int .i64 0]) ?_ 1 _ rfl; (with_reducible repeat (first | refine blk_drewN ?_ _ | refine blk_drew ?_ | refine blk_alloc ?_ _)); refine blk_put (cs := #[.int .i64 0, .int .i64 0, .int .i64 0, .int .i64 0, .int .i64 0]) ?_ 0 _ rfl; (with_reducible repeat (first | refine blk_drewN ?_ _ | refine blk_drew ?_ | refine blk_alloc ?_ _)); exact BK279.out⟩, ⟨by repeat (first | (with_reducible first | exact HB.out | apply below_alloc | apply pw_below_drewN | apply below_drew1 | refine below_set ?_ GE278.out | refine below_set ?_ GE279.out) | exact HB.out)⟩⟩
     ·replace c21 := Bool.eq_false_iff.mpr c21
      subst c21
      have H1 : ((gangerref10_out.f a0_8 0 1048576).bind fun t284 => (gangerref10_Check.j0 k t284 a0_0 a0_1 a0_2 a0_3 a0_4 a0_5 a0_6 a0_7 a0_8 l0_9 l0_10 l0_11)) = some r := by rw [if_neg (show ¬ (false = true) by decide)] at H; exact H
      clear H
      have H := H1
      clear H1
      replace H := Option.bind_eq_some_iff.mp H
      obtain ⟨t284, A240, H⟩ := H
      replace H : (gangerref10_Check.j0 k t284 a0_0 a0_1 a0_2 a0_3 a0_4 a0_5 a0_6 a0_7 a0_8 l0_9 l0_10 l0_11) = some r := H
      have A24 := Aside0.mk A240
      clear A240
      have H' := Aside0.mk H
      clear H
      have hnb25 := NB279_278.out
      have hnc25 := NB278_279.out
      have hcz26_0 : w5.cell? ⟨gb279, 0, none⟩ = some (.int .i64 0) := (blk_cell BK279.out 0).trans rfl
      have hcz26_1 : w5.cell? ⟨gb279, 1, none⟩ = some (.int .i64 0) := (blk_cell BK279.out 1).trans rfl
      have hcz26_2 : w5.cell? ⟨gb279, 2, none⟩ = some (.int .i64 0) := (blk_cell BK279.out 2).trans rfl
      have hcz26_3 : w5.cell? ⟨gb279, 3, none⟩ = some (.int .i64 0) := (blk_cell BK279.out 3).trans rfl
      have hcz26_4 : w5.cell? ⟨gb279, 4, none⟩ = some (.int .i64 0) := (blk_cell BK279.out 4).trans rfl
      have hfz26_0 := blk_frozen BK279.out 0
      have hfz26_1 := blk_frozen BK279.out 1
      have hfz26_2 := blk_frozen BK279.out 2
      have hfz26_3 := blk_frozen BK279.out 3
      have hfz26_4 := blk_frozen BK279.out 4
      go_wp2_with (first | (go_at_call 46; (with_reducible refine (gangerref10_out.calls a0_4 0 1048576 false _ A8.out).mono ?_); rintro e w' ⟨rfl, ⟨nd, rfl⟩⟩; (try first | exact ⟨rfl, _, World.drewN_drewN _ _ _⟩ | exact ⟨rfl, _, Eq.trans (World.drewN_drewN _ _ _) (congrArg (World.drewN _) (Nat.add_assoc _ _ _))⟩)) | (go_at_call 46; (with_reducible refine (gangerref10_out.calls a0_5 0 1048576 false _ A12.out).mono ?_); rintro e w' ⟨rfl, ⟨nd, rfl⟩⟩; (try first | exact ⟨rfl, _, World.drewN_drewN _ _ _⟩ | exact ⟨rfl, _, Eq.trans (World.drewN_drewN _ _ _) (congrArg (World.drewN _) (Nat.add_assoc _ _ _))⟩)) | (go_at_call 46; (with_reducible refine (gangerref10_out.calls a0_6 0 1048576 false _ A16.out).mono ?_); rintro e w' ⟨rfl, ⟨nd, rfl⟩⟩; (try first | exact ⟨rfl, _, World.drewN_drewN _ _ _⟩ | exact ⟨rfl, _, Eq.trans (World.drewN_drewN _ _ _) (congrArg (World.drewN _) (Nat.add_assoc _ _ _))⟩)) | (go_at_call 46; (with_reducible refine (gangerref10_out.calls a0_7 0 1048576 false _ A20.out).mono ?_); rintro e w' ⟨rfl, ⟨nd, rfl⟩⟩; (try first | exact ⟨rfl, _, World.drewN_drewN _ _ _⟩ | exact ⟨rfl, _, Eq.trans (World.drewN_drewN _ _ _) (congrArg (World.drewN _) (Nat.add_assoc _ _ _))⟩)) | (go_at_call 46; (with_reducible refine (gangerref10_out.calls a0_8 0 1048576 t284 _ A24.out).mono ?_); rintro e w' ⟨rfl, ⟨nd, rfl⟩⟩; (try first | exact ⟨rfl, _, World.drewN_drewN _ _ _⟩ | exact ⟨rfl, _, Eq.trans (World.drewN_drewN _ _ _) (congrArg (World.drewN _) (Nat.add_assoc _ _ _))⟩)))
      repeat (go_quiet (first | (go_at_call 46; (with_reducible refine (gangerref10_out.calls a0_4 0 1048576 false _ A8.out).mono ?_); rintro e w' ⟨rfl, ⟨nd, rfl⟩⟩; (try first | exact ⟨rfl, _, World.drewN_drewN _ _ _⟩ | exact ⟨rfl, _, Eq.trans (World.drewN_drewN _ _ _) (congrArg (World.drewN _) (Nat.add_assoc _ _ _))⟩)) | (go_at_call 46; (with_reducible refine (gangerref10_out.calls a0_5 0 1048576 false _ A12.out).mono ?_); rintro e w' ⟨rfl, ⟨nd, rfl⟩⟩; (try first | exact ⟨rfl, _, World.drewN_drewN _ _ _⟩ | exact ⟨rfl, _, Eq.trans (World.drewN_drewN _ _ _) (congrArg (World.drewN _) (Nat.add_assoc _ _ _))⟩)) | (go_at_call 46; (with_reducible refine (gangerref10_out.calls a0_6 0 1048576 false _ A16.out).mono ?_); rintro e w' ⟨rfl, ⟨nd, rfl⟩⟩; (try first | exact ⟨rfl, _, World.drewN_drewN _ _ _⟩ | exact ⟨rfl, _, Eq.trans (World.drewN_drewN _ _ _) (congrArg (World.drewN _) (Nat.add_assoc _ _ _))⟩)) | (go_at_call 46; (with_reducible refine (gangerref10_out.calls a0_7 0 1048576 false _ A20.out).mono ?_); rintro e w' ⟨rfl, ⟨nd, rfl⟩⟩; (try first | exact ⟨rfl, _, World.drewN_drewN _ _ _⟩ | exact ⟨rfl, _, Eq.trans (World.drewN_drewN _ _ _) (congrArg (World.drewN _) (Nat.add_assoc _ _ _))⟩)) | (go_at_call 46; (with_reducible refine (gangerref10_out.calls a0_8 0 1048576 t284 _ A24.out).mono ?_); rintro e w' ⟨rfl, ⟨nd, rfl⟩⟩; (try first | exact ⟨rfl, _, World.drewN_drewN _ _ _⟩ | exact ⟨rfl, _, Eq.trans (World.drewN_drewN _ _ _) (congrArg (World.drewN _) (Nat.add_assoc _ _ _))⟩))); try go_wp2_with (first | (go_at_call 46; (with_reducible refine (gangerref10_out.calls a0_4 0 1048576 false _ A8.out).mono ?_); rintro e w' ⟨rfl, ⟨nd, rfl⟩⟩; (try first | exact ⟨rfl, _, World.drewN_drewN _ _ _⟩ | exact ⟨rfl, _, Eq.trans (World.drewN_drewN _ _ _) (congrArg (World.drewN _) (Nat.add_assoc _ _ _))⟩)) | (go_at_call 46; (with_reducible refine (gangerref10_out.calls a0_5 0 1048576 false _ A12.out).mono ?_); rintro e w' ⟨rfl, ⟨nd, rfl⟩⟩; (try first | exact ⟨rfl, _, World.drewN_drewN _ _ _⟩ | exact ⟨rfl, _, Eq.trans (World.drewN_drewN _ _ _) (congrArg (World.drewN _) (Nat.add_assoc _ _ _))⟩)) | (go_at_call 46; (with_reducible refine (gangerref10_out.calls a0_6 0 1048576 false _ A16.out).mono ?_); rintro e w' ⟨rfl, ⟨nd, rfl⟩⟩; (try first | exact ⟨rfl, _, World.drewN_drewN _ _ _⟩ | exact ⟨rfl, _, Eq.trans (World.drewN_drewN _ _ _) (congrArg (World.drewN _) (Nat.add_assoc _ _ _))⟩)) | (go_at_call 46; (with_reducible refine (gangerref10_out.calls a0_7 0 1048576 false _ A20.out).mono ?_); rintro e w' ⟨rfl, ⟨nd, rfl⟩⟩; (try first | exact ⟨rfl, _, World.drewN_drewN _ _ _⟩ | exact ⟨rfl, _, Eq.trans (World.drewN_drewN _ _ _) (congrArg (World.drewN _) (Nat.add_assoc _ _ _))⟩)) | (go_at_call 46; (with_reducible refine (gangerref10_out.calls a0_8 0 1048576 t284 _ A24.out).mono ?_); rintro e w' ⟨rfl, ⟨nd, rfl⟩⟩; (try first | exact ⟨rfl, _, World.drewN_drewN _ _ _⟩ | exact ⟨rfl, _, Eq.trans (World.drewN_drewN _ _ _) (congrArg (World.drewN _) (Nat.add_assoc _ _ _))⟩))))
      go_meet
      case rel => exact ⟨_, (t284), (by first | rfl | (simp; done) | (simp [*]; done)), H', ⟨by first | omega | exact Nat.le_refl _⟩, ⟨by (with_reducible repeat (first | refine blk_drewN ?_ _ | refine blk_drew ?_ | refine blk_alloc ?_ _)); refine blk_far ?_ NB278_279.out _; (with_reducible repeat (first | refine blk_drewN ?_ _ | refine blk_drew ?_ | refine blk_alloc ?_ _)); refine blk_far ?_ NB278_279.out _; (with_reducible repeat (first | refine blk_drewN ?_ _ | refine blk_drew ?_ | refine blk_alloc ?_ _)); refine blk_far ?_ NB278_279.out _; (with_reducible repeat (first | refine blk_drewN ?_ _ | refine blk_drew ?_ | refine blk_alloc ?_ _)); refine blk_far ?_ NB278_279.out _; (with_reducible repeat (first | refine blk_drewN ?_ _ | refine blk_drew ?_ | refine blk_alloc ?_ _)); refine blk_far ?_ NB278_279.out _; (with_reducible repeat (first | refine blk_drewN ?_ _ | refine blk_drew ?_ | refine blk_alloc ?_ _)); exact BK278.out⟩, ⟨by (with_reducible repeat (first | refine blk_drewN ?_ _ | refine blk_drew ?_ | refine blk_alloc ?_ _)); refine blk_put (cs := #[.int .i64 a0_4, .int .i64 a0_5, .int .i64 a0_6, .int .i64 a0_7, .int .i64 0]) ?_ 4 _ rfl; (with_reducible repeat (first | refine blk_drewN ?_ _ | refine blk_drew ?_ | refine blk_alloc ?_ _)); refine blk_put (cs := #[.int .i64 a0_4, .int .i64 a0_5, .int .i64 a0_6, .int .i64 0, .int .i64 0]) ?_ 3 _ rfl; (with_reducible repeat (first | refine blk_drewN ?_ _ | refine blk_drew ?_ | refine blk_alloc ?_ _)); refine blk_put (cs := #[.int .i64 a0_4, .int .i64 a0_5, .int .i64 0, .int .i64 0, .int .i64 0]) ?_ 2 _ rfl; (with_reducible repeat (first | refine blk_drewN ?_ _ | refine blk_drew ?_ | refine blk_alloc ?_ _)); refine blk_put (cs := #[.int .i64 a0_4, .int .i64 0, .int .i64 0, .int .i64 0, .int .i64 0]) ?_ 1 _ rfl; (with_reducible repeat (first | refine blk_drewN ?_ _ | refine blk_drew ?_ | refine blk_alloc ?_ _)); refine blk_put (cs := #[.int .i64 0, .int .i64 0, .int .i64 0, .int .i64 0, .int .i64 0]) ?_ 0 _ rfl; (with_reducible repeat (first | refine blk_drewN ?_ _ | refine blk_drew ?_ | refine blk_alloc ?_ _)); exact BK279.out⟩, ⟨by repeat (first | (with_reducible first | exact HB.out | apply below_alloc | apply pw_below_drewN | apply below_drew1 | refine below_set ?_ GE278.out | refine below_set ?_ GE279.out) | exact HB.out)⟩⟩
 case rest =>
  clear HC2
  obtain ⟨kq, x34_1, rfl, HA, HJ1, BK278, BK279, HB⟩ := hcut
  cases kq with
  | zero => exact absurd HA.out (by simp [gangerref10_Check.j0])
  | succ kj1 =>
   have H := HA.out
   clear HA
   simp only [gangerref10_Check.j0] at H
   by_cases c27 : x34_1 = true
   ·subst c27
    have H1 : (some 100) = some r := by rw [if_pos rfl] at H; exact H
    clear H
    have H := H1
    clear H1
    obtain rfl := Option.some.inj H
    go_wp2
    repeat (go_quiet (fail); try go_wp2)
    go_ret
    exact ⟨by first | rfl | (simp [errW_none, errW_some] <;> rfl) | (simp [*, errW_none, errW_some] <;> rfl), by repeat (first | (with_reducible first | exact HB.out | apply below_alloc | apply pw_below_drewN | apply below_drew1 | refine below_set ?_ GE278.out | refine below_set ?_ GE279.out) | exact HB.out)⟩
   ·replace c27 := Bool.eq_false_iff.mpr c27
    subst c27
    have H1 : ((gangerref10_out.f a0_0 1 4).bind fun t285 => (if t285 = true then (gangerref10_Check.j1 kj1 true a0_0 a0_1 a0_2 a0_3 a0_4 a0_5 a0_6 a0_7 a0_8 l0_9 l0_10 l0_11) else ((gangerref10_out.f a0_1 1 4294967296).bind fun t286 => (if t286 = true then (gangerref10_Check.j1 kj1 true a0_0 a0_1 a0_2 a0_3 a0_4 a0_5 a0_6 a0_7 a0_8 l0_9 l0_10 l0_11) else ((gangerref10_out.f a0_2 1 1073741824).bind fun t287 => (if t287 = true then (gangerref10_Check.j1 kj1 true a0_0 a0_1 a0_2 a0_3 a0_4 a0_5 a0_6 a0_7 a0_8 l0_9 l0_10 l0_11) else ((gangerref10_out.f a0_3 0 100).bind fun t288 => (gangerref10_Check.j1 kj1 t288 a0_0 a0_1 a0_2 a0_3 a0_4 a0_5 a0_6 a0_7 a0_8 l0_9 l0_10 l0_11)))))))) = some r := by rw [if_neg (show ¬ (false = true) by decide)] at H; exact H
    clear H
    have H := H1
    clear H1
    have HC28 := Aside0.mk H
    clear H
    go_upto_region 4 with (fail)
    repeat (go_quiet (fail); go_upto_region 4 with (fail))
    go_cut [52] (fun v52 wc => ∃ (kq : Nat) (x52_27 : Bool), v52 = .bool x52_27 ∧ Aside0 (gangerref10_Check.j1 kq x52_27 a0_0 a0_1 a0_2 a0_3 a0_4 a0_5 a0_6 a0_7 a0_8 l0_9 l0_10 l0_11 = some r) ∧ Aside0 (kq ≤ kj1) ∧ Aside0 (wc.heap[gb278]? = some (.cells #[.int .i64 a0_0, .int .i64 a0_1, .int .i64 a0_2, .int .i64 a0_3, .int .i64 a0_4, .int .i64 a0_5, .int .i64 a0_6, .int .i64 a0_7, .int .i64 a0_8, (.slice A0_9 l0_9.length c0_9), (.slice A0_10 l0_10.length c0_10), (.slice A0_11 l0_11.length c0_11)] 64 (0, 0))) ∧ Aside0 (wc.heap[gb279]? = some (.cells #[.int .i64 a0_4, .int .i64 a0_5, .int .i64 a0_6, .int .i64 a0_7, .int .i64 a0_8] 62 (0, 0))) ∧ Aside0 (Below w.heap.size w wc))
    case first =>
     have H := HC28.out
     clear HC28
     replace H := Option.bind_eq_some_iff.mp H
     obtain ⟨t285, A290, H⟩ := H
     replace H : (if t285 = true then (gangerref10_Check.j1 kj1 true a0_0 a0_1 a0_2 a0_3 a0_4 a0_5 a0_6 a0_7 a0_8 l0_9 l0_10 l0_11) else ((gangerref10_out.f a0_1 1 4294967296).bind fun t286 => (if t286 = true then (gangerref10_Check.j1 kj1 true a0_0 a0_1 a0_2 a0_3 a0_4 a0_5 a0_6 a0_7 a0_8 l0_9 l0_10 l0_11) else ((gangerref10_out.f a0_2 1 1073741824).bind fun t287 => (if t287 = true then (gangerref10_Check.j1 kj1 true a0_0 a0_1 a0_2 a0_3 a0_4 a0_5 a0_6 a0_7 a0_8 l0_9 l0_10 l0_11) else ((gangerref10_out.f a0_3 0 100).bind fun t288 => (gangerref10_Check.j1 kj1 t288 a0_0 a0_1 a0_2 a0_3 a0_4 a0_5 a0_6 a0_7 a0_8 l0_9 l0_10 l0_11))))))) = some r := H
     have A29 := Aside0.mk A290
     clear A290
     by_cases c30 : t285 = true
     ·subst c30
      have H1 : (gangerref10_Check.j1 kj1 true a0_0 a0_1 a0_2 a0_3 a0_4 a0_5 a0_6 a0_7 a0_8 l0_9 l0_10 l0_11) = some r := by rw [if_pos rfl] at H; exact H
      clear H
      have H := H1
      clear H1
      have H' := Aside0.mk H
      clear H
      have hnb31 := NB278_279.out
      have hnc31 := NB279_278.out
      have hcz32_0 : wc.cell? ⟨gb278, 0, none⟩ = some (.int .i64 a0_0) := (blk_cell BK278.out 0).trans rfl
      have hcz32_1 : wc.cell? ⟨gb278, 1, none⟩ = some (.int .i64 a0_1) := (blk_cell BK278.out 1).trans rfl
      have hcz32_2 : wc.cell? ⟨gb278, 2, none⟩ = some (.int .i64 a0_2) := (blk_cell BK278.out 2).trans rfl
      have hcz32_3 : wc.cell? ⟨gb278, 3, none⟩ = some (.int .i64 a0_3) := (blk_cell BK278.out 3).trans rfl
      have hcz32_4 : wc.cell? ⟨gb278, 4, none⟩ = some (.int .i64 a0_4) := (blk_cell BK278.out 4).trans rfl
      have hcz32_5 : wc.cell? ⟨gb278, 5, none⟩ = some (.int .i64 a0_5) := (blk_cell BK278.out 5).trans rfl
      have hcz32_6 : wc.cell? ⟨gb278, 6, none⟩ = some (.int .i64 a0_6) := (blk_cell BK278.out 6).trans rfl
      have hcz32_7 : wc.cell? ⟨gb278, 7, none⟩ = some (.int .i64 a0_7) := (blk_cell BK278.out 7).trans rfl
      have hcz32_8 : wc.cell? ⟨gb278, 8, none⟩ = some (.int .i64 a0_8) := (blk_cell BK278.out 8).trans rfl
      have hcz32_9 : wc.cell? ⟨gb278, 9, none⟩ = some (.slice A0_9 l0_9.length c0_9) := (blk_cell BK278.out 9).trans rfl
      have hcz32_10 : wc.cell? ⟨gb278, 10, none⟩ = some (.slice A0_10 l0_10.length c0_10) := (blk_cell BK278.out 10).trans rfl
      have hcz32_11 : wc.cell? ⟨gb278, 11, none⟩ = some (.slice A0_11 l0_11.length c0_11) := (blk_cell BK278.out 11).trans rfl
      have hfz32_0 := blk_frozen BK278.out 0
      have hfz32_1 := blk_frozen BK278.out 1
      have hfz32_2 := blk_frozen BK278.out 2
      have hfz32_3 := blk_frozen BK278.out 3
      have hfz32_4 := blk_frozen BK278.out 4
      have hfz32_5 := blk_frozen BK278.out 5
      have hfz32_6 := blk_frozen BK278.out 6
      have hfz32_7 := blk_frozen BK278.out 7
      have hfz32_8 := blk_frozen BK278.out 8
      have hfz32_9 := blk_frozen BK278.out 9
      have hfz32_10 := blk_frozen BK278.out 10
      have hfz32_11 := blk_frozen BK278.out 11
      go_wp2_with (first | (go_at_call 46; (with_reducible refine (gangerref10_out.calls a0_0 1 4 true _ A29.out).mono ?_); rintro e w' ⟨rfl, ⟨nd, rfl⟩⟩; (try first | exact ⟨rfl, _, World.drewN_drewN _ _ _⟩ | exact ⟨rfl, _, Eq.trans (World.drewN_drewN _ _ _) (congrArg (World.drewN _) (Nat.add_assoc _ _ _))⟩)))
      repeat (go_quiet (first | (go_at_call 46; (with_reducible refine (gangerref10_out.calls a0_0 1 4 true _ A29.out).mono ?_); rintro e w' ⟨rfl, ⟨nd, rfl⟩⟩; (try first | exact ⟨rfl, _, World.drewN_drewN _ _ _⟩ | exact ⟨rfl, _, Eq.trans (World.drewN_drewN _ _ _) (congrArg (World.drewN _) (Nat.add_assoc _ _ _))⟩))); try go_wp2_with (first | (go_at_call 46; (with_reducible refine (gangerref10_out.calls a0_0 1 4 true _ A29.out).mono ?_); rintro e w' ⟨rfl, ⟨nd, rfl⟩⟩; (try first | exact ⟨rfl, _, World.drewN_drewN _ _ _⟩ | exact ⟨rfl, _, Eq.trans (World.drewN_drewN _ _ _) (congrArg (World.drewN _) (Nat.add_assoc _ _ _))⟩))))
      go_meet
      case rel => exact ⟨_, (true), (by first | rfl | (simp; done) | (simp [*]; done)), H', ⟨by have := HJ1.out; first | omega | exact Nat.le_refl _⟩, ⟨by (with_reducible repeat (first | refine blk_drewN ?_ _ | refine blk_drew ?_ | refine blk_alloc ?_ _)); exact BK278.out⟩, ⟨by (with_reducible repeat (first | refine blk_drewN ?_ _ | refine blk_drew ?_ | refine blk_alloc ?_ _)); exact BK279.out⟩, ⟨by repeat (first | (with_reducible first | exact HB.out | apply below_alloc | apply pw_below_drewN | apply below_drew1 | refine below_set ?_ GE278.out | refine below_set ?_ GE279.out) | exact HB.out)⟩⟩
     ·replace c30 := Bool.eq_false_iff.mpr c30
      subst c30
      have H1 : ((gangerref10_out.f a0_1 1 4294967296).bind fun t286 => (if t286 = true then (gangerref10_Check.j1 kj1 true a0_0 a0_1 a0_2 a0_3 a0_4 a0_5 a0_6 a0_7 a0_8 l0_9 l0_10 l0_11) else ((gangerref10_out.f a0_2 1 1073741824).bind fun t287 => (if t287 = true then (gangerref10_Check.j1 kj1 true a0_0 a0_1 a0_2 a0_3 a0_4 a0_5 a0_6 a0_7 a0_8 l0_9 l0_10 l0_11) else ((gangerref10_out.f a0_3 0 100).bind fun t288 => (gangerref10_Check.j1 kj1 t288 a0_0 a0_1 a0_2 a0_3 a0_4 a0_5 a0_6 a0_7 a0_8 l0_9 l0_10 l0_11)))))) = some r := by rw [if_neg (show ¬ (false = true) by decide)] at H; exact H
      clear H
      have H := H1
      clear H1
      replace H := Option.bind_eq_some_iff.mp H
      obtain ⟨t286, A330, H⟩ := H
      replace H : (if t286 = true then (gangerref10_Check.j1 kj1 true a0_0 a0_1 a0_2 a0_3 a0_4 a0_5 a0_6 a0_7 a0_8 l0_9 l0_10 l0_11) else ((gangerref10_out.f a0_2 1 1073741824).bind fun t287 => (if t287 = true then (gangerref10_Check.j1 kj1 true a0_0 a0_1 a0_2 a0_3 a0_4 a0_5 a0_6 a0_7 a0_8 l0_9 l0_10 l0_11) else ((gangerref10_out.f a0_3 0 100).bind fun t288 => (gangerref10_Check.j1 kj1 t288 a0_0 a0_1 a0_2 a0_3 a0_4 a0_5 a0_6 a0_7 a0_8 l0_9 l0_10 l0_11))))) = some r := H
      have A33 := Aside0.mk A330
      clear A330
      by_cases c34 : t286 = true
      ·subst c34
       have H1 : (gangerref10_Check.j1 kj1 true a0_0 a0_1 a0_2 a0_3 a0_4 a0_5 a0_6 a0_7 a0_8 l0_9 l0_10 l0_11) = some r := by rw [if_pos rfl] at H; exact H
       clear H
       have H := H1
       clear H1
       have H' := Aside0.mk H
       clear H
       have hnb35 := NB278_279.out
       have hnc35 := NB279_278.out
       have hcz36_0 : wc.cell? ⟨gb278, 0, none⟩ = some (.int .i64 a0_0) := (blk_cell BK278.out 0).trans rfl
       have hcz36_1 : wc.cell? ⟨gb278, 1, none⟩ = some (.int .i64 a0_1) := (blk_cell BK278.out 1).trans rfl
       have hcz36_2 : wc.cell? ⟨gb278, 2, none⟩ = some (.int .i64 a0_2) := (blk_cell BK278.out 2).trans rfl
       have hcz36_3 : wc.cell? ⟨gb278, 3, none⟩ = some (.int .i64 a0_3) := (blk_cell BK278.out 3).trans rfl
       have hcz36_4 : wc.cell? ⟨gb278, 4, none⟩ = some (.int .i64 a0_4) := (blk_cell BK278.out 4).trans rfl
       have hcz36_5 : wc.cell? ⟨gb278, 5, none⟩ = some (.int .i64 a0_5) := (blk_cell BK278.out 5).trans rfl
       have hcz36_6 : wc.cell? ⟨gb278, 6, none⟩ = some (.int .i64 a0_6) := (blk_cell BK278.out 6).trans rfl
       have hcz36_7 : wc.cell? ⟨gb278, 7, none⟩ = some (.int .i64 a0_7) := (blk_cell BK278.out 7).trans rfl
       have hcz36_8 : wc.cell? ⟨gb278, 8, none⟩ = some (.int .i64 a0_8) := (blk_cell BK278.out 8).trans rfl
       have hcz36_9 : wc.cell? ⟨gb278, 9, none⟩ = some (.slice A0_9 l0_9.length c0_9) := (blk_cell BK278.out 9).trans rfl
       have hcz36_10 : wc.cell? ⟨gb278, 10, none⟩ = some (.slice A0_10 l0_10.length c0_10) := (blk_cell BK278.out 10).trans rfl
       have hcz36_11 : wc.cell? ⟨gb278, 11, none⟩ = some (.slice A0_11 l0_11.length c0_11) := (blk_cell BK278.out 11).trans rfl
       have hfz36_0 := blk_frozen BK278.out 0
       have hfz36_1 := blk_frozen BK278.out 1
       have hfz36_2 := blk_frozen BK278.out 2
       have hfz36_3 := blk_frozen BK278.out 3
       have hfz36_4 := blk_frozen BK278.out 4
       have hfz36_5 := blk_frozen BK278.out 5
       have hfz36_6 := blk_frozen BK278.out 6
       have hfz36_7 := blk_frozen BK278.out 7
       have hfz36_8 := blk_frozen BK278.out 8
       have hfz36_9 := blk_frozen BK278.out 9
       have hfz36_10 := blk_frozen BK278.out 10
       have hfz36_11 := blk_frozen BK278.out 11
       go_wp2_with (first | (go_at_call 46; (with_reducible refine (gangerref10_out.calls a0_0 1 4 false _ A29.out).mono ?_); rintro e w' ⟨rfl, ⟨nd, rfl⟩⟩; (try first | exact ⟨rfl, _, World.drewN_drewN _ _ _⟩ | exact ⟨rfl, _, Eq.trans (World.drewN_drewN _ _ _) (congrArg (World.drewN _) (Nat.add_assoc _ _ _))⟩)) | (go_at_call 46; (with_reducible refine (gangerref10_out.calls a0_1 1 4294967296 true _ A33.out).mono ?_); rintro e w' ⟨rfl, ⟨nd, rfl⟩⟩; (try first | exact ⟨rfl, _, World.drewN_drewN _ _ _⟩ | exact ⟨rfl, _, Eq.trans (World.drewN_drewN _ _ _) (congrArg (World.drewN _) (Nat.add_assoc _ _ _))⟩)))
       repeat (go_quiet (first | (go_at_call 46; (with_reducible refine (gangerref10_out.calls a0_0 1 4 false _ A29.out).mono ?_); rintro e w' ⟨rfl, ⟨nd, rfl⟩⟩; (try first | exact ⟨rfl, _, World.drewN_drewN _ _ _⟩ | exact ⟨rfl, _, Eq.trans (World.drewN_drewN _ _ _) (congrArg (World.drewN _) (Nat.add_assoc _ _ _))⟩)) | (go_at_call 46; (with_reducible refine (gangerref10_out.calls a0_1 1 4294967296 true _ A33.out).mono ?_); rintro e w' ⟨rfl, ⟨nd, rfl⟩⟩; (try first | exact ⟨rfl, _, World.drewN_drewN _ _ _⟩ | exact ⟨rfl, _, Eq.trans (World.drewN_drewN _ _ _) (congrArg (World.drewN _) (Nat.add_assoc _ _ _))⟩))); try go_wp2_with (first | (go_at_call 46; (with_reducible refine (gangerref10_out.calls a0_0 1 4 false _ A29.out).mono ?_); rintro e w' ⟨rfl, ⟨nd, rfl⟩⟩; (try first | exact ⟨rfl, _, World.drewN_drewN _ _ _⟩ | exact ⟨rfl, _, Eq.trans (World.drewN_drewN _ _ _) (congrArg (World.drewN _) (Nat.add_assoc _ _ _))⟩)) | (go_at_call 46; (with_reducible refine (gangerref10_out.calls a0_1 1 4294967296 true _ A33.out).mono ?_); rintro e w' ⟨rfl, ⟨nd, rfl⟩⟩; (try first | exact ⟨rfl, _, World.drewN_drewN _ _ _⟩ | exact ⟨rfl, _, Eq.trans (World.drewN_drewN _ _ _) (congrArg (World.drewN _) (Nat.add_assoc _ _ _))⟩))))
       go_meet
       case rel => exact ⟨_, (true), (by first | rfl | (simp; done) | (simp [*]; done)), H', ⟨by have := HJ1.out; first | omega | exact Nat.le_refl _⟩, ⟨by (with_reducible repeat (first | refine blk_drewN ?_ _ | refine blk_drew ?_ | refine blk_alloc ?_ _)); exact BK278.out⟩, ⟨by (with_reducible repeat (first | refine blk_drewN ?_ _ | refine blk_drew ?_ | refine blk_alloc ?_ _)); exact BK279.out⟩, ⟨by repeat (first | (with_reducible first | exact HB.out | apply below_alloc | apply pw_below_drewN | apply below_drew1 | refine below_set ?_ GE278.out | refine below_set ?_ GE279.out) | exact HB.out)⟩⟩
      ·replace c34 := Bool.eq_false_iff.mpr c34
       subst c34
       have H1 : ((gangerref10_out.f a0_2 1 1073741824).bind fun t287 => (if t287 = true then (gangerref10_Check.j1 kj1 true a0_0 a0_1 a0_2 a0_3 a0_4 a0_5 a0_6 a0_7 a0_8 l0_9 l0_10 l0_11) else ((gangerref10_out.f a0_3 0 100).bind fun t288 => (gangerref10_Check.j1 kj1 t288 a0_0 a0_1 a0_2 a0_3 a0_4 a0_5 a0_6 a0_7 a0_8 l0_9 l0_10 l0_11)))) = some r := by rw [if_neg (show ¬ (false = true) by decide)] at H; exact H
       clear H
       have H := H1
       clear H1
       replace H := Option.bind_eq_some_iff.mp H
       obtain ⟨t287, A370, H⟩ := H
       replace H : (if t287 = true then (gangerref10_Check.j1 kj1 true a0_0 a0_1 a0_2 a0_3 a0_4 a0_5 a0_6 a0_7 a0_8 l0_9 l0_10 l0_11) else ((gangerref10_out.f a0_3 0 100).bind fun t288 => (gangerref10_Check.j1 kj1 t288 a0_0 a0_1 a0_2 a0_3 a0_4 a0_5 a0_6 a0_7 a0_8 l0_9 l0_10 l0_11))) = some r := H
       have A37 := Aside0.mk A370
       clear A370
       by_cases c38 : t287 = true
       ·subst c38
        have H1 : (gangerref10_Check.j1 kj1 true a0_0 a0_1 a0_2 a0_3 a0_4 a0_5 a0_6 a0_7 a0_8 l0_9 l0_10 l0_11) = some r := by rw [if_pos rfl] at H; exact H
        clear H
        have H := H1
        clear H1
        have H' := Aside0.mk H
        clear H
        have hnb39 := NB278_279.out
        have hnc39 := NB279_278.out
        have hcz40_0 : wc.cell? ⟨gb278, 0, none⟩ = some (.int .i64 a0_0) := (blk_cell BK278.out 0).trans rfl
        have hcz40_1 : wc.cell? ⟨gb278, 1, none⟩ = some (.int .i64 a0_1) := (blk_cell BK278.out 1).trans rfl
        have hcz40_2 : wc.cell? ⟨gb278, 2, none⟩ = some (.int .i64 a0_2) := (blk_cell BK278.out 2).trans rfl
        have hcz40_3 : wc.cell? ⟨gb278, 3, none⟩ = some (.int .i64 a0_3) := (blk_cell BK278.out 3).trans rfl
        have hcz40_4 : wc.cell? ⟨gb278, 4, none⟩ = some (.int .i64 a0_4) := (blk_cell BK278.out 4).trans rfl
        have hcz40_5 : wc.cell? ⟨gb278, 5, none⟩ = some (.int .i64 a0_5) := (blk_cell BK278.out 5).trans rfl
        have hcz40_6 : wc.cell? ⟨gb278, 6, none⟩ = some (.int .i64 a0_6) := (blk_cell BK278.out 6).trans rfl
        have hcz40_7 : wc.cell? ⟨gb278, 7, none⟩ = some (.int .i64 a0_7) := (blk_cell BK278.out 7).trans rfl
        have hcz40_8 : wc.cell? ⟨gb278, 8, none⟩ = some (.int .i64 a0_8) := (blk_cell BK278.out 8).trans rfl
        have hcz40_9 : wc.cell? ⟨gb278, 9, none⟩ = some (.slice A0_9 l0_9.length c0_9) := (blk_cell BK278.out 9).trans rfl
        have hcz40_10 : wc.cell? ⟨gb278, 10, none⟩ = some (.slice A0_10 l0_10.length c0_10) := (blk_cell BK278.out 10).trans rfl
        have hcz40_11 : wc.cell? ⟨gb278, 11, none⟩ = some (.slice A0_11 l0_11.length c0_11) := (blk_cell BK278.out 11).trans rfl
        have hfz40_0 := blk_frozen BK278.out 0
        have hfz40_1 := blk_frozen BK278.out 1
        have hfz40_2 := blk_frozen BK278.out 2
        have hfz40_3 := blk_frozen BK278.out 3
        have hfz40_4 := blk_frozen BK278.out 4
        have hfz40_5 := blk_frozen BK278.out 5
        have hfz40_6 := blk_frozen BK278.out 6
        have hfz40_7 := blk_frozen BK278.out 7
        have hfz40_8 := blk_frozen BK278.out 8
        have hfz40_9 := blk_frozen BK278.out 9
        have hfz40_10 := blk_frozen BK278.out 10
        have hfz40_11 := blk_frozen BK278.out 11
        go_wp2_with (first | (go_at_call 46; (with_reducible refine (gangerref10_out.calls a0_0 1 4 false _ A29.out).mono ?_); rintro e w' ⟨rfl, ⟨nd, rfl⟩⟩; (try first | exact ⟨rfl, _, World.drewN_drewN _ _ _⟩ | exact ⟨rfl, _, Eq.trans (World.drewN_drewN _ _ _) (congrArg (World.drewN _) (Nat.add_assoc _ _ _))⟩)) | (go_at_call 46; (with_reducible refine (gangerref10_out.calls a0_1 1 4294967296 false _ A33.out).mono ?_); rintro e w' ⟨rfl, ⟨nd, rfl⟩⟩; (try first | exact ⟨rfl, _, World.drewN_drewN _ _ _⟩ | exact ⟨rfl, _, Eq.trans (World.drewN_drewN _ _ _) (congrArg (World.drewN _) (Nat.add_assoc _ _ _))⟩)) | (go_at_call 46; (with_reducible refine (gangerref10_out.calls a0_2 1 1073741824 true _ A37.out).mono ?_); rintro e w' ⟨rfl, ⟨nd, rfl⟩⟩; (try first | exact ⟨rfl, _, World.drewN_drewN _ _ _⟩ | exact ⟨rfl, _, Eq.trans (World.drewN_drewN _ _ _) (congrArg (World.drewN _) (Nat.add_assoc _ _ _))⟩)))
        repeat (go_quiet (first | (go_at_call 46; (with_reducible refine (gangerref10_out.calls a0_0 1 4 false _ A29.out).mono ?_); rintro e w' ⟨rfl, ⟨nd, rfl⟩⟩; (try first | exact ⟨rfl, _, World.drewN_drewN _ _ _⟩ | exact ⟨rfl, _, Eq.trans (World.drewN_drewN _ _ _) (congrArg (World.drewN _) (Nat.add_assoc _ _ _))⟩)) | (go_at_call 46; (with_reducible refine (gangerref10_out.calls a0_1 1 4294967296 false _ A33.out).mono ?_); rintro e w' ⟨rfl, ⟨nd, rfl⟩⟩; (try first | exact ⟨rfl, _, World.drewN_drewN _ _ _⟩ | exact ⟨rfl, _, Eq.trans (World.drewN_drewN _ _ _) (congrArg (World.drewN _) (Nat.add_assoc _ _ _))⟩)) | (go_at_call 46; (with_reducible refine (gangerref10_out.calls a0_2 1 1073741824 true _ A37.out).mono ?_); rintro e w' ⟨rfl, ⟨nd, rfl⟩⟩; (try first | exact ⟨rfl, _, World.drewN_drewN _ _ _⟩ | exact ⟨rfl, _, Eq.trans (World.drewN_drewN _ _ _) (congrArg (World.drewN _) (Nat.add_assoc _ _ _))⟩))); try go_wp2_with (first | (go_at_call 46; (with_reducible refine (gangerref10_out.calls a0_0 1 4 false _ A29.out).mono ?_); rintro e w' ⟨rfl, ⟨nd, rfl⟩⟩; (try first | exact ⟨rfl, _, World.drewN_drewN _ _ _⟩ | exact ⟨rfl, _, Eq.trans (World.drewN_drewN _ _ _) (congrArg (World.drewN _) (Nat.add_assoc _ _ _))⟩)) | (go_at_call 46; (with_reducible refine (gangerref10_out.calls a0_1 1 4294967296 false _ A33.out).mono ?_); rintro e w' ⟨rfl, ⟨nd, rfl⟩⟩; (try first | exact ⟨rfl, _, World.drewN_drewN _ _ _⟩ | exact ⟨rfl, _, Eq.trans (World.drewN_drewN _ _ _) (congrArg (World.drewN _) (Nat.add_assoc _ _ _))⟩)) | (go_at_call 46; (with_reducible refine (gangerref10_out.calls a0_2 1 1073741824 true _ A37.out).mono ?_); rintro e w' ⟨rfl, ⟨nd, rfl⟩⟩; (try first | exact ⟨rfl, _, World.drewN_drewN _ _ _⟩ | exact ⟨rfl, _, Eq.trans (World.drewN_drewN _ _ _) (congrArg (World.drewN _) (Nat.add_assoc _ _ _))⟩))))
        go_meet
        case rel => exact ⟨_, (true), (by first | rfl | (simp; done) | (simp [*]; done)), H', ⟨by have := HJ1.out; first | omega | exact Nat.le_refl _⟩, ⟨by (with_reducible repeat (first | refine blk_drewN ?_ _ | refine blk_drew ?_ | refine blk_alloc ?_ _)); exact BK278.out⟩, ⟨by (with_reducible repeat (first | refine blk_drewN ?_ _ | refine blk_drew ?_ | refine blk_alloc ?_ _)); exact BK279.out⟩, ⟨by repeat (first | (with_reducible first | exact HB.out | apply below_alloc | apply pw_below_drewN | apply below_drew1 | refine below_set ?_ GE278.out | refine below_set ?_ GE279.out) | exact HB.out)⟩⟩
       ·replace c38 := Bool.eq_false_iff.mpr c38
        subst c38
        have H1 : ((gangerref10_out.f a0_3 0 100).bind fun t288 => (gangerref10_Check.j1 kj1 t288 a0_0 a0_1 a0_2 a0_3 a0_4 a0_5 a0_6 a0_7 a0_8 l0_9 l0_10 l0_11)) = some r := by rw [if_neg (show ¬ (false = true) by decide)] at H; exact H
        clear H
        have H := H1
        clear H1
        replace H := Option.bind_eq_some_iff.mp H
        obtain ⟨t288, A410, H⟩ := H
        replace H : (gangerref10_Check.j1 kj1 t288 a0_0 a0_1 a0_2 a0_3 a0_4 a0_5 a0_6 a0_7 a0_8 l0_9 l0_10 l0_11) = some r := H
        have A41 := Aside0.mk A410
        clear A410
        have H' := Aside0.mk H
        clear H
        have hnb42 := NB278_279.out
        have hnc42 := NB279_278.out
        have hcz43_0 : wc.cell? ⟨gb278, 0, none⟩ = some (.int .i64 a0_0) := (blk_cell BK278.out 0).trans rfl
        have hcz43_1 : wc.cell? ⟨gb278, 1, none⟩ = some (.int .i64 a0_1) := (blk_cell BK278.out 1).trans rfl
        have hcz43_2 : wc.cell? ⟨gb278, 2, none⟩ = some (.int .i64 a0_2) := (blk_cell BK278.out 2).trans rfl
        have hcz43_3 : wc.cell? ⟨gb278, 3, none⟩ = some (.int .i64 a0_3) := (blk_cell BK278.out 3).trans rfl
        have hcz43_4 : wc.cell? ⟨gb278, 4, none⟩ = some (.int .i64 a0_4) := (blk_cell BK278.out 4).trans rfl
        have hcz43_5 : wc.cell? ⟨gb278, 5, none⟩ = some (.int .i64 a0_5) := (blk_cell BK278.out 5).trans rfl
        have hcz43_6 : wc.cell? ⟨gb278, 6, none⟩ = some (.int .i64 a0_6) := (blk_cell BK278.out 6).trans rfl
        have hcz43_7 : wc.cell? ⟨gb278, 7, none⟩ = some (.int .i64 a0_7) := (blk_cell BK278.out 7).trans rfl
        have hcz43_8 : wc.cell? ⟨gb278, 8, none⟩ = some (.int .i64 a0_8) := (blk_cell BK278.out 8).trans rfl
        have hcz43_9 : wc.cell? ⟨gb278, 9, none⟩ = some (.slice A0_9 l0_9.length c0_9) := (blk_cell BK278.out 9).trans rfl
        have hcz43_10 : wc.cell? ⟨gb278, 10, none⟩ = some (.slice A0_10 l0_10.length c0_10) := (blk_cell BK278.out 10).trans rfl
        have hcz43_11 : wc.cell? ⟨gb278, 11, none⟩ = some (.slice A0_11 l0_11.length c0_11) := (blk_cell BK278.out 11).trans rfl
        have hfz43_0 := blk_frozen BK278.out 0
        have hfz43_1 := blk_frozen BK278.out 1
        have hfz43_2 := blk_frozen BK278.out 2
        have hfz43_3 := blk_frozen BK278.out 3
        have hfz43_4 := blk_frozen BK278.out 4
        have hfz43_5 := blk_frozen BK278.out 5
        have hfz43_6 := blk_frozen BK278.out 6
        have hfz43_7 := blk_frozen BK278.out 7
        have hfz43_8 := blk_frozen BK278.out 8
        have hfz43_9 := blk_frozen BK278.out 9
        have hfz43_10 := blk_frozen BK278.out 10
        have hfz43_11 := blk_frozen BK278.out 11
        go_wp2_with (first | (go_at_call 46; (with_reducible refine (gangerref10_out.calls a0_0 1 4 false _ A29.out).mono ?_); rintro e w' ⟨rfl, ⟨nd, rfl⟩⟩; (try first | exact ⟨rfl, _, World.drewN_drewN _ _ _⟩ | exact ⟨rfl, _, Eq.trans (World.drewN_drewN _ _ _) (congrArg (World.drewN _) (Nat.add_assoc _ _ _))⟩)) | (go_at_call 46; (with_reducible refine (gangerref10_out.calls a0_1 1 4294967296 false _ A33.out).mono ?_); rintro e w' ⟨rfl, ⟨nd, rfl⟩⟩; (try first | exact ⟨rfl, _, World.drewN_drewN _ _ _⟩ | exact ⟨rfl, _, Eq.trans (World.drewN_drewN _ _ _) (congrArg (World.drewN _) (Nat.add_assoc _ _ _))⟩)) | (go_at_call 46; (with_reducible refine (gangerref10_out.calls a0_2 1 1073741824 false _ A37.out).mono ?_); rintro e w' ⟨rfl, ⟨nd, rfl⟩⟩; (try first | exact ⟨rfl, _, World.drewN_drewN _ _ _⟩ | exact ⟨rfl, _, Eq.trans (World.drewN_drewN _ _ _) (congrArg (World.drewN _) (Nat.add_assoc _ _ _))⟩)) | (go_at_call 46; (with_reducible refine (gangerref10_out.calls a0_3 0 100 t288 _ A41.out).mono ?_); rintro e w' ⟨rfl, ⟨nd, rfl⟩⟩; (try first | exact ⟨rfl, _, World.drewN_drewN _ _ _⟩ | exact ⟨rfl, _, Eq.trans (World.drewN_drewN _ _ _) (congrArg (World.drewN _) (Nat.add_assoc _ _ _))⟩)))
        repeat (go_quiet (first | (go_at_call 46; (with_reducible refine (gangerref10_out.calls a0_0 1 4 false _ A29.out).mono ?_); rintro e w' ⟨rfl, ⟨nd, rfl⟩⟩; (try first | exact ⟨rfl, _, World.drewN_drewN _ _ _⟩ | exact ⟨rfl, _, Eq.trans (World.drewN_drewN _ _ _) (congrArg (World.drewN _) (Nat.add_assoc _ _ _))⟩)) | (go_at_call 46; (with_reducible refine (gangerref10_out.calls a0_1 1 4294967296 false _ A33.out).mono ?_); rintro e w' ⟨rfl, ⟨nd, rfl⟩⟩; (try first | exact ⟨rfl, _, World.drewN_drewN _ _ _⟩ | exact ⟨rfl, _, Eq.trans (World.drewN_drewN _ _ _) (congrArg (World.drewN _) (Nat.add_assoc _ _ _))⟩)) | (go_at_call 46; (with_reducible refine (gangerref10_out.calls a0_2 1 1073741824 false _ A37.out).mono ?_); rintro e w' ⟨rfl, ⟨nd, rfl⟩⟩; (try first | exact ⟨rfl, _, World.drewN_drewN _ _ _⟩ | exact ⟨rfl, _, Eq.trans (World.drewN_drewN _ _ _) (congrArg (World.drewN _) (Nat.add_assoc _ _ _))⟩)) | (go_at_call 46; (with_reducible refine (gangerref10_out.calls a0_3 0 100 t288 _ A41.out).mono ?_); rintro e w' ⟨rfl, ⟨nd, rfl⟩⟩; (try first | exact ⟨rfl, _, World.drewN_drewN _ _ _⟩ | exact ⟨rfl, _, Eq.trans (World.drewN_drewN _ _ _) (congrArg (World.drewN _) (Nat.add_assoc _ _ _))⟩))); try go_wp2_with (first | (go_at_call 46; (with_reducible refine (gangerref10_out.calls a0_0 1 4 false _ A29.out).mono ?_); rintro e w' ⟨rfl, ⟨nd, rfl⟩⟩; (try first | exact ⟨rfl, _, World.drewN_drewN _ _ _⟩ | exact ⟨rfl, _, Eq.trans (World.drewN_drewN _ _ _) (congrArg (World.drewN _) (Nat.add_assoc _ _ _))⟩)) | (go_at_call 46; (with_reducible refine (gangerref10_out.calls a0_1 1 4294967296 false _ A33.out).mono ?_); rintro e w' ⟨rfl, ⟨nd, rfl⟩⟩; (try first | exact ⟨rfl, _, World.drewN_drewN _ _ _⟩ | exact ⟨rfl, _, Eq.trans (World.drewN_drewN _ _ _) (congrArg (World.drewN _) (Nat.add_assoc _ _ _))⟩)) | (go_at_call 46; (with_reducible refine (gangerref10_out.calls a0_2 1 1073741824 false _ A37.out).mono ?_); rintro e w' ⟨rfl, ⟨nd, rfl⟩⟩; (try first | exact ⟨rfl, _, World.drewN_drewN _ _ _⟩ | exact ⟨rfl, _, Eq.trans (World.drewN_drewN _ _ _) (congrArg (World.drewN _) (Nat.add_assoc _ _ _))⟩)) | (go_at_call 46; (with_reducible refine (gangerref10_out.calls a0_3 0 100 t288 _ A41.out).mono ?_); rintro e w' ⟨rfl, ⟨nd, rfl⟩⟩; (try first | exact ⟨rfl, _, World.drewN_drewN _ _ _⟩ | exact ⟨rfl, _, Eq.trans (World.drewN_drewN _ _ _) (congrArg (World.drewN _) (Nat.add_assoc _ _ _))⟩))))
        go_meet
        case rel => exact ⟨_, (t288), (by first | rfl | (simp; done) | (simp [*]; done)), H', ⟨by have := HJ1.out; first | omega | exact Nat.le_refl _⟩, ⟨by (with_reducible repeat (first | refine blk_drewN ?_ _ | refine blk_drew ?_ | refine blk_alloc ?_ _)); exact BK278.out⟩, ⟨by (with_reducible repeat (first | refine blk_drewN ?_ _ | refine blk_drew ?_ | refine blk_alloc ?_ _)); exact BK279.out⟩, ⟨by repeat (first | (with_reducible first | exact HB.out | apply below_alloc | apply pw_below_drewN | apply below_drew1 | refine below_set ?_ GE278.out | refine below_set ?_ GE279.out) | exact HB.out)⟩⟩
    case rest =>
     clear HC28
     obtain ⟨kq, x52_27, rfl, HA, HJ27, BK278, BK279, HB⟩ := hcut
     cases kq with
     | zero => exact absurd HA.out (by simp [gangerref10_Check.j1])
     | succ kj27 =>
      have H := HA.out
      clear HA
      simp only [gangerref10_Check.j1] at H
      by_cases c44 : x52_27 = true
      ·subst c44
       have H1 : (some 100) = some r := by rw [if_pos rfl] at H; exact H
       clear H
       have H := H1
       clear H1
       obtain rfl := Option.some.inj H
       go_wp2
       repeat (go_quiet (fail); try go_wp2)
       go_ret
       exact ⟨by first | rfl | (simp [errW_none, errW_some] <;> rfl) | (simp [*, errW_none, errW_some] <;> rfl), by repeat (first | (with_reducible first | exact HB.out | apply below_alloc | apply pw_below_drewN | apply below_drew1 | refine below_set ?_ GE278.out | refine below_set ?_ GE279.out) | exact HB.out)⟩
      ·replace c44 := Bool.eq_false_iff.mpr c44
       subst c44
       have H1 : ((gangerref10_out.f (l0_9.length : Int) 1 8).bind fun t289 => (if t289 = true then (gangerref10_Check.j2 kj27 true a0_0 a0_1 a0_2 a0_3 a0_4 a0_5 a0_6 a0_7 a0_8 l0_9 l0_10 l0_11) else ((gangerref10_out.f (l0_10.length : Int) 1 8).bind fun t290 => (if t290 = true then (gangerref10_Check.j2 kj27 true a0_0 a0_1 a0_2 a0_3 a0_4 a0_5 a0_6 a0_7 a0_8 l0_9 l0_10 l0_11) else ((gangerref10_out.f (l0_11.length : Int) 1 50).bind fun t291 => (gangerref10_Check.j2 kj27 t291 a0_0 a0_1 a0_2 a0_3 a0_4 a0_5 a0_6 a0_7 a0_8 l0_9 l0_10 l0_11)))))) = some r := by rw [if_neg (show ¬ (false = true) by decide)] at H; exact H
       clear H
       have H := H1
       clear H1
       have HC45 := Aside0.mk H
       clear H
       go_upto_region 6 with (fail)
       repeat (go_quiet (fail); go_upto_region 6 with (fail))
       go_cut [68] (fun v68 wc => ∃ (kq : Nat) (x68_44 : Bool), v68 = .bool x68_44 ∧ Aside0 (gangerref10_Check.j2 kq x68_44 a0_0 a0_1 a0_2 a0_3 a0_4 a0_5 a0_6 a0_7 a0_8 l0_9 l0_10 l0_11 = some r) ∧ Aside0 (kq ≤ kj27) ∧ Aside0 (wc.heap[gb278]? = some (.cells #[.int .i64 a0_0, .int .i64 a0_1, .int .i64 a0_2, .int .i64 a0_3, .int .i64 a0_4, .int .i64 a0_5, .int .i64 a0_6, .int .i64 a0_7, .int .i64 a0_8, (.slice A0_9 l0_9.length c0_9), (.slice A0_10 l0_10.length c0_10), (.slice A0_11 l0_11.length c0_11)] 64 (0, 0))) ∧ Aside0 (wc.heap[gb279]? = some (.cells #[.int .i64 a0_4, .int .i64 a0_5, .int .i64 a0_6, .int .i64 a0_7, .int .i64 a0_8] 62 (0, 0))) ∧ Aside0 (Below w.heap.size w wc))
       case first =>
        have H := HC45.out
        clear HC45
        replace H := Option.bind_eq_some_iff.mp H
        obtain ⟨t289, A460, H⟩ := H
        replace H : (if t289 = true then (gangerref10_Check.j2 kj27 true a0_0 a0_1 a0_2 a0_3 a0_4 a0_5 a0_6 a0_7 a0_8 l0_9 l0_10 l0_11) else ((gangerref10_out.f (l0_10.length : Int) 1 8).bind fun t290 => (if t290 = true then (gangerref10_Check.j2 kj27 true a0_0 a0_1 a0_2 a0_3 a0_4 a0_5 a0_6 a0_7 a0_8 l0_9 l0_10 l0_11) else ((gangerref10_out.f (l0_11.length : Int) 1 50).bind fun t291 => (gangerref10_Check.j2 kj27 t291 a0_0 a0_1 a0_2 a0_3 a0_4 a0_5 a0_6 a0_7 a0_8 l0_9 l0_10 l0_11))))) = some r := H
        have A46 := Aside0.mk A460
        clear A460
        by_cases c47 : t289 = true
        ·subst c47
         have H1 : (gangerref10_Check.j2 kj27 true a0_0 a0_1 a0_2 a0_3 a0_4 a0_5 a0_6 a0_7 a0_8 l0_9 l0_10 l0_11) = some r := by rw [if_pos rfl] at H; exact H
         clear H
         have H := H1
         clear H1
         have H' := Aside0.mk H
         clear H
         have hnb48 := NB278_279.out
         have hnc48 := NB279_278.out
         have hcz49_0 : wc.cell? ⟨gb278, 0, none⟩ = some (.int .i64 a0_0) := (blk_cell BK278.out 0).trans rfl
         have hcz49_1 : wc.cell? ⟨gb278, 1, none⟩ = some (.int .i64 a0_1) := (blk_cell BK278.out 1).trans rfl
         have hcz49_2 : wc.cell? ⟨gb278, 2, none⟩ = some (.int .i64 a0_2) := (blk_cell BK278.out 2).trans rfl
         have hcz49_3 : wc.cell? ⟨gb278, 3, none⟩ = some (.int .i64 a0_3) := (blk_cell BK278.out 3).trans rfl
         have hcz49_4 : wc.cell? ⟨gb278, 4, none⟩ = some (.int .i64 a0_4) := (blk_cell BK278.out 4).trans rfl
         have hcz49_5 : wc.cell? ⟨gb278, 5, none⟩ = some (.int .i64 a0_5) := (blk_cell BK278.out 5).trans rfl
         have hcz49_6 : wc.cell? ⟨gb278, 6, none⟩ = some (.int .i64 a0_6) := (blk_cell BK278.out 6).trans rfl
         have hcz49_7 : wc.cell? ⟨gb278, 7, none⟩ = some (.int .i64 a0_7) := (blk_cell BK278.out 7).trans rfl
         have hcz49_8 : wc.cell? ⟨gb278, 8, none⟩ = some (.int .i64 a0_8) := (blk_cell BK278.out 8).trans rfl
         have hcz49_9 : wc.cell? ⟨gb278, 9, none⟩ = some (.slice A0_9 l0_9.length c0_9) := (blk_cell BK278.out 9).trans rfl
         have hcz49_10 : wc.cell? ⟨gb278, 10, none⟩ = some (.slice A0_10 l0_10.length c0_10) := (blk_cell BK278.out 10).trans rfl
         have hcz49_11 : wc.cell? ⟨gb278, 11, none⟩ = some (.slice A0_11 l0_11.length c0_11) := (blk_cell BK278.out 11).trans rfl
         have hfz49_0 := blk_frozen BK278.out 0
         have hfz49_1 := blk_frozen BK278.out 1
         have hfz49_2 := blk_frozen BK278.out 2
         have hfz49_3 := blk_frozen BK278.out 3
         have hfz49_4 := blk_frozen BK278.out 4
         have hfz49_5 := blk_frozen BK278.out 5
         have hfz49_6 := blk_frozen BK278.out 6
         have hfz49_7 := blk_frozen BK278.out 7
         have hfz49_8 := blk_frozen BK278.out 8
         have hfz49_9 := blk_frozen BK278.out 9
         have hfz49_10 := blk_frozen BK278.out 10
         have hfz49_11 := blk_frozen BK278.out 11
         go_wp2_with (first | (go_at_call 46; (with_reducible refine (gangerref10_out.calls (l0_9.length : Int) 1 8 true _ A46.out).mono ?_); rintro e w' ⟨rfl, ⟨nd, rfl⟩⟩; (try first | exact ⟨rfl, _, World.drewN_drewN _ _ _⟩ | exact ⟨rfl, _, Eq.trans (World.drewN_drewN _ _ _) (congrArg (World.drewN _) (Nat.add_assoc _ _ _))⟩)))
         repeat (go_quiet (first | (go_at_call 46; (with_reducible refine (gangerref10_out.calls (l0_9.length : Int) 1 8 true _ A46.out).mono ?_); rintro e w' ⟨rfl, ⟨nd, rfl⟩⟩; (try first | exact ⟨rfl, _, World.drewN_drewN _ _ _⟩ | exact ⟨rfl, _, Eq.trans (World.drewN_drewN _ _ _) (congrArg (World.drewN _) (Nat.add_assoc _ _ _))⟩))); try go_wp2_with (first | (go_at_call 46; (with_reducible refine (gangerref10_out.calls (l0_9.length : Int) 1 8 true _ A46.out).mono ?_); rintro e w' ⟨rfl, ⟨nd, rfl⟩⟩; (try first | exact ⟨rfl, _, World.drewN_drewN _ _ _⟩ | exact ⟨rfl, _, Eq.trans (World.drewN_drewN _ _ _) (congrArg (World.drewN _) (Nat.add_assoc _ _ _))⟩))))
         go_meet
         case rel => exact ⟨_, (true), (by first | rfl | (simp; done) | (simp [*]; done)), H', ⟨by have := HJ1.out; have := HJ27.out; first | omega | exact Nat.le_refl _⟩, ⟨by (with_reducible repeat (first | refine blk_drewN ?_ _ | refine blk_drew ?_ | refine blk_alloc ?_ _)); exact BK278.out⟩, ⟨by (with_reducible repeat (first | refine blk_drewN ?_ _ | refine blk_drew ?_ | refine blk_alloc ?_ _)); exact BK279.out⟩, ⟨by repeat (first | (with_reducible first | exact HB.out | apply below_alloc | apply pw_below_drewN | apply below_drew1 | refine below_set ?_ GE278.out | refine below_set ?_ GE279.out) | exact HB.out)⟩⟩
        ·replace c47 := Bool.eq_false_iff.mpr c47
         subst c47
         have H1 : ((gangerref10_out.f (l0_10.length : Int) 1 8).bind fun t290 => (if t290 = true then (gangerref10_Check.j2 kj27 true a0_0 a0_1 a0_2 a0_3 a0_4 a0_5 a0_6 a0_7 a0_8 l0_9 l0_10 l0_11) else ((gangerref10_out.f (l0_11.length : Int) 1 50).bind fun t291 => (gangerref10_Check.j2 kj27 t291 a0_0 a0_1 a0_2 a0_3 a0_4 a0_5 a0_6 a0_7 a0_8 l0_9 l0_10 l0_11)))) = some r := by rw [if_neg (show ¬ (false = true) by decide)] at H; exact H
         clear H
         have H := H1
         clear H1
         replace H := Option.bind_eq_some_iff.mp H
         obtain ⟨t290, A500, H⟩ := H
         replace H : (if t290 = true then (gangerref10_Check.j2 kj27 true a0_0 a0_1 a0_2 a0_3 a0_4 a0_5 a0_6 a0_7 a0_8 l0_9 l0_10 l0_11) else ((gangerref10_out.f (l0_11.length : Int) 1 50).bind fun t291 => (gangerref10_Check.j2 kj27 t291 a0_0 a0_1 a0_2 a0_3 a0_4 a0_5 a0_6 a0_7 a0_8 l0_9 l0_10 l0_11))) = some r := H
         have A50 := Aside0.mk A500
         clear A500
         by_cases c51 : t290 = true
         ·subst c51
          have H1 : (gangerref10_Check.j2 kj27 true a0_0 a0_1 a0_2 a0_3 a0_4 a0_5 a0_6 a0_7 a0_8 l0_9 l0_10 l0_11) = some r := by rw [if_pos rfl] at H; exact H
          clear H
          have H := H1
          clear H1
          have H' := Aside0.mk H
          clear H
          have hnb52 := NB278_279.out
          have hnc52 := NB279_278.out
          have hcz53_0 : wc.cell? ⟨gb278, 0, none⟩ = some (.int .i64 a0_0) := (blk_cell BK278.out 0).trans rfl
          have hcz53_1 : wc.cell? ⟨gb278, 1, none⟩ = some (.int .i64 a0_1) := (blk_cell BK278.out 1).trans rfl
          have hcz53_2 : wc.cell? ⟨gb278, 2, none⟩ = some (.int .i64 a0_2) := (blk_cell BK278.out 2).trans rfl
          have hcz53_3 : wc.cell? ⟨gb278, 3, none⟩ = some (.int .i64 a0_3) := (blk_cell BK278.out 3).trans rfl
          have hcz53_4 : wc.cell? ⟨gb278, 4, none⟩ = some (.int .i64 a0_4) := (blk_cell BK278.out 4).trans rfl
          have hcz53_5 : wc.cell? ⟨gb278, 5, none⟩ = some (.int .i64 a0_5) := (blk_cell BK278.out 5).trans rfl
          have hcz53_6 : wc.cell? ⟨gb278, 6, none⟩ = some (.int .i64 a0_6) := (blk_cell BK278.out 6).trans rfl
          have hcz53_7 : wc.cell? ⟨gb278, 7, none⟩ = some (.int .i64 a0_7) := (blk_cell BK278.out 7).trans rfl
          have hcz53_8 : wc.cell? ⟨gb278, 8, none⟩ = some (.int .i64 a0_8) := (blk_cell BK278.out 8).trans rfl
          have hcz53_9 : wc.cell? ⟨gb278, 9, none⟩ = some (.slice A0_9 l0_9.length c0_9) := (blk_cell BK278.out 9).trans rfl
          have hcz53_10 : wc.cell? ⟨gb278, 10, none⟩ = some (.slice A0_10 l0_10.length c0_10) := (blk_cell BK278.out 10).trans rfl
          have hcz53_11 : wc.cell? ⟨gb278, 11, none⟩ = some (.slice A0_11 l0_11.length c0_11) := (blk_cell BK278.out 11).trans rfl
          have hfz53_0 := blk_frozen BK278.out 0
          have hfz53_1 := blk_frozen BK278.out 1
          have hfz53_2 := blk_frozen BK278.out 2
          have hfz53_3 := blk_frozen BK278.out 3
          have hfz53_4 := blk_frozen BK278.out 4
          have hfz53_5 := blk_frozen BK278.out 5
          have hfz53_6 := blk_frozen BK278.out 6
          have hfz53_7 := blk_frozen BK278.out 7
          have hfz53_8 := blk_frozen BK278.out 8
          have hfz53_9 := blk_frozen BK278.out 9
          have hfz53_10 := blk_frozen BK278.out 10
          have hfz53_11 := blk_frozen BK278.out 11
          go_wp2_with (first | (go_at_call 46; (with_reducible refine (gangerref10_out.calls (l0_9.length : Int) 1 8 false _ A46.out).mono ?_); rintro e w' ⟨rfl, ⟨nd, rfl⟩⟩; (try first | exact ⟨rfl, _, World.drewN_drewN _ _ _⟩ | exact ⟨rfl, _, Eq.trans (World.drewN_drewN _ _ _) (congrArg (World.drewN _) (Nat.add_assoc _ _ _))⟩)) | (go_at_call 46; (with_reducible refine (gangerref10_out.calls (l0_10.length : Int) 1 8 true _ A50.out).mono ?_); rintro e w' ⟨rfl, ⟨nd, rfl⟩⟩; (try first | exact ⟨rfl, _, World.drewN_drewN _ _ _⟩ | exact ⟨rfl, _, Eq.trans (World.drewN_drewN _ _ _) (congrArg (World.drewN _) (Nat.add_assoc _ _ _))⟩)))
          repeat (go_quiet (first | (go_at_call 46; (with_reducible refine (gangerref10_out.calls (l0_9.length : Int) 1 8 false _ A46.out).mono ?_); rintro e w' ⟨rfl, ⟨nd, rfl⟩⟩; (try first | exact ⟨rfl, _, World.drewN_drewN _ _ _⟩ | exact ⟨rfl, _, Eq.trans (World.drewN_drewN _ _ _) (congrArg (World.drewN _) (Nat.add_assoc _ _ _))⟩)) | (go_at_call 46; (with_reducible refine (gangerref10_out.calls (l0_10.length : Int) 1 8 true _ A50.out).mono ?_); rintro e w' ⟨rfl, ⟨nd, rfl⟩⟩; (try first | exact ⟨rfl, _, World.drewN_drewN _ _ _⟩ | exact ⟨rfl, _, Eq.trans (World.drewN_drewN _ _ _) (congrArg (World.drewN _) (Nat.add_assoc _ _ _))⟩))); try go_wp2_with (first | (go_at_call 46; (with_reducible refine (gangerref10_out.calls (l0_9.length : Int) 1 8 false _ A46.out).mono ?_); rintro e w' ⟨rfl, ⟨nd, rfl⟩⟩; (try first | exact ⟨rfl, _, World.drewN_drewN _ _ _⟩ | exact ⟨rfl, _, Eq.trans (World.drewN_drewN _ _ _) (congrArg (World.drewN _) (Nat.add_assoc _ _ _))⟩)) | (go_at_call 46; (with_reducible refine (gangerref10_out.calls (l0_10.length : Int) 1 8 true _ A50.out).mono ?_); rintro e w' ⟨rfl, ⟨nd, rfl⟩⟩; (try first | exact ⟨rfl, _, World.drewN_drewN _ _ _⟩ | exact ⟨rfl, _, Eq.trans (World.drewN_drewN _ _ _) (congrArg (World.drewN _) (Nat.add_assoc _ _ _))⟩))))
          go_meet
          case rel => exact ⟨_, (true), (by first | rfl | (simp; done) | (simp [*]; done)), H', ⟨by have := HJ1.out; have := HJ27.out; first | omega | exact Nat.le_refl _⟩, ⟨by (with_reducible repeat (first | refine blk_drewN ?_ _ | refine blk_drew ?_ | refine blk_alloc ?_ _)); exact BK278.out⟩, ⟨by (with_reducible repeat (first | refine blk_drewN ?_ _ | refine blk_drew ?_ | refine blk_alloc ?_ _)); exact BK279.out⟩, ⟨by repeat (first | (with_reducible first | exact HB.out | apply below_alloc | apply pw_below_drewN | apply below_drew1 | refine below_set ?_ GE278.out | refine below_set ?_ GE279.out) | exact HB.out)⟩⟩
         ·replace c51 := Bool.eq_false_iff.mpr c51
          subst c51
          have H1 : ((gangerref10_out.f (l0_11.length : Int) 1 50).bind fun t291 => (gangerref10_Check.j2 kj27 t291 a0_0 a0_1 a0_2 a0_3 a0_4 a0_5 a0_6 a0_7 a0_8 l0_9 l0_10 l0_11)) = some r := by rw [if_neg (show ¬ (false = true) by decide)] at H; exact H
          clear H
          have H := H1
          clear H1
          replace H := Option.bind_eq_some_iff.mp H
          obtain ⟨t291, A540, H⟩ := H
          replace H : (gangerref10_Check.j2 kj27 t291 a0_0 a0_1 a0_2 a0_3 a0_4 a0_5 a0_6 a0_7 a0_8 l0_9 l0_10 l0_11) = some r := H
          have A54 := Aside0.mk A540
          clear A540
          have H' := Aside0.mk H
          clear H
          have hnb55 := NB278_279.out
          have hnc55 := NB279_278.out
          have hcz56_0 : wc.cell? ⟨gb278, 0, none⟩ = some (.int .i64 a0_0) := (blk_cell BK278.out 0).trans rfl
          have hcz56_1 : wc.cell? ⟨gb278, 1, none⟩ = some (.int .i64 a0_1) := (blk_cell BK278.out 1).trans rfl
          have hcz56_2 : wc.cell? ⟨gb278, 2, none⟩ = some (.int .i64 a0_2) := (blk_cell BK278.out 2).trans rfl
          have hcz56_3 : wc.cell? ⟨gb278, 3, none⟩ = some (.int .i64 a0_3) := (blk_cell BK278.out 3).trans rfl
          have hcz56_4 : wc.cell? ⟨gb278, 4, none⟩ = some (.int .i64 a0_4) := (blk_cell BK278.out 4).trans rfl
          have hcz56_5 : wc.cell? ⟨gb278, 5, none⟩ = some (.int .i64 a0_5) := (blk_cell BK278.out 5).trans rfl
          have hcz56_6 : wc.cell? ⟨gb278, 6, none⟩ = some (.int .i64 a0_6) := (blk_cell BK278.out 6).trans rfl
          have hcz56_7 : wc.cell? ⟨gb278, 7, none⟩ = some (.int .i64 a0_7) := (blk_cell BK278.out 7).trans rfl
          have hcz56_8 : wc.cell? ⟨gb278, 8, none⟩ = some (.int .i64 a0_8) := (blk_cell BK278.out 8).trans rfl
          have hcz56_9 : wc.cell? ⟨gb278, 9, none⟩ = some (.slice A0_9 l0_9.length c0_9) := (blk_cell BK278.out 9).trans rfl
          have hcz56_10 : wc.cell? ⟨gb278, 10, none⟩ = some (.slice A0_10 l0_10.length c0_10) := (blk_cell BK278.out 10).trans rfl
          have hcz56_11 : wc.cell? ⟨gb278, 11, none⟩ = some (.slice A0_11 l0_11.length c0_11) := (blk_cell BK278.out 11).trans rfl
          have hfz56_0 := blk_frozen BK278.out 0
          have hfz56_1 := blk_frozen BK278.out 1
          have hfz56_2 := blk_frozen BK278.out 2
          have hfz56_3 := blk_frozen BK278.out 3
          have hfz56_4 := blk_frozen BK278.out 4
          have hfz56_5 := blk_frozen BK278.out 5
          have hfz56_6 := blk_frozen BK278.out 6
          have hfz56_7 := blk_frozen BK278.out 7
          have hfz56_8 := blk_frozen BK278.out 8
          have hfz56_9 := blk_frozen BK278.out 9
          have hfz56_10 := blk_frozen BK278.out 10
          have hfz56_11 := blk_frozen BK278.out 11
          go_wp2_with (first | (go_at_call 46; (with_reducible refine (gangerref10_out.calls (l0_9.length : Int) 1 8 false _ A46.out).mono ?_); rintro e w' ⟨rfl, ⟨nd, rfl⟩⟩; (try first | exact ⟨rfl, _, World.drewN_drewN _ _ _⟩ | exact ⟨rfl, _, Eq.trans (World.drewN_drewN _ _ _) (congrArg (World.drewN _) (Nat.add_assoc _ _ _))⟩)) | (go_at_call 46; (with_reducible refine (gangerref10_out.calls (l0_10.length : Int) 1 8 false _ A50.out).mono ?_); rintro e w' ⟨rfl, ⟨nd, rfl⟩⟩; (try first | exact ⟨rfl, _, World.drewN_drewN _ _ _⟩ | exact ⟨rfl, _, Eq.trans (World.drewN_drewN _ _ _) (congrArg (World.drewN _) (Nat.add_assoc _ _ _))⟩)) | (go_at_call 46; (with_reducible refine (gangerref10_out.calls (l0_11.length : Int) 1 50 t291 _ A54.out).mono ?_); rintro e w' ⟨rfl, ⟨nd, rfl⟩⟩; (try first | exact ⟨rfl, _, World.drewN_drewN _ _ _⟩ | exact ⟨rfl, _, Eq.trans (World.drewN_drewN _ _ _) (congrArg (World.drewN _) (Nat.add_assoc _ _ _))⟩)))
          repeat (go_quiet (first | (go_at_call 46; (with_reducible refine (gangerref10_out.calls (l0_9.length : Int) 1 8 false _ A46.out).mono ?_); rintro e w' ⟨rfl, ⟨nd, rfl⟩⟩; (try first | exact ⟨rfl, _, World.drewN_drewN _ _ _⟩ | exact ⟨rfl, _, Eq.trans (World.drewN_drewN _ _ _) (congrArg (World.drewN _) (Nat.add_assoc _ _ _))⟩)) | (go_at_call 46; (with_reducible refine (gangerref10_out.calls (l0_10.length : Int) 1 8 false _ A50.out).mono ?_); rintro e w' ⟨rfl, ⟨nd, rfl⟩⟩; (try first | exact ⟨rfl, _, World.drewN_drewN _ _ _⟩ | exact ⟨rfl, _, Eq.trans (World.drewN_drewN _ _ _) (congrArg (World.drewN _) (Nat.add_assoc _ _ _))⟩)) | (go_at_call 46; (with_reducible refine (gangerref10_out.calls (l0_11.length : Int) 1 50 t291 _ A54.out).mono ?_); rintro e w' ⟨rfl, ⟨nd, rfl⟩⟩; (try first | exact ⟨rfl, _, World.drewN_drewN _ _ _⟩ | exact ⟨rfl, _, Eq.trans (World.drewN_drewN _ _ _) (congrArg (World.drewN _) (Nat.add_assoc _ _ _))⟩))); try go_wp2_with (first | (go_at_call 46; (with_reducible refine (gangerref10_out.calls (l0_9.length : Int) 1 8 false _ A46.out).mono ?_); rintro e w' ⟨rfl, ⟨nd, rfl⟩⟩; (try first | exact ⟨rfl, _, World.drewN_drewN _ _ _⟩ | exact ⟨rfl, _, Eq.trans (World.drewN_drewN _ _ _) (congrArg (World.drewN _) (Nat.add_assoc _ _ _))⟩)) | (go_at_call 46; (with_reducible refine (gangerref10_out.calls (l0_10.length : Int) 1 8 false _ A50.out).mono ?_); rintro e w' ⟨rfl, ⟨nd, rfl⟩⟩; (try first | exact ⟨rfl, _, World.drewN_drewN _ _ _⟩ | exact ⟨rfl, _, Eq.trans (World.drewN_drewN _ _ _) (congrArg (World.drewN _) (Nat.add_assoc _ _ _))⟩)) | (go_at_call 46; (with_reducible refine (gangerref10_out.calls (l0_11.length : Int) 1 50 t291 _ A54.out).mono ?_); rintro e w' ⟨rfl, ⟨nd, rfl⟩⟩; (try first | exact ⟨rfl, _, World.drewN_drewN _ _ _⟩ | exact ⟨rfl, _, Eq.trans (World.drewN_drewN _ _ _) (congrArg (World.drewN _) (Nat.add_assoc _ _ _))⟩))))
          go_meet
          case rel => exact ⟨_, (t291), (by first | rfl | (simp; done) | (simp [*]; done)), H', ⟨by have := HJ1.out; have := HJ27.out; first | omega | exact Nat.le_refl _⟩, ⟨by (with_reducible repeat (first | refine blk_drewN ?_ _ | refine blk_drew ?_ | refine blk_alloc ?_ _)); exact BK278.out⟩, ⟨by (with_reducible repeat (first | refine blk_drewN ?_ _ | refine blk_drew ?_ | refine blk_alloc ?_ _)); exact BK279.out⟩, ⟨by repeat (first | (with_reducible first | exact HB.out | apply below_alloc | apply pw_below_drewN | apply below_drew1 | refine below_set ?_ GE278.out | refine below_set ?_ GE279.out) | exact HB.out)⟩⟩
       case rest =>
        clear HC45
        obtain ⟨kq, x68_44, rfl, HA, HJ44, BK278, BK279, HB⟩ := hcut
        cases kq with
        | zero => exact absurd HA.out (by simp [gangerref10_Check.j2])
        | succ kj44 =>
         have H := HA.out
         clear HA
         simp only [gangerref10_Check.j2] at H
         by_cases c57 : x68_44 = true
         ·subst c57
          have H1 : (some 100) = some r := by rw [if_pos rfl] at H; exact H
          clear H
          have H := H1
          clear H1
          obtain rfl := Option.some.inj H
          go_wp2
          repeat (go_quiet (fail); try go_wp2)
          go_ret
          exact ⟨by first | rfl | (simp [errW_none, errW_some] <;> rfl) | (simp [*, errW_none, errW_some] <;> rfl), by repeat (first | (with_reducible first | exact HB.out | apply below_alloc | apply pw_below_drewN | apply below_drew1 | refine below_set ?_ GE278.out | refine below_set ?_ GE279.out) | exact HB.out)⟩
         ·replace c57 := Bool.eq_false_iff.mpr c57
          subst c57
          have H1 : (gangerref10_Check.l0 kj44 0 a0_0 a0_1 a0_2 a0_3 a0_4 a0_5 a0_6 a0_7 a0_8 l0_9 l0_10 l0_11) = some r := by rw [if_neg (show ¬ (false = true) by decide)] at H; exact H
          clear H
          have H := H1
          clear H1
          have H' := Aside0.mk H
          clear H
          go_wp2
          repeat (go_quiet (fail); try go_wp2)
          go_loopg [4] kj44 (fun kq v4 w' => ∃ (x4_4 : Int), v4 = .int .i64 x4_4 ∧ Aside0 (gangerref10_Check.l0 kq x4_4 a0_0 a0_1 a0_2 a0_3 a0_4 a0_5 a0_6 a0_7 a0_8 l0_9 l0_10 l0_11 = some r) ∧ Aside0 (kq ≤ kj44) ∧ Aside0 (w'.heap[gb278]? = some (.cells #[.int .i64 a0_0, .int .i64 a0_1, .int .i64 a0_2, .int .i64 a0_3, .int .i64 a0_4, .int .i64 a0_5, .int .i64 a0_6, .int .i64 a0_7, .int .i64 a0_8, (.slice A0_9 l0_9.length c0_9), (.slice A0_10 l0_10.length c0_10), (.slice A0_11 l0_11.length c0_11)] 64 (0, 0))) ∧ Aside0 (w'.heap[gb279]? = some (.cells #[.int .i64 a0_4, .int .i64 a0_5, .int .i64 a0_6, .int .i64 a0_7, .int .i64 a0_8] 62 (0, 0))) ∧ Aside0 (Below w.heap.size w w'))
          case atStart => exact ⟨(0), (by first | rfl | (simp; done) | (simp [*]; done)), H', ⟨Nat.le_refl _⟩, ⟨by (with_reducible repeat (first | refine blk_drewN ?_ _ | refine blk_drew ?_ | refine blk_alloc ?_ _)); exact BK278.out⟩, ⟨by (with_reducible repeat (first | refine blk_drewN ?_ _ | refine blk_drew ?_ | refine blk_alloc ?_ _)); exact BK279.out⟩, ⟨by repeat (first | (with_reducible first | exact HB.out | apply below_alloc | apply pw_below_drewN | apply below_drew1 | refine below_set ?_ GE278.out | refine below_set ?_ GE279.out) | exact HB.out)⟩⟩
          case round =>
           clear H'
           obtain ⟨x4_4, rfl, HA, HK4, BK278, BK279, HB⟩ := hrel
           cases gk with
           | zero => exact absurd HA.out (by simp [gangerref10_Check.l0])
           | succ k4 =>
            have H := HA.out
            clear HA
            simp only [gangerref10_Check.l0] at H
            by_cases c58 : x4_4 < (l0_9.length : Int)
            ·rw [if_pos c58] at H
             have c58b0 : decide (x4_4 < (l0_9.length : Int)) = true := decide_eq_true c58
             clear c58
             by_cases c59 : 0 ≤ x4_4
             ·rw [if_pos c59] at H
              have c59b0 : decide (0 ≤ x4_4) = true := decide_eq_true c59
              clear c59
              have HC60 := Aside0.mk H
              clear H
              have hnb61 := NB278_279.out
              have hnc61 := NB279_278.out
              have hcz62_0 : wr.cell? ⟨gb278, 0, none⟩ = some (.int .i64 a0_0) := (blk_cell BK278.out 0).trans rfl
              have hcz62_1 : wr.cell? ⟨gb278, 1, none⟩ = some (.int .i64 a0_1) := (blk_cell BK278.out 1).trans rfl
              have hcz62_2 : wr.cell? ⟨gb278, 2, none⟩ = some (.int .i64 a0_2) := (blk_cell BK278.out 2).trans rfl
              have hcz62_3 : wr.cell? ⟨gb278, 3, none⟩ = some (.int .i64 a0_3) := (blk_cell BK278.out 3).trans rfl
              have hcz62_4 : wr.cell? ⟨gb278, 4, none⟩ = some (.int .i64 a0_4) := (blk_cell BK278.out 4).trans rfl
              have hcz62_5 : wr.cell? ⟨gb278, 5, none⟩ = some (.int .i64 a0_5) := (blk_cell BK278.out 5).trans rfl
              have hcz62_6 : wr.cell? ⟨gb278, 6, none⟩ = some (.int .i64 a0_6) := (blk_cell BK278.out 6).trans rfl
              have hcz62_7 : wr.cell? ⟨gb278, 7, none⟩ = some (.int .i64 a0_7) := (blk_cell BK278.out 7).trans rfl
              have hcz62_8 : wr.cell? ⟨gb278, 8, none⟩ = some (.int .i64 a0_8) := (blk_cell BK278.out 8).trans rfl
              have hcz62_9 : wr.cell? ⟨gb278, 9, none⟩ = some (.slice A0_9 l0_9.length c0_9) := (blk_cell BK278.out 9).trans rfl
              have hcz62_10 : wr.cell? ⟨gb278, 10, none⟩ = some (.slice A0_10 l0_10.length c0_10) := (blk_cell BK278.out 10).trans rfl
              have hcz62_11 : wr.cell? ⟨gb278, 11, none⟩ = some (.slice A0_11 l0_11.length c0_11) := (blk_cell BK278.out 11).trans rfl
              have hfz62_0 := blk_frozen BK278.out 0
              have hfz62_1 := blk_frozen BK278.out 1
              have hfz62_2 := blk_frozen BK278.out 2
              have hfz62_3 := blk_frozen BK278.out 3
              have hfz62_4 := blk_frozen BK278.out 4
              have hfz62_5 := blk_frozen BK278.out 5
              have hfz62_6 := blk_frozen BK278.out 6
              have hfz62_7 := blk_frozen BK278.out 7
              have hfz62_8 := blk_frozen BK278.out 8
              have hfz62_9 := blk_frozen BK278.out 9
              have hfz62_10 := blk_frozen BK278.out 10
              have hfz62_11 := blk_frozen BK278.out 11
              have p292 : 0 ≤ (x4_4 : Int) := of_decide_eq_true (by first | (with_reducible assumption) | assumption)
              have q292 : x4_4 < (l0_9.length : Int) := of_decide_eq_true (by first | (with_reducible assumption) | assumption)
              obtain ⟨ad292, e292, hx292_0, hx292_1, hx292_2, hx292_3⟩ := at_T56 HR0_9.out x4_4 p292 q292
              cases e292
              replace hx292_0 := (HB.out.cell (World.block_lt_of_cell? w _ hx292_0)).trans hx292_0
              replace hx292_1 := (HB.out.cell (World.block_lt_of_cell? w _ hx292_1)).trans hx292_1
              replace hx292_2 := (HB.out.cell (World.block_lt_of_cell? w _ hx292_2)).trans hx292_2
              replace hx292_3 := (HB.out.cell (World.block_lt_of_cell? w _ hx292_3)).trans hx292_3
              replace p292 := eq_true p292
              replace q292 := eq_true q292
              go_upto_region 12 with (first | ((with_reducible refine gate_dst (N := 5) rfl ?_); (try (refine gate_guard (by rfl) ?_; dsimp only)); refine box_event ?hg (N := 5) ?hd (cs := #[.string (⟨#[]⟩ : ByteArray), .int .i64 0, .int .i64 0, .int .i64 0]) (t := 56) ?hr ?_; (case hd => rfl); (case hg => rfl); (case hr => first | (go_simp; done) | (go_simp; rfl)); intro gb293 hg w63 hbox hb; have n0_ := Aside0.mk (blk_below (g := gb278) (o := .cells #[.int .i64 a0_0, .int .i64 a0_1, .int .i64 a0_2, .int .i64 a0_3, .int .i64 a0_4, .int .i64 a0_5, .int .i64 a0_6, .int .i64 a0_7, .int .i64 a0_8, .slice (some ad292) l0_9.length c0_9, .slice A0_10 l0_10.length c0_10, .slice A0_11 l0_11.length c0_11] 64 (0, 0)) (by (with_reducible repeat (first | refine blk_drewN ?_ _ | refine blk_drew ?_ | refine blk_alloc ?_ _)); exact BK278.out) hb); have n1_ := Aside0.mk (blk_below (g := gb279) (o := .cells #[.int .i64 a0_4, .int .i64 a0_5, .int .i64 a0_6, .int .i64 a0_7, .int .i64 a0_8] 62 (0, 0)) (by (with_reducible repeat (first | refine blk_drewN ?_ _ | refine blk_drew ?_ | refine blk_alloc ?_ _)); exact BK279.out) hb); have n2_ := Aside0.mk (below_step (by repeat (first | (with_reducible first | exact HB.out | apply below_alloc | apply pw_below_drewN | apply below_drew1 | refine below_set ?_ GE278.out | refine below_set ?_ GE279.out) | exact HB.out)) hb); have n3_ := Aside0.mk (hbox); have n4_ := Aside0.mk ((by rw [hg]; exact (below_size (by repeat (first | (with_reducible first | exact HB.out | apply below_alloc | apply pw_below_drewN | apply below_drew1 | refine below_set ?_ GE278.out | refine below_set ?_ GE279.out) | exact HB.out))) : w.heap.size ≤ gb293)); have n5_ := Aside0.mk ((by rw [hg]; exact (below_size (by repeat (first | (with_reducible first | exact HB.out | apply below_alloc | apply pw_below_drewN | apply below_drew1 | refine below_set ?_ GE278.out | refine below_set ?_ GE279.out) | exact HB.out))) : w.heap.size ≤ gb293)); have n6_ := Aside0.mk ((by rw [hg]; exact Nat.ne_of_lt (blk_lt (g := gb278) (o := .cells #[.int .i64 a0_0, .int .i64 a0_1, .int .i64 a0_2, .int .i64 a0_3, .int .i64 a0_4, .int .i64 a0_5, .int .i64 a0_6, .int .i64 a0_7, .int .i64 a0_8, .slice (some ad292) l0_9.length c0_9, .slice A0_10 l0_10.length c0_10, .slice A0_11 l0_11.length c0_11] 64 (0, 0)) (by (with_reducible repeat (first | refine blk_drewN ?_ _ | refine blk_drew ?_ | refine blk_alloc ?_ _)); exact BK278.out)) : gb278 ≠ gb293)); have n7_ := Aside0.mk ((by rw [hg]; exact Nat.ne_of_gt (blk_lt (g := gb278) (o := .cells #[.int .i64 a0_0, .int .i64 a0_1, .int .i64 a0_2, .int .i64 a0_3, .int .i64 a0_4, .int .i64 a0_5, .int .i64 a0_6, .int .i64 a0_7, .int .i64 a0_8, .slice (some ad292) l0_9.length c0_9, .slice A0_10 l0_10.length c0_10, .slice A0_11 l0_11.length c0_11] 64 (0, 0)) (by (with_reducible repeat (first | refine blk_drewN ?_ _ | refine blk_drew ?_ | refine blk_alloc ?_ _)); exact BK278.out)) : gb293 ≠ gb278)); have n8_ := Aside0.mk ((by rw [hg]; exact Nat.ne_of_lt (blk_lt (g := gb279) (o := .cells #[.int .i64 a0_4, .int .i64 a0_5, .int .i64 a0_6, .int .i64 a0_7, .int .i64 a0_8] 62 (0, 0)) (by (with_reducible repeat (first | refine blk_drewN ?_ _ | refine blk_drew ?_ | refine blk_alloc ?_ _)); exact BK279.out)) : gb279 ≠ gb293)); have n9_ := Aside0.mk ((by rw [hg]; exact Nat.ne_of_gt (blk_lt (g := gb279) (o := .cells #[.int .i64 a0_4, .int .i64 a0_5, .int .i64 a0_6, .int .i64 a0_7, .int .i64 a0_8] 62 (0, 0)) (by (with_reducible repeat (first | refine blk_drewN ?_ _ | refine blk_drew ?_ | refine blk_alloc ?_ _)); exact BK279.out)) : gb293 ≠ gb279)); clear BK278; clear BK279; clear HB; have BK278 := n0_; have BK279 := n1_; have HB := n2_; have BK293 := n3_; have GW293 := n4_; have GE293 := n5_; have NB278_293 := n6_; have NB293_278 := n7_; have NB279_293 := n8_; have NB293_279 := n9_; clear n0_ n1_ n2_ n3_ n4_ n5_ n6_ n7_ n8_ n9_; clear hb hbox hg; have hnb64 := NB293_278.out; have hnc64 := NB278_293.out; have hnb65 := NB293_279.out; have hnc65 := NB279_293.out; have hcz66_0 : w63.cell? ⟨gb293, 0, none⟩ = some (.string (⟨#[]⟩ : ByteArray)) := (blk_cell BK293.out 0).trans rfl; have hcz66_1 : w63.cell? ⟨gb293, 1, none⟩ = some (.int .i64 0) := (blk_cell BK293.out 1).trans rfl; have hcz66_2 : w63.cell? ⟨gb293, 2, none⟩ = some (.int .i64 0) := (blk_cell BK293.out 2).trans rfl; have hcz66_3 : w63.cell? ⟨gb293, 3, none⟩ = some (.int .i64 0) := (blk_cell BK293.out 3).trans rfl; have hfz66_0 := blk_frozen BK293.out 0; have hfz66_1 := blk_frozen BK293.out 1; have hfz66_2 := blk_frozen BK293.out 2; have hfz66_3 := blk_frozen BK293.out 3))
              repeat (go_quiet (first | ((with_reducible refine gate_dst (N := 5) rfl ?_); (try (refine gate_guard (by rfl) ?_; dsimp only)); refine box_event ?hg (N := 5) ?hd (cs := #[.string (⟨#[]⟩ : ByteArray), .int .i64 0, .int .i64 0, .int .i64 0]) (t := 56) ?hr ?_; (case hd => rfl); (case hg => rfl); (case hr => first | (go_simp; done) | (go_simp; rfl)); intro gb293 hg w63 hbox hb; have n0_ := Aside0.mk (blk_below (g := gb278) (o := .cells #[.int .i64 a0_0, .int .i64 a0_1, .int .i64 a0_2, .int .i64 a0_3, .int .i64 a0_4, .int .i64 a0_5, .int .i64 a0_6, .int .i64 a0_7, .int .i64 a0_8, .slice (some ad292) l0_9.length c0_9, .slice A0_10 l0_10.length c0_10, .slice A0_11 l0_11.length c0_11] 64 (0, 0)) (by (with_reducible repeat (first | refine blk_drewN ?_ _ | refine blk_drew ?_ | refine blk_alloc ?_ _)); exact BK278.out) hb); have n1_ := Aside0.mk (blk_below (g := gb279) (o := .cells #[.int .i64 a0_4, .int .i64 a0_5, .int .i64 a0_6, .int .i64 a0_7, .int .i64 a0_8] 62 (0, 0)) (by (with_reducible repeat (first | refine blk_drewN ?_ _ | refine blk_drew ?_ | refine blk_alloc ?_ _)); exact BK279.out) hb); have n2_ := Aside0.mk (below_step (by repeat (first | (with_reducible first | exact HB.out | apply below_alloc | apply pw_below_drewN | apply below_drew1 | refine below_set ?_ GE278.out | refine below_set ?_ GE279.out) | exact HB.out)) hb); have n3_ := Aside0.mk (hbox); have n4_ := Aside0.mk ((by rw [hg]; exact (below_size (by repeat (first | (with_reducible first | exact HB.out | apply below_alloc | apply pw_below_drewN | apply below_drew1 | refine below_set ?_ GE278.out | refine below_set ?_ GE279.out) | exact HB.out))) : w.heap.size ≤ gb293)); have n5_ := Aside0.mk ((by rw [hg]; exact (below_size (by repeat (first | (with_reducible first | exact HB.out | apply below_alloc | apply pw_below_drewN | apply below_drew1 | refine below_set ?_ GE278.out | refine below_set ?_ GE279.out) | exact HB.out))) : w.heap.size ≤ gb293)); have n6_ := Aside0.mk ((by rw [hg]; exact Nat.ne_of_lt (blk_lt (g := gb278) (o := .cells #[.int .i64 a0_0, .int .i64 a0_1, .int .i64 a0_2, .int .i64 a0_3, .int .i64 a0_4, .int .i64 a0_5, .int .i64 a0_6, .int .i64 a0_7, .int .i64 a0_8, .slice (some ad292) l0_9.length c0_9, .slice A0_10 l0_10.length c0_10, .slice A0_11 l0_11.length c0_11] 64 (0, 0)) (by (with_reducible repeat (first | refine blk_drewN ?_ _ | refine blk_drew ?_ | refine blk_alloc ?_ _)); exact BK278.out)) : gb278 ≠ gb293)); have n7_ := Aside0.mk ((by rw [hg]; exact Nat.ne_of_gt (blk_lt (g := gb278) (o := .cells #[.int .i64 a0_0, .int .i64 a0_1, .int .i64 a0_2, .int .i64 a0_3, .int .i64 a0_4, .int .i64 a0_5, .int .i64 a0_6, .int .i64 a0_7, .int .i64 a0_8, .slice (some ad292) l0_9.length c0_9, .slice A0_10 l0_10.length c0_10, .slice A0_11 l0_11.length c0_11] 64 (0, 0)) (by (with_reducible repeat (first | refine blk_drewN ?_ _ | refine blk_drew ?_ | refine blk_alloc ?_ _)); exact BK278.out)) : gb293 ≠ gb278)); have n8_ := Aside0.mk ((by rw [hg]; exact Nat.ne_of_lt (blk_lt (g := gb279) (o := .cells #[.int .i64 a0_4, .int .i64 a0_5, .int .i64 a0_6, .int .i64 a0_7, .int .i64 a0_8] 62 (0, 0)) (by (with_reducible repeat (first | refine blk_drewN ?_ _ | refine blk_drew ?_ | refine blk_alloc ?_ _)); exact BK279.out)) : gb279 ≠ gb293)); have n9_ := Aside0.mk ((by rw [hg]; exact Nat.ne_of_gt (blk_lt (g := gb279) (o := .cells #[.int .i64 a0_4, .int .i64 a0_5, .int .i64 a0_6, .int .i64 a0_7, .int .i64 a0_8] 62 (0, 0)) (by (with_reducible repeat (first | refine blk_drewN ?_ _ | refine blk_drew ?_ | refine blk_alloc ?_ _)); exact BK279.out)) : gb293 ≠ gb279)); clear BK278; clear BK279; clear HB; have BK278 := n0_; have BK279 := n1_; have HB := n2_; have BK293 := n3_; have GW293 := n4_; have GE293 := n5_; have NB278_293 := n6_; have NB293_278 := n7_; have NB279_293 := n8_; have NB293_279 := n9_; clear n0_ n1_ n2_ n3_ n4_ n5_ n6_ n7_ n8_ n9_; clear hb hbox hg; have hnb64 := NB293_278.out; have hnc64 := NB278_293.out; have hnb65 := NB293_279.out; have hnc65 := NB279_293.out; have hcz66_0 : w63.cell? ⟨gb293, 0, none⟩ = some (.string (⟨#[]⟩ : ByteArray)) := (blk_cell BK293.out 0).trans rfl; have hcz66_1 : w63.cell? ⟨gb293, 1, none⟩ = some (.int .i64 0) := (blk_cell BK293.out 1).trans rfl; have hcz66_2 : w63.cell? ⟨gb293, 2, none⟩ = some (.int .i64 0) := (blk_cell BK293.out 2).trans rfl; have hcz66_3 : w63.cell? ⟨gb293, 3, none⟩ = some (.int .i64 0) := (blk_cell BK293.out 3).trans rfl; have hfz66_0 := blk_frozen BK293.out 0; have hfz66_1 := blk_frozen BK293.out 1; have hfz66_2 := blk_frozen BK293.out 2; have hfz66_3 := blk_frozen BK293.out 3)); go_upto_region 12 with (first | ((with_reducible refine gate_dst (N := 5) rfl ?_); (try (refine gate_guard (by rfl) ?_; dsimp only)); refine box_event ?hg (N := 5) ?hd (cs := #[.string (⟨#[]⟩ : ByteArray), .int .i64 0, .int .i64 0, .int .i64 0]) (t := 56) ?hr ?_; (case hd => rfl); (case hg => rfl); (case hr => first | (go_simp; done) | (go_simp; rfl)); intro gb293 hg w63 hbox hb; have n0_ := Aside0.mk (blk_below (g := gb278) (o := .cells #[.int .i64 a0_0, .int .i64 a0_1, .int .i64 a0_2, .int .i64 a0_3, .int .i64 a0_4, .int .i64 a0_5, .int .i64 a0_6, .int .i64 a0_7, .int .i64 a0_8, .slice (some ad292) l0_9.length c0_9, .slice A0_10 l0_10.length c0_10, .slice A0_11 l0_11.length c0_11] 64 (0, 0)) (by (with_reducible repeat (first | refine blk_drewN ?_ _ | refine blk_drew ?_ | refine blk_alloc ?_ _)); exact BK278.out) hb); have n1_ := Aside0.mk (blk_below (g := gb279) (o := .cells #[.int .i64 a0_4, .int .i64 a0_5, .int .i64 a0_6, .int .i64 a0_7, .int .i64 a0_8] 62 (0, 0)) (by (with_reducible repeat (first | refine blk_drewN ?_ _ | refine blk_drew ?_ | refine blk_alloc ?_ _)); exact BK279.out) hb); have n2_ := Aside0.mk (below_step (by repeat (first | (with_reducible first | exact HB.out | apply below_alloc | apply pw_below_drewN | apply below_drew1 | refine below_set ?_ GE278.out | refine below_set ?_ GE279.out) | exact HB.out)) hb); have n3_ := Aside0.mk (hbox); have n4_ := Aside0.mk ((by rw [hg]; exact (below_size (by repeat (first | (with_reducible first | exact HB.out | apply below_alloc | apply pw_below_drewN | apply below_drew1 | refine below_set ?_ GE278.out | refine below_set ?_ GE279.out) | exact HB.out))) : w.heap.size ≤ gb293)); have n5_ := Aside0.mk ((by rw [hg]; exact (below_size (by repeat (first | (with_reducible first | exact HB.out | apply below_alloc | apply pw_below_drewN | apply below_drew1 | refine below_set ?_ GE278.out | refine below_set ?_ GE279.out) | exact HB.out))) : w.heap.size ≤ gb293)); have n6_ := Aside0.mk ((by rw [hg]; exact Nat.ne_of_lt (blk_lt (g := gb278) (o := .cells #[.int .i64 a0_0, .int .i64 a0_1, .int .i64 a0_2, .int .i64 a0_3, .int .i64 a0_4, .int .i64 a0_5, .int .i64 a0_6, .int .i64 a0_7, .int .i64 a0_8, .slice (some ad292) l0_9.length c0_9, .slice A0_10 l0_10.length c0_10, .slice A0_11 l0_11.length c0_11] 64 (0, 0)) (by (with_reducible repeat (first | refine blk_drewN ?_ _ | refine blk_drew ?_ | refine blk_alloc ?_ _)); exact BK278.out)) : gb278 ≠ gb293)); have n7_ := Aside0.mk ((by rw [hg]; exact Nat.ne_of_gt (blk_lt (g := gb278) (o := .cells #[.int .i64 a0_0, .int .i64 a0_1, .int .i64 a0_2, .int .i64 a0_3, .int .i64 a0_4, .int .i64 a0_5, .int .i64 a0_6, .int .i64 a0_7, .int .i64 a0_8, .slice (some ad292) l0_9.length c0_9, .slice A0_10 l0_10.length c0_10, .slice A0_11 l0_11.length c0_11] 64 (0, 0)) (by (with_reducible repeat (first | refine blk_drewN ?_ _ | refine blk_drew ?_ | refine blk_alloc ?_ _)); exact BK278.out)) : gb293 ≠ gb278)); have n8_ := Aside0.mk ((by rw [hg]; exact Nat.ne_of_lt (blk_lt (g := gb279) (o := .cells #[.int .i64 a0_4, .int .i64 a0_5, .int .i64 a0_6, .int .i64 a0_7, .int .i64 a0_8] 62 (0, 0)) (by (with_reducible repeat (first | refine blk_drewN ?_ _ | refine blk_drew ?_ | refine blk_alloc ?_ _)); exact BK279.out)) : gb279 ≠ gb293)); have n9_ := Aside0.mk ((by rw [hg]; exact Nat.ne_of_gt (blk_lt (g := gb279) (o := .cells #[.int .i64 a0_4, .int .i64 a0_5, .int .i64 a0_6, .int .i64 a0_7, .int .i64 a0_8] 62 (0, 0)) (by (with_reducible repeat (first | refine blk_drewN ?_ _ | refine blk_drew ?_ | refine blk_alloc ?_ _)); exact BK279.out)) : gb293 ≠ gb279)); clear BK278; clear BK279; clear HB; have BK278 := n0_; have BK279 := n1_; have HB := n2_; have BK293 := n3_; have GW293 := n4_; have GE293 := n5_; have NB278_293 := n6_; have NB293_278 := n7_; have NB279_293 := n8_; have NB293_279 := n9_; clear n0_ n1_ n2_ n3_ n4_ n5_ n6_ n7_ n8_ n9_; clear hb hbox hg; have hnb64 := NB293_278.out; have hnc64 := NB278_293.out; have hnb65 := NB293_279.out; have hnc65 := NB279_293.out; have hcz66_0 : w63.cell? ⟨gb293, 0, none⟩ = some (.string (⟨#[]⟩ : ByteArray)) := (blk_cell BK293.out 0).trans rfl; have hcz66_1 : w63.cell? ⟨gb293, 1, none⟩ = some (.int .i64 0) := (blk_cell BK293.out 1).trans rfl; have hcz66_2 : w63.cell? ⟨gb293, 2, none⟩ = some (.int .i64 0) := (blk_cell BK293.out 2).trans rfl; have hcz66_3 : w63.cell? ⟨gb293, 3, none⟩ = some (.int .i64 0) := (blk_cell BK293.out 3).trans rfl; have hfz66_0 := blk_frozen BK293.out 0; have hfz66_1 := blk_frozen BK293.out 1; have hfz66_2 := blk_frozen BK293.out 2; have hfz66_3 := blk_frozen BK293.out 3)))
              (try simp only [Act.put, List.setIfInBounds_toArray, List.set_cons_zero, List.set_cons_succ])
              go_cut [99] (fun v99 wc => ∃ (kq : Nat) (x99_59 : Bool), v99 = .bool x99_59 ∧ Aside0 (gangerref10_Check.j4 kq x4_4 x99_59 a0_0 a0_1 a0_2 a0_3 a0_4 a0_5 a0_6 a0_7 a0_8 l0_9 l0_10 l0_11 ((rd_T56 l0_9 x4_4).f0) ((rd_T56 l0_9 x4_4).f1) ((rd_T56 l0_9 x4_4).f2) ((rd_T56 l0_9 x4_4).f3) = some r) ∧ Aside0 (kq ≤ k4) ∧ Aside0 (wc.heap[gb278]? = some (.cells #[.int .i64 a0_0, .int .i64 a0_1, .int .i64 a0_2, .int .i64 a0_3, .int .i64 a0_4, .int .i64 a0_5, .int .i64 a0_6, .int .i64 a0_7, .int .i64 a0_8, (.slice (some ad292) l0_9.length c0_9), (.slice A0_10 l0_10.length c0_10), (.slice A0_11 l0_11.length c0_11)] 64 (0, 0))) ∧ Aside0 (wc.heap[gb279]? = some (.cells #[.int .i64 a0_4, .int .i64 a0_5, .int .i64 a0_6, .int .i64 a0_7, .int .i64 a0_8] 62 (0, 0))) ∧ Aside0 (wc.heap[gb293]? = some (.cells #[.string ((rd_T56 l0_9 x4_4).f0), .int .i64 ((rd_T56 l0_9 x4_4).f1), .int .i64 ((rd_T56 l0_9 x4_4).f2), .int .i64 ((rd_T56 l0_9 x4_4).f3)] 56 (0, 0))) ∧ Aside0 (Below w.heap.size w wc))
              case first =>
               have H := HC60.out
               clear HC60
               replace H := Option.bind_eq_some_iff.mp H
               obtain ⟨t294, A670, H⟩ := H
               replace H : (if t294 = true then ((gangerref10_out.f ((rd_T56 l0_9 x4_4).f1) 0 10).bind fun t295 => (if t295 = true then (gangerref10_Check.j4 k4 x4_4 true a0_0 a0_1 a0_2 a0_3 a0_4 a0_5 a0_6 a0_7 a0_8 l0_9 l0_10 l0_11 ((rd_T56 l0_9 x4_4).f0) ((rd_T56 l0_9 x4_4).f1) ((rd_T56 l0_9 x4_4).f2) ((rd_T56 l0_9 x4_4).f3)) else ((gangerref10_out.f ((rd_T56 l0_9 x4_4).f2) 0 1048576).bind fun t296 => (if t296 = true then (gangerref10_Check.j4 k4 x4_4 true a0_0 a0_1 a0_2 a0_3 a0_4 a0_5 a0_6 a0_7 a0_8 l0_9 l0_10 l0_11 ((rd_T56 l0_9 x4_4).f0) ((rd_T56 l0_9 x4_4).f1) ((rd_T56 l0_9 x4_4).f2) ((rd_T56 l0_9 x4_4).f3)) else ((gangerref10_out.f ((rd_T56 l0_9 x4_4).f3) 1 1073741824).bind fun t297 => (gangerref10_Check.j4 k4 x4_4 t297 a0_0 a0_1 a0_2 a0_3 a0_4 a0_5 a0_6 a0_7 a0_8 l0_9 l0_10 l0_11 ((rd_T56 l0_9 x4_4).f0) ((rd_T56 l0_9 x4_4).f1) ((rd_T56 l0_9 x4_4).f2) ((rd_T56 l0_9 x4_4).f3))))))) else (gangerref10_Check.j4 k4 x4_4 true a0_0 a0_1 a0_2 a0_3 a0_4 a0_5 a0_6 a0_7 a0_8 l0_9 l0_10 l0_11 ((rd_T56 l0_9 x4_4).f0) ((rd_T56 l0_9 x4_4).f1) ((rd_T56 l0_9 x4_4).f2) ((rd_T56 l0_9 x4_4).f3))) = some r := H
               have A67 := Aside0.mk A670
               clear A670
               by_cases c68 : t294 = true
               ·subst c68
                have H1 : ((gangerref10_out.f ((rd_T56 l0_9 x4_4).f1) 0 10).bind fun t295 => (if t295 = true then (gangerref10_Check.j4 k4 x4_4 true a0_0 a0_1 a0_2 a0_3 a0_4 a0_5 a0_6 a0_7 a0_8 l0_9 l0_10 l0_11 ((rd_T56 l0_9 x4_4).f0) ((rd_T56 l0_9 x4_4).f1) ((rd_T56 l0_9 x4_4).f2) ((rd_T56 l0_9 x4_4).f3)) else ((gangerref10_out.f ((rd_T56 l0_9 x4_4).f2) 0 1048576).bind fun t296 => (if t296 = true then (gangerref10_Check.j4 k4 x4_4 true a0_0 a0_1 a0_2 a0_3 a0_4 a0_5 a0_6 a0_7 a0_8 l0_9 l0_10 l0_11 ((rd_T56 l0_9 x4_4).f0) ((rd_T56 l0_9 x4_4).f1) ((rd_T56 l0_9 x4_4).f2) ((rd_T56 l0_9 x4_4).f3)) else ((gangerref10_out.f ((rd_T56 l0_9 x4_4).f3) 1 1073741824).bind fun t297 => (gangerref10_Check.j4 k4 x4_4 t297 a0_0 a0_1 a0_2 a0_3 a0_4 a0_5 a0_6 a0_7 a0_8 l0_9 l0_10 l0_11 ((rd_T56 l0_9 x4_4).f0) ((rd_T56 l0_9 x4_4).f1) ((rd_T56 l0_9 x4_4).f2) ((rd_T56 l0_9 x4_4).f3))))))) = some r := by rw [if_pos rfl] at H; exact H
                clear H
                have H := H1
                clear H1
                replace H := Option.bind_eq_some_iff.mp H
                obtain ⟨t295, A690, H⟩ := H
                replace H : (if t295 = true then (gangerref10_Check.j4 k4 x4_4 true a0_0 a0_1 a0_2 a0_3 a0_4 a0_5 a0_6 a0_7 a0_8 l0_9 l0_10 l0_11 ((rd_T56 l0_9 x4_4).f0) ((rd_T56 l0_9 x4_4).f1) ((rd_T56 l0_9 x4_4).f2) ((rd_T56 l0_9 x4_4).f3)) else ((gangerref10_out.f ((rd_T56 l0_9 x4_4).f2) 0 1048576).bind fun t296 => (if t296 = true then (gangerref10_Check.j4 k4 x4_4 true a0_0 a0_1 a0_2 a0_3 a0_4 a0_5 a0_6 a0_7 a0_8 l0_9 l0_10 l0_11 ((rd_T56 l0_9 x4_4).f0) ((rd_T56 l0_9 x4_4).f1) ((rd_T56 l0_9 x4_4).f2) ((rd_T56 l0_9 x4_4).f3)) else ((gangerref10_out.f ((rd_T56 l0_9 x4_4).f3) 1 1073741824).bind fun t297 => (gangerref10_Check.j4 k4 x4_4 t297 a0_0 a0_1 a0_2 a0_3 a0_4 a0_5 a0_6 a0_7 a0_8 l0_9 l0_10 l0_11 ((rd_T56 l0_9 x4_4).f0) ((rd_T56 l0_9 x4_4).f1) ((rd_T56 l0_9 x4_4).f2) ((rd_T56 l0_9 x4_4).f3)))))) = some r := H
                have A69 := Aside0.mk A690
                clear A690
                by_cases c70 : t295 = true
                ·subst c70
                 have H1 : (gangerref10_Check.j4 k4 x4_4 true a0_0 a0_1 a0_2 a0_3 a0_4 a0_5 a0_6 a0_7 a0_8 l0_9 l0_10 l0_11 ((rd_T56 l0_9 x4_4).f0) ((rd_T56 l0_9 x4_4).f1) ((rd_T56 l0_9 x4_4).f2) ((rd_T56 l0_9 x4_4).f3)) = some r := by rw [if_pos rfl] at H; exact H
                 clear H
                 have H := H1
                 clear H1
                 have H' := Aside0.mk H
                 clear H
                 have hnb71 := NB293_278.out
                 have hnc71 := NB278_293.out
                 have hnb72 := NB293_279.out
                 have hnc72 := NB279_293.out
                 have hcz73_0 : w63.cell? ⟨gb293, 0, none⟩ = some (.string (⟨#[]⟩ : ByteArray)) := (blk_cell BK293.out 0).trans rfl
                 have hcz73_1 : w63.cell? ⟨gb293, 1, none⟩ = some (.int .i64 0) := (blk_cell BK293.out 1).trans rfl
                 have hcz73_2 : w63.cell? ⟨gb293, 2, none⟩ = some (.int .i64 0) := (blk_cell BK293.out 2).trans rfl
                 have hcz73_3 : w63.cell? ⟨gb293, 3, none⟩ = some (.int .i64 0) := (blk_cell BK293.out 3).trans rfl
                 have hfz73_0 := blk_frozen BK293.out 0
                 have hfz73_1 := blk_frozen BK293.out 1
                 have hfz73_2 := blk_frozen BK293.out 2
                 have hfz73_3 := blk_frozen BK293.out 3
                 go_wp2_with (first | (go_at_call 47; (with_reducible refine (gangerref09_Name.calls k4 ((rd_T56 l0_9 x4_4).f0) true _ A67.out).mono ?_); rintro e w' ⟨rfl, ⟨nd, rfl⟩⟩; (try first | exact ⟨rfl, _, World.drewN_drewN _ _ _⟩ | exact ⟨rfl, _, Eq.trans (World.drewN_drewN _ _ _) (congrArg (World.drewN _) (Nat.add_assoc _ _ _))⟩)) | (go_at_call 46; (with_reducible refine (gangerref10_out.calls ((rd_T56 l0_9 x4_4).f1) 0 10 true _ A69.out).mono ?_); rintro e w' ⟨rfl, ⟨nd, rfl⟩⟩; (try first | exact ⟨rfl, _, World.drewN_drewN _ _ _⟩ | exact ⟨rfl, _, Eq.trans (World.drewN_drewN _ _ _) (congrArg (World.drewN _) (Nat.add_assoc _ _ _))⟩)))
                 repeat (go_quiet (first | (go_at_call 47; (with_reducible refine (gangerref09_Name.calls k4 ((rd_T56 l0_9 x4_4).f0) true _ A67.out).mono ?_); rintro e w' ⟨rfl, ⟨nd, rfl⟩⟩; (try first | exact ⟨rfl, _, World.drewN_drewN _ _ _⟩ | exact ⟨rfl, _, Eq.trans (World.drewN_drewN _ _ _) (congrArg (World.drewN _) (Nat.add_assoc _ _ _))⟩)) | (go_at_call 46; (with_reducible refine (gangerref10_out.calls ((rd_T56 l0_9 x4_4).f1) 0 10 true _ A69.out).mono ?_); rintro e w' ⟨rfl, ⟨nd, rfl⟩⟩; (try first | exact ⟨rfl, _, World.drewN_drewN _ _ _⟩ | exact ⟨rfl, _, Eq.trans (World.drewN_drewN _ _ _) (congrArg (World.drewN _) (Nat.add_assoc _ _ _))⟩))); try go_wp2_with (first | (go_at_call 47; (with_reducible refine (gangerref09_Name.calls k4 ((rd_T56 l0_9 x4_4).f0) true _ A67.out).mono ?_); rintro e w' ⟨rfl, ⟨nd, rfl⟩⟩; (try first | exact ⟨rfl, _, World.drewN_drewN _ _ _⟩ | exact ⟨rfl, _, Eq.trans (World.drewN_drewN _ _ _) (congrArg (World.drewN _) (Nat.add_assoc _ _ _))⟩)) | (go_at_call 46; (with_reducible refine (gangerref10_out.calls ((rd_T56 l0_9 x4_4).f1) 0 10 true _ A69.out).mono ?_); rintro e w' ⟨rfl, ⟨nd, rfl⟩⟩; (try first | exact ⟨rfl, _, World.drewN_drewN _ _ _⟩ | exact ⟨rfl, _, Eq.trans (World.drewN_drewN _ _ _) (congrArg (World.drewN _) (Nat.add_assoc _ _ _))⟩))))
                 go_meet
                 case rel => exact ⟨_, (true), (by first | rfl | (simp; done) | (simp [*]; done)), H', ⟨by have := HJ1.out; have := HJ27.out; have := HJ44.out; have := HK4.out; first | omega | exact Nat.le_refl _⟩, ⟨by (with_reducible repeat (first | refine blk_drewN ?_ _ | refine blk_drew ?_ | refine blk_alloc ?_ _)); refine blk_far ?_ NB278_293.out _; (with_reducible repeat (first | refine blk_drewN ?_ _ | refine blk_drew ?_ | refine blk_alloc ?_ _)); refine blk_far ?_ NB278_293.out _; (with_reducible repeat (first | refine blk_drewN ?_ _ | refine blk_drew ?_ | refine blk_alloc ?_ _)); refine blk_far ?_ NB278_293.out _; (with_reducible repeat (first | refine blk_drewN ?_ _ | refine blk_drew ?_ | refine blk_alloc ?_ _)); refine blk_far ?_ NB278_293.out _; (with_reducible repeat (first | refine blk_drewN ?_ _ | refine blk_drew ?_ | refine blk_alloc ?_ _)); exact BK278.out⟩, ⟨by (with_reducible repeat (first | refine blk_drewN ?_ _ | refine blk_drew ?_ | refine blk_alloc ?_ _)); refine blk_far ?_ NB279_293.out _; (with_reducible repeat (first | refine blk_drewN ?_ _ | refine blk_drew ?_ | refine blk_alloc ?_ _)); refine blk_far ?_ NB279_293.out _; (with_reducible repeat (first | refine blk_drewN ?_ _ | refine blk_drew ?_ | refine blk_alloc ?_ _)); refine blk_far ?_ NB279_293.out _; (with_reducible repeat (first | refine blk_drewN ?_ _ | refine blk_drew ?_ | refine blk_alloc ?_ _)); refine blk_far ?_ NB279_293.out _; (with_reducible repeat (first | refine blk_drewN ?_ _ | refine blk_drew ?_ | refine blk_alloc ?_ _)); exact BK279.out⟩, ⟨by (with_reducible repeat (first | refine blk_drewN ?_ _ | refine blk_drew ?_ | refine blk_alloc ?_ _)); refine blk_put (cs := #[.string ((rd_T56 l0_9 x4_4).f0), .int .i64 ((rd_T56 l0_9 x4_4).f1), .int .i64 ((rd_T56 l0_9 x4_4).f2), .int .i64 0]) ?_ 3 _ rfl; (with_reducible repeat (first | refine blk_drewN ?_ _ | refine blk_drew ?_ | refine blk_alloc ?_ _)); refine blk_put (cs := #[.string ((rd_T56 l0_9 x4_4).f0), .int .i64 ((rd_T56 l0_9 x4_4).f1), .int .i64 0, .int .i64 0]) ?_ 2 _ rfl; (with_reducible repeat (first | refine blk_drewN ?_ _ | refine blk_drew ?_ | refine blk_alloc ?_ _)); refine blk_put (cs := #[.string ((rd_T56 l0_9 x4_4).f0), .int .i64 0, .int .i64 0, .int .i64 0]) ?_ 1 _ rfl; (with_reducible repeat (first | refine blk_drewN ?_ _ | refine blk_drew ?_ | refine blk_alloc ?_ _)); refine blk_put (cs := #[.string (⟨#[]⟩ : ByteArray), .int .i64 0, .int .i64 0, .int .i64 0]) ?_ 0 _ rfl; (with_reducible repeat (first | refine blk_drewN ?_ _ | refine blk_drew ?_ | refine blk_alloc ?_ _)); exact BK293.out⟩, ⟨by repeat (first | (with_reducible first | exact HB.out | apply below_alloc | apply pw_below_drewN | apply below_drew1 | refine below_set ?_ GE278.out | refine below_set ?_ GE279.out | refine below_set ?_ GE293.out) | exact HB.out)⟩⟩
                ·replace c70 := Bool.eq_false_iff.mpr c70
                 subst c70
                 have H1 : ((gangerref10_out.f ((rd_T56 l0_9 x4_4).f2) 0 1048576).bind fun t296 => (if t296 = true then (gangerref10_Check.j4 k4 x4_4 true a0_0 a0_1 a0_2 a0_3 a0_4 a0_5 a0_6 a0_7 a0_8 l0_9 l0_10 l0_11 ((rd_T56 l0_9 x4_4).f0) ((rd_T56 l0_9 x4_4).f1) ((rd_T56 l0_9 x4_4).f2) ((rd_T56 l0_9 x4_4).f3)) else ((gangerref10_out.f ((rd_T56 l0_9 x4_4).f3) 1 1073741824).bind fun t297 => (gangerref10_Check.j4 k4 x4_4 t297 a0_0 a0_1 a0_2 a0_3 a0_4 a0_5 a0_6 a0_7 a0_8 l0_9 l0_10 l0_11 ((rd_T56 l0_9 x4_4).f0) ((rd_T56 l0_9 x4_4).f1) ((rd_T56 l0_9 x4_4).f2) ((rd_T56 l0_9 x4_4).f3))))) = some r := by rw [if_neg (show ¬ (false = true) by decide)] at H; exact H
                 clear H
                 have H := H1
                 clear H1
                 replace H := Option.bind_eq_some_iff.mp H
                 obtain ⟨t296, A740, H⟩ := H
                 replace H : (if t296 = true then (gangerref10_Check.j4 k4 x4_4 true a0_0 a0_1 a0_2 a0_3 a0_4 a0_5 a0_6 a0_7 a0_8 l0_9 l0_10 l0_11 ((rd_T56 l0_9 x4_4).f0) ((rd_T56 l0_9 x4_4).f1) ((rd_T56 l0_9 x4_4).f2) ((rd_T56 l0_9 x4_4).f3)) else ((gangerref10_out.f ((rd_T56 l0_9 x4_4).f3) 1 1073741824).bind fun t297 => (gangerref10_Check.j4 k4 x4_4 t297 a0_0 a0_1 a0_2 a0_3 a0_4 a0_5 a0_6 a0_7 a0_8 l0_9 l0_10 l0_11 ((rd_T56 l0_9 x4_4).f0) ((rd_T56 l0_9 x4_4).f1) ((rd_T56 l0_9 x4_4).f2) ((rd_T56 l0_9 x4_4).f3)))) = some r := H
                 have A74 := Aside0.mk A740
                 clear A740
                 by_cases c75 : t296 = true
                 ·subst c75
                  have H1 : (gangerref10_Check.j4 k4 x4_4 true a0_0 a0_1 a0_2 a0_3 a0_4 a0_5 a0_6 a0_7 a0_8 l0_9 l0_10 l0_11 ((rd_T56 l0_9 x4_4).f0) ((rd_T56 l0_9 x4_4).f1) ((rd_T56 l0_9 x4_4).f2) ((rd_T56 l0_9 x4_4).f3)) = some r := by rw [if_pos rfl] at H; exact H
                  clear H
                  have H := H1
                  clear H1
                  have H' := Aside0.mk H
                  clear H
                  have hnb76 := NB293_278.out
                  have hnc76 := NB278_293.out
                  have hnb77 := NB293_279.out
                  have hnc77 := NB279_293.out
                  have hcz78_0 : w63.cell? ⟨gb293, 0, none⟩ = some (.string (⟨#[]⟩ : ByteArray)) := (blk_cell BK293.out 0).trans rfl
                  have hcz78_1 : w63.cell? ⟨gb293, 1, none⟩ = some (.int .i64 0) := (blk_cell BK293.out 1).trans rfl
                  have hcz78_2 : w63.cell? ⟨gb293, 2, none⟩ = some (.int .i64 0) := (blk_cell BK293.out 2).trans rfl
                  have hcz78_3 : w63.cell? ⟨gb293, 3, none⟩ = some (.int .i64 0) := (blk_cell BK293.out 3).trans rfl
                  have hfz78_0 := blk_frozen BK293.out 0
                  have hfz78_1 := blk_frozen BK293.out 1
                  have hfz78_2 := blk_frozen BK293.out 2
                  have hfz78_3 := blk_frozen BK293.out 3
                  go_wp2_with (first | (go_at_call 47; (with_reducible refine (gangerref09_Name.calls k4 ((rd_T56 l0_9 x4_4).f0) true _ A67.out).mono ?_); rintro e w' ⟨rfl, ⟨nd, rfl⟩⟩; (try first | exact ⟨rfl, _, World.drewN_drewN _ _ _⟩ | exact ⟨rfl, _, Eq.trans (World.drewN_drewN _ _ _) (congrArg (World.drewN _) (Nat.add_assoc _ _ _))⟩)) | (go_at_call 46; (with_reducible refine (gangerref10_out.calls ((rd_T56 l0_9 x4_4).f1) 0 10 false _ A69.out).mono ?_); rintro e w' ⟨rfl, ⟨nd, rfl⟩⟩; (try first | exact ⟨rfl, _, World.drewN_drewN _ _ _⟩ | exact ⟨rfl, _, Eq.trans (World.drewN_drewN _ _ _) (congrArg (World.drewN _) (Nat.add_assoc _ _ _))⟩)) | (go_at_call 46; (with_reducible refine (gangerref10_out.calls ((rd_T56 l0_9 x4_4).f2) 0 1048576 true _ A74.out).mono ?_); rintro e w' ⟨rfl, ⟨nd, rfl⟩⟩; (try first | exact ⟨rfl, _, World.drewN_drewN _ _ _⟩ | exact ⟨rfl, _, Eq.trans (World.drewN_drewN _ _ _) (congrArg (World.drewN _) (Nat.add_assoc _ _ _))⟩)))
                  repeat (go_quiet (first | (go_at_call 47; (with_reducible refine (gangerref09_Name.calls k4 ((rd_T56 l0_9 x4_4).f0) true _ A67.out).mono ?_); rintro e w' ⟨rfl, ⟨nd, rfl⟩⟩; (try first | exact ⟨rfl, _, World.drewN_drewN _ _ _⟩ | exact ⟨rfl, _, Eq.trans (World.drewN_drewN _ _ _) (congrArg (World.drewN _) (Nat.add_assoc _ _ _))⟩)) | (go_at_call 46; (with_reducible refine (gangerref10_out.calls ((rd_T56 l0_9 x4_4).f1) 0 10 false _ A69.out).mono ?_); rintro e w' ⟨rfl, ⟨nd, rfl⟩⟩; (try first | exact ⟨rfl, _, World.drewN_drewN _ _ _⟩ | exact ⟨rfl, _, Eq.trans (World.drewN_drewN _ _ _) (congrArg (World.drewN _) (Nat.add_assoc _ _ _))⟩)) | (go_at_call 46; (with_reducible refine (gangerref10_out.calls ((rd_T56 l0_9 x4_4).f2) 0 1048576 true _ A74.out).mono ?_); rintro e w' ⟨rfl, ⟨nd, rfl⟩⟩; (try first | exact ⟨rfl, _, World.drewN_drewN _ _ _⟩ | exact ⟨rfl, _, Eq.trans (World.drewN_drewN _ _ _) (congrArg (World.drewN _) (Nat.add_assoc _ _ _))⟩))); try go_wp2_with (first | (go_at_call 47; (with_reducible refine (gangerref09_Name.calls k4 ((rd_T56 l0_9 x4_4).f0) true _ A67.out).mono ?_); rintro e w' ⟨rfl, ⟨nd, rfl⟩⟩; (try first | exact ⟨rfl, _, World.drewN_drewN _ _ _⟩ | exact ⟨rfl, _, Eq.trans (World.drewN_drewN _ _ _) (congrArg (World.drewN _) (Nat.add_assoc _ _ _))⟩)) | (go_at_call 46; (with_reducible refine (gangerref10_out.calls ((rd_T56 l0_9 x4_4).f1) 0 10 false _ A69.out).mono ?_); rintro e w' ⟨rfl, ⟨nd, rfl⟩⟩; (try first | exact ⟨rfl, _, World.drewN_drewN _ _ _⟩ | exact ⟨rfl, _, Eq.trans (World.drewN_drewN _ _ _) (congrArg (World.drewN _) (Nat.add_assoc _ _ _))⟩)) | (go_at_call 46; (with_reducible refine (gangerref10_out.calls ((rd_T56 l0_9 x4_4).f2) 0 1048576 true _ A74.out).mono ?_); rintro e w' ⟨rfl, ⟨nd, rfl⟩⟩; (try first | exact ⟨rfl, _, World.drewN_drewN _ _ _⟩ | exact ⟨rfl, _, Eq.trans (World.drewN_drewN _ _ _) (congrArg (World.drewN _) (Nat.add_assoc _ _ _))⟩))))
                  go_meet
                  case rel => exact ⟨_, (true), (by first | rfl | (simp; done) | (simp [*]; done)), H', ⟨by have := HJ1.out; have := HJ27.out; have := HJ44.out; have := HK4.out; first | omega | exact Nat.le_refl _⟩, ⟨by (with_reducible repeat (first | refine blk_drewN ?_ _ | refine blk_drew ?_ | refine blk_alloc ?_ _)); refine blk_far ?_ NB278_293.out _; (with_reducible repeat (first | refine blk_drewN ?_ _ | refine blk_drew ?_ | refine blk_alloc ?_ _)); refine blk_far ?_ NB278_293.out _; (with_reducible repeat (first | refine blk_drewN ?_ _ | refine blk_drew ?_ | refine blk_alloc ?_ _)); refine blk_far ?_ NB278_293.out _; (with_reducible repeat (first | refine blk_drewN ?_ _ | refine blk_drew ?_ | refine blk_alloc ?_ _)); refine blk_far ?_ NB278_293.out _; (with_reducible repeat (first | refine blk_drewN ?_ _ | refine blk_drew ?_ | refine blk_alloc ?_ _)); exact BK278.out⟩, ⟨by (with_reducible repeat (first | refine blk_drewN ?_ _ | refine blk_drew ?_ | refine blk_alloc ?_ _)); refine blk_far ?_ NB279_293.out _; (with_reducible repeat (first | refine blk_drewN ?_ _ | refine blk_drew ?_ | refine blk_alloc ?_ _)); refine blk_far ?_ NB279_293.out _; (with_reducible repeat (first | refine blk_drewN ?_ _ | refine blk_drew ?_ | refine blk_alloc ?_ _)); refine blk_far ?_ NB279_293.out _; (with_reducible repeat (first | refine blk_drewN ?_ _ | refine blk_drew ?_ | refine blk_alloc ?_ _)); refine blk_far ?_ NB279_293.out _; (with_reducible repeat (first | refine blk_drewN ?_ _ | refine blk_drew ?_ | refine blk_alloc ?_ _)); exact BK279.out⟩, ⟨by (with_reducible repeat (first | refine blk_drewN ?_ _ | refine blk_drew ?_ | refine blk_alloc ?_ _)); refine blk_put (cs := #[.string ((rd_T56 l0_9 x4_4).f0), .int .i64 ((rd_T56 l0_9 x4_4).f1), .int .i64 ((rd_T56 l0_9 x4_4).f2), .int .i64 0]) ?_ 3 _ rfl; (with_reducible repeat (first | refine blk_drewN ?_ _ | refine blk_drew ?_ | refine blk_alloc ?_ _)); refine blk_put (cs := #[.string ((rd_T56 l0_9 x4_4).f0), .int .i64 ((rd_T56 l0_9 x4_4).f1), .int .i64 0, .int .i64 0]) ?_ 2 _ rfl; (with_reducible repeat (first | refine blk_drewN ?_ _ | refine blk_drew ?_ | refine blk_alloc ?_ _)); refine blk_put (cs := #[.string ((rd_T56 l0_9 x4_4).f0), .int .i64 0, .int .i64 0, .int .i64 0]) ?_ 1 _ rfl; (with_reducible repeat (first | refine blk_drewN ?_ _ | refine blk_drew ?_ | refine blk_alloc ?_ _)); refine blk_put (cs := #[.string (⟨#[]⟩ : ByteArray), .int .i64 0, .int .i64 0, .int .i64 0]) ?_ 0 _ rfl; (with_reducible repeat (first | refine blk_drewN ?_ _ | refine blk_drew ?_ | refine blk_alloc ?_ _)); exact BK293.out⟩, ⟨by repeat (first | (with_reducible first | exact HB.out | apply below_alloc | apply pw_below_drewN | apply below_drew1 | refine below_set ?_ GE278.out | refine below_set ?_ GE279.out | refine below_set ?_ GE293.out) | exact HB.out)⟩⟩
                 ·replace c75 := Bool.eq_false_iff.mpr c75
                  subst c75
                  have H1 : ((gangerref10_out.f ((rd_T56 l0_9 x4_4).f3) 1 1073741824).bind fun t297 => (gangerref10_Check.j4 k4 x4_4 t297 a0_0 a0_1 a0_2 a0_3 a0_4 a0_5 a0_6 a0_7 a0_8 l0_9 l0_10 l0_11 ((rd_T56 l0_9 x4_4).f0) ((rd_T56 l0_9 x4_4).f1) ((rd_T56 l0_9 x4_4).f2) ((rd_T56 l0_9 x4_4).f3))) = some r := by rw [if_neg (show ¬ (false = true) by decide)] at H; exact H
                  clear H
                  have H := H1
                  clear H1
                  replace H := Option.bind_eq_some_iff.mp H
                  obtain ⟨t297, A790, H⟩ := H
                  replace H : (gangerref10_Check.j4 k4 x4_4 t297 a0_0 a0_1 a0_2 a0_3 a0_4 a0_5 a0_6 a0_7 a0_8 l0_9 l0_10 l0_11 ((rd_T56 l0_9 x4_4).f0) ((rd_T56 l0_9 x4_4).f1) ((rd_T56 l0_9 x4_4).f2) ((rd_T56 l0_9 x4_4).f3)) = some r := H
                  have A79 := Aside0.mk A790
                  clear A790
                  have H' := Aside0.mk H
                  clear H
                  have hnb80 := NB293_278.out
                  have hnc80 := NB278_293.out
                  have hnb81 := NB293_279.out
                  have hnc81 := NB279_293.out
                  have hcz82_0 : w63.cell? ⟨gb293, 0, none⟩ = some (.string (⟨#[]⟩ : ByteArray)) := (blk_cell BK293.out 0).trans rfl
                  have hcz82_1 : w63.cell? ⟨gb293, 1, none⟩ = some (.int .i64 0) := (blk_cell BK293.out 1).trans rfl
                  have hcz82_2 : w63.cell? ⟨gb293, 2, none⟩ = some (.int .i64 0) := (blk_cell BK293.out 2).trans rfl
                  have hcz82_3 : w63.cell? ⟨gb293, 3, none⟩ = some (.int .i64 0) := (blk_cell BK293.out 3).trans rfl
                  have hfz82_0 := blk_frozen BK293.out 0
                  have hfz82_1 := blk_frozen BK293.out 1
                  have hfz82_2 := blk_frozen BK293.out 2
                  have hfz82_3 := blk_frozen BK293.out 3
                  go_wp2_with (first | (go_at_call 47; (with_reducible refine (gangerref09_Name.calls k4 ((rd_T56 l0_9 x4_4).f0) true _ A67.out).mono ?_); rintro e w' ⟨rfl, ⟨nd, rfl⟩⟩; (try first | exact ⟨rfl, _, World.drewN_drewN _ _ _⟩ | exact ⟨rfl, _, Eq.trans (World.drewN_drewN _ _ _) (congrArg (World.drewN _) (Nat.add_assoc _ _ _))⟩)) | (go_at_call 46; (with_reducible refine (gangerref10_out.calls ((rd_T56 l0_9 x4_4).f1) 0 10 false _ A69.out).mono ?_); rintro e w' ⟨rfl, ⟨nd, rfl⟩⟩; (try first | exact ⟨rfl, _, World.drewN_drewN _ _ _⟩ | exact ⟨rfl, _, Eq.trans (World.drewN_drewN _ _ _) (congrArg (World.drewN _) (Nat.add_assoc _ _ _))⟩)) | (go_at_call 46; (with_reducible refine (gangerref10_out.calls ((rd_T56 l0_9 x4_4).f2) 0 1048576 false _ A74.out).mono ?_); rintro e w' ⟨rfl, ⟨nd, rfl⟩⟩; (try first | exact ⟨rfl, _, World.drewN_drewN _ _ _⟩ | exact ⟨rfl, _, Eq.trans (World.drewN_drewN _ _ _) (congrArg (World.drewN _) (Nat.add_assoc _ _ _))⟩)) | (go_at_call 46; (with_reducible refine (gangerref10_out.calls ((rd_T56 l0_9 x4_4).f3) 1 1073741824 t297 _ A79.out).mono ?_); rintro e w' ⟨rfl, ⟨nd, rfl⟩⟩; (try first | exact ⟨rfl, _, World.drewN_drewN _ _ _⟩ | exact ⟨rfl, _, Eq.trans (World.drewN_drewN _ _ _) (congrArg (World.drewN _) (Nat.add_assoc _ _ _))⟩)))
                  repeat (go_quiet (first | (go_at_call 47; (with_reducible refine (gangerref09_Name.calls k4 ((rd_T56 l0_9 x4_4).f0) true _ A67.out).mono ?_); rintro e w' ⟨rfl, ⟨nd, rfl⟩⟩; (try first | exact ⟨rfl, _, World.drewN_drewN _ _ _⟩ | exact ⟨rfl, _, Eq.trans (World.drewN_drewN _ _ _) (congrArg (World.drewN _) (Nat.add_assoc _ _ _))⟩)) | (go_at_call 46; (with_reducible refine (gangerref10_out.calls ((rd_T56 l0_9 x4_4).f1) 0 10 false _ A69.out).mono ?_); rintro e w' ⟨rfl, ⟨nd, rfl⟩⟩; (try first | exact ⟨rfl, _, World.drewN_drewN _ _ _⟩ | exact ⟨rfl, _, Eq.trans (World.drewN_drewN _ _ _) (congrArg (World.drewN _) (Nat.add_assoc _ _ _))⟩)) | (go_at_call 46; (with_reducible refine (gangerref10_out.calls ((rd_T56 l0_9 x4_4).f2) 0 1048576 false _ A74.out).mono ?_); rintro e w' ⟨rfl, ⟨nd, rfl⟩⟩; (try first | exact ⟨rfl, _, World.drewN_drewN _ _ _⟩ | exact ⟨rfl, _, Eq.trans (World.drewN_drewN _ _ _) (congrArg (World.drewN _) (Nat.add_assoc _ _ _))⟩)) | (go_at_call 46; (with_reducible refine (gangerref10_out.calls ((rd_T56 l0_9 x4_4).f3) 1 1073741824 t297 _ A79.out).mono ?_); rintro e w' ⟨rfl, ⟨nd, rfl⟩⟩; (try first | exact ⟨rfl, _, World.drewN_drewN _ _ _⟩ | exact ⟨rfl, _, Eq.trans (World.drewN_drewN _ _ _) (congrArg (World.drewN _) (Nat.add_assoc _ _ _))⟩))); try go_wp2_with (first | (go_at_call 47; (with_reducible refine (gangerref09_Name.calls k4 ((rd_T56 l0_9 x4_4).f0) true _ A67.out).mono ?_); rintro e w' ⟨rfl, ⟨nd, rfl⟩⟩; (try first | exact ⟨rfl, _, World.drewN_drewN _ _ _⟩ | exact ⟨rfl, _, Eq.trans (World.drewN_drewN _ _ _) (congrArg (World.drewN _) (Nat.add_assoc _ _ _))⟩)) | (go_at_call 46; (with_reducible refine (gangerref10_out.calls ((rd_T56 l0_9 x4_4).f1) 0 10 false _ A69.out).mono ?_); rintro e w' ⟨rfl, ⟨nd, rfl⟩⟩; (try first | exact ⟨rfl, _, World.drewN_drewN _ _ _⟩ | exact ⟨rfl, _, Eq.trans (World.drewN_drewN _ _ _) (congrArg (World.drewN _) (Nat.add_assoc _ _ _))⟩)) | (go_at_call 46; (with_reducible refine (gangerref10_out.calls ((rd_T56 l0_9 x4_4).f2) 0 1048576 false _ A74.out).mono ?_); rintro e w' ⟨rfl, ⟨nd, rfl⟩⟩; (try first | exact ⟨rfl, _, World.drewN_drewN _ _ _⟩ | exact ⟨rfl, _, Eq.trans (World.drewN_drewN _ _ _) (congrArg (World.drewN _) (Nat.add_assoc _ _ _))⟩)) | (go_at_call 46; (with_reducible refine (gangerref10_out.calls ((rd_T56 l0_9 x4_4).f3) 1 1073741824 t297 _ A79.out).mono ?_); rintro e w' ⟨rfl, ⟨nd, rfl⟩⟩; (try first | exact ⟨rfl, _, World.drewN_drewN _ _ _⟩ | exact ⟨rfl, _, Eq.trans (World.drewN_drewN _ _ _) (congrArg (World.drewN _) (Nat.add_assoc _ _ _))⟩))))
                  go_meet
                  case rel => exact ⟨_, (t297), (by first | rfl | (simp; done) | (simp [*]; done)), H', ⟨by have := HJ1.out; have := HJ27.out; have := HJ44.out; have := HK4.out; first | omega | exact Nat.le_refl _⟩, ⟨by (with_reducible repeat (first | refine blk_drewN ?_ _ | refine blk_drew ?_ | refine blk_alloc ?_ _)); refine blk_far ?_ NB278_293.out _; (with_reducible repeat (first | refine blk_drewN ?_ _ | refine blk_drew ?_ | refine blk_alloc ?_ _)); refine blk_far ?_ NB278_293.out _; (with_reducible repeat (first | refine blk_drewN ?_ _ | refine blk_drew ?_ | refine blk_alloc ?_ _)); refine blk_far ?_ NB278_293.out _; (with_reducible repeat (first | refine blk_drewN ?_ _ | refine blk_drew ?_ | refine blk_alloc ?_ _)); refine blk_far ?_ NB278_293.out _; (with_reducible repeat (first | refine blk_drewN ?_ _ | refine blk_drew ?_ | refine blk_alloc ?_ _)); exact BK278.out⟩, ⟨by (with_reducible repeat (first | refine blk_drewN ?_ _ | refine blk_drew ?_ | refine blk_alloc ?_ _)); refine blk_far ?_ NB279_293.out _; (with_reducible repeat (first | refine blk_drewN ?_ _ | refine blk_drew ?_ | refine blk_alloc ?_ _)); refine blk_far ?_ NB279_293.out _; (with_reducible repeat (first | refine blk_drewN ?_ _ | refine blk_drew ?_ | refine blk_alloc ?_ _)); refine blk_far ?_ NB279_293.out _; (with_reducible repeat (first | refine blk_drewN ?_ _ | refine blk_drew ?_ | refine blk_alloc ?_ _)); refine blk_far ?_ NB279_293.out _; (with_reducible repeat (first | refine blk_drewN ?_ _ | refine blk_drew ?_ | refine blk_alloc ?_ _)); exact BK279.out⟩, ⟨by (with_reducible repeat (first | refine blk_drewN ?_ _ | refine blk_drew ?_ | refine blk_alloc ?_ _)); refine blk_put (cs := #[.string ((rd_T56 l0_9 x4_4).f0), .int .i64 ((rd_T56 l0_9 x4_4).f1), .int .i64 ((rd_T56 l0_9 x4_4).f2), .int .i64 0]) ?_ 3 _ rfl; (with_reducible repeat (first | refine blk_drewN ?_ _ | refine blk_drew ?_ | refine blk_alloc ?_ _)); refine blk_put (cs := #[.string ((rd_T56 l0_9 x4_4).f0), .int .i64 ((rd_T56 l0_9 x4_4).f1), .int .i64 0, .int .i64 0]) ?_ 2 _ rfl; (with_reducible repeat (first | refine blk_drewN ?_ _ | refine blk_drew ?_ | refine blk_alloc ?_ _)); refine blk_put (cs := #[.string ((rd_T56 l0_9 x4_4).f0), .int .i64 0, .int .i64 0, .int .i64 0]) ?_ 1 _ rfl; (with_reducible repeat (first | refine blk_drewN ?_ _ | refine blk_drew ?_ | refine blk_alloc ?_ _)); refine blk_put (cs := #[.string (⟨#[]⟩ : ByteArray), .int .i64 0, .int .i64 0, .int .i64 0]) ?_ 0 _ rfl; (with_reducible repeat (first | refine blk_drewN ?_ _ | refine blk_drew ?_ | refine blk_alloc ?_ _)); exact BK293.out⟩, ⟨by repeat (first | (with_reducible first | exact HB.out | apply below_alloc | apply pw_below_drewN | apply below_drew1 | refine below_set ?_ GE278.out | refine below_set ?_ GE279.out | refine below_set ?_ GE293.out) | exact HB.out)⟩⟩
               ·replace c68 := Bool.eq_false_iff.mpr c68
                subst c68
                have H1 : (gangerref10_Check.j4 k4 x4_4 true a0_0 a0_1 a0_2 a0_3 a0_4 a0_5 a0_6 a0_7 a0_8 l0_9 l0_10 l0_11 ((rd_T56 l0_9 x4_4).f0) ((rd_T56 l0_9 x4_4).f1) ((rd_T56 l0_9 x4_4).f2) ((rd_T56 l0_9 x4_4).f3)) = some r := by rw [if_neg (show ¬ (false = true) by decide)] at H; exact H
                clear H
                have H := H1
                clear H1
                have H' := Aside0.mk H
                clear H
                have hnb83 := NB293_278.out
                have hnc83 := NB278_293.out
                have hnb84 := NB293_279.out
                have hnc84 := NB279_293.out
                have hcz85_0 : w63.cell? ⟨gb293, 0, none⟩ = some (.string (⟨#[]⟩ : ByteArray)) := (blk_cell BK293.out 0).trans rfl
                have hcz85_1 : w63.cell? ⟨gb293, 1, none⟩ = some (.int .i64 0) := (blk_cell BK293.out 1).trans rfl
                have hcz85_2 : w63.cell? ⟨gb293, 2, none⟩ = some (.int .i64 0) := (blk_cell BK293.out 2).trans rfl
                have hcz85_3 : w63.cell? ⟨gb293, 3, none⟩ = some (.int .i64 0) := (blk_cell BK293.out 3).trans rfl
                have hfz85_0 := blk_frozen BK293.out 0
                have hfz85_1 := blk_frozen BK293.out 1
                have hfz85_2 := blk_frozen BK293.out 2
                have hfz85_3 := blk_frozen BK293.out 3
                go_wp2_with (first | (go_at_call 47; (with_reducible refine (gangerref09_Name.calls k4 ((rd_T56 l0_9 x4_4).f0) false _ A67.out).mono ?_); rintro e w' ⟨rfl, ⟨nd, rfl⟩⟩; (try first | exact ⟨rfl, _, World.drewN_drewN _ _ _⟩ | exact ⟨rfl, _, Eq.trans (World.drewN_drewN _ _ _) (congrArg (World.drewN _) (Nat.add_assoc _ _ _))⟩)))
                repeat (go_quiet (first | (go_at_call 47; (with_reducible refine (gangerref09_Name.calls k4 ((rd_T56 l0_9 x4_4).f0) false _ A67.out).mono ?_); rintro e w' ⟨rfl, ⟨nd, rfl⟩⟩; (try first | exact ⟨rfl, _, World.drewN_drewN _ _ _⟩ | exact ⟨rfl, _, Eq.trans (World.drewN_drewN _ _ _) (congrArg (World.drewN _) (Nat.add_assoc _ _ _))⟩))); try go_wp2_with (first | (go_at_call 47; (with_reducible refine (gangerref09_Name.calls k4 ((rd_T56 l0_9 x4_4).f0) false _ A67.out).mono ?_); rintro e w' ⟨rfl, ⟨nd, rfl⟩⟩; (try first | exact ⟨rfl, _, World.drewN_drewN _ _ _⟩ | exact ⟨rfl, _, Eq.trans (World.drewN_drewN _ _ _) (congrArg (World.drewN _) (Nat.add_assoc _ _ _))⟩))))
                go_meet
                case rel => exact ⟨_, (true), (by first | rfl | (simp; done) | (simp [*]; done)), H', ⟨by have := HJ1.out; have := HJ27.out; have := HJ44.out; have := HK4.out; first | omega | exact Nat.le_refl _⟩, ⟨by (with_reducible repeat (first | refine blk_drewN ?_ _ | refine blk_drew ?_ | refine blk_alloc ?_ _)); refine blk_far ?_ NB278_293.out _; (with_reducible repeat (first | refine blk_drewN ?_ _ | refine blk_drew ?_ | refine blk_alloc ?_ _)); refine blk_far ?_ NB278_293.out _; (with_reducible repeat (first | refine blk_drewN ?_ _ | refine blk_drew ?_ | refine blk_alloc ?_ _)); refine blk_far ?_ NB278_293.out _; (with_reducible repeat (first | refine blk_drewN ?_ _ | refine blk_drew ?_ | refine blk_alloc ?_ _)); refine blk_far ?_ NB278_293.out _; (with_reducible repeat (first | refine blk_drewN ?_ _ | refine blk_drew ?_ | refine blk_alloc ?_ _)); exact BK278.out⟩, ⟨by (with_reducible repeat (first | refine blk_drewN ?_ _ | refine blk_drew ?_ | refine blk_alloc ?_ _)); refine blk_far ?_ NB279_293.out _; (with_reducible repeat (first | refine blk_drewN ?_ _ | refine blk_drew ?_ | refine blk_alloc ?_ _)); refine blk_far ?_ NB279_293.out _; (with_reducible repeat (first | refine blk_drewN ?_ _ | refine blk_drew ?_ | refine blk_alloc ?_ _)); refine blk_far ?_ NB279_293.out _; (with_reducible repeat (first | refine blk_drewN ?_ _ | refine blk_drew ?_ | refine blk_alloc ?_ _)); refine blk_far ?_ NB279_293.out _; (with_reducible repeat (first | refine blk_drewN ?_ _ | refine blk_drew ?_ | refine blk_alloc ?_ _)); exact BK279.out⟩, ⟨by (with_reducible repeat (first | refine blk_drewN ?_ _ | refine blk_drew ?_ | refine blk_alloc ?_ _)); refine blk_put (cs := #[.string ((rd_T56 l0_9 x4_4).f0), .int .i64 ((rd_T56 l0_9 x4_4).f1), .int .i64 ((rd_T56 l0_9 x4_4).f2), .int .i64 0]) ?_ 3 _ rfl; (with_reducible repeat (first | refine blk_drewN ?_ _ | refine blk_drew ?_ | refine blk_alloc ?_ _)); refine blk_put (cs := #[.string ((rd_T56 l0_9 x4_4).f0), .int .i64 ((rd_T56 l0_9 x4_4).f1), .int .i64 0, .int .i64 0]) ?_ 2 _ rfl; (with_reducible repeat (first | refine blk_drewN ?_ _ | refine blk_drew ?_ | refine blk_alloc ?_ _)); refine blk_put (cs := #[.string ((rd_T56 l0_9 x4_4).f0), .int .i64 0, .int .i64 0, .int .i64 0]) ?_ 1 _ rfl; (with_reducible repeat (first | refine blk_drewN ?_ _ | refine blk_drew ?_ | refine blk_alloc ?_ _)); refine blk_put (cs := #[.string (⟨#[]⟩ : ByteArray), .int .i64 0, .int .i64 0, .int .i64 0]) ?_ 0 _ rfl; (with_reducible repeat (first | refine blk_drewN ?_ _ | refine blk_drew ?_ | refine blk_alloc ?_ _)); exact BK293.out⟩, ⟨by repeat (first | (with_reducible first | exact HB.out | apply below_alloc | apply pw_below_drewN | apply below_drew1 | refine below_set ?_ GE278.out | refine below_set ?_ GE279.out | refine below_set ?_ GE293.out) | exact HB.out)⟩⟩
              case rest =>
               clear HC60
               obtain ⟨kq, x99_59, rfl, HA, HJ59, BK278, BK279, BK293, HB⟩ := hcut
               cases kq with
               | zero => exact absurd HA.out (by simp [gangerref10_Check.j4])
               | succ kj59 =>
                have H := HA.out
                clear HA
                simp only [gangerref10_Check.j4] at H
                by_cases c86 : x99_59 = true
                ·subst c86
                 have H1 : (some 100) = some r := by rw [if_pos rfl] at H; exact H
                 clear H
                 have H := H1
                 clear H1
                 obtain rfl := Option.some.inj H
                 go_wp2
                 repeat (go_quiet (fail); try go_wp2)
                 go_ret
                 exact ⟨by first | rfl | (simp [errW_none, errW_some] <;> rfl) | (simp [*, errW_none, errW_some] <;> rfl), by repeat (first | (with_reducible first | exact HB.out | apply below_alloc | apply pw_below_drewN | apply below_drew1 | refine below_set ?_ GE278.out | refine below_set ?_ GE279.out | refine below_set ?_ GE293.out) | exact HB.out)⟩
                ·replace c86 := Bool.eq_false_iff.mpr c86
                 subst c86
                 have H1 : (gangerref10_Check.l1 kj59 x4_4 0 a0_0 a0_1 a0_2 a0_3 a0_4 a0_5 a0_6 a0_7 a0_8 l0_9 l0_10 l0_11 ((rd_T56 l0_9 x4_4).f0) ((rd_T56 l0_9 x4_4).f1) ((rd_T56 l0_9 x4_4).f2) ((rd_T56 l0_9 x4_4).f3)) = some r := by rw [if_neg (show ¬ (false = true) by decide)] at H; exact H
                 clear H
                 have H := H1
                 clear H1
                 have H' := Aside0.mk H
                 clear H
                 go_wp2
                 repeat (go_quiet (fail); try go_wp2)
                 go_loopg [6] kj59 (fun kq v6 w' => ∃ (x6_6 : Int), v6 = .int .i64 x6_6 ∧ Aside0 (gangerref10_Check.l1 kq x4_4 x6_6 a0_0 a0_1 a0_2 a0_3 a0_4 a0_5 a0_6 a0_7 a0_8 l0_9 l0_10 l0_11 ((rd_T56 l0_9 x4_4).f0) ((rd_T56 l0_9 x4_4).f1) ((rd_T56 l0_9 x4_4).f2) ((rd_T56 l0_9 x4_4).f3) = some r) ∧ Aside0 (kq ≤ kj59) ∧ Aside0 (w'.heap[gb278]? = some (.cells #[.int .i64 a0_0, .int .i64 a0_1, .int .i64 a0_2, .int .i64 a0_3, .int .i64 a0_4, .int .i64 a0_5, .int .i64 a0_6, .int .i64 a0_7, .int .i64 a0_8, (.slice (some ad292) l0_9.length c0_9), (.slice A0_10 l0_10.length c0_10), (.slice A0_11 l0_11.length c0_11)] 64 (0, 0))) ∧ Aside0 (w'.heap[gb279]? = some (.cells #[.int .i64 a0_4, .int .i64 a0_5, .int .i64 a0_6, .int .i64 a0_7, .int .i64 a0_8] 62 (0, 0))) ∧ Aside0 (w'.heap[gb293]? = some (.cells #[.string ((rd_T56 l0_9 x4_4).f0), .int .i64 ((rd_T56 l0_9 x4_4).f1), .int .i64 ((rd_T56 l0_9 x4_4).f2), .int .i64 ((rd_T56 l0_9 x4_4).f3)] 56 (0, 0))) ∧ Aside0 (Below w.heap.size w w'))
                 case atStart => exact ⟨(0), (by first | rfl | (simp; done) | (simp [*]; done)), H', ⟨Nat.le_refl _⟩, ⟨by (with_reducible repeat (first | refine blk_drewN ?_ _ | refine blk_drew ?_ | refine blk_alloc ?_ _)); exact BK278.out⟩, ⟨by (with_reducible repeat (first | refine blk_drewN ?_ _ | refine blk_drew ?_ | refine blk_alloc ?_ _)); exact BK279.out⟩, ⟨by (with_reducible repeat (first | refine blk_drewN ?_ _ | refine blk_drew ?_ | refine blk_alloc ?_ _)); exact BK293.out⟩, ⟨by repeat (first | (with_reducible first | exact HB.out | apply below_alloc | apply pw_below_drewN | apply below_drew1 | refine below_set ?_ GE278.out | refine below_set ?_ GE279.out | refine below_set ?_ GE293.out) | exact HB.out)⟩⟩
                 case round =>
                  clear H'
                  obtain ⟨x6_6, rfl, HA, HK6, BK278, BK279, BK293, HB⟩ := hrel
                  cases gk with
                  | zero => exact absurd HA.out (by simp [gangerref10_Check.l1])
                  | succ k6 =>
                   have H := HA.out
                   clear HA
                   simp only [gangerref10_Check.l1] at H
                   by_cases c87 : x6_6 < x4_4
                   ·rw [if_pos c87] at H
                    have c87b0 : decide (x6_6 < x4_4) = true := decide_eq_true c87
                    clear c87
                    by_cases c88 : 0 ≤ x6_6
                    ·rw [if_pos c88] at H
                     have c88b0 : decide (0 ≤ x6_6) = true := decide_eq_true c88
                     clear c88
                     by_cases c89 : x6_6 < (l0_9.length : Int)
                     ·rw [if_pos c89] at H
                      have c89b0 : decide (x6_6 < (l0_9.length : Int)) = true := decide_eq_true c89
                      clear c89
                      by_cases c90 : ((rd_T56 l0_9 x6_6).f0).toList = ((rd_T56 l0_9 x4_4).f0).toList
                      ·rw [if_pos c90] at H
                       have c90b0 : (((rd_T56 l0_9 x6_6).f0).toList == ((rd_T56 l0_9 x4_4).f0).toList) = true := beq_iff_eq.mpr c90
                       have c90b1 : (((rd_T56 l0_9 x6_6).f0).toList != ((rd_T56 l0_9 x4_4).f0).toList) = false := bne_eq_false_iff_eq.mpr c90
                       clear c90
                       obtain rfl := Option.some.inj H
                       have hnb91 := NB278_279.out
                       have hnc91 := NB279_278.out
                       have hnb92 := NB278_293.out
                       have hnc92 := NB293_278.out
                       have hcz93_0 : wr.cell? ⟨gb278, 0, none⟩ = some (.int .i64 a0_0) := (blk_cell BK278.out 0).trans rfl
                       have hcz93_1 : wr.cell? ⟨gb278, 1, none⟩ = some (.int .i64 a0_1) := (blk_cell BK278.out 1).trans rfl
                       have hcz93_2 : wr.cell? ⟨gb278, 2, none⟩ = some (.int .i64 a0_2) := (blk_cell BK278.out 2).trans rfl
                       have hcz93_3 : wr.cell? ⟨gb278, 3, none⟩ = some (.int .i64 a0_3) := (blk_cell BK278.out 3).trans rfl
                       have hcz93_4 : wr.cell? ⟨gb278, 4, none⟩ = some (.int .i64 a0_4) := (blk_cell BK278.out 4).trans rfl
                       have hcz93_5 : wr.cell? ⟨gb278, 5, none⟩ = some (.int .i64 a0_5) := (blk_cell BK278.out 5).trans rfl
                       have hcz93_6 : wr.cell? ⟨gb278, 6, none⟩ = some (.int .i64 a0_6) := (blk_cell BK278.out 6).trans rfl
                       have hcz93_7 : wr.cell? ⟨gb278, 7, none⟩ = some (.int .i64 a0_7) := (blk_cell BK278.out 7).trans rfl
                       have hcz93_8 : wr.cell? ⟨gb278, 8, none⟩ = some (.int .i64 a0_8) := (blk_cell BK278.out 8).trans rfl
                       have hcz93_9 : wr.cell? ⟨gb278, 9, none⟩ = some (.slice (some ad292) l0_9.length c0_9) := (blk_cell BK278.out 9).trans rfl
                       have hcz93_10 : wr.cell? ⟨gb278, 10, none⟩ = some (.slice A0_10 l0_10.length c0_10) := (blk_cell BK278.out 10).trans rfl
                       have hcz93_11 : wr.cell? ⟨gb278, 11, none⟩ = some (.slice A0_11 l0_11.length c0_11) := (blk_cell BK278.out 11).trans rfl
                       have hfz93_0 := blk_frozen BK278.out 0
                       have hfz93_1 := blk_frozen BK278.out 1
                       have hfz93_2 := blk_frozen BK278.out 2
                       have hfz93_3 := blk_frozen BK278.out 3
                       have hfz93_4 := blk_frozen BK278.out 4
                       have hfz93_5 := blk_frozen BK278.out 5
                       have hfz93_6 := blk_frozen BK278.out 6
                       have hfz93_7 := blk_frozen BK278.out 7
                       have hfz93_8 := blk_frozen BK278.out 8
                       have hfz93_9 := blk_frozen BK278.out 9
                       have hfz93_10 := blk_frozen BK278.out 10
                       have hfz93_11 := blk_frozen BK278.out 11
                       have p298 : 0 ≤ (x6_6 : Int) := of_decide_eq_true (by first | (with_reducible assumption) | assumption)
                       have q298 : x6_6 < (l0_9.length : Int) := of_decide_eq_true (by first | (with_reducible assumption) | assumption)
                       obtain ⟨ad298, e298, hx298_0, hx298_1, hx298_2, hx298_3⟩ := at_T56 HR0_9.out x6_6 p298 q298
                       obtain rfl : ad292 = ad298 := (by injection e298)
                       replace hx298_0 := (HB.out.cell (World.block_lt_of_cell? w _ hx298_0)).trans hx298_0
                       replace hx298_1 := (HB.out.cell (World.block_lt_of_cell? w _ hx298_1)).trans hx298_1
                       replace hx298_2 := (HB.out.cell (World.block_lt_of_cell? w _ hx298_2)).trans hx298_2
                       replace hx298_3 := (HB.out.cell (World.block_lt_of_cell? w _ hx298_3)).trans hx298_3
                       replace p298 := eq_true p298
                       replace q298 := eq_true q298
                       have hnb94 := NB293_279.out
                       have hnc94 := NB279_293.out
                       have hcz95_0 : wr.cell? ⟨gb293, 0, none⟩ = some (.string ((rd_T56 l0_9 x4_4).f0)) := (blk_cell BK293.out 0).trans rfl
                       have hcz95_1 : wr.cell? ⟨gb293, 1, none⟩ = some (.int .i64 ((rd_T56 l0_9 x4_4).f1)) := (blk_cell BK293.out 1).trans rfl
                       have hcz95_2 : wr.cell? ⟨gb293, 2, none⟩ = some (.int .i64 ((rd_T56 l0_9 x4_4).f2)) := (blk_cell BK293.out 2).trans rfl
                       have hcz95_3 : wr.cell? ⟨gb293, 3, none⟩ = some (.int .i64 ((rd_T56 l0_9 x4_4).f3)) := (blk_cell BK293.out 3).trans rfl
                       have hfz95_0 := blk_frozen BK293.out 0
                       have hfz95_1 := blk_frozen BK293.out 1
                       have hfz95_2 := blk_frozen BK293.out 2
                       have hfz95_3 := blk_frozen BK293.out 3
                       go_wp2
                       repeat (go_quiet (fail); try go_wp2)
                       go_ret
                       exact ⟨by first | rfl | (simp [errW_none, errW_some] <;> rfl) | (simp [*, errW_none, errW_some] <;> rfl), by repeat (first | (with_reducible first | exact HB.out | apply below_alloc | apply pw_below_drewN | apply below_drew1 | refine below_set ?_ GE278.out | refine below_set ?_ GE279.out | refine below_set ?_ GE293.out) | exact HB.out)⟩
                      ·rw [if_neg c90] at H
                       have c90b0 : (((rd_T56 l0_9 x6_6).f0).toList == ((rd_T56 l0_9 x4_4).f0).toList) = false := beq_eq_false_iff_ne.mpr c90
                       have c90b1 : (((rd_T56 l0_9 x6_6).f0).toList != ((rd_T56 l0_9 x4_4).f0).toList) = true := bne_iff_ne.mpr c90
                       have H' := Aside0.mk H
                       clear H
                       have hnb96 := NB278_279.out
                       have hnc96 := NB279_278.out
                       have hnb97 := NB278_293.out
                       have hnc97 := NB293_278.out
                       have hcz98_0 : wr.cell? ⟨gb278, 0, none⟩ = some (.int .i64 a0_0) := (blk_cell BK278.out 0).trans rfl
                       have hcz98_1 : wr.cell? ⟨gb278, 1, none⟩ = some (.int .i64 a0_1) := (blk_cell BK278.out 1).trans rfl
                       have hcz98_2 : wr.cell? ⟨gb278, 2, none⟩ = some (.int .i64 a0_2) := (blk_cell BK278.out 2).trans rfl
                       have hcz98_3 : wr.cell? ⟨gb278, 3, none⟩ = some (.int .i64 a0_3) := (blk_cell BK278.out 3).trans rfl
                       have hcz98_4 : wr.cell? ⟨gb278, 4, none⟩ = some (.int .i64 a0_4) := (blk_cell BK278.out 4).trans rfl
                       have hcz98_5 : wr.cell? ⟨gb278, 5, none⟩ = some (.int .i64 a0_5) := (blk_cell BK278.out 5).trans rfl
                       have hcz98_6 : wr.cell? ⟨gb278, 6, none⟩ = some (.int .i64 a0_6) := (blk_cell BK278.out 6).trans rfl
                       have hcz98_7 : wr.cell? ⟨gb278, 7, none⟩ = some (.int .i64 a0_7) := (blk_cell BK278.out 7).trans rfl
                       have hcz98_8 : wr.cell? ⟨gb278, 8, none⟩ = some (.int .i64 a0_8) := (blk_cell BK278.out 8).trans rfl
                       have hcz98_9 : wr.cell? ⟨gb278, 9, none⟩ = some (.slice (some ad292) l0_9.length c0_9) := (blk_cell BK278.out 9).trans rfl
                       have hcz98_10 : wr.cell? ⟨gb278, 10, none⟩ = some (.slice A0_10 l0_10.length c0_10) := (blk_cell BK278.out 10).trans rfl
                       have hcz98_11 : wr.cell? ⟨gb278, 11, none⟩ = some (.slice A0_11 l0_11.length c0_11) := (blk_cell BK278.out 11).trans rfl
                       have hfz98_0 := blk_frozen BK278.out 0
                       have hfz98_1 := blk_frozen BK278.out 1
                       have hfz98_2 := blk_frozen BK278.out 2
                       have hfz98_3 := blk_frozen BK278.out 3
                       have hfz98_4 := blk_frozen BK278.out 4
                       have hfz98_5 := blk_frozen BK278.out 5
                       have hfz98_6 := blk_frozen BK278.out 6
                       have hfz98_7 := blk_frozen BK278.out 7
                       have hfz98_8 := blk_frozen BK278.out 8
                       have hfz98_9 := blk_frozen BK278.out 9
                       have hfz98_10 := blk_frozen BK278.out 10
                       have hfz98_11 := blk_frozen BK278.out 11
                       have p298 : 0 ≤ (x6_6 : Int) := of_decide_eq_true (by first | (with_reducible assumption) | assumption)
                       have q298 : x6_6 < (l0_9.length : Int) := of_decide_eq_true (by first | (with_reducible assumption) | assumption)
                       obtain ⟨ad298, e298, hx298_0, hx298_1, hx298_2, hx298_3⟩ := at_T56 HR0_9.out x6_6 p298 q298
                       obtain rfl : ad292 = ad298 := (by injection e298)
                       replace hx298_0 := (HB.out.cell (World.block_lt_of_cell? w _ hx298_0)).trans hx298_0
                       replace hx298_1 := (HB.out.cell (World.block_lt_of_cell? w _ hx298_1)).trans hx298_1
                       replace hx298_2 := (HB.out.cell (World.block_lt_of_cell? w _ hx298_2)).trans hx298_2
                       replace hx298_3 := (HB.out.cell (World.block_lt_of_cell? w _ hx298_3)).trans hx298_3
                       replace p298 := eq_true p298
                       replace q298 := eq_true q298
                       have hnb99 := NB293_279.out
                       have hnc99 := NB279_293.out
                       have hcz100_0 : wr.cell? ⟨gb293, 0, none⟩ = some (.string ((rd_T56 l0_9 x4_4).f0)) := (blk_cell BK293.out 0).trans rfl
                       have hcz100_1 : wr.cell? ⟨gb293, 1, none⟩ = some (.int .i64 ((rd_T56 l0_9 x4_4).f1)) := (blk_cell BK293.out 1).trans rfl
                       have hcz100_2 : wr.cell? ⟨gb293, 2, none⟩ = some (.int .i64 ((rd_T56 l0_9 x4_4).f2)) := (blk_cell BK293.out 2).trans rfl
                       have hcz100_3 : wr.cell? ⟨gb293, 3, none⟩ = some (.int .i64 ((rd_T56 l0_9 x4_4).f3)) := (blk_cell BK293.out 3).trans rfl
                       have hfz100_0 := blk_frozen BK293.out 0
                       have hfz100_1 := blk_frozen BK293.out 1
                       have hfz100_2 := blk_frozen BK293.out 2
                       have hfz100_3 := blk_frozen BK293.out 3
                       go_wp2
                       repeat (go_quiet (fail); try go_wp2)
                       go_roundg k6
                       case measure => have := HJ1.out; have := HJ27.out; have := HJ44.out; have := HK4.out; have := HJ59.out; have := HK6.out; omega
                       case rel => exact ⟨(wrap64 (x6_6 + 1)), (by first | rfl | (simp; done) | (simp [*]; done)), H', ⟨by have := HJ1.out; have := HJ27.out; have := HJ44.out; have := HK4.out; have := HJ59.out; have := HK6.out; omega⟩, ⟨by (with_reducible repeat (first | refine blk_drewN ?_ _ | refine blk_drew ?_ | refine blk_alloc ?_ _)); exact BK278.out⟩, ⟨by (with_reducible repeat (first | refine blk_drewN ?_ _ | refine blk_drew ?_ | refine blk_alloc ?_ _)); exact BK279.out⟩, ⟨by (with_reducible repeat (first | refine blk_drewN ?_ _ | refine blk_drew ?_ | refine blk_alloc ?_ _)); exact BK293.out⟩, ⟨by repeat (first | (with_reducible first | exact HB.out | apply below_alloc | apply pw_below_drewN | apply below_drew1 | refine below_set ?_ GE278.out | refine below_set ?_ GE279.out | refine below_set ?_ GE293.out) | exact HB.out)⟩⟩
                     ·rw [if_neg c89] at H
                      exact absurd H (by simp)
                    ·rw [if_neg c88] at H
                     exact absurd H (by simp)
                   ·rw [if_neg c87] at H
                    have c87b0 : decide (x6_6 < x4_4) = false := decide_eq_false c87
                    clear c87
                    have H' := Aside0.mk H
                    clear H
                    go_wp2
                    repeat (go_quiet (fail); try go_wp2)
                    go_roundg k6
                    case measure => have := HJ1.out; have := HJ27.out; have := HJ44.out; have := HK4.out; have := HJ59.out; have := HK6.out; omega
                    case rel => exact ⟨(wrap64 (x4_4 + 1)), (by first | rfl | (simp; done) | (simp [*]; done)), H', ⟨by have := HJ1.out; have := HJ27.out; have := HJ44.out; have := HK4.out; have := HJ59.out; have := HK6.out; omega⟩, ⟨by (with_reducible repeat (first | refine blk_drewN ?_ _ | refine blk_drew ?_ | refine blk_alloc ?_ _)); exact BK278.out⟩, ⟨by (with_reducible repeat (first | refine blk_drewN ?_ _ | refine blk_drew ?_ | refine blk_alloc ?_ _)); exact BK279.out⟩, ⟨by repeat (first | (with_reducible first | exact HB.out | apply below_alloc | apply pw_below_drewN | apply below_drew1 | refine below_set ?_ GE278.out | refine below_set ?_ GE279.out | refine below_set ?_ GE293.out) | exact HB.out)⟩⟩
             ·rw [if_neg c59] at H
              exact absurd H (by simp)
            ·rw [if_neg c58] at H
             have c58b0 : decide (x4_4 < (l0_9.length : Int)) = false := decide_eq_false c58
             clear c58
             have H' := Aside0.mk H
             clear H
             have hnb101 := NB278_279.out
             have hnc101 := NB279_278.out
             have hcz102_0 : wr.cell? ⟨gb278, 0, none⟩ = some (.int .i64 a0_0) := (blk_cell BK278.out 0).trans rfl
             have hcz102_1 : wr.cell? ⟨gb278, 1, none⟩ = some (.int .i64 a0_1) := (blk_cell BK278.out 1).trans rfl
             have hcz102_2 : wr.cell? ⟨gb278, 2, none⟩ = some (.int .i64 a0_2) := (blk_cell BK278.out 2).trans rfl
             have hcz102_3 : wr.cell? ⟨gb278, 3, none⟩ = some (.int .i64 a0_3) := (blk_cell BK278.out 3).trans rfl
             have hcz102_4 : wr.cell? ⟨gb278, 4, none⟩ = some (.int .i64 a0_4) := (blk_cell BK278.out 4).trans rfl
             have hcz102_5 : wr.cell? ⟨gb278, 5, none⟩ = some (.int .i64 a0_5) := (blk_cell BK278.out 5).trans rfl
             have hcz102_6 : wr.cell? ⟨gb278, 6, none⟩ = some (.int .i64 a0_6) := (blk_cell BK278.out 6).trans rfl
             have hcz102_7 : wr.cell? ⟨gb278, 7, none⟩ = some (.int .i64 a0_7) := (blk_cell BK278.out 7).trans rfl
             have hcz102_8 : wr.cell? ⟨gb278, 8, none⟩ = some (.int .i64 a0_8) := (blk_cell BK278.out 8).trans rfl
             have hcz102_9 : wr.cell? ⟨gb278, 9, none⟩ = some (.slice A0_9 l0_9.length c0_9) := (blk_cell BK278.out 9).trans rfl
             have hcz102_10 : wr.cell? ⟨gb278, 10, none⟩ = some (.slice A0_10 l0_10.length c0_10) := (blk_cell BK278.out 10).trans rfl
             have hcz102_11 : wr.cell? ⟨gb278, 11, none⟩ = some (.slice A0_11 l0_11.length c0_11) := (blk_cell BK278.out 11).trans rfl
             have hfz102_0 := blk_frozen BK278.out 0
             have hfz102_1 := blk_frozen BK278.out 1
             have hfz102_2 := blk_frozen BK278.out 2
             have hfz102_3 := blk_frozen BK278.out 3
             have hfz102_4 := blk_frozen BK278.out 4
             have hfz102_5 := blk_frozen BK278.out 5
             have hfz102_6 := blk_frozen BK278.out 6
             have hfz102_7 := blk_frozen BK278.out 7
             have hfz102_8 := blk_frozen BK278.out 8
             have hfz102_9 := blk_frozen BK278.out 9
             have hfz102_10 := blk_frozen BK278.out 10
             have hfz102_11 := blk_frozen BK278.out 11
             go_wp2
             repeat (go_quiet (fail); try go_wp2)
             go_loopg [7] k4 (fun kq v7 w' => ∃ (x7_5 : Int), v7 = .int .i64 x7_5 ∧ Aside0 (gangerref10_Check.l2 kq x7_5 a0_0 a0_1 a0_2 a0_3 a0_4 a0_5 a0_6 a0_7 a0_8 l0_9 l0_10 l0_11 = some r) ∧ Aside0 (kq ≤ k4) ∧ Aside0 (w'.heap[gb278]? = some (.cells #[.int .i64 a0_0, .int .i64 a0_1, .int .i64 a0_2, .int .i64 a0_3, .int .i64 a0_4, .int .i64 a0_5, .int .i64 a0_6, .int .i64 a0_7, .int .i64 a0_8, (.slice A0_9 l0_9.length c0_9), (.slice A0_10 l0_10.length c0_10), (.slice A0_11 l0_11.length c0_11)] 64 (0, 0))) ∧ Aside0 (w'.heap[gb279]? = some (.cells #[.int .i64 a0_4, .int .i64 a0_5, .int .i64 a0_6, .int .i64 a0_7, .int .i64 a0_8] 62 (0, 0))) ∧ Aside0 (Below w.heap.size w w'))
             case atStart => exact ⟨(0), (by first | rfl | (simp; done) | (simp [*]; done)), H', ⟨Nat.le_refl _⟩, ⟨by (with_reducible repeat (first | refine blk_drewN ?_ _ | refine blk_drew ?_ | refine blk_alloc ?_ _)); exact BK278.out⟩, ⟨by (with_reducible repeat (first | refine blk_drewN ?_ _ | refine blk_drew ?_ | refine blk_alloc ?_ _)); exact BK279.out⟩, ⟨by repeat (first | (with_reducible first | exact HB.out | apply below_alloc | apply pw_below_drewN | apply below_drew1 | refine below_set ?_ GE278.out | refine below_set ?_ GE279.out) | exact HB.out)⟩⟩
             case round =>
              clear H'
              obtain ⟨x7_5, rfl, HA, HK5, BK278, BK279, HB⟩ := hrel
              cases gk with
              | zero => exact absurd HA.out (by simp [gangerref10_Check.l2])
              | succ k5 =>
               have H := HA.out
               clear HA
               simp only [gangerref10_Check.l2] at H
               by_cases c103 : x7_5 < (l0_10.length : Int)
               ·rw [if_pos c103] at H
                have c103b0 : decide (x7_5 < (l0_10.length : Int)) = true := decide_eq_true c103
                clear c103
                by_cases c104 : 0 ≤ x7_5
                ·rw [if_pos c104] at H
                 have c104b0 : decide (0 ≤ x7_5) = true := decide_eq_true c104
                 clear c104
                 have HC105 := Aside0.mk H
                 clear H
                 have hnb106 := NB278_279.out
                 have hnc106 := NB279_278.out
                 have hcz107_0 : wr.cell? ⟨gb278, 0, none⟩ = some (.int .i64 a0_0) := (blk_cell BK278.out 0).trans rfl
                 have hcz107_1 : wr.cell? ⟨gb278, 1, none⟩ = some (.int .i64 a0_1) := (blk_cell BK278.out 1).trans rfl
                 have hcz107_2 : wr.cell? ⟨gb278, 2, none⟩ = some (.int .i64 a0_2) := (blk_cell BK278.out 2).trans rfl
                 have hcz107_3 : wr.cell? ⟨gb278, 3, none⟩ = some (.int .i64 a0_3) := (blk_cell BK278.out 3).trans rfl
                 have hcz107_4 : wr.cell? ⟨gb278, 4, none⟩ = some (.int .i64 a0_4) := (blk_cell BK278.out 4).trans rfl
                 have hcz107_5 : wr.cell? ⟨gb278, 5, none⟩ = some (.int .i64 a0_5) := (blk_cell BK278.out 5).trans rfl
                 have hcz107_6 : wr.cell? ⟨gb278, 6, none⟩ = some (.int .i64 a0_6) := (blk_cell BK278.out 6).trans rfl
                 have hcz107_7 : wr.cell? ⟨gb278, 7, none⟩ = some (.int .i64 a0_7) := (blk_cell BK278.out 7).trans rfl
                 have hcz107_8 : wr.cell? ⟨gb278, 8, none⟩ = some (.int .i64 a0_8) := (blk_cell BK278.out 8).trans rfl
                 have hcz107_9 : wr.cell? ⟨gb278, 9, none⟩ = some (.slice A0_9 l0_9.length c0_9) := (blk_cell BK278.out 9).trans rfl
                 have hcz107_10 : wr.cell? ⟨gb278, 10, none⟩ = some (.slice A0_10 l0_10.length c0_10) := (blk_cell BK278.out 10).trans rfl
                 have hcz107_11 : wr.cell? ⟨gb278, 11, none⟩ = some (.slice A0_11 l0_11.length c0_11) := (blk_cell BK278.out 11).trans rfl
                 have hfz107_0 := blk_frozen BK278.out 0
                 have hfz107_1 := blk_frozen BK278.out 1
                 have hfz107_2 := blk_frozen BK278.out 2
                 have hfz107_3 := blk_frozen BK278.out 3
                 have hfz107_4 := blk_frozen BK278.out 4
                 have hfz107_5 := blk_frozen BK278.out 5
                 have hfz107_6 := blk_frozen BK278.out 6
                 have hfz107_7 := blk_frozen BK278.out 7
                 have hfz107_8 := blk_frozen BK278.out 8
                 have hfz107_9 := blk_frozen BK278.out 9
                 have hfz107_10 := blk_frozen BK278.out 10
                 have hfz107_11 := blk_frozen BK278.out 11
                 have p300 : 0 ≤ (x7_5 : Int) := of_decide_eq_true (by first | (with_reducible assumption) | assumption)
                 have q300 : x7_5 < (l0_10.length : Int) := of_decide_eq_true (by first | (with_reducible assumption) | assumption)
                 obtain ⟨ad300, e300, hx300_0, hx300_1, hx300_2⟩ := at_T59 HR0_10.out x7_5 p300 q300
                 cases e300
                 replace hx300_0 := (HB.out.cell (World.block_lt_of_cell? w _ hx300_0)).trans hx300_0
                 replace hx300_1 := (HB.out.cell (World.block_lt_of_cell? w _ hx300_1)).trans hx300_1
                 replace hx300_2 := (HB.out.cell (World.block_lt_of_cell? w _ hx300_2)).trans hx300_2
                 replace p300 := eq_true p300
                 replace q300 := eq_true q300
                 go_upto_region 23 with (first | ((with_reducible refine gate_dst (N := 8) rfl ?_); (try (refine gate_guard (by rfl) ?_; dsimp only)); refine box_event ?hg (N := 8) ?hd (cs := #[.string (⟨#[]⟩ : ByteArray), .int .i64 0, .int .i64 0]) (t := 59) ?hr ?_; (case hd => rfl); (case hg => rfl); (case hr => first | (go_simp; done) | (go_simp; rfl)); intro gb301 hg w108 hbox hb; have n0_ := Aside0.mk (blk_below (g := gb278) (o := .cells #[.int .i64 a0_0, .int .i64 a0_1, .int .i64 a0_2, .int .i64 a0_3, .int .i64 a0_4, .int .i64 a0_5, .int .i64 a0_6, .int .i64 a0_7, .int .i64 a0_8, .slice A0_9 l0_9.length c0_9, .slice (some ad300) l0_10.length c0_10, .slice A0_11 l0_11.length c0_11] 64 (0, 0)) (by (with_reducible repeat (first | refine blk_drewN ?_ _ | refine blk_drew ?_ | refine blk_alloc ?_ _)); exact BK278.out) hb); have n1_ := Aside0.mk (blk_below (g := gb279) (o := .cells #[.int .i64 a0_4, .int .i64 a0_5, .int .i64 a0_6, .int .i64 a0_7, .int .i64 a0_8] 62 (0, 0)) (by (with_reducible repeat (first | refine blk_drewN ?_ _ | refine blk_drew ?_ | refine blk_alloc ?_ _)); exact BK279.out) hb); have n2_ := Aside0.mk (below_step (by repeat (first | (with_reducible first | exact HB.out | apply below_alloc | apply pw_below_drewN | apply below_drew1 | refine below_set ?_ GE278.out | refine below_set ?_ GE279.out) | exact HB.out)) hb); have n3_ := Aside0.mk (hbox); have n4_ := Aside0.mk ((by rw [hg]; exact (below_size (by repeat (first | (with_reducible first | exact HB.out | apply below_alloc | apply pw_below_drewN | apply below_drew1 | refine below_set ?_ GE278.out | refine below_set ?_ GE279.out) | exact HB.out))) : w.heap.size ≤ gb301)); have n5_ := Aside0.mk ((by rw [hg]; exact (below_size (by repeat (first | (with_reducible first | exact HB.out | apply below_alloc | apply pw_below_drewN | apply below_drew1 | refine below_set ?_ GE278.out | refine below_set ?_ GE279.out) | exact HB.out))) : w.heap.size ≤ gb301)); have n6_ := Aside0.mk ((by rw [hg]; exact Nat.ne_of_lt (blk_lt (g := gb278) (o := .cells #[.int .i64 a0_0, .int .i64 a0_1, .int .i64 a0_2, .int .i64 a0_3, .int .i64 a0_4, .int .i64 a0_5, .int .i64 a0_6, .int .i64 a0_7, .int .i64 a0_8, .slice A0_9 l0_9.length c0_9, .slice (some ad300) l0_10.length c0_10, .slice A0_11 l0_11.length c0_11] 64 (0, 0)) (by (with_reducible repeat (first | refine blk_drewN ?_ _ | refine blk_drew ?_ | refine blk_alloc ?_ _)); exact BK278.out)) : gb278 ≠ gb301)); have n7_ := Aside0.mk ((by rw [hg]; exact Nat.ne_of_gt (blk_lt (g := gb278) (o := .cells #[.int .i64 a0_0, .int .i64 a0_1, .int .i64 a0_2, .int .i64 a0_3, .int .i64 a0_4, .int .i64 a0_5, .int .i64 a0_6, .int .i64 a0_7, .int .i64 a0_8, .slice A0_9 l0_9.length c0_9, .slice (some ad300) l0_10.length c0_10, .slice A0_11 l0_11.length c0_11] 64 (0, 0)) (by (with_reducible repeat (first | refine blk_drewN ?_ _ | refine blk_drew ?_ | refine blk_alloc ?_ _)); exact BK278.out)) : gb301 ≠ gb278)); have n8_ := Aside0.mk ((by rw [hg]; exact Nat.ne_of_lt (blk_lt (g := gb279) (o := .cells #[.int .i64 a0_4, .int .i64 a0_5, .int .i64 a0_6, .int .i64 a0_7, .int .i64 a0_8] 62 (0, 0)) (by (with_reducible repeat (first | refine blk_drewN ?_ _ | refine blk_drew ?_ | refine blk_alloc ?_ _)); exact BK279.out)) : gb279 ≠ gb301)); have n9_ := Aside0.mk ((by rw [hg]; exact Nat.ne_of_gt (blk_lt (g := gb279) (o := .cells #[.int .i64 a0_4, .int .i64 a0_5, .int .i64 a0_6, .int .i64 a0_7, .int .i64 a0_8] 62 (0, 0)) (by (with_reducible repeat (first | refine blk_drewN ?_ _ | refine blk_drew ?_ | refine blk_alloc ?_ _)); exact BK279.out)) : gb301 ≠ gb279)); clear BK278; clear BK279; clear HB; have BK278 := n0_; have BK279 := n1_; have HB := n2_; have BK301 := n3_; have GW301 := n4_; have GE301 := n5_; have NB278_301 := n6_; have NB301_278 := n7_; have NB279_301 := n8_; have NB301_279 := n9_; clear n0_ n1_ n2_ n3_ n4_ n5_ n6_ n7_ n8_ n9_; clear hb hbox hg; have hnb109 := NB301_278.out; have hnc109 := NB278_301.out; have hnb110 := NB301_279.out; have hnc110 := NB279_301.out; have hcz111_0 : w108.cell? ⟨gb301, 0, none⟩ = some (.string (⟨#[]⟩ : ByteArray)) := (blk_cell BK301.out 0).trans rfl; have hcz111_1 : w108.cell? ⟨gb301, 1, none⟩ = some (.int .i64 0) := (blk_cell BK301.out 1).trans rfl; have hcz111_2 : w108.cell? ⟨gb301, 2, none⟩ = some (.int .i64 0) := (blk_cell BK301.out 2).trans rfl; have hfz111_0 := blk_frozen BK301.out 0; have hfz111_1 := blk_frozen BK301.out 1; have hfz111_2 := blk_frozen BK301.out 2))
                 repeat (go_quiet (first | ((with_reducible refine gate_dst (N := 8) rfl ?_); (try (refine gate_guard (by rfl) ?_; dsimp only)); refine box_event ?hg (N := 8) ?hd (cs := #[.string (⟨#[]⟩ : ByteArray), .int .i64 0, .int .i64 0]) (t := 59) ?hr ?_; (case hd => rfl); (case hg => rfl); (case hr => first | (go_simp; done) | (go_simp; rfl)); intro gb301 hg w108 hbox hb; have n0_ := Aside0.mk (blk_below (g := gb278) (o := .cells #[.int .i64 a0_0, .int .i64 a0_1, .int .i64 a0_2, .int .i64 a0_3, .int .i64 a0_4, .int .i64 a0_5, .int .i64 a0_6, .int .i64 a0_7, .int .i64 a0_8, .slice A0_9 l0_9.length c0_9, .slice (some ad300) l0_10.length c0_10, .slice A0_11 l0_11.length c0_11] 64 (0, 0)) (by (with_reducible repeat (first | refine blk_drewN ?_ _ | refine blk_drew ?_ | refine blk_alloc ?_ _)); exact BK278.out) hb); have n1_ := Aside0.mk (blk_below (g := gb279) (o := .cells #[.int .i64 a0_4, .int .i64 a0_5, .int .i64 a0_6, .int .i64 a0_7, .int .i64 a0_8] 62 (0, 0)) (by (with_reducible repeat (first | refine blk_drewN ?_ _ | refine blk_drew ?_ | refine blk_alloc ?_ _)); exact BK279.out) hb); have n2_ := Aside0.mk (below_step (by repeat (first | (with_reducible first | exact HB.out | apply below_alloc | apply pw_below_drewN | apply below_drew1 | refine below_set ?_ GE278.out | refine below_set ?_ GE279.out) | exact HB.out)) hb); have n3_ := Aside0.mk (hbox); have n4_ := Aside0.mk ((by rw [hg]; exact (below_size (by repeat (first | (with_reducible first | exact HB.out | apply below_alloc | apply pw_below_drewN | apply below_drew1 | refine below_set ?_ GE278.out | refine below_set ?_ GE279.out) | exact HB.out))) : w.heap.size ≤ gb301)); have n5_ := Aside0.mk ((by rw [hg]; exact (below_size (by repeat (first | (with_reducible first | exact HB.out | apply below_alloc | apply pw_below_drewN | apply below_drew1 | refine below_set ?_ GE278.out | refine below_set ?_ GE279.out) | exact HB.out))) : w.heap.size ≤ gb301)); have n6_ := Aside0.mk ((by rw [hg]; exact Nat.ne_of_lt (blk_lt (g := gb278) (o := .cells #[.int .i64 a0_0, .int .i64 a0_1, .int .i64 a0_2, .int .i64 a0_3, .int .i64 a0_4, .int .i64 a0_5, .int .i64 a0_6, .int .i64 a0_7, .int .i64 a0_8, .slice A0_9 l0_9.length c0_9, .slice (some ad300) l0_10.length c0_10, .slice A0_11 l0_11.length c0_11] 64 (0, 0)) (by (with_reducible repeat (first | refine blk_drewN ?_ _ | refine blk_drew ?_ | refine blk_alloc ?_ _)); exact BK278.out)) : gb278 ≠ gb301)); have n7_ := Aside0.mk ((by rw [hg]; exact Nat.ne_of_gt (blk_lt (g := gb278) (o := .cells #[.int .i64 a0_0, .int .i64 a0_1, .int .i64 a0_2, .int .i64 a0_3, .int .i64 a0_4, .int .i64 a0_5, .int .i64 a0_6, .int .i64 a0_7, .int .i64 a0_8, .slice A0_9 l0_9.length c0_9, .slice (some ad300) l0_10.length c0_10, .slice A0_11 l0_11.length c0_11] 64 (0, 0)) (by (with_reducible repeat (first | refine blk_drewN ?_ _ | refine blk_drew ?_ | refine blk_alloc ?_ _)); exact BK278.out)) : gb301 ≠ gb278)); have n8_ := Aside0.mk ((by rw [hg]; exact Nat.ne_of_lt (blk_lt (g := gb279) (o := .cells #[.int .i64 a0_4, .int .i64 a0_5, .int .i64 a0_6, .int .i64 a0_7, .int .i64 a0_8] 62 (0, 0)) (by (with_reducible repeat (first | refine blk_drewN ?_ _ | refine blk_drew ?_ | refine blk_alloc ?_ _)); exact BK279.out)) : gb279 ≠ gb301)); have n9_ := Aside0.mk ((by rw [hg]; exact Nat.ne_of_gt (blk_lt (g := gb279) (o := .cells #[.int .i64 a0_4, .int .i64 a0_5, .int .i64 a0_6, .int .i64 a0_7, .int .i64 a0_8] 62 (0, 0)) (by (with_reducible repeat (first | refine blk_drewN ?_ _ | refine blk_drew ?_ | refine blk_alloc ?_ _)); exact BK279.out)) : gb301 ≠ gb279)); clear BK278; clear BK279; clear HB; have BK278 := n0_; have BK279 := n1_; have HB := n2_; have BK301 := n3_; have GW301 := n4_; have GE301 := n5_; have NB278_301 := n6_; have NB301_278 := n7_; have NB279_301 := n8_; have NB301_279 := n9_; clear n0_ n1_ n2_ n3_ n4_ n5_ n6_ n7_ n8_ n9_; clear hb hbox hg; have hnb109 := NB301_278.out; have hnc109 := NB278_301.out; have hnb110 := NB301_279.out; have hnc110 := NB279_301.out; have hcz111_0 : w108.cell? ⟨gb301, 0, none⟩ = some (.string (⟨#[]⟩ : ByteArray)) := (blk_cell BK301.out 0).trans rfl; have hcz111_1 : w108.cell? ⟨gb301, 1, none⟩ = some (.int .i64 0) := (blk_cell BK301.out 1).trans rfl; have hcz111_2 : w108.cell? ⟨gb301, 2, none⟩ = some (.int .i64 0) := (blk_cell BK301.out 2).trans rfl; have hfz111_0 := blk_frozen BK301.out 0; have hfz111_1 := blk_frozen BK301.out 1; have hfz111_2 := blk_frozen BK301.out 2)); go_upto_region 23 with (first | ((with_reducible refine gate_dst (N := 8) rfl ?_); (try (refine gate_guard (by rfl) ?_; dsimp only)); refine box_event ?hg (N := 8) ?hd (cs := #[.string (⟨#[]⟩ : ByteArray), .int .i64 0, .int .i64 0]) (t := 59) ?hr ?_; (case hd => rfl); (case hg => rfl); (case hr => first | (go_simp; done) | (go_simp; rfl)); intro gb301 hg w108 hbox hb; have n0_ := Aside0.mk (blk_below (g := gb278) (o := .cells #[.int .i64 a0_0, .int .i64 a0_1, .int .i64 a0_2, .int .i64 a0_3, .int .i64 a0_4, .int .i64 a0_5, .int .i64 a0_6, .int .i64 a0_7, .int .i64 a0_8, .slice A0_9 l0_9.length c0_9, .slice (some ad300) l0_10.length c0_10, .slice A0_11 l0_11.length c0_11] 64 (0, 0)) (by (with_reducible repeat (first | refine blk_drewN ?_ _ | refine blk_drew ?_ | refine blk_alloc ?_ _)); exact BK278.out) hb); have n1_ := Aside0.mk (blk_below (g := gb279) (o := .cells #[.int .i64 a0_4, .int .i64 a0_5, .int .i64 a0_6, .int .i64 a0_7, .int .i64 a0_8] 62 (0, 0)) (by (with_reducible repeat (first | refine blk_drewN ?_ _ | refine blk_drew ?_ | refine blk_alloc ?_ _)); exact BK279.out) hb); have n2_ := Aside0.mk (below_step (by repeat (first | (with_reducible first | exact HB.out | apply below_alloc | apply pw_below_drewN | apply below_drew1 | refine below_set ?_ GE278.out | refine below_set ?_ GE279.out) | exact HB.out)) hb); have n3_ := Aside0.mk (hbox); have n4_ := Aside0.mk ((by rw [hg]; exact (below_size (by repeat (first | (with_reducible first | exact HB.out | apply below_alloc | apply pw_below_drewN | apply below_drew1 | refine below_set ?_ GE278.out | refine below_set ?_ GE279.out) | exact HB.out))) : w.heap.size ≤ gb301)); have n5_ := Aside0.mk ((by rw [hg]; exact (below_size (by repeat (first | (with_reducible first | exact HB.out | apply below_alloc | apply pw_below_drewN | apply below_drew1 | refine below_set ?_ GE278.out | refine below_set ?_ GE279.out) | exact HB.out))) : w.heap.size ≤ gb301)); have n6_ := Aside0.mk ((by rw [hg]; exact Nat.ne_of_lt (blk_lt (g := gb278) (o := .cells #[.int .i64 a0_0, .int .i64 a0_1, .int .i64 a0_2, .int .i64 a0_3, .int .i64 a0_4, .int .i64 a0_5, .int .i64 a0_6, .int .i64 a0_7, .int .i64 a0_8, .slice A0_9 l0_9.length c0_9, .slice (some ad300) l0_10.length c0_10, .slice A0_11 l0_11.length c0_11] 64 (0, 0)) (by (with_reducible repeat (first | refine blk_drewN ?_ _ | refine blk_drew ?_ | refine blk_alloc ?_ _)); exact BK278.out)) : gb278 ≠ gb301)); have n7_ := Aside0.mk ((by rw [hg]; exact Nat.ne_of_gt (blk_lt (g := gb278) (o := .cells #[.int .i64 a0_0, .int .i64 a0_1, .int .i64 a0_2, .int .i64 a0_3, .int .i64 a0_4, .int .i64 a0_5, .int .i64 a0_6, .int .i64 a0_7, .int .i64 a0_8, .slice A0_9 l0_9.length c0_9, .slice (some ad300) l0_10.length c0_10, .slice A0_11 l0_11.length c0_11] 64 (0, 0)) (by (with_reducible repeat (first | refine blk_drewN ?_ _ | refine blk_drew ?_ | refine blk_alloc ?_ _)); exact BK278.out)) : gb301 ≠ gb278)); have n8_ := Aside0.mk ((by rw [hg]; exact Nat.ne_of_lt (blk_lt (g := gb279) (o := .cells #[.int .i64 a0_4, .int .i64 a0_5, .int .i64 a0_6, .int .i64 a0_7, .int .i64 a0_8] 62 (0, 0)) (by (with_reducible repeat (first | refine blk_drewN ?_ _ | refine blk_drew ?_ | refine blk_alloc ?_ _)); exact BK279.out)) : gb279 ≠ gb301)); have n9_ := Aside0.mk ((by rw [hg]; exact Nat.ne_of_gt (blk_lt (g := gb279) (o := .cells #[.int .i64 a0_4, .int .i64 a0_5, .int .i64 a0_6, .int .i64 a0_7, .int .i64 a0_8] 62 (0, 0)) (by (with_reducible repeat (first | refine blk_drewN ?_ _ | refine blk_drew ?_ | refine blk_alloc ?_ _)); exact BK279.out)) : gb301 ≠ gb279)); clear BK278; clear BK279; clear HB; have BK278 := n0_; have BK279 := n1_; have HB := n2_; have BK301 := n3_; have GW301 := n4_; have GE301 := n5_; have NB278_301 := n6_; have NB301_278 := n7_; have NB279_301 := n8_; have NB301_279 := n9_; clear n0_ n1_ n2_ n3_ n4_ n5_ n6_ n7_ n8_ n9_; clear hb hbox hg; have hnb109 := NB301_278.out; have hnc109 := NB278_301.out; have hnb110 := NB301_279.out; have hnc110 := NB279_301.out; have hcz111_0 : w108.cell? ⟨gb301, 0, none⟩ = some (.string (⟨#[]⟩ : ByteArray)) := (blk_cell BK301.out 0).trans rfl; have hcz111_1 : w108.cell? ⟨gb301, 1, none⟩ = some (.int .i64 0) := (blk_cell BK301.out 1).trans rfl; have hcz111_2 : w108.cell? ⟨gb301, 2, none⟩ = some (.int .i64 0) := (blk_cell BK301.out 2).trans rfl; have hfz111_0 := blk_frozen BK301.out 0; have hfz111_1 := blk_frozen BK301.out 1; have hfz111_2 := blk_frozen BK301.out 2)))
                 (try simp only [Act.put, List.setIfInBounds_toArray, List.set_cons_zero, List.set_cons_succ])
                 go_cut [139] (fun v139 wc => ∃ (kq : Nat) (x139_104 : Bool), v139 = .bool x139_104 ∧ Aside0 (gangerref10_Check.j7 kq x7_5 x139_104 a0_0 a0_1 a0_2 a0_3 a0_4 a0_5 a0_6 a0_7 a0_8 l0_9 l0_10 l0_11 ((rd_T59 l0_10 x7_5).f0) ((rd_T59 l0_10 x7_5).f1) ((rd_T59 l0_10 x7_5).f2) = some r) ∧ Aside0 (kq ≤ k5) ∧ Aside0 (wc.heap[gb278]? = some (.cells #[.int .i64 a0_0, .int .i64 a0_1, .int .i64 a0_2, .int .i64 a0_3, .int .i64 a0_4, .int .i64 a0_5, .int .i64 a0_6, .int .i64 a0_7, .int .i64 a0_8, (.slice A0_9 l0_9.length c0_9), (.slice (some ad300) l0_10.length c0_10), (.slice A0_11 l0_11.length c0_11)] 64 (0, 0))) ∧ Aside0 (wc.heap[gb279]? = some (.cells #[.int .i64 a0_4, .int .i64 a0_5, .int .i64 a0_6, .int .i64 a0_7, .int .i64 a0_8] 62 (0, 0))) ∧ Aside0 (wc.heap[gb301]? = some (.cells #[.string ((rd_T59 l0_10 x7_5).f0), .int .i64 ((rd_T59 l0_10 x7_5).f1), .int .i64 ((rd_T59 l0_10 x7_5).f2)] 59 (0, 0))) ∧ Aside0 (Below w.heap.size w wc))
                 case first =>
                  have H := HC105.out
                  clear HC105
                  replace H := Option.bind_eq_some_iff.mp H
                  obtain ⟨t302, A1120, H⟩ := H
                  replace H : (if t302 = true then ((gangerref10_out.f ((rd_T59 l0_10 x7_5).f1) 0 1048576).bind fun t303 => (if t303 = true then (gangerref10_Check.j7 k5 x7_5 true a0_0 a0_1 a0_2 a0_3 a0_4 a0_5 a0_6 a0_7 a0_8 l0_9 l0_10 l0_11 ((rd_T59 l0_10 x7_5).f0) ((rd_T59 l0_10 x7_5).f1) ((rd_T59 l0_10 x7_5).f2)) else ((gangerref10_out.f ((rd_T59 l0_10 x7_5).f2) 1 1048576).bind fun t304 => (gangerref10_Check.j7 k5 x7_5 t304 a0_0 a0_1 a0_2 a0_3 a0_4 a0_5 a0_6 a0_7 a0_8 l0_9 l0_10 l0_11 ((rd_T59 l0_10 x7_5).f0) ((rd_T59 l0_10 x7_5).f1) ((rd_T59 l0_10 x7_5).f2))))) else (gangerref10_Check.j7 k5 x7_5 true a0_0 a0_1 a0_2 a0_3 a0_4 a0_5 a0_6 a0_7 a0_8 l0_9 l0_10 l0_11 ((rd_T59 l0_10 x7_5).f0) ((rd_T59 l0_10 x7_5).f1) ((rd_T59 l0_10 x7_5).f2))) = some r := H
                  have A112 := Aside0.mk A1120
                  clear A1120
                  by_cases c113 : t302 = true
                  ·subst c113
                   have H1 : ((gangerref10_out.f ((rd_T59 l0_10 x7_5).f1) 0 1048576).bind fun t303 => (if t303 = true then (gangerref10_Check.j7 k5 x7_5 true a0_0 a0_1 a0_2 a0_3 a0_4 a0_5 a0_6 a0_7 a0_8 l0_9 l0_10 l0_11 ((rd_T59 l0_10 x7_5).f0) ((rd_T59 l0_10 x7_5).f1) ((rd_T59 l0_10 x7_5).f2)) else ((gangerref10_out.f ((rd_T59 l0_10 x7_5).f2) 1 1048576).bind fun t304 => (gangerref10_Check.j7 k5 x7_5 t304 a0_0 a0_1 a0_2 a0_3 a0_4 a0_5 a0_6 a0_7 a0_8 l0_9 l0_10 l0_11 ((rd_T59 l0_10 x7_5).f0) ((rd_T59 l0_10 x7_5).f1) ((rd_T59 l0_10 x7_5).f2))))) = some r := by rw [if_pos rfl] at H; exact H
                   clear H
                   have H := H1
                   clear H1
                   replace H := Option.bind_eq_some_iff.mp H
                   obtain ⟨t303, A1140, H⟩ := H
                   replace H : (if t303 = true then (gangerref10_Check.j7 k5 x7_5 true a0_0 a0_1 a0_2 a0_3 a0_4 a0_5 a0_6 a0_7 a0_8 l0_9 l0_10 l0_11 ((rd_T59 l0_10 x7_5).f0) ((rd_T59 l0_10 x7_5).f1) ((rd_T59 l0_10 x7_5).f2)) else ((gangerref10_out.f ((rd_T59 l0_10 x7_5).f2) 1 1048576).bind fun t304 => (gangerref10_Check.j7 k5 x7_5 t304 a0_0 a0_1 a0_2 a0_3 a0_4 a0_5 a0_6 a0_7 a0_8 l0_9 l0_10 l0_11 ((rd_T59 l0_10 x7_5).f0) ((rd_T59 l0_10 x7_5).f1) ((rd_T59 l0_10 x7_5).f2)))) = some r := H
                   have A114 := Aside0.mk A1140
                   clear A1140
                   by_cases c115 : t303 = true
                   ·subst c115
                    have H1 : (gangerref10_Check.j7 k5 x7_5 true a0_0 a0_1 a0_2 a0_3 a0_4 a0_5 a0_6 a0_7 a0_8 l0_9 l0_10 l0_11 ((rd_T59 l0_10 x7_5).f0) ((rd_T59 l0_10 x7_5).f1) ((rd_T59 l0_10 x7_5).f2)) = some r := by rw [if_pos rfl] at H; exact H
                    clear H
                    have H := H1
                    clear H1
                    have H' := Aside0.mk H
                    clear H
                    have hnb116 := NB301_278.out
                    have hnc116 := NB278_301.out
                    have hnb117 := NB301_279.out
                    have hnc117 := NB279_301.out
                    have hcz118_0 : w108.cell? ⟨gb301, 0, none⟩ = some (.string (⟨#[]⟩ : ByteArray)) := (blk_cell BK301.out 0).trans rfl
                    have hcz118_1 : w108.cell? ⟨gb301, 1, none⟩ = some (.int .i64 0) := (blk_cell BK301.out 1).trans rfl
                    have hcz118_2 : w108.cell? ⟨gb301, 2, none⟩ = some (.int .i64 0) := (blk_cell BK301.out 2).trans rfl
                    have hfz118_0 := blk_frozen BK301.out 0
                    have hfz118_1 := blk_frozen BK301.out 1
                    have hfz118_2 := blk_frozen BK301.out 2
                    go_wp2_with (first | (go_at_call 47; (with_reducible refine (gangerref09_Name.calls k5 ((rd_T59 l0_10 x7_5).f0) true _ A112.out).mono ?_); rintro e w' ⟨rfl, ⟨nd, rfl⟩⟩; (try first | exact ⟨rfl, _, World.drewN_drewN _ _ _⟩ | exact ⟨rfl, _, Eq.trans (World.drewN_drewN _ _ _) (congrArg (World.drewN _) (Nat.add_assoc _ _ _))⟩)) | (go_at_call 46; (with_reducible refine (gangerref10_out.calls ((rd_T59 l0_10 x7_5).f1) 0 1048576 true _ A114.out).mono ?_); rintro e w' ⟨rfl, ⟨nd, rfl⟩⟩; (try first | exact ⟨rfl, _, World.drewN_drewN _ _ _⟩ | exact ⟨rfl, _, Eq.trans (World.drewN_drewN _ _ _) (congrArg (World.drewN _) (Nat.add_assoc _ _ _))⟩)))
                    repeat (go_quiet (first | (go_at_call 47; (with_reducible refine (gangerref09_Name.calls k5 ((rd_T59 l0_10 x7_5).f0) true _ A112.out).mono ?_); rintro e w' ⟨rfl, ⟨nd, rfl⟩⟩; (try first | exact ⟨rfl, _, World.drewN_drewN _ _ _⟩ | exact ⟨rfl, _, Eq.trans (World.drewN_drewN _ _ _) (congrArg (World.drewN _) (Nat.add_assoc _ _ _))⟩)) | (go_at_call 46; (with_reducible refine (gangerref10_out.calls ((rd_T59 l0_10 x7_5).f1) 0 1048576 true _ A114.out).mono ?_); rintro e w' ⟨rfl, ⟨nd, rfl⟩⟩; (try first | exact ⟨rfl, _, World.drewN_drewN _ _ _⟩ | exact ⟨rfl, _, Eq.trans (World.drewN_drewN _ _ _) (congrArg (World.drewN _) (Nat.add_assoc _ _ _))⟩))); try go_wp2_with (first | (go_at_call 47; (with_reducible refine (gangerref09_Name.calls k5 ((rd_T59 l0_10 x7_5).f0) true _ A112.out).mono ?_); rintro e w' ⟨rfl, ⟨nd, rfl⟩⟩; (try first | exact ⟨rfl, _, World.drewN_drewN _ _ _⟩ | exact ⟨rfl, _, Eq.trans (World.drewN_drewN _ _ _) (congrArg (World.drewN _) (Nat.add_assoc _ _ _))⟩)) | (go_at_call 46; (with_reducible refine (gangerref10_out.calls ((rd_T59 l0_10 x7_5).f1) 0 1048576 true _ A114.out).mono ?_); rintro e w' ⟨rfl, ⟨nd, rfl⟩⟩; (try first | exact ⟨rfl, _, World.drewN_drewN _ _ _⟩ | exact ⟨rfl, _, Eq.trans (World.drewN_drewN _ _ _) (congrArg (World.drewN _) (Nat.add_assoc _ _ _))⟩))))
                    go_meet
                    case rel => exact ⟨_, (true), (by first | rfl | (simp; done) | (simp [*]; done)), H', ⟨by have := HJ1.out; have := HJ27.out; have := HJ44.out; have := HK4.out; have := HK5.out; first | omega | exact Nat.le_refl _⟩, ⟨by (with_reducible repeat (first | refine blk_drewN ?_ _ | refine blk_drew ?_ | refine blk_alloc ?_ _)); refine blk_far ?_ NB278_301.out _; (with_reducible repeat (first | refine blk_drewN ?_ _ | refine blk_drew ?_ | refine blk_alloc ?_ _)); refine blk_far ?_ NB278_301.out _; (with_reducible repeat (first | refine blk_drewN ?_ _ | refine blk_drew ?_ | refine blk_alloc ?_ _)); refine blk_far ?_ NB278_301.out _; (with_reducible repeat (first | refine blk_drewN ?_ _ | refine blk_drew ?_ | refine blk_alloc ?_ _)); exact BK278.out⟩, ⟨by (with_reducible repeat (first | refine blk_drewN ?_ _ | refine blk_drew ?_ | refine blk_alloc ?_ _)); refine blk_far ?_ NB279_301.out _; (with_reducible repeat (first | refine blk_drewN ?_ _ | refine blk_drew ?_ | refine blk_alloc ?_ _)); refine blk_far ?_ NB279_301.out _; (with_reducible repeat (first | refine blk_drewN ?_ _ | refine blk_drew ?_ | refine blk_alloc ?_ _)); refine blk_far ?_ NB279_301.out _; (with_reducible repeat (first | refine blk_drewN ?_ _ | refine blk_drew ?_ | refine blk_alloc ?_ _)); exact BK279.out⟩, ⟨by (with_reducible repeat (first | refine blk_drewN ?_ _ | refine blk_drew ?_ | refine blk_alloc ?_ _)); refine blk_put (cs := #[.string ((rd_T59 l0_10 x7_5).f0), .int .i64 ((rd_T59 l0_10 x7_5).f1), .int .i64 0]) ?_ 2 _ rfl; (with_reducible repeat (first | refine blk_drewN ?_ _ | refine blk_drew ?_ | refine blk_alloc ?_ _)); refine blk_put (cs := #[.string ((rd_T59 l0_10 x7_5).f0), .int .i64 0, .int .i64 0]) ?_ 1 _ rfl; (with_reducible repeat (first | refine blk_drewN ?_ _ | refine blk_drew ?_ | refine blk_alloc ?_ _)); refine blk_put (cs := #[.string (⟨#[]⟩ : ByteArray), .int .i64 0, .int .i64 0]) ?_ 0 _ rfl; (with_reducible repeat (first | refine blk_drewN ?_ _ | refine blk_drew ?_ | refine blk_alloc ?_ _)); exact BK301.out⟩, ⟨by repeat (first | (with_reducible first | exact HB.out | apply below_alloc | apply pw_below_drewN | apply below_drew1 | refine below_set ?_ GE278.out | refine below_set ?_ GE279.out | refine below_set ?_ GE301.out) | exact HB.out)⟩⟩
                   ·replace c115 := Bool.eq_false_iff.mpr c115
                    subst c115
                    have H1 : ((gangerref10_out.f ((rd_T59 l0_10 x7_5).f2) 1 1048576).bind fun t304 => (gangerref10_Check.j7 k5 x7_5 t304 a0_0 a0_1 a0_2 a0_3 a0_4 a0_5 a0_6 a0_7 a0_8 l0_9 l0_10 l0_11 ((rd_T59 l0_10 x7_5).f0) ((rd_T59 l0_10 x7_5).f1) ((rd_T59 l0_10 x7_5).f2))) = some r := by rw [if_neg (show ¬ (false = true) by decide)] at H; exact H
                    clear H
                    have H := H1
                    clear H1
                    replace H := Option.bind_eq_some_iff.mp H
                    obtain ⟨t304, A1190, H⟩ := H
                    replace H : (gangerref10_Check.j7 k5 x7_5 t304 a0_0 a0_1 a0_2 a0_3 a0_4 a0_5 a0_6 a0_7 a0_8 l0_9 l0_10 l0_11 ((rd_T59 l0_10 x7_5).f0) ((rd_T59 l0_10 x7_5).f1) ((rd_T59 l0_10 x7_5).f2)) = some r := H
                    have A119 := Aside0.mk A1190
                    clear A1190
                    have H' := Aside0.mk H
                    clear H
                    have hnb120 := NB301_278.out
                    have hnc120 := NB278_301.out
                    have hnb121 := NB301_279.out
                    have hnc121 := NB279_301.out
                    have hcz122_0 : w108.cell? ⟨gb301, 0, none⟩ = some (.string (⟨#[]⟩ : ByteArray)) := (blk_cell BK301.out 0).trans rfl
                    have hcz122_1 : w108.cell? ⟨gb301, 1, none⟩ = some (.int .i64 0) := (blk_cell BK301.out 1).trans rfl
                    have hcz122_2 : w108.cell? ⟨gb301, 2, none⟩ = some (.int .i64 0) := (blk_cell BK301.out 2).trans rfl
                    have hfz122_0 := blk_frozen BK301.out 0
                    have hfz122_1 := blk_frozen BK301.out 1
                    have hfz122_2 := blk_frozen BK301.out 2
                    go_wp2_with (first | (go_at_call 47; (with_reducible refine (gangerref09_Name.calls k5 ((rd_T59 l0_10 x7_5).f0) true _ A112.out).mono ?_); rintro e w' ⟨rfl, ⟨nd, rfl⟩⟩; (try first | exact ⟨rfl, _, World.drewN_drewN _ _ _⟩ | exact ⟨rfl, _, Eq.trans (World.drewN_drewN _ _ _) (congrArg (World.drewN _) (Nat.add_assoc _ _ _))⟩)) | (go_at_call 46; (with_reducible refine (gangerref10_out.calls ((rd_T59 l0_10 x7_5).f1) 0 1048576 false _ A114.out).mono ?_); rintro e w' ⟨rfl, ⟨nd, rfl⟩⟩; (try first | exact ⟨rfl, _, World.drewN_drewN _ _ _⟩ | exact ⟨rfl, _, Eq.trans (World.drewN_drewN _ _ _) (congrArg (World.drewN _) (Nat.add_assoc _ _ _))⟩)) | (go_at_call 46; (with_reducible refine (gangerref10_out.calls ((rd_T59 l0_10 x7_5).f2) 1 1048576 t304 _ A119.out).mono ?_); rintro e w' ⟨rfl, ⟨nd, rfl⟩⟩; (try first | exact ⟨rfl, _, World.drewN_drewN _ _ _⟩ | exact ⟨rfl, _, Eq.trans (World.drewN_drewN _ _ _) (congrArg (World.drewN _) (Nat.add_assoc _ _ _))⟩)))
                    repeat (go_quiet (first | (go_at_call 47; (with_reducible refine (gangerref09_Name.calls k5 ((rd_T59 l0_10 x7_5).f0) true _ A112.out).mono ?_); rintro e w' ⟨rfl, ⟨nd, rfl⟩⟩; (try first | exact ⟨rfl, _, World.drewN_drewN _ _ _⟩ | exact ⟨rfl, _, Eq.trans (World.drewN_drewN _ _ _) (congrArg (World.drewN _) (Nat.add_assoc _ _ _))⟩)) | (go_at_call 46; (with_reducible refine (gangerref10_out.calls ((rd_T59 l0_10 x7_5).f1) 0 1048576 false _ A114.out).mono ?_); rintro e w' ⟨rfl, ⟨nd, rfl⟩⟩; (try first | exact ⟨rfl, _, World.drewN_drewN _ _ _⟩ | exact ⟨rfl, _, Eq.trans (World.drewN_drewN _ _ _) (congrArg (World.drewN _) (Nat.add_assoc _ _ _))⟩)) | (go_at_call 46; (with_reducible refine (gangerref10_out.calls ((rd_T59 l0_10 x7_5).f2) 1 1048576 t304 _ A119.out).mono ?_); rintro e w' ⟨rfl, ⟨nd, rfl⟩⟩; (try first | exact ⟨rfl, _, World.drewN_drewN _ _ _⟩ | exact ⟨rfl, _, Eq.trans (World.drewN_drewN _ _ _) (congrArg (World.drewN _) (Nat.add_assoc _ _ _))⟩))); try go_wp2_with (first | (go_at_call 47; (with_reducible refine (gangerref09_Name.calls k5 ((rd_T59 l0_10 x7_5).f0) true _ A112.out).mono ?_); rintro e w' ⟨rfl, ⟨nd, rfl⟩⟩; (try first | exact ⟨rfl, _, World.drewN_drewN _ _ _⟩ | exact ⟨rfl, _, Eq.trans (World.drewN_drewN _ _ _) (congrArg (World.drewN _) (Nat.add_assoc _ _ _))⟩)) | (go_at_call 46; (with_reducible refine (gangerref10_out.calls ((rd_T59 l0_10 x7_5).f1) 0 1048576 false _ A114.out).mono ?_); rintro e w' ⟨rfl, ⟨nd, rfl⟩⟩; (try first | exact ⟨rfl, _, World.drewN_drewN _ _ _⟩ | exact ⟨rfl, _, Eq.trans (World.drewN_drewN _ _ _) (congrArg (World.drewN _) (Nat.add_assoc _ _ _))⟩)) | (go_at_call 46; (with_reducible refine (gangerref10_out.calls ((rd_T59 l0_10 x7_5).f2) 1 1048576 t304 _ A119.out).mono ?_); rintro e w' ⟨rfl, ⟨nd, rfl⟩⟩; (try first | exact ⟨rfl, _, World.drewN_drewN _ _ _⟩ | exact ⟨rfl, _, Eq.trans (World.drewN_drewN _ _ _) (congrArg (World.drewN _) (Nat.add_assoc _ _ _))⟩))))
                    go_meet
                    case rel => exact ⟨_, (t304), (by first | rfl | (simp; done) | (simp [*]; done)), H', ⟨by have := HJ1.out; have := HJ27.out; have := HJ44.out; have := HK4.out; have := HK5.out; first | omega | exact Nat.le_refl _⟩, ⟨by (with_reducible repeat (first | refine blk_drewN ?_ _ | refine blk_drew ?_ | refine blk_alloc ?_ _)); refine blk_far ?_ NB278_301.out _; (with_reducible repeat (first | refine blk_drewN ?_ _ | refine blk_drew ?_ | refine blk_alloc ?_ _)); refine blk_far ?_ NB278_301.out _; (with_reducible repeat (first | refine blk_drewN ?_ _ | refine blk_drew ?_ | refine blk_alloc ?_ _)); refine blk_far ?_ NB278_301.out _; (with_reducible repeat (first | refine blk_drewN ?_ _ | refine blk_drew ?_ | refine blk_alloc ?_ _)); exact BK278.out⟩, ⟨by (with_reducible repeat (first | refine blk_drewN ?_ _ | refine blk_drew ?_ | refine blk_alloc ?_ _)); refine blk_far ?_ NB279_301.out _; (with_reducible repeat (first | refine blk_drewN ?_ _ | refine blk_drew ?_ | refine blk_alloc ?_ _)); refine blk_far ?_ NB279_301.out _; (with_reducible repeat (first | refine blk_drewN ?_ _ | refine blk_drew ?_ | refine blk_alloc ?_ _)); refine blk_far ?_ NB279_301.out _; (with_reducible repeat (first | refine blk_drewN ?_ _ | refine blk_drew ?_ | refine blk_alloc ?_ _)); exact BK279.out⟩, ⟨by (with_reducible repeat (first | refine blk_drewN ?_ _ | refine blk_drew ?_ | refine blk_alloc ?_ _)); refine blk_put (cs := #[.string ((rd_T59 l0_10 x7_5).f0), .int .i64 ((rd_T59 l0_10 x7_5).f1), .int .i64 0]) ?_ 2 _ rfl; (with_reducible repeat (first | refine blk_drewN ?_ _ | refine blk_drew ?_ | refine blk_alloc ?_ _)); refine blk_put (cs := #[.string ((rd_T59 l0_10 x7_5).f0), .int .i64 0, .int .i64 0]) ?_ 1 _ rfl; (with_reducible repeat (first | refine blk_drewN ?_ _ | refine blk_drew ?_ | refine blk_alloc ?_ _)); refine blk_put (cs := #[.string (⟨#[]⟩ : ByteArray), .int .i64 0, .int .i64 0]) ?_ 0 _ rfl; (with_reducible repeat (first | refine blk_drewN ?_ _ | refine blk_drew ?_ | refine blk_alloc ?_ _)); exact BK301.out⟩, ⟨by repeat (first | (with_reducible first | exact HB.out | apply below_alloc | apply pw_below_drewN | apply below_drew1 | refine below_set ?_ GE278.out | refine below_set ?_ GE279.out | refine below_set ?_ GE301.out) | exact HB.out)⟩⟩
                  ·replace c113 := Bool.eq_false_iff.mpr c113
                   subst c113
                   have H1 : (gangerref10_Check.j7 k5 x7_5 true a0_0 a0_1 a0_2 a0_3 a0_4 a0_5 a0_6 a0_7 a0_8 l0_9 l0_10 l0_11 ((rd_T59 l0_10 x7_5).f0) ((rd_T59 l0_10 x7_5).f1) ((rd_T59 l0_10 x7_5).f2)) = some r := by rw [if_neg (show ¬ (false = true) by decide)] at H; exact H
                   clear H
                   have H := H1
                   clear H1
                   have H' := Aside0.mk H
                   clear H
                   have hnb123 := NB301_278.out
                   have hnc123 := NB278_301.out
                   have hnb124 := NB301_279.out
                   have hnc124 := NB279_301.out
                   have hcz125_0 : w108.cell? ⟨gb301, 0, none⟩ = some (.string (⟨#[]⟩ : ByteArray)) := (blk_cell BK301.out 0).trans rfl
                   have hcz125_1 : w108.cell? ⟨gb301, 1, none⟩ = some (.int .i64 0) := (blk_cell BK301.out 1).trans rfl
                   have hcz125_2 : w108.cell? ⟨gb301, 2, none⟩ = some (.int .i64 0) := (blk_cell BK301.out 2).trans rfl
                   have hfz125_0 := blk_frozen BK301.out 0
                   have hfz125_1 := blk_frozen BK301.out 1
                   have hfz125_2 := blk_frozen BK301.out 2
                   go_wp2_with (first | (go_at_call 47; (with_reducible refine (gangerref09_Name.calls k5 ((rd_T59 l0_10 x7_5).f0) false _ A112.out).mono ?_); rintro e w' ⟨rfl, ⟨nd, rfl⟩⟩; (try first | exact ⟨rfl, _, World.drewN_drewN _ _ _⟩ | exact ⟨rfl, _, Eq.trans (World.drewN_drewN _ _ _) (congrArg (World.drewN _) (Nat.add_assoc _ _ _))⟩)))
                   repeat (go_quiet (first | (go_at_call 47; (with_reducible refine (gangerref09_Name.calls k5 ((rd_T59 l0_10 x7_5).f0) false _ A112.out).mono ?_); rintro e w' ⟨rfl, ⟨nd, rfl⟩⟩; (try first | exact ⟨rfl, _, World.drewN_drewN _ _ _⟩ | exact ⟨rfl, _, Eq.trans (World.drewN_drewN _ _ _) (congrArg (World.drewN _) (Nat.add_assoc _ _ _))⟩))); try go_wp2_with (first | (go_at_call 47; (with_reducible refine (gangerref09_Name.calls k5 ((rd_T59 l0_10 x7_5).f0) false _ A112.out).mono ?_); rintro e w' ⟨rfl, ⟨nd, rfl⟩⟩; (try first | exact ⟨rfl, _, World.drewN_drewN _ _ _⟩ | exact ⟨rfl, _, Eq.trans (World.drewN_drewN _ _ _) (congrArg (World.drewN _) (Nat.add_assoc _ _ _))⟩))))
                   go_meet
                   case rel => exact ⟨_, (true), (by first | rfl | (simp; done) | (simp [*]; done)), H', ⟨by have := HJ1.out; have := HJ27.out; have := HJ44.out; have := HK4.out; have := HK5.out; first | omega | exact Nat.le_refl _⟩, ⟨by (with_reducible repeat (first | refine blk_drewN ?_ _ | refine blk_drew ?_ | refine blk_alloc ?_ _)); refine blk_far ?_ NB278_301.out _; (with_reducible repeat (first | refine blk_drewN ?_ _ | refine blk_drew ?_ | refine blk_alloc ?_ _)); refine blk_far ?_ NB278_301.out _; (with_reducible repeat (first | refine blk_drewN ?_ _ | refine blk_drew ?_ | refine blk_alloc ?_ _)); refine blk_far ?_ NB278_301.out _; (with_reducible repeat (first | refine blk_drewN ?_ _ | refine blk_drew ?_ | refine blk_alloc ?_ _)); exact BK278.out⟩, ⟨by (with_reducible repeat (first | refine blk_drewN ?_ _ | refine blk_drew ?_ | refine blk_alloc ?_ _)); refine blk_far ?_ NB279_301.out _; (with_reducible repeat (first | refine blk_drewN ?_ _ | refine blk_drew ?_ | refine blk_alloc ?_ _)); refine blk_far ?_ NB279_301.out _; (with_reducible repeat (first | refine blk_drewN ?_ _ | refine blk_drew ?_ | refine blk_alloc ?_ _)); refine blk_far ?_ NB279_301.out _; (with_reducible repeat (first | refine blk_drewN ?_ _ | refine blk_drew ?_ | refine blk_alloc ?_ _)); exact BK279.out⟩, ⟨by (with_reducible repeat (first | refine blk_drewN ?_ _ | refine blk_drew ?_ | refine blk_alloc ?_ _)); refine blk_put (cs := #[.string ((rd_T59 l0_10 x7_5).f0), .int .i64 ((rd_T59 l0_10 x7_5).f1), .int .i64 0]) ?_ 2 _ rfl; (with_reducible repeat (first | refine blk_drewN ?_ _ | refine blk_drew ?_ | refine blk_alloc ?_ _)); refine blk_put (cs := #[.string ((rd_T59 l0_10 x7_5).f0), .int .i64 0, .int .i64 0]) ?_ 1 _ rfl; (with_reducible repeat (first | refine blk_drewN ?_ _ | refine blk_drew ?_ | refine blk_alloc ?_ _)); refine blk_put (cs := #[.string (⟨#[]⟩ : ByteArray), .int .i64 0, .int .i64 0]) ?_ 0 _ rfl; (with_reducible repeat (first | refine blk_drewN ?_ _ | refine blk_drew ?_ | refine blk_alloc ?_ _)); exact BK301.out⟩, ⟨by repeat (first | (with_reducible first | exact HB.out | apply below_alloc | apply pw_below_drewN | apply below_drew1 | refine below_set ?_ GE278.out | refine below_set ?_ GE279.out | refine below_set ?_ GE301.out) | exact HB.out)⟩⟩
                 case rest =>
                  clear HC105
                  obtain ⟨kq, x139_104, rfl, HA, HJ104, BK278, BK279, BK301, HB⟩ := hcut
                  cases kq with
                  | zero => exact absurd HA.out (by simp [gangerref10_Check.j7])
                  | succ kj104 =>
                   have H := HA.out
                   clear HA
                   simp only [gangerref10_Check.j7] at H
                   by_cases c126 : x139_104 = true
                   ·subst c126
                    have H1 : (some 100) = some r := by rw [if_pos rfl] at H; exact H
                    clear H
                    have H := H1
                    clear H1
                    obtain rfl := Option.some.inj H
                    go_wp2
                    repeat (go_quiet (fail); try go_wp2)
                    go_ret
                    exact ⟨by first | rfl | (simp [errW_none, errW_some] <;> rfl) | (simp [*, errW_none, errW_some] <;> rfl), by repeat (first | (with_reducible first | exact HB.out | apply below_alloc | apply pw_below_drewN | apply below_drew1 | refine below_set ?_ GE278.out | refine below_set ?_ GE279.out | refine below_set ?_ GE301.out) | exact HB.out)⟩
                   ·replace c126 := Bool.eq_false_iff.mpr c126
                    subst c126
                    have H1 : (gangerref10_Check.l3 kj104 x7_5 0 a0_0 a0_1 a0_2 a0_3 a0_4 a0_5 a0_6 a0_7 a0_8 l0_9 l0_10 l0_11 ((rd_T59 l0_10 x7_5).f0) ((rd_T59 l0_10 x7_5).f1) ((rd_T59 l0_10 x7_5).f2)) = some r := by rw [if_neg (show ¬ (false = true) by decide)] at H; exact H
                    clear H
                    have H := H1
                    clear H1
                    have H' := Aside0.mk H
                    clear H
                    go_wp2
                    repeat (go_quiet (fail); try go_wp2)
                    go_loopg [9] kj104 (fun kq v9 w' => ∃ (x9_7 : Int), v9 = .int .i64 x9_7 ∧ Aside0 (gangerref10_Check.l3 kq x7_5 x9_7 a0_0 a0_1 a0_2 a0_3 a0_4 a0_5 a0_6 a0_7 a0_8 l0_9 l0_10 l0_11 ((rd_T59 l0_10 x7_5).f0) ((rd_T59 l0_10 x7_5).f1) ((rd_T59 l0_10 x7_5).f2) = some r) ∧ Aside0 (kq ≤ kj104) ∧ Aside0 (w'.heap[gb278]? = some (.cells #[.int .i64 a0_0, .int .i64 a0_1, .int .i64 a0_2, .int .i64 a0_3, .int .i64 a0_4, .int .i64 a0_5, .int .i64 a0_6, .int .i64 a0_7, .int .i64 a0_8, (.slice A0_9 l0_9.length c0_9), (.slice (some ad300) l0_10.length c0_10), (.slice A0_11 l0_11.length c0_11)] 64 (0, 0))) ∧ Aside0 (w'.heap[gb279]? = some (.cells #[.int .i64 a0_4, .int .i64 a0_5, .int .i64 a0_6, .int .i64 a0_7, .int .i64 a0_8] 62 (0, 0))) ∧ Aside0 (w'.heap[gb301]? = some (.cells #[.string ((rd_T59 l0_10 x7_5).f0), .int .i64 ((rd_T59 l0_10 x7_5).f1), .int .i64 ((rd_T59 l0_10 x7_5).f2)] 59 (0, 0))) ∧ Aside0 (Below w.heap.size w w'))
                    case atStart => exact ⟨(0), (by first | rfl | (simp; done) | (simp [*]; done)), H', ⟨Nat.le_refl _⟩, ⟨by (with_reducible repeat (first | refine blk_drewN ?_ _ | refine blk_drew ?_ | refine blk_alloc ?_ _)); exact BK278.out⟩, ⟨by (with_reducible repeat (first | refine blk_drewN ?_ _ | refine blk_drew ?_ | refine blk_alloc ?_ _)); exact BK279.out⟩, ⟨by (with_reducible repeat (first | refine blk_drewN ?_ _ | refine blk_drew ?_ | refine blk_alloc ?_ _)); exact BK301.out⟩, ⟨by repeat (first | (with_reducible first | exact HB.out | apply below_alloc | apply pw_below_drewN | apply below_drew1 | refine below_set ?_ GE278.out | refine below_set ?_ GE279.out | refine below_set ?_ GE301.out) | exact HB.out)⟩⟩
                    case round =>
                     clear H'
                     obtain ⟨x9_7, rfl, HA, HK7, BK278, BK279, BK301, HB⟩ := hrel
                     cases gk with
                     | zero => exact absurd HA.out (by simp [gangerref10_Check.l3])
                     | succ k7 =>
                      have H := HA.out
                      clear HA
                      simp only [gangerref10_Check.l3] at H
                      by_cases c127 : x9_7 < x7_5
                      ·rw [if_pos c127] at H
                       have c127b0 : decide (x9_7 < x7_5) = true := decide_eq_true c127
                       clear c127
                       by_cases c128 : 0 ≤ x9_7
                       ·rw [if_pos c128] at H
                        have c128b0 : decide (0 ≤ x9_7) = true := decide_eq_true c128
                        clear c128
                        by_cases c129 : x9_7 < (l0_10.length : Int)
                        ·rw [if_pos c129] at H
                         have c129b0 : decide (x9_7 < (l0_10.length : Int)) = true := decide_eq_true c129
                         clear c129
                         by_cases c130 : ((rd_T59 l0_10 x9_7).f0).toList = ((rd_T59 l0_10 x7_5).f0).toList
                         ·rw [if_pos c130] at H
                          have c130b0 : (((rd_T59 l0_10 x9_7).f0).toList == ((rd_T59 l0_10 x7_5).f0).toList) = true := beq_iff_eq.mpr c130
                          have c130b1 : (((rd_T59 l0_10 x9_7).f0).toList != ((rd_T59 l0_10 x7_5).f0).toList) = false := bne_eq_false_iff_eq.mpr c130
                          clear c130
                          obtain rfl := Option.some.inj H
                          have hnb131 := NB278_279.out
                          have hnc131 := NB279_278.out
                          have hnb132 := NB278_301.out
                          have hnc132 := NB301_278.out
                          have hcz133_0 : wr.cell? ⟨gb278, 0, none⟩ = some (.int .i64 a0_0) := (blk_cell BK278.out 0).trans rfl
                          have hcz133_1 : wr.cell? ⟨gb278, 1, none⟩ = some (.int .i64 a0_1) := (blk_cell BK278.out 1).trans rfl
                          have hcz133_2 : wr.cell? ⟨gb278, 2, none⟩ = some (.int .i64 a0_2) := (blk_cell BK278.out 2).trans rfl
                          have hcz133_3 : wr.cell? ⟨gb278, 3, none⟩ = some (.int .i64 a0_3) := (blk_cell BK278.out 3).trans rfl
                          have hcz133_4 : wr.cell? ⟨gb278, 4, none⟩ = some (.int .i64 a0_4) := (blk_cell BK278.out 4).trans rfl
                          have hcz133_5 : wr.cell? ⟨gb278, 5, none⟩ = some (.int .i64 a0_5) := (blk_cell BK278.out 5).trans rfl
                          have hcz133_6 : wr.cell? ⟨gb278, 6, none⟩ = some (.int .i64 a0_6) := (blk_cell BK278.out 6).trans rfl
                          have hcz133_7 : wr.cell? ⟨gb278, 7, none⟩ = some (.int .i64 a0_7) := (blk_cell BK278.out 7).trans rfl
                          have hcz133_8 : wr.cell? ⟨gb278, 8, none⟩ = some (.int .i64 a0_8) := (blk_cell BK278.out 8).trans rfl
                          have hcz133_9 : wr.cell? ⟨gb278, 9, none⟩ = some (.slice A0_9 l0_9.length c0_9) := (blk_cell BK278.out 9).trans rfl
                          have hcz133_10 : wr.cell? ⟨gb278, 10, none⟩ = some (.slice (some ad300) l0_10.length c0_10) := (blk_cell BK278.out 10).trans rfl
                          have hcz133_11 : wr.cell? ⟨gb278, 11, none⟩ = some (.slice A0_11 l0_11.length c0_11) := (blk_cell BK278.out 11).trans rfl
                          have hfz133_0 := blk_frozen BK278.out 0
                          have hfz133_1 := blk_frozen BK278.out 1
                          have hfz133_2 := blk_frozen BK278.out 2
                          have hfz133_3 := blk_frozen BK278.out 3
                          have hfz133_4 := blk_frozen BK278.out 4
                          have hfz133_5 := blk_frozen BK278.out 5
                          have hfz133_6 := blk_frozen BK278.out 6
                          have hfz133_7 := blk_frozen BK278.out 7
                          have hfz133_8 := blk_frozen BK278.out 8
                          have hfz133_9 := blk_frozen BK278.out 9
                          have hfz133_10 := blk_frozen BK278.out 10
                          have hfz133_11 := blk_frozen BK278.out 11
                          have p305 : 0 ≤ (x9_7 : Int) := of_decide_eq_true (by first | (with_reducible assumption) | assumption)
                          have q305 : x9_7 < (l0_10.length : Int) := of_decide_eq_true (by first | (with_reducible assumption) | assumption)
                          obtain ⟨ad305, e305, hx305_0, hx305_1, hx305_2⟩ := at_T59 HR0_10.out x9_7 p305 q305
                          obtain rfl : ad300 = ad305 := (by injection e305)
                          replace hx305_0 := (HB.out.cell (World.block_lt_of_cell? w _ hx305_0)).trans hx305_0
                          replace hx305_1 := (HB.out.cell (World.block_lt_of_cell? w _ hx305_1)).trans hx305_1
                          replace hx305_2 := (HB.out.cell (World.block_lt_of_cell? w _ hx305_2)).trans hx305_2
                          replace p305 := eq_true p305
                          replace q305 := eq_true q305
                          have hnb134 := NB301_279.out
                          have hnc134 := NB279_301.out
                          have hcz135_0 : wr.cell? ⟨gb301, 0, none⟩ = some (.string ((rd_T59 l0_10 x7_5).f0)) := (blk_cell BK301.out 0).trans rfl
                          have hcz135_1 : wr.cell? ⟨gb301, 1, none⟩ = some (.int .i64 ((rd_T59 l0_10 x7_5).f1)) := (blk_cell BK301.out 1).trans rfl
                          have hcz135_2 : wr.cell? ⟨gb301, 2, none⟩ = some (.int .i64 ((rd_T59 l0_10 x7_5).f2)) := (blk_cell BK301.out 2).trans rfl
                          have hfz135_0 := blk_frozen BK301.out 0
                          have hfz135_1 := blk_frozen BK301.out 1
                          have hfz135_2 := blk_frozen BK301.out 2
                          go_wp2
                          repeat (go_quiet (fail); try go_wp2)
                          go_ret
                          exact ⟨by first | rfl | (simp [errW_none, errW_some] <;> rfl) | (simp [*, errW_none, errW_some] <;> rfl), by repeat (first | (with_reducible first | exact HB.out | apply below_alloc | apply pw_below_drewN | apply below_drew1 | refine below_set ?_ GE278.out | refine below_set ?_ GE279.out | refine below_set ?_ GE301.out) | exact HB.out)⟩
                         ·rw [if_neg c130] at H
                          have c130b0 : (((rd_T59 l0_10 x9_7).f0).toList == ((rd_T59 l0_10 x7_5).f0).toList) = false := beq_eq_false_iff_ne.mpr c130
                          have c130b1 : (((rd_T59 l0_10 x9_7).f0).toList != ((rd_T59 l0_10 x7_5).f0).toList) = true := bne_iff_ne.mpr c130
                          have H' := Aside0.mk H
                          clear H
                          have hnb136 := NB278_279.out
                          have hnc136 := NB279_278.out
                          have hnb137 := NB278_301.out
                          have hnc137 := NB301_278.out
                          have hcz138_0 : wr.cell? ⟨gb278, 0, none⟩ = some (.int .i64 a0_0) := (blk_cell BK278.out 0).trans rfl
                          have hcz138_1 : wr.cell? ⟨gb278, 1, none⟩ = some (.int .i64 a0_1) := (blk_cell BK278.out 1).trans rfl
                          have hcz138_2 : wr.cell? ⟨gb278, 2, none⟩ = some (.int .i64 a0_2) := (blk_cell BK278.out 2).trans rfl
                          have hcz138_3 : wr.cell? ⟨gb278, 3, none⟩ = some (.int .i64 a0_3) := (blk_cell BK278.out 3).trans rfl
                          have hcz138_4 : wr.cell? ⟨gb278, 4, none⟩ = some (.int .i64 a0_4) := (blk_cell BK278.out 4).trans rfl
                          have hcz138_5 : wr.cell? ⟨gb278, 5, none⟩ = some (.int .i64 a0_5) := (blk_cell BK278.out 5).trans rfl
                          have hcz138_6 : wr.cell? ⟨gb278, 6, none⟩ = some (.int .i64 a0_6) := (blk_cell BK278.out 6).trans rfl
                          have hcz138_7 : wr.cell? ⟨gb278, 7, none⟩ = some (.int .i64 a0_7) := (blk_cell BK278.out 7).trans rfl
                          have hcz138_8 : wr.cell? ⟨gb278, 8, none⟩ = some (.int .i64 a0_8) := (blk_cell BK278.out 8).trans rfl
                          have hcz138_9 : wr.cell? ⟨gb278, 9, none⟩ = some (.slice A0_9 l0_9.length c0_9) := (blk_cell BK278.out 9).trans rfl
                          have hcz138_10 : wr.cell? ⟨gb278, 10, none⟩ = some (.slice (some ad300) l0_10.length c0_10) := (blk_cell BK278.out 10).trans rfl
                          have hcz138_11 : wr.cell? ⟨gb278, 11, none⟩ = some (.slice A0_11 l0_11.length c0_11) := (blk_cell BK278.out 11).trans rfl
                          have hfz138_0 := blk_frozen BK278.out 0
                          have hfz138_1 := blk_frozen BK278.out 1
                          have hfz138_2 := blk_frozen BK278.out 2
                          have hfz138_3 := blk_frozen BK278.out 3
                          have hfz138_4 := blk_frozen BK278.out 4
                          have hfz138_5 := blk_frozen BK278.out 5
                          have hfz138_6 := blk_frozen BK278.out 6
                          have hfz138_7 := blk_frozen BK278.out 7
                          have hfz138_8 := blk_frozen BK278.out 8
                          have hfz138_9 := blk_frozen BK278.out 9
                          have hfz138_10 := blk_frozen BK278.out 10
                          have hfz138_11 := blk_frozen BK278.out 11
                          have p305 : 0 ≤ (x9_7 : Int) := of_decide_eq_true (by first | (with_reducible assumption) | assumption)
                          have q305 : x9_7 < (l0_10.length : Int) := of_decide_eq_true (by first | (with_reducible assumption) | assumption)
                          obtain ⟨ad305, e305, hx305_0, hx305_1, hx305_2⟩ := at_T59 HR0_10.out x9_7 p305 q305
                          obtain rfl : ad300 = ad305 := (by injection e305)
                          replace hx305_0 := (HB.out.cell (World.block_lt_of_cell? w _ hx305_0)).trans hx305_0
                          replace hx305_1 := (HB.out.cell (World.block_lt_of_cell? w _ hx305_1)).trans hx305_1
                          replace hx305_2 := (HB.out.cell (World.block_lt_of_cell? w _ hx305_2)).trans hx305_2
                          replace p305 := eq_true p305
                          replace q305 := eq_true q305
                          have hnb139 := NB301_279.out
                          have hnc139 := NB279_301.out
                          have hcz140_0 : wr.cell? ⟨gb301, 0, none⟩ = some (.string ((rd_T59 l0_10 x7_5).f0)) := (blk_cell BK301.out 0).trans rfl
                          have hcz140_1 : wr.cell? ⟨gb301, 1, none⟩ = some (.int .i64 ((rd_T59 l0_10 x7_5).f1)) := (blk_cell BK301.out 1).trans rfl
                          have hcz140_2 : wr.cell? ⟨gb301, 2, none⟩ = some (.int .i64 ((rd_T59 l0_10 x7_5).f2)) := (blk_cell BK301.out 2).trans rfl
                          have hfz140_0 := blk_frozen BK301.out 0
                          have hfz140_1 := blk_frozen BK301.out 1
                          have hfz140_2 := blk_frozen BK301.out 2
                          go_wp2
                          repeat (go_quiet (fail); try go_wp2)
                          go_roundg k7
                          case measure => have := HJ1.out; have := HJ27.out; have := HJ44.out; have := HK4.out; have := HK5.out; have := HJ104.out; have := HK7.out; omega
                          case rel => exact ⟨(wrap64 (x9_7 + 1)), (by first | rfl | (simp; done) | (simp [*]; done)), H', ⟨by have := HJ1.out; have := HJ27.out; have := HJ44.out; have := HK4.out; have := HK5.out; have := HJ104.out; have := HK7.out; omega⟩, ⟨by (with_reducible repeat (first | refine blk_drewN ?_ _ | refine blk_drew ?_ | refine blk_alloc ?_ _)); exact BK278.out⟩, ⟨by (with_reducible repeat (first | refine blk_drewN ?_ _ | refine blk_drew ?_ | refine blk_alloc ?_ _)); exact BK279.out⟩, ⟨by (with_reducible repeat (first | refine blk_drewN ?_ _ | refine blk_drew ?_ | refine blk_alloc ?_ _)); exact BK301.out⟩, ⟨by repeat (first | (with_reducible first | exact HB.out | apply below_alloc | apply pw_below_drewN | apply below_drew1 | refine below_set ?_ GE278.out | refine below_set ?_ GE279.out | refine below_set ?_ GE301.out) | exact HB.out)⟩⟩
                        ·rw [if_neg c129] at H
                         exact absurd H (by simp)
                       ·rw [if_neg c128] at H
                        exact absurd H (by simp)
                      ·rw [if_neg c127] at H
                       have c127b0 : decide (x9_7 < x7_5) = false := decide_eq_false c127
                       clear c127
                       have H' := Aside0.mk H
                       clear H
                       go_wp2
                       repeat (go_quiet (fail); try go_wp2)
                       go_roundg k7
                       case measure => have := HJ1.out; have := HJ27.out; have := HJ44.out; have := HK4.out; have := HK5.out; have := HJ104.out; have := HK7.out; omega
                       case rel => exact ⟨(wrap64 (x7_5 + 1)), (by first | rfl | (simp; done) | (simp [*]; done)), H', ⟨by have := HJ1.out; have := HJ27.out; have := HJ44.out; have := HK4.out; have := HK5.out; have := HJ104.out; have := HK7.out; omega⟩, ⟨by (with_reducible repeat (first | refine blk_drewN ?_ _ | refine blk_drew ?_ | refine blk_alloc ?_ _)); exact BK278.out⟩, ⟨by (with_reducible repeat (first | refine blk_drewN ?_ _ | refine blk_drew ?_ | refine blk_alloc ?_ _)); exact BK279.out⟩, ⟨by repeat (first | (with_reducible first | exact HB.out | apply below_alloc | apply pw_below_drewN | apply below_drew1 | refine below_set ?_ GE278.out | refine below_set ?_ GE279.out | refine below_set ?_ GE301.out) | exact HB.out)⟩⟩
                ·rw [if_neg c104] at H
                 exact absurd H (by simp)
               ·rw [if_neg c103] at H
                have c103b0 : decide (x7_5 < (l0_10.length : Int)) = false := decide_eq_false c103
                clear c103
                replace H := Option.bind_eq_some_iff.mp H
                obtain ⟨t299, A1410, H⟩ := H
                replace H : (some t299) = some r := H
                have A141 := Aside0.mk A1410
                clear A1410
                obtain rfl := Option.some.inj H
                have hnb142 := NB278_279.out
                have hnc142 := NB279_278.out
                have hcz143_0 : wr.cell? ⟨gb278, 0, none⟩ = some (.int .i64 a0_0) := (blk_cell BK278.out 0).trans rfl
                have hcz143_1 : wr.cell? ⟨gb278, 1, none⟩ = some (.int .i64 a0_1) := (blk_cell BK278.out 1).trans rfl
                have hcz143_2 : wr.cell? ⟨gb278, 2, none⟩ = some (.int .i64 a0_2) := (blk_cell BK278.out 2).trans rfl
                have hcz143_3 : wr.cell? ⟨gb278, 3, none⟩ = some (.int .i64 a0_3) := (blk_cell BK278.out 3).trans rfl
                have hcz143_4 : wr.cell? ⟨gb278, 4, none⟩ = some (.int .i64 a0_4) := (blk_cell BK278.out 4).trans rfl
                have hcz143_5 : wr.cell? ⟨gb278, 5, none⟩ = some (.int .i64 a0_5) := (blk_cell BK278.out 5).trans rfl
                have hcz143_6 : wr.cell? ⟨gb278, 6, none⟩ = some (.int .i64 a0_6) := (blk_cell BK278.out 6).trans rfl
                have hcz143_7 : wr.cell? ⟨gb278, 7, none⟩ = some (.int .i64 a0_7) := (blk_cell BK278.out 7).trans rfl
                have hcz143_8 : wr.cell? ⟨gb278, 8, none⟩ = some (.int .i64 a0_8) := (blk_cell BK278.out 8).trans rfl
                have hcz143_9 : wr.cell? ⟨gb278, 9, none⟩ = some (.slice A0_9 l0_9.length c0_9) := (blk_cell BK278.out 9).trans rfl
                have hcz143_10 : wr.cell? ⟨gb278, 10, none⟩ = some (.slice A0_10 l0_10.length c0_10) := (blk_cell BK278.out 10).trans rfl
                have hcz143_11 : wr.cell? ⟨gb278, 11, none⟩ = some (.slice A0_11 l0_11.length c0_11) := (blk_cell BK278.out 11).trans rfl
                have hfz143_0 := blk_frozen BK278.out 0
                have hfz143_1 := blk_frozen BK278.out 1
                have hfz143_2 := blk_frozen BK278.out 2
                have hfz143_3 := blk_frozen BK278.out 3
                have hfz143_4 := blk_frozen BK278.out 4
                have hfz143_5 := blk_frozen BK278.out 5
                have hfz143_6 := blk_frozen BK278.out 6
                have hfz143_7 := blk_frozen BK278.out 7
                have hfz143_8 := blk_frozen BK278.out 8
                have hfz143_9 := blk_frozen BK278.out 9
                have hfz143_10 := blk_frozen BK278.out 10
                have hfz143_11 := blk_frozen BK278.out 11
                go_wp2_with (first | (go_at_call 48; (with_reducible refine (gangerref10_tree.calls k5 _ _ l0_11 t299 _ ?side1 ?side2 A141.out).mono ?_); (case side1 => repeat (first | exact (Kd.C_below HR0_11.out HB.out) | (with_reducible refine Kd.C_alloc ?_ _) | (with_reducible refine Kd.C_drewN ?_ _) | (with_reducible refine Kd.C_drew ?_))); (case side2 => exact HC0_11.out); rintro e w' ⟨rfl, ⟨nd, rfl⟩⟩; (try first | exact ⟨rfl, _, World.drewN_drewN _ _ _⟩ | exact ⟨rfl, _, Eq.trans (World.drewN_drewN _ _ _) (congrArg (World.drewN _) (Nat.add_assoc _ _ _))⟩)))
                repeat (go_quiet (first | (go_at_call 48; (with_reducible refine (gangerref10_tree.calls k5 _ _ l0_11 t299 _ ?side1 ?side2 A141.out).mono ?_); (case side1 => repeat (first | exact (Kd.C_below HR0_11.out HB.out) | (with_reducible refine Kd.C_alloc ?_ _) | (with_reducible refine Kd.C_drewN ?_ _) | (with_reducible refine Kd.C_drew ?_))); (case side2 => exact HC0_11.out); rintro e w' ⟨rfl, ⟨nd, rfl⟩⟩; (try first | exact ⟨rfl, _, World.drewN_drewN _ _ _⟩ | exact ⟨rfl, _, Eq.trans (World.drewN_drewN _ _ _) (congrArg (World.drewN _) (Nat.add_assoc _ _ _))⟩))); try go_wp2_with (first | (go_at_call 48; (with_reducible refine (gangerref10_tree.calls k5 _ _ l0_11 t299 _ ?side1 ?side2 A141.out).mono ?_); (case side1 => repeat (first | exact (Kd.C_below HR0_11.out HB.out) | (with_reducible refine Kd.C_alloc ?_ _) | (with_reducible refine Kd.C_drewN ?_ _) | (with_reducible refine Kd.C_drew ?_))); (case side2 => exact HC0_11.out); rintro e w' ⟨rfl, ⟨nd, rfl⟩⟩; (try first | exact ⟨rfl, _, World.drewN_drewN _ _ _⟩ | exact ⟨rfl, _, Eq.trans (World.drewN_drewN _ _ _) (congrArg (World.drewN _) (Nat.add_assoc _ _ _))⟩))))
                go_ret
                exact ⟨by first | rfl | (simp [errW_none, errW_some] <;> rfl) | (simp [*, errW_none, errW_some] <;> rfl), by repeat (first | (with_reducible first | exact HB.out | apply below_alloc | apply pw_below_drewN | apply below_drew1 | refine below_set ?_ GE278.out | refine below_set ?_ GE279.out) | exact HB.out)⟩
end Go.Proofs.YtfccdngejfnmkaaDoor.P
