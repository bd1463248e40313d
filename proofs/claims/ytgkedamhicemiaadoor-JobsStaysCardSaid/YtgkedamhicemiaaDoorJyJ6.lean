/- cut to what one law reaches -/
import Derived.Test.YtgkedamhicemiaaDoorJyJ5
import Derived.Test.YtgkedamhicemiaaDoorJyJ3
namespace Go.Proofs.YtgkedamhicemiaaDoor.P
open Go.RowKit Go.Proofs.YtgkedamhicemiaaDoorW.PrintWords Go.Proofs.YtgkedamhicemiaaDoorW.PrintLast Go.Proofs.YtgkedamhicemiaaDoorW.PrintMore
attribute [local go_sem] max2_int min2_int max_two min_two max_three min_three max_four min_four
set_option linter.unusedVariables false
set_option linter.unusedSimpArgs false
attribute [local go_sem] isSome_setCell
/-- is a job of the class about? -/
def isAb (qos : ByteArray) (j : S58) : Bool := (j.f3.f3.toList == qos.toList) && decide (j.f5 ≤ 4)
def aboutP (qos : ByteArray) (L : List S58) : Int := ((L.filter (isAb qos)).length : Int)
theorem about_succ (qos : ByteArray) (L : List S58) (i : Nat) (h : i < L.length) : aboutP qos (L.take (i + 1)) = aboutP qos (L.take i) + if isAb qos L[i] = true then 1 else 0 := by
  unfold aboutP
  rw [List.take_succ_eq_append_getElem h, List.filter_append]
  by_cases e : isAb qos L[i] = true <;> simp [e]
theorem about_le (qos : ByteArray) (L : List S58) : 0 ≤ aboutP qos L ∧ aboutP qos L ≤ L.length := by
  unfold aboutP
  exact ⟨by omega, by have := List.length_filter_le (isAb qos) L; omega⟩
section
variable {W W' : World} {B t : Nat} {M : Nat → Prop} {x : Cg} {L : List S58}
theorem Tab.len {h : Cf} {A9 : Option Addr} {c9 : Nat} {A10 : Option Addr} {c10 : Nat} {A11 : Option Addr} {c11 : Nat} {Aj : Option Addr} {cj : Nat} {P : List S85} {Q : List S87} {A : List S89} (c : Tab W B M t h A9 c9 A10 c10 A11 c11 Aj cj P Q A L) : L.length ≤ 9223372036854775807 := (Kd.R_reads' c.rj).2.2.2.1
set_option maxHeartbeats 4000000 in
set_option maxRecDepth 100000 in
theorem about_at (qos : ByteArray) (hL : L.length ≤ 1000) (c : Tb W B M t x L) :
    Calls Tryd.prog 65 #[.pointer (some ⟨t, 0, none⟩), .string qos] W fun e w' => e = .returned (.int .i64 (aboutP qos L)) ∧ Below W.heap.size W w' := by
  have hu58 := Tryd.underlying58
  have hu83 := Tryd.underlying83
  have hu41 := Tryd.underlying41
  obtain ⟨Aj, cj, c⟩ := c
  have z : W.cell? ⟨t, 12, none⟩ = some (.slice Aj L.length cj) := (Tab.cell c 12).trans rfl
  have C := Aside0.mk c
  clear c
  go_enter Tryd.func65, Tryd.ntmps65
  go_wp2
  go_loopg [5, 13] (L.length + 1) (fun gk s5 s13 wr => ∃ i : Nat, s13 = .int .i64 i ∧ s5 = .int .i64 (aboutP qos (L.take i)) ∧ Aside0 (i + gk = L.length + 1) ∧ Aside0 (Below W.heap.size W wr))
  case atStart => exact ⟨0, rfl, rfl, ⟨by omega⟩, ⟨Below.refl _ _⟩⟩
  case round =>
    obtain ⟨i, rfl, rfl, GK, HB⟩ := hrel
    by_cases hlt : i < L.length
    · obtain ⟨gk, rfl⟩ : ∃ m, gk = m + 1 := ⟨gk - 1, by have := GK.out; omega⟩
      have hlz : (i : Int) < (L.length : Int) := by omega
      have cb : 0 ≤ aboutP qos (L.take i) ∧ aboutP qos (L.take i) ≤ 1000 := by have := about_le qos (L.take i); have h2 : (L.take i).length ≤ i := List.length_take_le _ _; omega
      obtain ⟨cb1, cb2⟩ := cb
      have hsu := about_succ qos L i hlt
      obtain ⟨g, eA, hMg⟩ := Tab.row C.out (by omega)
      subst eA
      obtain ⟨ce, hcl, hM, hcc, hfr⟩ := Kd.R_elem C.out.rj z58 (i : Int) (by omega) (by omega)
      have hK : k58.K W L[i] ce := by
        have e : L.getD (i : Int).toNat z58 = L[i] := by simp [List.getD_eq_getElem?_getD, hlt]
        rw [← e]; exact k58.K_of_M hM
      obtain ⟨A9, c9, A12, c12, rfl, hc9, g9, hc12, g12⟩ := k58_open hK
      have hcc2 : ∀ j u, ([.int .u32 L[i].f0, .int .u32 L[i].f1, .int .i64 L[i].f2, .string L[i].f3.f0, .string L[i].f3.f1, .string L[i].f3.f2, .string L[i].f3.f3, .int .i64 L[i].f3.f4, .int .i64 L[i].f3.f5, .slice A9 L[i].f3.f6.f0.length c9, .int .i64 L[i].f3.f6.f1, .bool L[i].f3.f7.f0, .slice A12 L[i].f3.f7.f1.length c12, .int .i64 L[i].f3.f8, .int .i64 L[i].f3.f9, .bool L[i].f3.f10, .bool L[i].f3.f11, .string L[i].f3.f12, .int .i64 L[i].f4, .int .i64 L[i].f5, .int .i64 L[i].f6, .int .i64 L[i].f7, .int .i64 L[i].f8, .int .i64 L[i].f9, .int .i64 L[i].f10.f0, .int .i64 L[i].f10.f1] : List Value)[j]? = some u → W.cell? ⟨g, i * 26 + j, none⟩ = some u := hcc
      have HCC := Aside0.mk hcc2
      have HSU := Aside0.mk hsu
      clear hcc hM hK hcl hfr hMg hc9 g9 hc12 g12 hcc2 hsu
      generalize L[i] = j at HCC HSU
      generalize aboutP qos (L.take i) = a at cb1 cb2 HSU ⊢
      cases hq : (j.f3.f3.toList == qos.toList) with
      | true =>
        have hcond := hq
        by_cases h4 : j.f5 ≤ 4
        · have HI : Aside0 (isAb qos j = true) := ⟨by unfold isAb; rw [hq, decide_eq_true h4]; rfl⟩
          go_wp2_with (first | ((with_reducible refine gate_ (.load 58 (.tmp 15)) rfl ?_); refine agg_load rfl (N := 16) rfl rfl Tryd.underlying58 info58s (g := g) (off := (i * 26)) rfl [.int .u32 j.f0, .int .u32 j.f1, .int .i64 j.f2, .string j.f3.f0, .string j.f3.f1, .string j.f3.f2, .string j.f3.f3, .int .i64 j.f3.f4, .int .i64 j.f3.f5, .slice A9 j.f3.f6.f0.length c9, .int .i64 j.f3.f6.f1, .bool j.f3.f7.f0, .slice A12 j.f3.f7.f1.length c12, .int .i64 j.f3.f8, .int .i64 j.f3.f9, .bool j.f3.f10, .bool j.f3.f11, .string j.f3.f12, .int .i64 j.f4, .int .i64 j.f5, .int .i64 j.f6, .int .i64 j.f7, .int .i64 j.f8, .int .i64 j.f9, .int .i64 j.f10.f0, .int .i64 j.f10.f1] rfl (fun i u hu => pw_cell_below HB.out (HCC.out i u hu)) ?_) | ((with_reducible refine gate_dst (N := 7) rfl ?_); refine box_event ?hg (N := 7) ?hd (cs := #[.int .u32 0, .int .u32 0, .int .i64 0, .string ⟨#[]⟩, .string ⟨#[]⟩, .string ⟨#[]⟩, .string ⟨#[]⟩, .int .i64 0, .int .i64 0, .slice none 0 0, .int .i64 0, .bool false, .slice none 0 0, .int .i64 0, .int .i64 0, .bool false, .bool false, .string ⟨#[]⟩, .int .i64 0, .int .i64 0, .int .i64 0, .int .i64 0, .int .i64 0, .int .i64 0, .int .i64 0, .int .i64 0]) (t := 58) ?hr ?_; (case hd => rfl); (case hg => rfl); (case hr => first | (go_simp; done) | (go_simp; rfl)); intro gb7 hg w7 hbox hb; have GE7 := Aside0.mk (show W.heap.size ≤ gb7 by rw [hg]; exact below_size HB.out); have KX7 := Aside0.mk hbox; have HB6 := Aside0.mk (below_step HB.out hb); clear hb hg hbox) | ((with_reducible refine gate_ (.store 58 (.tmp 7) (.tmp 16)) rfl ?_); refine agg_store rfl rfl rfl (g := gb7) (off := 0) (u := .agg #[.int .u32 j.f0, .int .u32 j.f1, .int .i64 j.f2, .string j.f3.f0, .string j.f3.f1, .string j.f3.f2, .string j.f3.f3, .int .i64 j.f3.f4, .int .i64 j.f3.f5, .slice A9 j.f3.f6.f0.length c9, .int .i64 j.f3.f6.f1, .bool j.f3.f7.f0, .slice A12 j.f3.f7.f1.length c12, .int .i64 j.f3.f8, .int .i64 j.f3.f9, .bool j.f3.f10, .bool j.f3.f11, .string j.f3.f12, .int .i64 j.f4, .int .i64 j.f5, .int .i64 j.f6, .int .i64 j.f7, .int .i64 j.f8, .int .i64 j.f9, .int .i64 j.f10.f0, .int .i64 j.f10.f1]) rfl rfl info58s KX7.out [.int .u32 j.f0, .int .u32 j.f1, .int .i64 j.f2, .string j.f3.f0, .string j.f3.f1, .string j.f3.f2, .string j.f3.f3, .int .i64 j.f3.f4, .int .i64 j.f3.f5, .slice A9 j.f3.f6.f0.length c9, .int .i64 j.f3.f6.f1, .bool j.f3.f7.f0, .slice A12 j.f3.f7.f1.length c12, .int .i64 j.f3.f8, .int .i64 j.f3.f9, .bool j.f3.f10, .bool j.f3.f11, .string j.f3.f12, .int .i64 j.f4, .int .i64 j.f5, .int .i64 j.f6, .int .i64 j.f7, .int .i64 j.f8, .int .i64 j.f9, .int .i64 j.f10.f0, .int .i64 j.f10.f1] rfl rfl (by simp) (by simp [Value.oneCell']) #[.int .u32 j.f0, .int .u32 j.f1, .int .i64 j.f2, .string j.f3.f0, .string j.f3.f1, .string j.f3.f2, .string j.f3.f3, .int .i64 j.f3.f4, .int .i64 j.f3.f5, .slice A9 j.f3.f6.f0.length c9, .int .i64 j.f3.f6.f1, .bool j.f3.f7.f0, .slice A12 j.f3.f7.f1.length c12, .int .i64 j.f3.f8, .int .i64 j.f3.f9, .bool j.f3.f10, .bool j.f3.f11, .string j.f3.f12, .int .i64 j.f4, .int .i64 j.f5, .int .i64 j.f6, .int .i64 j.f7, .int .i64 j.f8, .int .i64 j.f9, .int .i64 j.f10.f0, .int .i64 j.f10.f1] rfl ?_; intro w8 hX hO; have HB7 := Aside0.mk (hO.below HB6.out GE7.out); have kx6 := (blk_cell hX 6).trans rfl; have kx19 := (blk_cell hX 19).trans rfl; clear hX hO))
          go_roundg gk
          case measure => exact Nat.lt_succ_self _
          case rel => exact ⟨i + 1, by go_num, by rw [HSU.out, if_pos HI.out], ⟨by have := GK.out; omega⟩, HB7⟩
        · have HI : Aside0 (isAb qos j = false) := ⟨by unfold isAb; rw [hq, decide_eq_false h4]; rfl⟩
          go_wp2_with (first | ((with_reducible refine gate_ (.load 58 (.tmp 15)) rfl ?_); refine agg_load rfl (N := 16) rfl rfl Tryd.underlying58 info58s (g := g) (off := (i * 26)) rfl [.int .u32 j.f0, .int .u32 j.f1, .int .i64 j.f2, .string j.f3.f0, .string j.f3.f1, .string j.f3.f2, .string j.f3.f3, .int .i64 j.f3.f4, .int .i64 j.f3.f5, .slice A9 j.f3.f6.f0.length c9, .int .i64 j.f3.f6.f1, .bool j.f3.f7.f0, .slice A12 j.f3.f7.f1.length c12, .int .i64 j.f3.f8, .int .i64 j.f3.f9, .bool j.f3.f10, .bool j.f3.f11, .string j.f3.f12, .int .i64 j.f4, .int .i64 j.f5, .int .i64 j.f6, .int .i64 j.f7, .int .i64 j.f8, .int .i64 j.f9, .int .i64 j.f10.f0, .int .i64 j.f10.f1] rfl (fun i u hu => pw_cell_below HB.out (HCC.out i u hu)) ?_) | ((with_reducible refine gate_dst (N := 7) rfl ?_); refine box_event ?hg (N := 7) ?hd (cs := #[.int .u32 0, .int .u32 0, .int .i64 0, .string ⟨#[]⟩, .string ⟨#[]⟩, .string ⟨#[]⟩, .string ⟨#[]⟩, .int .i64 0, .int .i64 0, .slice none 0 0, .int .i64 0, .bool false, .slice none 0 0, .int .i64 0, .int .i64 0, .bool false, .bool false, .string ⟨#[]⟩, .int .i64 0, .int .i64 0, .int .i64 0, .int .i64 0, .int .i64 0, .int .i64 0, .int .i64 0, .int .i64 0]) (t := 58) ?hr ?_; (case hd => rfl); (case hg => rfl); (case hr => first | (go_simp; done) | (go_simp; rfl)); intro gb7 hg w7 hbox hb; have GE7 := Aside0.mk (show W.heap.size ≤ gb7 by rw [hg]; exact below_size HB.out); have KX7 := Aside0.mk hbox; have HB6 := Aside0.mk (below_step HB.out hb); clear hb hg hbox) | ((with_reducible refine gate_ (.store 58 (.tmp 7) (.tmp 16)) rfl ?_); refine agg_store rfl rfl rfl (g := gb7) (off := 0) (u := .agg #[.int .u32 j.f0, .int .u32 j.f1, .int .i64 j.f2, .string j.f3.f0, .string j.f3.f1, .string j.f3.f2, .string j.f3.f3, .int .i64 j.f3.f4, .int .i64 j.f3.f5, .slice A9 j.f3.f6.f0.length c9, .int .i64 j.f3.f6.f1, .bool j.f3.f7.f0, .slice A12 j.f3.f7.f1.length c12, .int .i64 j.f3.f8, .int .i64 j.f3.f9, .bool j.f3.f10, .bool j.f3.f11, .string j.f3.f12, .int .i64 j.f4, .int .i64 j.f5, .int .i64 j.f6, .int .i64 j.f7, .int .i64 j.f8, .int .i64 j.f9, .int .i64 j.f10.f0, .int .i64 j.f10.f1]) rfl rfl info58s KX7.out [.int .u32 j.f0, .int .u32 j.f1, .int .i64 j.f2, .string j.f3.f0, .string j.f3.f1, .string j.f3.f2, .string j.f3.f3, .int .i64 j.f3.f4, .int .i64 j.f3.f5, .slice A9 j.f3.f6.f0.length c9, .int .i64 j.f3.f6.f1, .bool j.f3.f7.f0, .slice A12 j.f3.f7.f1.length c12, .int .i64 j.f3.f8, .int .i64 j.f3.f9, .bool j.f3.f10, .bool j.f3.f11, .string j.f3.f12, .int .i64 j.f4, .int .i64 j.f5, .int .i64 j.f6, .int .i64 j.f7, .int .i64 j.f8, .int .i64 j.f9, .int .i64 j.f10.f0, .int .i64 j.f10.f1] rfl rfl (by simp) (by simp [Value.oneCell']) #[.int .u32 j.f0, .int .u32 j.f1, .int .i64 j.f2, .string j.f3.f0, .string j.f3.f1, .string j.f3.f2, .string j.f3.f3, .int .i64 j.f3.f4, .int .i64 j.f3.f5, .slice A9 j.f3.f6.f0.length c9, .int .i64 j.f3.f6.f1, .bool j.f3.f7.f0, .slice A12 j.f3.f7.f1.length c12, .int .i64 j.f3.f8, .int .i64 j.f3.f9, .bool j.f3.f10, .bool j.f3.f11, .string j.f3.f12, .int .i64 j.f4, .int .i64 j.f5, .int .i64 j.f6, .int .i64 j.f7, .int .i64 j.f8, .int .i64 j.f9, .int .i64 j.f10.f0, .int .i64 j.f10.f1] rfl ?_; intro w8 hX hO; have HB7 := Aside0.mk (hO.below HB6.out GE7.out); have kx6 := (blk_cell hX 6).trans rfl; have kx19 := (blk_cell hX 19).trans rfl; clear hX hO))
          go_roundg gk
          case measure => exact Nat.lt_succ_self _
          case rel => exact ⟨i + 1, by go_num, by rw [HSU.out, if_neg (by rw [HI.out]; simp)]; go_num, ⟨by have := GK.out; omega⟩, HB7⟩
      | false =>
        have HI : Aside0 (isAb qos j = false) := ⟨by unfold isAb; rw [hq]; rfl⟩
        go_wp2_with (first | ((with_reducible refine gate_ (.load 58 (.tmp 15)) rfl ?_); refine agg_load rfl (N := 16) rfl rfl Tryd.underlying58 info58s (g := g) (off := (i * 26)) rfl [.int .u32 j.f0, .int .u32 j.f1, .int .i64 j.f2, .string j.f3.f0, .string j.f3.f1, .string j.f3.f2, .string j.f3.f3, .int .i64 j.f3.f4, .int .i64 j.f3.f5, .slice A9 j.f3.f6.f0.length c9, .int .i64 j.f3.f6.f1, .bool j.f3.f7.f0, .slice A12 j.f3.f7.f1.length c12, .int .i64 j.f3.f8, .int .i64 j.f3.f9, .bool j.f3.f10, .bool j.f3.f11, .string j.f3.f12, .int .i64 j.f4, .int .i64 j.f5, .int .i64 j.f6, .int .i64 j.f7, .int .i64 j.f8, .int .i64 j.f9, .int .i64 j.f10.f0, .int .i64 j.f10.f1] rfl (fun i u hu => pw_cell_below HB.out (HCC.out i u hu)) ?_) | ((with_reducible refine gate_dst (N := 7) rfl ?_); refine box_event ?hg (N := 7) ?hd (cs := #[.int .u32 0, .int .u32 0, .int .i64 0, .string ⟨#[]⟩, .string ⟨#[]⟩, .string ⟨#[]⟩, .string ⟨#[]⟩, .int .i64 0, .int .i64 0, .slice none 0 0, .int .i64 0, .bool false, .slice none 0 0, .int .i64 0, .int .i64 0, .bool false, .bool false, .string ⟨#[]⟩, .int .i64 0, .int .i64 0, .int .i64 0, .int .i64 0, .int .i64 0, .int .i64 0, .int .i64 0, .int .i64 0]) (t := 58) ?hr ?_; (case hd => rfl); (case hg => rfl); (case hr => first | (go_simp; done) | (go_simp; rfl)); intro gb7 hg w7 hbox hb; have GE7 := Aside0.mk (show W.heap.size ≤ gb7 by rw [hg]; exact below_size HB.out); have KX7 := Aside0.mk hbox; have HB6 := Aside0.mk (below_step HB.out hb); clear hb hg hbox) | ((with_reducible refine gate_ (.store 58 (.tmp 7) (.tmp 16)) rfl ?_); refine agg_store rfl rfl rfl (g := gb7) (off := 0) (u := .agg #[.int .u32 j.f0, .int .u32 j.f1, .int .i64 j.f2, .string j.f3.f0, .string j.f3.f1, .string j.f3.f2, .string j.f3.f3, .int .i64 j.f3.f4, .int .i64 j.f3.f5, .slice A9 j.f3.f6.f0.length c9, .int .i64 j.f3.f6.f1, .bool j.f3.f7.f0, .slice A12 j.f3.f7.f1.length c12, .int .i64 j.f3.f8, .int .i64 j.f3.f9, .bool j.f3.f10, .bool j.f3.f11, .string j.f3.f12, .int .i64 j.f4, .int .i64 j.f5, .int .i64 j.f6, .int .i64 j.f7, .int .i64 j.f8, .int .i64 j.f9, .int .i64 j.f10.f0, .int .i64 j.f10.f1]) rfl rfl info58s KX7.out [.int .u32 j.f0, .int .u32 j.f1, .int .i64 j.f2, .string j.f3.f0, .string j.f3.f1, .string j.f3.f2, .string j.f3.f3, .int .i64 j.f3.f4, .int .i64 j.f3.f5, .slice A9 j.f3.f6.f0.length c9, .int .i64 j.f3.f6.f1, .bool j.f3.f7.f0, .slice A12 j.f3.f7.f1.length c12, .int .i64 j.f3.f8, .int .i64 j.f3.f9, .bool j.f3.f10, .bool j.f3.f11, .string j.f3.f12, .int .i64 j.f4, .int .i64 j.f5, .int .i64 j.f6, .int .i64 j.f7, .int .i64 j.f8, .int .i64 j.f9, .int .i64 j.f10.f0, .int .i64 j.f10.f1] rfl rfl (by simp) (by simp [Value.oneCell']) #[.int .u32 j.f0, .int .u32 j.f1, .int .i64 j.f2, .string j.f3.f0, .string j.f3.f1, .string j.f3.f2, .string j.f3.f3, .int .i64 j.f3.f4, .int .i64 j.f3.f5, .slice A9 j.f3.f6.f0.length c9, .int .i64 j.f3.f6.f1, .bool j.f3.f7.f0, .slice A12 j.f3.f7.f1.length c12, .int .i64 j.f3.f8, .int .i64 j.f3.f9, .bool j.f3.f10, .bool j.f3.f11, .string j.f3.f12, .int .i64 j.f4, .int .i64 j.f5, .int .i64 j.f6, .int .i64 j.f7, .int .i64 j.f8, .int .i64 j.f9, .int .i64 j.f10.f0, .int .i64 j.f10.f1] rfl ?_; intro w8 hX hO; have HB7 := Aside0.mk (hO.below HB6.out GE7.out); have kx6 := (blk_cell hX 6).trans rfl; have kx19 := (blk_cell hX 19).trans rfl; clear hX hO))
        go_roundg gk
        case measure => exact Nat.lt_succ_self _
        case rel => exact ⟨i + 1, by go_num, by rw [HSU.out, if_neg (by rw [HI.out]; simp)]; go_num, ⟨by have := GK.out; omega⟩, HB7⟩
    · have e : L.take i = L := List.take_of_length_le (by omega)
      rw [e]
      clear e
      go_wp2
      go_ret
      exact ⟨rfl, HB.out⟩
theorem part_at (nm : ByteArray) (c : Tb W B M t x L) :
    Calls Tryd.prog 60 #[.pointer (some ⟨t, 0, none⟩), .string nm] W fun e w' => ∃ r, e = .returned (.int .i64 r) ∧ Fx (x.P.map (·.f0)) nm r ∧ Below W.heap.size W w' := by
  have hu83 := Tryd.underlying83
  have hu32 := Tryd.underlying32
  obtain ⟨Aj, cj, c⟩ := c
  have C := Aside0.mk c
  clear c
  go_enter Tryd.func60, Tryd.ntmps60
  go_wp2_with (first | ((with_reducible refine gate_dst (N := 3) rfl ?_); refine box_event ?hg (N := 3) ?hd (cs := #[.string nm]) (t := 9) ?hr ?_; (case hd => rfl); (case hg => rfl); (case hr => first | (go_simp; done) | (go_simp; rfl)); intro gbq hg wq hbox hb; have kq := (blk_cell hbox 0).trans rfl; have HB := Aside0.mk hb; have z9 := (Tab.cell (Tab.below C.out hb) 9).trans rfl; clear hb hg hbox) | (go_at_call 77; refine (ix77_at x.P _ _ nm gbq _ (Kd.R_reads' (Tab.below C.out HB.out).r9).2.2 kq).mono ?_; rintro e w2 ⟨r, rfl, hF, hb⟩; have HF := Aside0.mk hF; have HB2 := Aside0.mk (below_step HB.out hb); clear hF hb))
  go_ret
  exact ⟨_, rfl, HF.out, HB2.out⟩
def AccR (l : List S89) (nm : ByteArray) (b : Bool) : Prop := b = true ↔ nm ∈ l.map (·.f0)
theorem acc_of {l : List S89} {nm : ByteArray} {r : Int} (h : Fx (l.map (·.f0)) nm r) : AccR l nm (decide (r ≥ 0)) := by
  unfold AccR
  rcases h with ⟨rfl, h⟩ | ⟨i, rfl, hi, he⟩
  · exact ⟨fun h0 => by simp at h0, fun h0 => absurd rfl (h _ h0)⟩
  · exact ⟨fun _ => he ▸ List.getElem_mem hi, fun _ => by simp⟩
theorem hasAcc_at (l : List S89) (A : Option Addr) (c : Nat) (nm : ByteArray) (gq : Nat) (W : World) (hC : Kd.C k89 W A l.length l) (hq : W.cell? ⟨gq, 1, none⟩ = some (.string nm)) :
    Calls Tryd.prog 63 #[.slice A l.length c, .func (.func 64) #[] #[.pointer (some ⟨gq, 0, none⟩)]] W fun e w' => ∃ b : Bool, e = .returned (.bool b) ∧ AccR l nm b ∧ Below W.heap.size W w' := by
  have HC := Aside0.mk hC
  have HQ := Aside0.mk hq
  clear hC hq
  go_enter Tryd.func63, Tryd.ntmps63
  go_wp2_with (first | (go_at_call 79; refine (ix79_at l A c nm gq _ HC.out HQ.out).mono ?_; rintro e w2 ⟨r, rfl, hF, hb⟩; have HF := Aside0.mk hF; have HB2 := Aside0.mk hb; clear hF hb))
  go_ret
  exact ⟨_, rfl, acc_of HF.out, HB2.out⟩
/-- may a spec come? its partition's place, and why not -/
def admE (x : Cg) (s : S41) (now n : Int) (L : List S58) (pr cr : Int) (ac : Bool) : Int × Int :=
  if (now < 0 ∨ 1099511627776 < now) ∨ (0 ≤ pr ∧ (rd_T85 x.P pr).f1 < upO s.f4) then (0, 2)
  else if pr < 0 ∨ cr < 0 ∨ ac = false then (0, 4)
  else if (rd_T85 x.P pr).f3 < s.f5 then (0, 3)
  else if 500 < (L.length : Int) + n ∨ (rd_T87 x.Q cr).f2 < aboutP s.f3 L + n then (0, 5)
  else (pr, 0)
/-- what admits may say -/
def AdmR (x : Cg) (s : S41) (now n : Int) (L : List S58) (p e : Int) : Prop := ∃ pr cr ac, Fx (x.P.map (·.f0)) s.f2 pr ∧ Fx (x.Q.map (·.f0)) s.f3 cr ∧ AccR x.A s.f1 ac ∧ (p, e) = admE x s now n L pr cr ac
theorem fx_lt {N : List ByteArray} {nm : ByteArray} {r : Int} (h : Fx N nm r) : r < 0 ∨ (0 ≤ r ∧ r < N.length) := by
  rcases h with ⟨rfl, _⟩ | ⟨i, rfl, hi, _⟩
  · exact Or.inl (by omega)
  · exact Or.inr ⟨by omega, by omega⟩
set_option maxHeartbeats 8000000 in
set_option maxRecDepth 100000 in
theorem admits_at (s : S41) (A6 : Option Addr) (c6 : Nat) (A9 : Option Addr) (c9 : Nat) (now n : Int) (hn : 0 ≤ n) (hn2 : n ≤ 17592186044416) (h4 : 1 ≤ s.f4 ∧ s.f4 ≤ 1024) (hL : L.length ≤ 500) (c : Tb W B M t x L) :
    Calls Tryd.prog 34 #[.pointer (some ⟨t, 0, none⟩), .agg #[.string s.f0, .string s.f1, .string s.f2, .string s.f3, .int .i64 s.f4, .int .i64 s.f5, .slice A6 s.f6.f0.length c6, .int .i64 s.f6.f1, .bool s.f7.f0, .slice A9 s.f7.f1.length c9, .int .i64 s.f8, .int .i64 s.f9, .bool s.f10, .bool s.f11, .string s.f12], .int .i64 now, .int .i64 n] W fun e w' => ∃ p q, e = .returned (.tuple #[.int .i64 p, .int .i64 q]) ∧ AdmR x s now n L p q ∧ Below W.heap.size W w' := by
  have hu83 := Tryd.underlying83
  have hu32 := Tryd.underlying32
  have hu41 := Tryd.underlying41
  have hu85 := Tryd.underlying85
  have hu87 := Tryd.underlying87
  have HU := Aside0.mk (up_ok _ h4.1 h4.2).1
  have HL := Aside0.mk hL
  have CB := Aside0.mk c
  obtain ⟨Aj, cj, c⟩ := c
  have C := Aside0.mk c
  clear c h4 hL
  go_enter Tryd.func34, Tryd.ntmps34
  go_upto_region 5 with (first | ((with_reducible refine gate_dst (N := 5) rfl ?_); refine box_event ?hg (N := 5) ?hd (cs := #[.string s.f0, .string s.f1, .string s.f2, .string s.f3, .int .i64 s.f4, .int .i64 s.f5, .slice A6 s.f6.f0.length c6, .int .i64 s.f6.f1, .bool s.f7.f0, .slice A9 s.f7.f1.length c9, .int .i64 s.f8, .int .i64 s.f9, .bool s.f10, .bool s.f11, .string s.f12]) (t := 41) ?hr ?_; (case hd => rfl); (case hg => rfl); (case hr => first | (go_simp; done) | (go_simp; rfl)); intro gbs hg ws hbox hb; have KX := Aside0.mk hbox; have HB := Aside0.mk hb; have kx2 := (blk_cell KX.out 2).trans rfl; have kx4 := (blk_cell KX.out 4).trans rfl; clear hb hg hbox) | (go_at_call 60; refine (part_at s.f2 (CB.out.below HB.out)).mono ?_; rintro e w2 ⟨pr, rfl, hF, hb⟩; have FP := Aside0.mk hF; have n0_ := Aside0.mk (below_step HB.out hb); have n1_ := Aside0.mk (blk_below KX.out hb); (try clear HB); (try clear KX); have HB := n0_; clear n0_; have KX := n1_; clear n1_; clear hF hb; have kx4 := (blk_cell KX.out 4).trans rfl) | (go_at_call 39; refine (num_Up.calls _ _ _ _ HU.out).mono ?_; rintro e w8 ⟨rfl, hd⟩; have hb := hd.below; have n0_ := Aside0.mk (below_step HB.out hb); have n1_ := Aside0.mk (blk_below KX.out hb); (try clear HB); (try clear KX); have HB := n0_; clear n0_; have KX := n1_; clear n1_; clear hd hb; have z10 := (Tab.cell (Tab.below C.out HB.out) 10).trans rfl) | (go_at_call 61; refine (ix61_at x.Q _ _ s.f3 gbs _ (Kd.R_reads' (Tab.below C.out HB.out).r10).2.2 ((blk_cell KX.out 3).trans rfl)).mono ?_; rintro e w2 ⟨cr, rfl, hF, hb⟩; have FC := Aside0.mk hF; have n0_ := Aside0.mk (below_step HB.out hb); have n1_ := Aside0.mk (blk_below KX.out hb); (try clear HB); (try clear KX); have HB := n0_; clear n0_; have KX := n1_; clear n1_; clear hF hb; have z11 := (Tab.cell (Tab.below C.out HB.out) 11).trans rfl) | (go_at_call 63; refine (hasAcc_at x.A _ _ s.f1 gbs _ (Kd.R_reads' (Tab.below C.out HB.out).r11).2.2 ((blk_cell KX.out 1).trans rfl)).mono ?_; rintro e w2 ⟨ac, rfl, hF, hb⟩; have FA := Aside0.mk hF; have n0_ := Aside0.mk (below_step HB.out hb); have n1_ := Aside0.mk (blk_below KX.out hb); (try clear HB); (try clear KX); have HB := n0_; clear n0_; have KX := n1_; clear n1_; clear hF hb))
  have z9 := (Tab.cell (Tab.below C.out HB.out) 9).trans rfl
  have fp := fx_lt FP.out
  rw [List.length_map] at fp
  by_cases a1 : now < 0
  · have HA := Aside0.mk a1
    go_wp2
    go_ret2
    exact ⟨0, 2, rfl, ⟨pr, cr, ac, FP.out, FC.out, FA.out, by rw [admE, if_pos (Or.inl (Or.inl HA.out))]⟩, HB.out⟩
  by_cases a2 : 1099511627776 < now
  · have HA := Aside0.mk a2
    go_wp2
    go_ret2
    exact ⟨0, 2, rfl, ⟨pr, cr, ac, FP.out, FC.out, FA.out, by rw [admE, if_pos (Or.inl (Or.inr HA.out))]⟩, HB.out⟩
  have HA : Aside0 (¬ (now < 0 ∨ 1099511627776 < now)) := ⟨fun h => h.elim a1 a2⟩
  have a3 : 0 ≤ now := by omega
  have a4 : now ≤ 1099511627776 := by omega
  clear a1 a2
  rcases fp with p0 | ⟨p0, p1⟩
  · have HP := Aside0.mk p0
    go_wp2
    go_ret2
    exact ⟨0, 4, rfl, ⟨pr, cr, ac, FP.out, FC.out, FA.out, by rw [admE, if_neg (fun h => h.elim HA.out (fun h => absurd h.1 (by have := HP.out; omega))), if_pos (Or.inl HP.out)]⟩, HB.out⟩
  have HP := Aside0.mk p0
  obtain ⟨ad, eP, r_0, r_1, r_2, r_3⟩ := at_T85 (Kd.R_reads' (Tab.below C.out HB.out).r9).2.2 pr p0 p1
  rw [eP] at z9
  clear r_0 r_2 eP
  have hV : ∀ Y, (if (rd_T85 x.P pr).f1 < upO s.f4 then (0, 2) else if cr < 0 ∨ ac = false then (0, 4) else if (rd_T85 x.P pr).f3 < s.f5 then (0, 3) else if 500 < (L.length : Int) + n ∨ (rd_T87 x.Q cr).f2 < aboutP s.f3 L + n then (0, 5) else (pr, 0)) = Y → Y = admE x s now n L pr cr ac := by
    intro Y hY
    rw [← hY, admE]
    by_cases b1 : (rd_T85 x.P pr).f1 < upO s.f4
    · rw [if_pos b1, if_pos (Or.inr ⟨HP.out, b1⟩)]
    · have n1 : ¬ ((now < 0 ∨ 1099511627776 < now) ∨ (0 ≤ pr ∧ (rd_T85 x.P pr).f1 < upO s.f4)) := fun h => h.elim HA.out (fun h => b1 h.2)
      rw [if_neg n1, if_neg b1]
      by_cases c1 : cr < 0 ∨ ac = false
      · rw [if_pos c1, if_pos (Or.inr c1)]
      · have n2 : ¬ (pr < 0 ∨ cr < 0 ∨ ac = false) := fun h => h.elim (fun h => by have := HP.out; omega) c1
        rw [if_neg n2, if_neg c1]
  have HV := Aside0.mk hV
  clear hV
  generalize (rd_T85 x.P pr).f1 = po at r_1 HV
  generalize (rd_T85 x.P pr).f3 = pl at r_3 HV
  generalize upO s.f4 = so at HV HU ⊢
  by_cases b1 : po < so
  · have HV2 := Aside0.mk (HV.out _ (if_pos b1))
    clear HV
    go_wp2
    go_ret2
    exact ⟨0, 2, rfl, ⟨pr, cr, ac, FP.out, FC.out, FA.out, HV2.out⟩, HB.out⟩
  have HV2 := Aside0.mk (fun Y h => HV.out Y ((if_neg b1).trans h))
  clear HV
  have b2 : so ≤ po := Int.not_lt.1 b1
  clear b1
  by_cases c1 : cr < 0
  · have HV3 := Aside0.mk (HV2.out _ (if_pos (Or.inl c1)))
    clear HV2
    go_wp2
    go_ret2
    exact ⟨0, 4, rfl, ⟨pr, cr, ac, FP.out, FC.out, FA.out, HV3.out⟩, HB.out⟩
  have c2 : 0 ≤ cr := Int.not_lt.1 c1
  cases ac with
  | false =>
    have HV3 := Aside0.mk (HV2.out _ (if_pos (Or.inr rfl)))
    clear HV2
    go_wp2
    go_ret2
    exact ⟨0, 4, rfl, ⟨pr, cr, false, FP.out, FC.out, FA.out, HV3.out⟩, HB.out⟩
  | true =>
  have HV3 := Aside0.mk (fun Y h => HV2.out Y ((if_neg (fun h => h.elim c1 (by simp))).trans h))
  clear HV2 c1
  have kx5 := (blk_cell KX.out 5).trans rfl
  by_cases d1 : pl < s.f5
  · have HV4 := Aside0.mk (HV3.out _ (if_pos d1))
    clear HV3
    go_wp2
    go_quiet (fail)
    go_wp2
    go_ret2
    exact ⟨0, 3, rfl, ⟨pr, cr, true, FP.out, FC.out, FA.out, HV4.out⟩, below_step HB.out (pw_below_drewN (Below.refl _ _) _)⟩
  have HV4 := Aside0.mk (fun Y h => HV3.out Y ((if_neg d1).trans h))
  have d2 : s.f5 ≤ pl := Int.not_lt.1 d1
  clear HV3 d1
  go_wp2
  go_quiet (fail)
  have fc := fx_lt FC.out
  rw [List.length_map] at fc
  have c3 : cr < (x.Q.length : Int) := fc.elim (fun h => absurd c2 (by omega)) (fun h => h.2)
  clear fc
  obtain ⟨ae, eQ, t_0, t_1, t_2⟩ := at_T87 (Kd.R_reads' (Tab.below C.out HB.out).r10).2.2 cr c2 c3
  have z10 := (Tab.cell (Tab.below C.out HB.out) 10).trans rfl
  have z12 := (Tab.cell (Tab.below C.out HB.out) 12).trans rfl
  rw [eQ] at z10
  clear t_0 t_1 eQ
  have kx3 := (blk_cell KX.out 3).trans rfl
  generalize (rd_T87 x.Q cr).f2 = cm at t_2 HV4
  have hw1 : IntKind.i64.wrap ((L.length : Int) + n) = (L.length : Int) + n := by have := HL.out; rw [i64_w]; unfold wrap64; omega
  have hw2 : IntKind.i64.wrap (aboutP s.f3 L + n) = aboutP s.f3 L + n := by have := about_le s.f3 L; have := HL.out; rw [i64_w]; unfold wrap64; omega
  by_cases e1 : 500 < (L.length : Int) + n
  · have e4 := decide_eq_true e1
    have HV5 := Aside0.mk (HV4.out _ (if_pos (Or.inl e1)))
    clear HV4
    go_wp2
    go_quiet (fail)
    go_wp2
    go_ret2
    exact ⟨0, 5, rfl, ⟨pr, cr, true, FP.out, FC.out, FA.out, HV5.out⟩, below_step HB.out (below_step (pw_below_drewN (Below.refl _ _) _) (pw_below_drewN (Below.refl _ _) _))⟩
  have e2 : (L.length : Int) + n ≤ 500 := Int.not_lt.1 e1
  have e3 := decide_eq_false e1
  have HB0 := Aside0.mk (below_step HB.out (pw_below_drewN (Below.refl _ _) nq))
  have ab0 := (about_le s.f3 L).1
  have hN5 := Aside0.mk e2
  clear e1 e2
  go_wp2
  have n_ := Aside0.mk (below_drew1 HB0.out)
  clear HB0
  have HB0 := n_
  clear n_
  refine start_ (n := 27) (S := fun w' => w'.cell? ⟨t, 12, none⟩ = some (.slice Aj L.length cj) ∧ w'.cell? ⟨gbs, 3, none⟩ = some (.string s.f3) ∧ w'.cell? ⟨t, 10, none⟩ = some (.slice (some ae) x.Q.length x.c10) ∧ w'.cell? ⟨(ae.add (cr.toNat * 3)).block, (ae.add (cr.toNat * 3)).off + 2, none⟩ = some (.int .i64 cm)) (ds := []) #[false, false, false, false, false, false, false, false, false, false, false, false, false, false, false, false, false, false, false, false, false, false, false, false, false, false, false] (by kernel_rfl) rfl rfl ⟨z12, kx3, z10, t_2⟩ (fun hHeld => ?_)
  generalize (w2.drewN nq).drew = w3 at HB0 hHeld ⊢
  refine pure_ (i := 0) (N := some 88) (v := ?_) (a' := ?_) #[true, false, false, false, false, false, false, false, false, false, false, false, false, false, false, false, false, false, false, false, false, false, false, false, false, false, false] rfl rfl (by kernel_rfl) (fun _ _ _ h => h) (Or.inl ⟨by rfl, ?_⟩) ?_ ?_
  rotate_left
  · intro w'
    go_simp
    with_reducible rfl
  rotate_left
  · simp only [Act.put, List.setIfInBounds_toArray, List.set_cons_zero, List.set_cons_succ, i64_w, i32_w]
    rfl
  refine pure_ (i := 1) (N := some 89) (v := ?_) (a' := ?_) #[true, true, false, false, false, false, false, false, false, false, false, false, false, false, false, false, false, false, false, false, false, false, false, false, false, false, false] rfl rfl (by kernel_rfl) (fun _ _ _ h => h) (Or.inl ⟨by rfl, ?_⟩) ?_ ?_
  rotate_left
  · intro w'
    go_simp
    with_reducible rfl
  rotate_left
  · simp only [Act.put, List.setIfInBounds_toArray, List.set_cons_zero, List.set_cons_succ, i64_w, i32_w]
    rfl
  refine pure_ (i := 2) (N := some 90) (v := ?_) (a' := ?_) #[true, true, true, false, false, false, false, false, false, false, false, false, false, false, false, false, false, false, false, false, false, false, false, false, false, false, false] rfl rfl (by kernel_rfl) (fun _ _ _ h => h) (Or.inl ⟨by rfl, ?_⟩) ?_ ?_
  rotate_left
  · intro w'
    go_simp
    with_reducible rfl
  rotate_left
  · simp only [Act.put, List.setIfInBounds_toArray, List.set_cons_zero, List.set_cons_succ, i64_w, i32_w]
    rfl
  refine take_ (i := 3) (N := some 91) (v := ?_) (a' := ?_) #[true, true, true, true, false, false, false, false, false, false, false, false, false, false, false, false, false, false, false, false, false, false, false, false, false, false, false] rfl rfl (by kernel_rfl) (fun _ _ _ h => h) (Or.inl ⟨by rfl, ?_⟩) hHeld ?_ ?_
  rotate_left
  · rintro w' ⟨s0, s1, s2, s3⟩
    go_simp
    with_reducible rfl
  rotate_left
  · simp only [Act.put, List.setIfInBounds_toArray, List.set_cons_zero, List.set_cons_succ, i64_w, i32_w]
    rfl
  refine pure_ (i := 4) (N := some 92) (v := ?_) (a' := ?_) #[true, true, true, true, true, false, false, false, false, false, false, false, false, false, false, false, false, false, false, false, false, false, false, false, false, false, false] rfl rfl (by kernel_rfl) (fun _ _ _ h => h) (Or.inl ⟨by rfl, ?_⟩) ?_ ?_
  rotate_left
  · intro w'
    go_simp
    with_reducible rfl
  rotate_left
  · simp only [Act.put, List.setIfInBounds_toArray, List.set_cons_zero, List.set_cons_succ, i64_w, i32_w]
    rfl
  refine pure_ (i := 5) (N := some 93) (v := ?_) (a' := ?_) #[true, true, true, true, true, true, false, false, false, false, false, false, false, false, false, false, false, false, false, false, false, false, false, false, false, false, false] rfl rfl (by kernel_rfl) (fun _ _ _ h => h) (Or.inl ⟨by rfl, ?_⟩) ?_ ?_
  rotate_left
  · intro w'
    go_simp
    with_reducible rfl
  rotate_left
  · simp only [Act.put, List.setIfInBounds_toArray, List.set_cons_zero, List.set_cons_succ, i64_w, i32_w]
    rfl
  refine pure_ (i := 6) (N := some 94) (v := ?_) (a' := ?_) #[true, true, true, true, true, true, true, false, false, false, false, false, false, false, false, false, false, false, false, false, false, false, false, false, false, false, false] rfl rfl (by kernel_rfl) (fun _ _ _ h => h) (Or.inl ⟨by rfl, ?_⟩) ?_ ?_
  rotate_left
  · intro w'
    go_simp
    with_reducible rfl
  rotate_left
  · simp only [Act.put, List.setIfInBounds_toArray, List.set_cons_zero, List.set_cons_succ, i64_w, i32_w]
    rfl
  refine pure_ (i := 7) (N := some 95) (v := ?_) (a' := ?_) #[true, true, true, true, true, true, true, true, false, false, false, false, false, false, false, false, false, false, false, false, false, false, false, false, false, false, false] rfl rfl (by kernel_rfl) (fun _ _ _ h => h) (Or.inl ⟨by rfl, ?_⟩) ?_ ?_
  rotate_left
  · intro w'
    go_simp
    with_reducible rfl
  rotate_left
  · simp only [Act.put, List.setIfInBounds_toArray, List.set_cons_zero, List.set_cons_succ, i64_w, i32_w]
    rfl
  refine pure_ (i := 8) (N := some 96) (v := ?_) (a' := ?_) #[true, true, true, true, true, true, true, true, true, false, false, false, false, false, false, false, false, false, false, false, false, false, false, false, false, false, false] rfl rfl (by kernel_rfl) (fun _ _ _ h => h) (Or.inl ⟨by rfl, ?_⟩) ?_ ?_
  rotate_left
  · intro w'
    go_simp
    with_reducible rfl
  rotate_left
  · simp only [Act.put, List.setIfInBounds_toArray, List.set_cons_zero, List.set_cons_succ, i64_w, i32_w]
    rfl
  refine pure_ (i := 9) (N := some 97) (v := ?_) (a' := ?_) #[true, true, true, true, true, true, true, true, true, true, false, false, false, false, false, false, false, false, false, false, false, false, false, false, false, false, false] rfl rfl (by kernel_rfl) (fun _ _ _ h => h) (Or.inl ⟨by rfl, ?_⟩) ?_ ?_
  rotate_left
  · intro w'
    go_simp
    with_reducible rfl
  rotate_left
  · simp only [Act.put, List.setIfInBounds_toArray, List.set_cons_zero, List.set_cons_succ, i64_w, i32_w]
    rfl
  refine pure_ (i := 10) (N := some 98) (v := ?_) (a' := ?_) #[true, true, true, true, true, true, true, true, true, true, true, false, false, false, false, false, false, false, false, false, false, false, false, false, false, false, false] rfl rfl (by kernel_rfl) (fun _ _ _ h => h) (Or.inl ⟨by rfl, ?_⟩) ?_ ?_
  rotate_left
  · intro w'
    go_simp
    with_reducible rfl
  rotate_left
  · simp only [Act.put, List.setIfInBounds_toArray, List.set_cons_zero, List.set_cons_succ, i64_w, i32_w]
    rfl
  refine take_ (i := 11) (N := some 99) (v := ?_) (a' := ?_) #[true, true, true, true, true, true, true, true, true, true, true, true, false, false, false, false, false, false, false, false, false, false, false, false, false, false, false] rfl rfl (by kernel_rfl) (fun _ _ _ h => h) (Or.inl ⟨by rfl, ?_⟩) hHeld ?_ ?_
  rotate_left
  · rintro w' ⟨s0, s1, s2, s3⟩
    go_simp
    with_reducible rfl
  rotate_left
  · simp only [Act.put, List.setIfInBounds_toArray, List.set_cons_zero, List.set_cons_succ, i64_w, i32_w]
    rfl
  refine pure_ (i := 13) (N := some 101) (v := ?_) (a' := ?_) #[true, true, true, true, true, true, true, true, true, true, true, true, false, true, false, false, false, false, false, false, false, false, false, false, false, false, false] rfl rfl (by kernel_rfl) (fun _ _ _ h => h) (Or.inl ⟨by rfl, ?_⟩) ?_ ?_
  rotate_left
  · intro w'
    go_simp
    with_reducible rfl
  rotate_left
  · simp only [Act.put, List.setIfInBounds_toArray, List.set_cons_zero, List.set_cons_succ, i64_w, i32_w]
    rfl
  refine pure_ (i := 15) (N := some 103) (v := ?_) (a' := ?_) #[true, true, true, true, true, true, true, true, true, true, true, true, false, true, false, true, false, false, false, false, false, false, false, false, false, false, false] rfl rfl (by kernel_rfl) (fun _ _ _ h => h) (Or.inl ⟨by rfl, ?_⟩) ?_ ?_
  rotate_left
  · intro w'
    go_simp
    with_reducible rfl
  rotate_left
  · simp only [Act.put, List.setIfInBounds_toArray, List.set_cons_zero, List.set_cons_succ, i64_w, i32_w]
    rfl
  refine pure_ (i := 16) (N := some 104) (v := ?_) (a' := ?_) #[true, true, true, true, true, true, true, true, true, true, true, true, false, true, false, true, true, false, false, false, false, false, false, false, false, false, false] rfl rfl (by kernel_rfl) (fun _ _ _ h => h) (Or.inl ⟨by rfl, ?_⟩) ?_ ?_
  rotate_left
  · intro w'
    go_simp
    with_reducible rfl
  rotate_left
  · simp only [Act.put, List.setIfInBounds_toArray, List.set_cons_zero, List.set_cons_succ, i64_w, i32_w]
    rfl
  refine pure_ (i := 17) (N := some 105) (v := ?_) (a' := ?_) #[true, true, true, true, true, true, true, true, true, true, true, true, false, true, false, true, true, true, false, false, false, false, false, false, false, false, false] rfl rfl (by kernel_rfl) (fun _ _ _ h => h) (Or.inl ⟨by rfl, ?_⟩) ?_ ?_
  rotate_left
  · intro w'
    go_simp
    with_reducible rfl
  rotate_left
  · simp only [Act.put, List.setIfInBounds_toArray, List.set_cons_zero, List.set_cons_succ, i64_w, i32_w]
    rfl
  refine pure_ (i := 18) (N := some 106) (v := ?_) (a' := ?_) #[true, true, true, true, true, true, true, true, true, true, true, true, false, true, false, true, true, true, true, false, false, false, false, false, false, false, false] rfl rfl (by kernel_rfl) (fun _ _ _ h => h) (Or.inl ⟨by rfl, ?_⟩) ?_ ?_
  rotate_left
  · intro w'
    go_simp
    with_reducible rfl
  rotate_left
  · simp only [Act.put, List.setIfInBounds_toArray, List.set_cons_zero, List.set_cons_succ, i64_w, i32_w]
    rfl
  refine take_ (i := 19) (N := some 107) (v := ?_) (a' := ?_) #[true, true, true, true, true, true, true, true, true, true, true, true, false, true, false, true, true, true, true, true, false, false, false, false, false, false, false] rfl rfl (by kernel_rfl) (fun _ _ _ h => h) (Or.inl ⟨by rfl, ?_⟩) hHeld ?_ ?_
  rotate_left
  · rintro w' ⟨s0, s1, s2, s3⟩
    go_simp
    with_reducible rfl
  rotate_left
  · simp only [Act.put, List.setIfInBounds_toArray, List.set_cons_zero, List.set_cons_succ, i64_w, i32_w]
    rfl
  refine pure_ (i := 20) (N := some 108) (v := ?_) (a' := ?_) #[true, true, true, true, true, true, true, true, true, true, true, true, false, true, false, true, true, true, true, true, true, false, false, false, false, false, false] rfl rfl (by kernel_rfl) (fun _ _ _ h => h) (Or.inl ⟨by rfl, ?_⟩) ?_ ?_
  rotate_left
  · intro w'
    go_simp
    with_reducible rfl
  rotate_left
  · simp only [Act.put, List.setIfInBounds_toArray, List.set_cons_zero, List.set_cons_succ, i64_w, i32_w]
    rfl
  refine pure_ (i := 21) (N := some 109) (v := ?_) (a' := ?_) #[true, true, true, true, true, true, true, true, true, true, true, true, false, true, false, true, true, true, true, true, true, true, false, false, false, false, false] rfl rfl (by kernel_rfl) (fun _ _ _ h => h) (Or.inl ⟨by rfl, ?_⟩) ?_ ?_
  rotate_left
  · intro w'
    go_simp
    with_reducible rfl
  rotate_left
  · simp only [Act.put, List.setIfInBounds_toArray, List.set_cons_zero, List.set_cons_succ, i64_w, i32_w]
    rfl
  refine pure_ (i := 22) (N := some 110) (v := ?_) (a' := ?_) #[true, true, true, true, true, true, true, true, true, true, true, true, false, true, false, true, true, true, true, true, true, true, true, false, false, false, false] rfl rfl (by kernel_rfl) (fun _ _ _ h => h) (Or.inl ⟨by rfl, ?_⟩) ?_ ?_
  rotate_left
  · intro w'
    go_simp
    with_reducible rfl
  rotate_left
  · simp only [Act.put, List.setIfInBounds_toArray, List.set_cons_zero, List.set_cons_succ, i64_w, i32_w]
    rfl
  refine take_ (i := 23) (N := some 111) (v := ?_) (a' := ?_) #[true, true, true, true, true, true, true, true, true, true, true, true, false, true, false, true, true, true, true, true, true, true, true, true, false, false, false] rfl rfl (by kernel_rfl) (fun _ _ _ h => h) (Or.inl ⟨by rfl, ?_⟩) hHeld ?_ ?_
  rotate_left
  · rintro w' ⟨s0, s1, s2, s3⟩
    go_simp
    with_reducible rfl
  rotate_left
  · simp only [Act.put, List.setIfInBounds_toArray, List.set_cons_zero, List.set_cons_succ, i64_w, i32_w]
    rfl
  refine one_ (i := 12) (N := some 100) #[true, true, true, true, true, true, true, true, true, true, true, true, true, true, false, true, true, true, true, true, true, true, true, true, false, false, false] rfl rfl (by kernel_rfl) (by decide) (fun K hK => ?_)
  refine goes_ Tryd.func65 (by kernel_rfl) rfl #[.pointer (some ⟨t, 0, none⟩), .string s.f3] (by rfl) rfl rfl (by (try simp only [List.map_toArray, List.map_cons, List.map_nil]); first | done | rfl) ?_
  refine (about_at s.f3 (by have := HL.out; omega) (CB.out.below HB0.out)).mono ?_
  rintro e w4 ⟨rfl, hb⟩
  refine ⟨_, rfl, ?_⟩
  have HB1 := Aside0.mk (below_step HB0.out hb)
  obtain ⟨s0, s1, s2, s3⟩ := hHeld
  refine hK.out _ _ ⟨pw_cell_below hb s0, pw_cell_below hb s1, pw_cell_below hb s2, pw_cell_below hb s3⟩ (fun hHeld => ?_)
  clear hK K
  refine norm_ (a' := ?_) ?_ ?_
  rotate_left
  · show Act.put _ (some 100) _ = _
    simp only [Act.put, List.setIfInBounds_toArray, List.set_cons_zero, List.set_cons_succ, i64_w, i32_w]
    rfl
  refine pure_ (i := 14) (N := some 102) (v := ?_) (a' := ?_) #[true, true, true, true, true, true, true, true, true, true, true, true, true, true, true, true, true, true, true, true, true, true, true, true, false, false, false] rfl rfl (by kernel_rfl) (fun _ _ _ h => h) (Or.inl ⟨by rfl, ?_⟩) ?_ ?_
  rotate_left
  · intro w'
    go_simp
    with_reducible rfl
  rotate_left
  · simp only [Act.put, List.setIfInBounds_toArray, List.set_cons_zero, List.set_cons_succ, i64_w, i32_w]
    rfl
  refine pure_ (i := 24) (N := some 112) (v := ?_) (a' := ?_) #[true, true, true, true, true, true, true, true, true, true, true, true, true, true, true, true, true, true, true, true, true, true, true, true, true, false, false] rfl rfl (by kernel_rfl) (fun _ _ _ h => h) (Or.inl ⟨by rfl, ?_⟩) ?_ ?_
  rotate_left
  · intro w'
    go_simp
    with_reducible rfl
  rotate_left
  · simp only [Act.put, List.setIfInBounds_toArray, List.set_cons_zero, List.set_cons_succ, i64_w, i32_w]
    rfl
  refine pure_ (i := 25) (N := some 113) (v := ?_) (a' := ?_) #[true, true, true, true, true, true, true, true, true, true, true, true, true, true, true, true, true, true, true, true, true, true, true, true, true, true, false] rfl rfl (by kernel_rfl) (fun _ _ _ h => h) (Or.inl ⟨by rfl, ?_⟩) ?_ ?_
  rotate_left
  · intro w'
    go_simp
    with_reducible rfl
  rotate_left
  · simp only [Act.put, List.setIfInBounds_toArray, List.set_cons_zero, List.set_cons_succ, i64_w, i32_w]
    rfl
  refine pure_ (i := 26) (N := some 87) (v := ?_) (a' := ?_) #[true, true, true, true, true, true, true, true, true, true, true, true, true, true, true, true, true, true, true, true, true, true, true, true, true, true, true] rfl rfl (by kernel_rfl) (fun _ _ _ h => h) (Or.inl ⟨by rfl, ?_⟩) ?_ ?_
  rotate_left
  · intro w'
    go_simp
    with_reducible rfl
  rotate_left
  · simp only [Act.put, List.setIfInBounds_toArray, List.set_cons_zero, List.set_cons_succ, i64_w, i32_w]
    rfl
  refine done_ (by kernel_rfl) ?_
  by_cases g1 : cm < aboutP s.f3 L + n
  · have HV5 := Aside0.mk (HV4.out _ (if_pos (Or.inr g1)))
    clear HV4
    go_wp2
    go_ret2
    exact ⟨0, 5, rfl, ⟨pr, cr, true, FP.out, FC.out, FA.out, HV5.out⟩, HB1.out⟩
  · have HV5 := Aside0.mk (HV4.out _ (if_neg (fun h => h.elim (by have := hN5.out; omega) g1)))
    clear HV4
    have g2 : aboutP s.f3 L + n ≤ cm := Int.not_lt.1 g1
    clear g1
    go_wp2
    go_ret2
    exact ⟨pr, 0, rfl, ⟨pr, cr, true, FP.out, FC.out, FA.out, HV5.out⟩, HB1.out⟩
end
end Go.Proofs.YtgkedamhicemiaaDoor.P
