/- cut to what one law reaches -/
import Derived.Test.YtgkedamhicemiaaDoorProg
import Derived.Test.YtgkedamhicemiaaDoorJyShelf
import Derived.Laws.RangeAny
import Derived.Lib.AppendIntMem
import Derived.Lib.RuneCountTail
import Derived.Lib.SliceRun
import Derived.BigRegion
import Derived.Deep.RegionLaw
import Derived.Deep.WholeRow
import Derived.Lib.OthersKept
import Derived.Carry
import Derived.Deep.QuietTactic
import Derived.Deep.RegionHeld3
import Derived.Deep.AppendLies
import Derived.Below
import Derived.Deep.Draws
import Derived.Maps.AppendAt
import Derived.OwnWalk
import Derived.Laws.BytesArg
import Derived.Laws.MakeOwn
import Derived.Laws.OwnMore
import Derived.Deep.OwnRows
import Derived.Tactics
import Derived.Lib.ConvBytes
import Derived.Laws.Slices
import Derived.WalkKit
import Derived.KernelRfl
import Derived.RowKit3
import Derived.Deep.LoopGhost
import Derived.BigQuiet
import Derived.WideLaws
import Derived.Deep.DeepCutAuto
import Derived.Deep.CutBlock
import Derived.Laws.Rows
import Derived.Lib.AppendStr
import Derived.ArgAppend
import Derived.Laws.IdiomCopy
import Derived.OrdersHeld
import Derived.Laws.BitsLemmas
import Derived.RowKit
import Derived.Test.YtgkedamhicemiaaDoorJyWWords
import Derived.Test.YtgkedamhicemiaaDoorJyWLast
import Derived.Test.YtgkedamhicemiaaDoorJyWTab
import Derived.Test.YtgkedamhicemiaaDoorJyWApart
import Derived.Test.YtgkedamhicemiaaDoorJyWFoot
import Derived.Test.YtgkedamhicemiaaDoorJyWKept
import Derived.Test.YtgkedamhicemiaaDoorJyWShare
import Derived.Test.YtgkedamhicemiaaDoorJyWN
import Derived.Laws.StructEq
import Derived.Test.YtgkedamhicemiaaDoorJyWRepsOne
import Derived.Test.YtgkedamhicemiaaDoorJyWGuard
import Derived.Test.YtgkedamhicemiaaDoorJyWMore
namespace Go.Proofs.YtgkedamhicemiaaDoor.P
open Go.RowKit Go.Proofs.YtgkedamhicemiaaDoorW.PrintWords Go.Proofs.YtgkedamhicemiaaDoorW.PrintLast Go.Proofs.YtgkedamhicemiaaDoorW.PrintMore
attribute [local go_sem] max2_int min2_int max_two min_two max_three min_three max_four min_four   -- for this text's walks alone
set_option linter.unusedVariables false
set_option linter.unusedSimpArgs false
def errW : Option Int → Value
 | none => .nilIface
 | some c => .iface 0 (.int .i64 c)
theorem errW_none : errW none = .nilIface := rfl
theorem errW_some (c : Int) : errW (some c) = .iface 0 (.int .i64 c) := rfl
theorem isSome_setCell (w : World) (p : Addr) (x : Value) (q : Addr) : ((w.setCell p x).cell? q).isSome = (w.cell? q).isSome := by
 by_cases e : p = q
 ·subst e
  cases h : w.cell? p with
  | some u => rw [World.cell?_setCell_same w p x h]; rfl
  | none =>
   simp only [World.setCell, World.cell?, Array.getElem?_modify, if_true] at h ⊢
   cases hb : w.heap[p.block]? with
   | none => simp
   | some o =>
    rw [hb] at h
    cases o <;> simp_all
 ·rw [World.cell?_setCell_other w p q x e]
theorem isE_ (l : List UInt8) : (l == []) = l.isEmpty := by cases l <;> rfl
def Glob (w : World) : Prop := Lib.Utf8Tabs 0 1 w
theorem Glob.below {w w' : World} (h : Glob w) (hb : Below w.heap.size w w') : Glob w' := Utf8Tabs_below h hb
theorem Glob.utf8 {w : World} (h : Glob w) : Lib.Utf8Tabs 0 1 w := h
theorem info3 : (Tryd.prog.info? 3).map (fun i => (i.zero, i.size, i.bytes)) = some (some (.int .i64 0), 1, 8) := by kernel_rfl
theorem info9 : (Tryd.prog.info? 9).map (fun i => (i.zero, i.size, i.bytes)) = some (some (.string ⟨#[]⟩), 1, 16) := by kernel_rfl
theorem info48 : (Tryd.prog.info? 48).map (fun i => (i.zero, i.size, i.bytes)) = some (some (.int .u32 0), 1, 4) := by kernel_rfl
theorem info85 : (Tryd.prog.info? 85).map (fun i => (i.zero, i.size, i.bytes)) = some (some (.agg #[(.string ⟨#[]⟩), (.int .i64 0), (.int .i64 0), (.int .i64 0)]), 4, 40) := by kernel_rfl
theorem info87 : (Tryd.prog.info? 87).map (fun i => (i.zero, i.size, i.bytes)) = some (some (.agg #[(.string ⟨#[]⟩), (.int .i64 0), (.int .i64 0)]), 3, 32) := by kernel_rfl
theorem info89 : (Tryd.prog.info? 89).map (fun i => (i.zero, i.size, i.bytes)) = some (some (.agg #[(.string ⟨#[]⟩), (.string ⟨#[]⟩), (.int .i64 0)]), 3, 40) := by kernel_rfl
theorem info105 : (Tryd.prog.info? 105).map (fun i => (i.zero, i.size, i.bytes)) = some (some (.agg #[(.int .i64 0), (.slice none 0 0)]), 2, 32) := by kernel_rfl
-- the values' own types
structure S85 where
 f0 : ByteArray
 f1 : Int
 f2 : Int
 f3 : Int
def z85 : S85 := ⟨(⟨#[]⟩ : ByteArray), (0 : Int), (0 : Int), (0 : Int)⟩
def k85 : Kd S85 := Kd.iso (Kd.pair Kd.string (Kd.pair (Kd.int .i64) (Kd.pair (Kd.int .i64) (Kd.int .i64)))) (fun x : S85 => (x.f0, x.f1, x.f2, x.f3))
theorem k85_open {w : World} {x : S85} {cs : List Value} (h : k85.K w x cs) : cs = [.string x.f0, .int .i64 x.f1, .int .i64 x.f2, .int .i64 x.f3] := by
 obtain ⟨_, _, rfl, rfl, ⟨_, _, rfl, rfl, ⟨_, _, rfl, rfl, rfl⟩⟩⟩ := h
 exact rfl
theorem k85_mkM (w : World) (base : Nat) (ok : Nat → Prop) (x : S85)  : k85.M w base ok x [.string x.f0, .int .i64 x.f1, .int .i64 x.f2, .int .i64 x.f3] := ⟨[.string x.f0], [.int .i64 x.f1, .int .i64 x.f2, .int .i64 x.f3], rfl, rfl, ⟨[.int .i64 x.f1], [.int .i64 x.f2, .int .i64 x.f3], rfl, rfl, ⟨[.int .i64 x.f2], [.int .i64 x.f3], rfl, rfl, rfl⟩⟩⟩
def rd_T85 (xs : List S85) (i : Int) : S85 := xs.getD i.toNat z85
theorem at_T85 {w : World} {A : Option Addr} {n : Nat} {xs : List S85} (h : Kd.C k85 w A n xs) (i : Int) (h0 : 0 ≤ i) (h1 : i < n) : ∃ ad , A = some ad ∧ w.cell? (ad.add (i.toNat * 4)) = some (.string (rd_T85 xs i).f0) ∧ w.cell? ⟨(ad.add (i.toNat * 4)).block, (ad.add (i.toNat * 4)).off + 1, none⟩ = some (.int .i64 (rd_T85 xs i).f1) ∧ w.cell? ⟨(ad.add (i.toNat * 4)).block, (ad.add (i.toNat * 4)).off + 2, none⟩ = some (.int .i64 (rd_T85 xs i).f2) ∧ w.cell? ⟨(ad.add (i.toNat * 4)).block, (ad.add (i.toNat * 4)).off + 3, none⟩ = some (.int .i64 (rd_T85 xs i).f3) := by
 obtain ⟨ad, c, e, _, hK, hc0⟩ := Kd.C_get h z85 i h0 h1
 have hc : ∀ j u, c[j]? = some u → w.cell? (ad.add (i.toNat * 4 + j)) = some u := hc0
 obtain rfl := k85_open hK
 exact ⟨ad, e, hc 0 _ rfl, by rw [← add_field _ _ 1 (by omega)]; exact hc 1 _ rfl, by rw [← add_field _ _ 2 (by omega)]; exact hc 2 _ rfl, by rw [← add_field _ _ 3 (by omega)]; exact hc 3 _ rfl⟩
structure S87 where
 f0 : ByteArray
 f1 : Int
 f2 : Int
def z87 : S87 := ⟨(⟨#[]⟩ : ByteArray), (0 : Int), (0 : Int)⟩
def k87 : Kd S87 := Kd.iso (Kd.pair Kd.string (Kd.pair (Kd.int .i64) (Kd.int .i64))) (fun x : S87 => (x.f0, x.f1, x.f2))
theorem k87_open {w : World} {x : S87} {cs : List Value} (h : k87.K w x cs) : cs = [.string x.f0, .int .i64 x.f1, .int .i64 x.f2] := by
 obtain ⟨_, _, rfl, rfl, ⟨_, _, rfl, rfl, rfl⟩⟩ := h
 exact rfl
theorem k87_mkM (w : World) (base : Nat) (ok : Nat → Prop) (x : S87)  : k87.M w base ok x [.string x.f0, .int .i64 x.f1, .int .i64 x.f2] := ⟨[.string x.f0], [.int .i64 x.f1, .int .i64 x.f2], rfl, rfl, ⟨[.int .i64 x.f1], [.int .i64 x.f2], rfl, rfl, rfl⟩⟩
def rd_T87 (xs : List S87) (i : Int) : S87 := xs.getD i.toNat z87
theorem at_T87 {w : World} {A : Option Addr} {n : Nat} {xs : List S87} (h : Kd.C k87 w A n xs) (i : Int) (h0 : 0 ≤ i) (h1 : i < n) : ∃ ad , A = some ad ∧ w.cell? (ad.add (i.toNat * 3)) = some (.string (rd_T87 xs i).f0) ∧ w.cell? ⟨(ad.add (i.toNat * 3)).block, (ad.add (i.toNat * 3)).off + 1, none⟩ = some (.int .i64 (rd_T87 xs i).f1) ∧ w.cell? ⟨(ad.add (i.toNat * 3)).block, (ad.add (i.toNat * 3)).off + 2, none⟩ = some (.int .i64 (rd_T87 xs i).f2) := by
 obtain ⟨ad, c, e, _, hK, hc0⟩ := Kd.C_get h z87 i h0 h1
 have hc : ∀ j u, c[j]? = some u → w.cell? (ad.add (i.toNat * 3 + j)) = some u := hc0
 obtain rfl := k87_open hK
 exact ⟨ad, e, hc 0 _ rfl, by rw [← add_field _ _ 1 (by omega)]; exact hc 1 _ rfl, by rw [← add_field _ _ 2 (by omega)]; exact hc 2 _ rfl⟩
structure S89 where
 f0 : ByteArray
 f1 : ByteArray
 f2 : Int
def z89 : S89 := ⟨(⟨#[]⟩ : ByteArray), (⟨#[]⟩ : ByteArray), (0 : Int)⟩
def k89 : Kd S89 := Kd.iso (Kd.pair Kd.string (Kd.pair Kd.string (Kd.int .i64))) (fun x : S89 => (x.f0, x.f1, x.f2))
theorem k89_open {w : World} {x : S89} {cs : List Value} (h : k89.K w x cs) : cs = [.string x.f0, .string x.f1, .int .i64 x.f2] := by
 obtain ⟨_, _, rfl, rfl, ⟨_, _, rfl, rfl, rfl⟩⟩ := h
 exact rfl
theorem k89_mkM (w : World) (base : Nat) (ok : Nat → Prop) (x : S89)  : k89.M w base ok x [.string x.f0, .string x.f1, .int .i64 x.f2] := ⟨[.string x.f0], [.string x.f1, .int .i64 x.f2], rfl, rfl, ⟨[.string x.f1], [.int .i64 x.f2], rfl, rfl, rfl⟩⟩
def rd_T89 (xs : List S89) (i : Int) : S89 := xs.getD i.toNat z89
theorem at_T89 {w : World} {A : Option Addr} {n : Nat} {xs : List S89} (h : Kd.C k89 w A n xs) (i : Int) (h0 : 0 ≤ i) (h1 : i < n) : ∃ ad , A = some ad ∧ w.cell? (ad.add (i.toNat * 3)) = some (.string (rd_T89 xs i).f0) ∧ w.cell? ⟨(ad.add (i.toNat * 3)).block, (ad.add (i.toNat * 3)).off + 1, none⟩ = some (.string (rd_T89 xs i).f1) ∧ w.cell? ⟨(ad.add (i.toNat * 3)).block, (ad.add (i.toNat * 3)).off + 2, none⟩ = some (.int .i64 (rd_T89 xs i).f2) := by
 obtain ⟨ad, c, e, _, hK, hc0⟩ := Kd.C_get h z89 i h0 h1
 have hc : ∀ j u, c[j]? = some u → w.cell? (ad.add (i.toNat * 3 + j)) = some u := hc0
 obtain rfl := k89_open hK
 exact ⟨ad, e, hc 0 _ rfl, by rw [← add_field _ _ 1 (by omega)]; exact hc 1 _ rfl, by rw [← add_field _ _ 2 (by omega)]; exact hc 2 _ rfl⟩
structure S105 where
 f0 : Int
 f1 : (List Int)
def z105 : S105 := ⟨(0 : Int), ([] : List Int)⟩
def k105 : Kd S105 := Kd.iso (Kd.pair (Kd.int .i64) (Kd.slice 48 (Kd.int .u32))) (fun x : S105 => (x.f0, x.f1))
theorem k105_open {w : World} {x : S105} {cs : List Value} (h : k105.K w x cs) : ∃ A1 c1, cs = [.int .i64 x.f0, .slice A1 x.f1.length c1] ∧ x.f1.length ≤ c1 ∧ (Kd.int .u32).C w A1 x.f1.length x.f1 := by
 obtain ⟨_, _, rfl, rfl, ⟨A1, c1, rfl, l1, g1⟩⟩ := h
 exact ⟨A1, c1, rfl, l1, g1⟩
theorem k105_mkM (w : World) (base : Nat) (ok : Nat → Prop) (x : S105) {v1 : Value} (g1 : (Kd.int .u32).R 48 w base ok v1 x.f1) : k105.M w base ok x [.int .i64 x.f0, v1] := ⟨[.int .i64 x.f0], [v1], rfl, rfl, ⟨v1, rfl, g1⟩⟩
def rd_T105 (xs : List S105) (i : Int) : S105 := xs.getD i.toNat z105
theorem at_T105 {w : World} {A : Option Addr} {n : Nat} {xs : List S105} (h : Kd.C k105 w A n xs) (i : Int) (h0 : 0 ≤ i) (h1 : i < n) : ∃ ad A1 c1, A = some ad ∧ w.cell? (ad.add (i.toNat * 2)) = some (.int .i64 (rd_T105 xs i).f0) ∧ w.cell? ⟨(ad.add (i.toNat * 2)).block, (ad.add (i.toNat * 2)).off + 1, none⟩ = some (.slice A1 (rd_T105 xs i).f1.length c1) ∧ (rd_T105 xs i).f1.length ≤ c1 ∧ (Kd.int .u32).C w A1 (rd_T105 xs i).f1.length (rd_T105 xs i).f1 := by
 obtain ⟨ad, c, e, _, hK, hc0⟩ := Kd.C_get h z105 i h0 h1
 have hc : ∀ j u, c[j]? = some u → w.cell? (ad.add (i.toNat * 2 + j)) = some u := hc0
 obtain ⟨A1, c1, rfl, l1, g1⟩ := k105_open hK
 exact ⟨ad, A1, c1, e, hc 0 _ rfl, by rw [← add_field _ _ 1 (by omega)]; exact hc 1 _ rfl, l1, g1⟩
structure S36 where
 f0 : (List Int)
 f1 : Int
def z36 : S36 := ⟨([] : List Int), (0 : Int)⟩
def k36 : Kd S36 := Kd.iso (Kd.pair (Kd.slice 3 (Kd.int .i64)) (Kd.int .i64)) (fun x : S36 => (x.f0, x.f1))
theorem k36_open {w : World} {x : S36} {cs : List Value} (h : k36.K w x cs) : ∃ A0 c0, cs = [.slice A0 x.f0.length c0, .int .i64 x.f1] ∧ x.f0.length ≤ c0 ∧ (Kd.int .i64).C w A0 x.f0.length x.f0 := by
 obtain ⟨_, _, rfl, ⟨A0, c0, rfl, l0, g0⟩, rfl⟩ := h
 exact ⟨A0, c0, rfl, l0, g0⟩
theorem k36_openM {w : World} {base : Nat} {ok : Nat → Prop} {x : S36} {cs : List Value} (h : k36.M w base ok x cs) : ∃ v0, cs = [v0, .int .i64 x.f1] ∧ (Kd.int .i64).R 3 w base ok v0 x.f0 := by
 obtain ⟨_, _, rfl, ⟨v0, rfl, g0⟩, rfl⟩ := h
 exact ⟨v0, rfl, g0⟩
theorem k36_mkM (w : World) (base : Nat) (ok : Nat → Prop) (x : S36) {v0 : Value} (g0 : (Kd.int .i64).R 3 w base ok v0 x.f0) : k36.M w base ok x [v0, .int .i64 x.f1] := ⟨[v0], [.int .i64 x.f1], rfl, ⟨v0, rfl, g0⟩, rfl⟩
structure S39 where
 f0 : Bool
 f1 : (List S105)
def z39 : S39 := ⟨false, ([] : List S105)⟩
def k39 : Kd S39 := Kd.iso (Kd.pair Kd.bool (Kd.slice 105 k105)) (fun x : S39 => (x.f0, x.f1))
theorem k39_open {w : World} {x : S39} {cs : List Value} (h : k39.K w x cs) : ∃ A1 c1, cs = [.bool x.f0, .slice A1 x.f1.length c1] ∧ x.f1.length ≤ c1 ∧ k105.C w A1 x.f1.length x.f1 := by
 obtain ⟨_, _, rfl, rfl, ⟨A1, c1, rfl, l1, g1⟩⟩ := h
 exact ⟨A1, c1, rfl, l1, g1⟩
theorem k39_openM {w : World} {base : Nat} {ok : Nat → Prop} {x : S39} {cs : List Value} (h : k39.M w base ok x cs) : ∃ v1, cs = [.bool x.f0, v1] ∧ k105.R 105 w base ok v1 x.f1 := by
 obtain ⟨_, _, rfl, rfl, ⟨v1, rfl, g1⟩⟩ := h
 exact ⟨v1, rfl, g1⟩
theorem k39_mkM (w : World) (base : Nat) (ok : Nat → Prop) (x : S39) {v1 : Value} (g1 : k105.R 105 w base ok v1 x.f1) : k39.M w base ok x [.bool x.f0, v1] := ⟨[.bool x.f0], [v1], rfl, rfl, ⟨v1, rfl, g1⟩⟩
structure S41 where
 f0 : ByteArray
 f1 : ByteArray
 f2 : ByteArray
 f3 : ByteArray
 f4 : Int
 f5 : Int
 f6 : S36
 f7 : S39
 f8 : Int
 f9 : Int
 f10 : Bool
 f11 : Bool
 f12 : ByteArray
def z41 : S41 := ⟨(⟨#[]⟩ : ByteArray), (⟨#[]⟩ : ByteArray), (⟨#[]⟩ : ByteArray), (⟨#[]⟩ : ByteArray), (0 : Int), (0 : Int), z36, z39, (0 : Int), (0 : Int), false, false, (⟨#[]⟩ : ByteArray)⟩
def k41 : Kd S41 := Kd.iso (Kd.pair Kd.string (Kd.pair Kd.string (Kd.pair Kd.string (Kd.pair Kd.string (Kd.pair (Kd.int .i64) (Kd.pair (Kd.int .i64) (Kd.pair k36 (Kd.pair k39 (Kd.pair (Kd.int .i64) (Kd.pair (Kd.int .i64) (Kd.pair Kd.bool (Kd.pair Kd.bool Kd.string)))))))))))) (fun x : S41 => (x.f0, x.f1, x.f2, x.f3, x.f4, x.f5, x.f6, x.f7, x.f8, x.f9, x.f10, x.f11, x.f12))
theorem k41_open {w : World} {x : S41} {cs : List Value} (h : k41.K w x cs) : ∃ A6 c6 A9 c9, cs = [.string x.f0, .string x.f1, .string x.f2, .string x.f3, .int .i64 x.f4, .int .i64 x.f5, .slice A6 x.f6.f0.length c6, .int .i64 x.f6.f1, .bool x.f7.f0, .slice A9 x.f7.f1.length c9, .int .i64 x.f8, .int .i64 x.f9, .bool x.f10, .bool x.f11, .string x.f12] ∧ x.f6.f0.length ≤ c6 ∧ (Kd.int .i64).C w A6 x.f6.f0.length x.f6.f0 ∧ x.f7.f1.length ≤ c9 ∧ k105.C w A9 x.f7.f1.length x.f7.f1 := by
 obtain ⟨_, _, rfl, rfl, ⟨_, _, rfl, rfl, ⟨_, _, rfl, rfl, ⟨_, _, rfl, rfl, ⟨_, _, rfl, rfl, ⟨_, _, rfl, rfl, ⟨_, _, rfl, s6, ⟨_, _, rfl, s8, ⟨_, _, rfl, rfl, ⟨_, _, rfl, rfl, ⟨_, _, rfl, rfl, ⟨_, _, rfl, rfl, rfl⟩⟩⟩⟩⟩⟩⟩⟩⟩⟩⟩⟩ := h
 obtain ⟨A6, c6, rfl, l6, g6⟩ := k36_open s6
 obtain ⟨A9, c9, rfl, l9, g9⟩ := k39_open s8
 exact ⟨A6, c6, A9, c9, rfl, l6, g6, l9, g9⟩
theorem k41_openM {w : World} {base : Nat} {ok : Nat → Prop} {x : S41} {cs : List Value} (h : k41.M w base ok x cs) : ∃ v6 v9, cs = [.string x.f0, .string x.f1, .string x.f2, .string x.f3, .int .i64 x.f4, .int .i64 x.f5, v6, .int .i64 x.f6.f1, .bool x.f7.f0, v9, .int .i64 x.f8, .int .i64 x.f9, .bool x.f10, .bool x.f11, .string x.f12] ∧ (Kd.int .i64).R 3 w base ok v6 x.f6.f0 ∧ k105.R 105 w base ok v9 x.f7.f1 := by
 obtain ⟨_, _, rfl, rfl, ⟨_, _, rfl, rfl, ⟨_, _, rfl, rfl, ⟨_, _, rfl, rfl, ⟨_, _, rfl, rfl, ⟨_, _, rfl, rfl, ⟨_, _, rfl, s6, ⟨_, _, rfl, s8, ⟨_, _, rfl, rfl, ⟨_, _, rfl, rfl, ⟨_, _, rfl, rfl, ⟨_, _, rfl, rfl, rfl⟩⟩⟩⟩⟩⟩⟩⟩⟩⟩⟩⟩ := h
 obtain ⟨v6, rfl, g6⟩ := k36_openM s6
 obtain ⟨v9, rfl, g9⟩ := k39_openM s8
 exact ⟨v6, v9, rfl, g6, g9⟩
theorem k41_mkM (w : World) (base : Nat) (ok : Nat → Prop) (x : S41) {v6 : Value} (g6 : (Kd.int .i64).R 3 w base ok v6 x.f6.f0) {v9 : Value} (g9 : k105.R 105 w base ok v9 x.f7.f1) : k41.M w base ok x [.string x.f0, .string x.f1, .string x.f2, .string x.f3, .int .i64 x.f4, .int .i64 x.f5, v6, .int .i64 x.f6.f1, .bool x.f7.f0, v9, .int .i64 x.f8, .int .i64 x.f9, .bool x.f10, .bool x.f11, .string x.f12] := ⟨[.string x.f0], [.string x.f1, .string x.f2, .string x.f3, .int .i64 x.f4, .int .i64 x.f5, v6, .int .i64 x.f6.f1, .bool x.f7.f0, v9, .int .i64 x.f8, .int .i64 x.f9, .bool x.f10, .bool x.f11, .string x.f12], rfl, rfl, ⟨[.string x.f1], [.string x.f2, .string x.f3, .int .i64 x.f4, .int .i64 x.f5, v6, .int .i64 x.f6.f1, .bool x.f7.f0, v9, .int .i64 x.f8, .int .i64 x.f9, .bool x.f10, .bool x.f11, .string x.f12], rfl, rfl, ⟨[.string x.f2], [.string x.f3, .int .i64 x.f4, .int .i64 x.f5, v6, .int .i64 x.f6.f1, .bool x.f7.f0, v9, .int .i64 x.f8, .int .i64 x.f9, .bool x.f10, .bool x.f11, .string x.f12], rfl, rfl, ⟨[.string x.f3], [.int .i64 x.f4, .int .i64 x.f5, v6, .int .i64 x.f6.f1, .bool x.f7.f0, v9, .int .i64 x.f8, .int .i64 x.f9, .bool x.f10, .bool x.f11, .string x.f12], rfl, rfl, ⟨[.int .i64 x.f4], [.int .i64 x.f5, v6, .int .i64 x.f6.f1, .bool x.f7.f0, v9, .int .i64 x.f8, .int .i64 x.f9, .bool x.f10, .bool x.f11, .string x.f12], rfl, rfl, ⟨[.int .i64 x.f5], [v6, .int .i64 x.f6.f1, .bool x.f7.f0, v9, .int .i64 x.f8, .int .i64 x.f9, .bool x.f10, .bool x.f11, .string x.f12], rfl, rfl, ⟨[v6, .int .i64 x.f6.f1], [.bool x.f7.f0, v9, .int .i64 x.f8, .int .i64 x.f9, .bool x.f10, .bool x.f11, .string x.f12], rfl, (k36_mkM w base ok x.f6 g6), ⟨[.bool x.f7.f0, v9], [.int .i64 x.f8, .int .i64 x.f9, .bool x.f10, .bool x.f11, .string x.f12], rfl, (k39_mkM w base ok x.f7 g9), ⟨[.int .i64 x.f8], [.int .i64 x.f9, .bool x.f10, .bool x.f11, .string x.f12], rfl, rfl, ⟨[.int .i64 x.f9], [.bool x.f10, .bool x.f11, .string x.f12], rfl, rfl, ⟨[.bool x.f10], [.bool x.f11, .string x.f12], rfl, rfl, ⟨[.bool x.f11], [.string x.f12], rfl, rfl, rfl⟩⟩⟩⟩⟩⟩⟩⟩⟩⟩⟩⟩
structure S55 where
 f0 : Int
 f1 : Int
def z55 : S55 := ⟨(0 : Int), (0 : Int)⟩
def k55 : Kd S55 := Kd.iso (Kd.pair (Kd.int .i64) (Kd.int .i64)) (fun x : S55 => (x.f0, x.f1))
theorem k55_open {w : World} {x : S55} {cs : List Value} (h : k55.K w x cs) : cs = [.int .i64 x.f0, .int .i64 x.f1] := by
 obtain ⟨_, _, rfl, rfl, rfl⟩ := h
 exact rfl
theorem k55_openM {w : World} {base : Nat} {ok : Nat → Prop} {x : S55} {cs : List Value} (h : k55.M w base ok x cs) : cs = [.int .i64 x.f0, .int .i64 x.f1] := by
 obtain ⟨_, _, rfl, rfl, rfl⟩ := h
 exact rfl
theorem k55_mkM (w : World) (base : Nat) (ok : Nat → Prop) (x : S55)  : k55.M w base ok x [.int .i64 x.f0, .int .i64 x.f1] := ⟨[.int .i64 x.f0], [.int .i64 x.f1], rfl, rfl, rfl⟩
structure S58 where
 f0 : Int
 f1 : Int
 f2 : Int
 f3 : S41
 f4 : Int
 f5 : Int
 f6 : Int
 f7 : Int
 f8 : Int
 f9 : Int
 f10 : S55
def z58 : S58 := ⟨(0 : Int), (0 : Int), (0 : Int), z41, (0 : Int), (0 : Int), (0 : Int), (0 : Int), (0 : Int), (0 : Int), z55⟩
def k58 : Kd S58 := Kd.iso (Kd.pair (Kd.int .u32) (Kd.pair (Kd.int .u32) (Kd.pair (Kd.int .i64) (Kd.pair k41 (Kd.pair (Kd.int .i64) (Kd.pair (Kd.int .i64) (Kd.pair (Kd.int .i64) (Kd.pair (Kd.int .i64) (Kd.pair (Kd.int .i64) (Kd.pair (Kd.int .i64) k55)))))))))) (fun x : S58 => (x.f0, x.f1, x.f2, x.f3, x.f4, x.f5, x.f6, x.f7, x.f8, x.f9, x.f10))
theorem k58_open {w : World} {x : S58} {cs : List Value} (h : k58.K w x cs) : ∃ A9 c9 A12 c12, cs = [.int .u32 x.f0, .int .u32 x.f1, .int .i64 x.f2, .string x.f3.f0, .string x.f3.f1, .string x.f3.f2, .string x.f3.f3, .int .i64 x.f3.f4, .int .i64 x.f3.f5, .slice A9 x.f3.f6.f0.length c9, .int .i64 x.f3.f6.f1, .bool x.f3.f7.f0, .slice A12 x.f3.f7.f1.length c12, .int .i64 x.f3.f8, .int .i64 x.f3.f9, .bool x.f3.f10, .bool x.f3.f11, .string x.f3.f12, .int .i64 x.f4, .int .i64 x.f5, .int .i64 x.f6, .int .i64 x.f7, .int .i64 x.f8, .int .i64 x.f9, .int .i64 x.f10.f0, .int .i64 x.f10.f1] ∧ x.f3.f6.f0.length ≤ c9 ∧ (Kd.int .i64).C w A9 x.f3.f6.f0.length x.f3.f6.f0 ∧ x.f3.f7.f1.length ≤ c12 ∧ k105.C w A12 x.f3.f7.f1.length x.f3.f7.f1 := by
 obtain ⟨_, _, rfl, rfl, ⟨_, _, rfl, rfl, ⟨_, _, rfl, rfl, ⟨_, _, rfl, s3, ⟨_, _, rfl, rfl, ⟨_, _, rfl, rfl, ⟨_, _, rfl, rfl, ⟨_, _, rfl, rfl, ⟨_, _, rfl, rfl, ⟨_, _, rfl, rfl, s24⟩⟩⟩⟩⟩⟩⟩⟩⟩⟩ := h
 obtain ⟨A9, c9, A12, c12, rfl, l9, g9, l12, g12⟩ := k41_open s3
 obtain rfl := k55_open s24
 exact ⟨A9, c9, A12, c12, rfl, l9, g9, l12, g12⟩
theorem k58_openM {w : World} {base : Nat} {ok : Nat → Prop} {x : S58} {cs : List Value} (h : k58.M w base ok x cs) : ∃ v9 v12, cs = [.int .u32 x.f0, .int .u32 x.f1, .int .i64 x.f2, .string x.f3.f0, .string x.f3.f1, .string x.f3.f2, .string x.f3.f3, .int .i64 x.f3.f4, .int .i64 x.f3.f5, v9, .int .i64 x.f3.f6.f1, .bool x.f3.f7.f0, v12, .int .i64 x.f3.f8, .int .i64 x.f3.f9, .bool x.f3.f10, .bool x.f3.f11, .string x.f3.f12, .int .i64 x.f4, .int .i64 x.f5, .int .i64 x.f6, .int .i64 x.f7, .int .i64 x.f8, .int .i64 x.f9, .int .i64 x.f10.f0, .int .i64 x.f10.f1] ∧ (Kd.int .i64).R 3 w base ok v9 x.f3.f6.f0 ∧ k105.R 105 w base ok v12 x.f3.f7.f1 := by
 obtain ⟨_, _, rfl, rfl, ⟨_, _, rfl, rfl, ⟨_, _, rfl, rfl, ⟨_, _, rfl, s3, ⟨_, _, rfl, rfl, ⟨_, _, rfl, rfl, ⟨_, _, rfl, rfl, ⟨_, _, rfl, rfl, ⟨_, _, rfl, rfl, ⟨_, _, rfl, rfl, s24⟩⟩⟩⟩⟩⟩⟩⟩⟩⟩ := h
 obtain ⟨v9, v12, rfl, g9, g12⟩ := k41_openM s3
 obtain rfl := k55_openM s24
 exact ⟨v9, v12, rfl, g9, g12⟩
theorem k58_mkM (w : World) (base : Nat) (ok : Nat → Prop) (x : S58) {v9 : Value} (g9 : (Kd.int .i64).R 3 w base ok v9 x.f3.f6.f0) {v12 : Value} (g12 : k105.R 105 w base ok v12 x.f3.f7.f1) : k58.M w base ok x [.int .u32 x.f0, .int .u32 x.f1, .int .i64 x.f2, .string x.f3.f0, .string x.f3.f1, .string x.f3.f2, .string x.f3.f3, .int .i64 x.f3.f4, .int .i64 x.f3.f5, v9, .int .i64 x.f3.f6.f1, .bool x.f3.f7.f0, v12, .int .i64 x.f3.f8, .int .i64 x.f3.f9, .bool x.f3.f10, .bool x.f3.f11, .string x.f3.f12, .int .i64 x.f4, .int .i64 x.f5, .int .i64 x.f6, .int .i64 x.f7, .int .i64 x.f8, .int .i64 x.f9, .int .i64 x.f10.f0, .int .i64 x.f10.f1] := ⟨[.int .u32 x.f0], [.int .u32 x.f1, .int .i64 x.f2, .string x.f3.f0, .string x.f3.f1, .string x.f3.f2, .string x.f3.f3, .int .i64 x.f3.f4, .int .i64 x.f3.f5, v9, .int .i64 x.f3.f6.f1, .bool x.f3.f7.f0, v12, .int .i64 x.f3.f8, .int .i64 x.f3.f9, .bool x.f3.f10, .bool x.f3.f11, .string x.f3.f12, .int .i64 x.f4, .int .i64 x.f5, .int .i64 x.f6, .int .i64 x.f7, .int .i64 x.f8, .int .i64 x.f9, .int .i64 x.f10.f0, .int .i64 x.f10.f1], rfl, rfl, ⟨[.int .u32 x.f1], [.int .i64 x.f2, .string x.f3.f0, .string x.f3.f1, .string x.f3.f2, .string x.f3.f3, .int .i64 x.f3.f4, .int .i64 x.f3.f5, v9, .int .i64 x.f3.f6.f1, .bool x.f3.f7.f0, v12, .int .i64 x.f3.f8, .int .i64 x.f3.f9, .bool x.f3.f10, .bool x.f3.f11, .string x.f3.f12, .int .i64 x.f4, .int .i64 x.f5, .int .i64 x.f6, .int .i64 x.f7, .int .i64 x.f8, .int .i64 x.f9, .int .i64 x.f10.f0, .int .i64 x.f10.f1], rfl, rfl, ⟨[.int .i64 x.f2], [.string x.f3.f0, .string x.f3.f1, .string x.f3.f2, .string x.f3.f3, .int .i64 x.f3.f4, .int .i64 x.f3.f5, v9, .int .i64 x.f3.f6.f1, .bool x.f3.f7.f0, v12, .int .i64 x.f3.f8, .int .i64 x.f3.f9, .bool x.f3.f10, .bool x.f3.f11, .string x.f3.f12, .int .i64 x.f4, .int .i64 x.f5, .int .i64 x.f6, .int .i64 x.f7, .int .i64 x.f8, .int .i64 x.f9, .int .i64 x.f10.f0, .int .i64 x.f10.f1], rfl, rfl, ⟨[.string x.f3.f0, .string x.f3.f1, .string x.f3.f2, .string x.f3.f3, .int .i64 x.f3.f4, .int .i64 x.f3.f5, v9, .int .i64 x.f3.f6.f1, .bool x.f3.f7.f0, v12, .int .i64 x.f3.f8, .int .i64 x.f3.f9, .bool x.f3.f10, .bool x.f3.f11, .string x.f3.f12], [.int .i64 x.f4, .int .i64 x.f5, .int .i64 x.f6, .int .i64 x.f7, .int .i64 x.f8, .int .i64 x.f9, .int .i64 x.f10.f0, .int .i64 x.f10.f1], rfl, (k41_mkM w base ok x.f3 g9 g12), ⟨[.int .i64 x.f4], [.int .i64 x.f5, .int .i64 x.f6, .int .i64 x.f7, .int .i64 x.f8, .int .i64 x.f9, .int .i64 x.f10.f0, .int .i64 x.f10.f1], rfl, rfl, ⟨[.int .i64 x.f5], [.int .i64 x.f6, .int .i64 x.f7, .int .i64 x.f8, .int .i64 x.f9, .int .i64 x.f10.f0, .int .i64 x.f10.f1], rfl, rfl, ⟨[.int .i64 x.f6], [.int .i64 x.f7, .int .i64 x.f8, .int .i64 x.f9, .int .i64 x.f10.f0, .int .i64 x.f10.f1], rfl, rfl, ⟨[.int .i64 x.f7], [.int .i64 x.f8, .int .i64 x.f9, .int .i64 x.f10.f0, .int .i64 x.f10.f1], rfl, rfl, ⟨[.int .i64 x.f8], [.int .i64 x.f9, .int .i64 x.f10.f0, .int .i64 x.f10.f1], rfl, rfl, ⟨[.int .i64 x.f9], [.int .i64 x.f10.f0, .int .i64 x.f10.f1], rfl, rfl, (k55_mkM w base ok x.f10 )⟩⟩⟩⟩⟩⟩⟩⟩⟩⟩
def rd_T58 (xs : List S58) (i : Int) : S58 := xs.getD i.toNat z58
structure S68 where
 f0 : Int
 f1 : Int
 f2 : Int
 f3 : S55
 f4 : Int
def z68 : S68 := ⟨(0 : Int), (0 : Int), (0 : Int), z55, (0 : Int)⟩
def k68 : Kd S68 := Kd.iso (Kd.pair (Kd.int .i64) (Kd.pair (Kd.int .u32) (Kd.pair (Kd.int .i64) (Kd.pair k55 (Kd.int .i64))))) (fun x : S68 => (x.f0, x.f1, x.f2, x.f3, x.f4))
theorem k68_open {w : World} {x : S68} {cs : List Value} (h : k68.K w x cs) : cs = [.int .i64 x.f0, .int .u32 x.f1, .int .i64 x.f2, .int .i64 x.f3.f0, .int .i64 x.f3.f1, .int .i64 x.f4] := by
 obtain ⟨_, _, rfl, rfl, ⟨_, _, rfl, rfl, ⟨_, _, rfl, rfl, ⟨_, _, rfl, s3, rfl⟩⟩⟩⟩ := h
 obtain rfl := k55_open s3
 exact rfl
structure S70 where
 f0 : Int
 f1 : S41
 f2 : Int
 f3 : S68
 f4 : Bool
def z70 : S70 := ⟨(0 : Int), z41, (0 : Int), z68, false⟩
def k70 : Kd S70 := Kd.iso (Kd.pair (Kd.int .i64) (Kd.pair k41 (Kd.pair (Kd.int .i64) (Kd.pair k68 Kd.bool)))) (fun x : S70 => (x.f0, x.f1, x.f2, x.f3, x.f4))
theorem k70_open {w : World} {x : S70} {cs : List Value} (h : k70.K w x cs) : ∃ A7 c7 A10 c10, cs = [.int .i64 x.f0, .string x.f1.f0, .string x.f1.f1, .string x.f1.f2, .string x.f1.f3, .int .i64 x.f1.f4, .int .i64 x.f1.f5, .slice A7 x.f1.f6.f0.length c7, .int .i64 x.f1.f6.f1, .bool x.f1.f7.f0, .slice A10 x.f1.f7.f1.length c10, .int .i64 x.f1.f8, .int .i64 x.f1.f9, .bool x.f1.f10, .bool x.f1.f11, .string x.f1.f12, .int .i64 x.f2, .int .i64 x.f3.f0, .int .u32 x.f3.f1, .int .i64 x.f3.f2, .int .i64 x.f3.f3.f0, .int .i64 x.f3.f3.f1, .int .i64 x.f3.f4, .bool x.f4] ∧ x.f1.f6.f0.length ≤ c7 ∧ (Kd.int .i64).C w A7 x.f1.f6.f0.length x.f1.f6.f0 ∧ x.f1.f7.f1.length ≤ c10 ∧ k105.C w A10 x.f1.f7.f1.length x.f1.f7.f1 := by
 obtain ⟨_, _, rfl, rfl, ⟨_, _, rfl, s1, ⟨_, _, rfl, rfl, ⟨_, _, rfl, s17, rfl⟩⟩⟩⟩ := h
 obtain ⟨A7, c7, A10, c10, rfl, l7, g7, l10, g10⟩ := k41_open s1
 obtain rfl := k68_open s17
 exact ⟨A7, c7, A10, c10, rfl, l7, g7, l10, g10⟩
structure Cf where
 f0 : Int
 f1 : Int
 f2 : Int
 f3 : Int
 f4 : Int
 f5 : Int
 f6 : Int
 f7 : Int
 f8 : Int
theorem size_setCell_ (w : World) (p : Addr) (v : Value) : (w.setCell p v).heap.size = w.heap.size := by simp [World.setCell]
structure Tab (W : World) (B : Nat) (M : Nat → Prop) (t : Nat) (h : Cf) (A9 : Option Addr) (c9 : Nat) (A10 : Option Addr) (c10 : Nat) (A11 : Option Addr) (c11 : Nat) (Aj : Option Addr) (cj : Nat) (P : List S85) (Q : List S87) (A : List S89) (L : List S58) : Prop where
 mb : ∀ k, M k → B ≤ k
 mt : M t
 b : W.heap[t]? = some (.cells #[.int .i64 h.f0, .int .i64 h.f1, .int .i64 h.f2, .int .i64 h.f3, .int .i64 h.f4, .int .i64 h.f5, .int .i64 h.f6, .int .i64 h.f7, .int .i64 h.f8, .slice A9 P.length c9, .slice A10 Q.length c10, .slice A11 A.length c11, .slice Aj L.length cj] 83 (0, 0))
 r9 : Kd.R k85 85 W B M (.slice A9 P.length c9) P
 r10 : Kd.R k87 87 W B M (.slice A10 Q.length c10) Q
 r11 : Kd.R k89 89 W B M (.slice A11 A.length c11) A
 rj : Kd.R k58 58 W B M (.slice Aj L.length cj) L
section
variable {W W' : World} {B t : Nat} {M : Nat → Prop} {h : Cf} {A9 : Option Addr} {c9 : Nat} {A10 : Option Addr} {c10 : Nat} {A11 : Option Addr} {c11 : Nat} {Aj : Option Addr} {cj : Nat} {P : List S85} {Q : List S87} {A : List S89} {L : List S58}
theorem Tab.below (c : Tab W B M t h A9 c9 A10 c10 A11 c11 Aj cj P Q A L) (hb : Below W.heap.size W W') : Tab W' B M t h A9 c9 A10 c10 A11 c11 Aj cj P Q A L :=
 ⟨c.mb, c.mt, blk_below c.b hb, Kd.R_below c.r9 hb, Kd.R_below c.r10 hb, Kd.R_below c.r11 hb, Kd.R_below c.rj hb⟩
theorem Tab.drew (c : Tab W B M t h A9 c9 A10 c10 A11 c11 Aj cj P Q A L) : Tab W.drew B M t h A9 c9 A10 c10 A11 c11 Aj cj P Q A L := c.below (below_drew (Below.refl _ _))
theorem Tab.drewN (c : Tab W B M t h A9 c9 A10 c10 A11 c11 Aj cj P Q A L) (m : Nat) : Tab (W.drewN m) B M t h A9 c9 A10 c10 A11 c11 Aj cj P Q A L := c.below (pw_below_drewN (Below.refl _ _) m)
theorem Tab.alloc (c : Tab W B M t h A9 c9 A10 c10 A11 c11 Aj cj P Q A L) (o : Obj) : Tab (W.alloc o) B M t h A9 c9 A10 c10 A11 c11 Aj cj P Q A L := c.below (below_alloc (Below.refl _ _) o)
theorem Tab.more (c : Tab W B M t h A9 c9 A10 c10 A11 c11 Aj cj P Q A L) {M' : Nat → Prop} (hm : ∀ k, M k → M' k) (hb : ∀ k, M' k → B ≤ k) : Tab W B M' t h A9 c9 A10 c10 A11 c11 Aj cj P Q A L :=
 ⟨hb, hm t c.mt, c.b, Kd.R_mono c.r9 hm, Kd.R_mono c.r10 hm, Kd.R_mono c.r11 hm, Kd.R_mono c.rj hm⟩
theorem Tab.row (c : Tab W B M t h A9 c9 A10 c10 A11 c11 Aj cj P Q A L) (hp : 0 < L.length) : ∃ g, Aj = some ⟨g, 0, none⟩ ∧ M g := by
 obtain ⟨g, cap, e, _, _, _⟩ := Kd.R_form c.rj hp
 injection e with e1 e2 e3
 refine ⟨g, e1, c.rj.1 g ?_⟩
 rw [e1]; simp [Value.ownBlock]
theorem Tab.cell (c : Tab W B M t h A9 c9 A10 c10 A11 c11 Aj cj P Q A L) (j : Nat) : W.cell? ⟨t, j, none⟩ = (#[.int .i64 h.f0, .int .i64 h.f1, .int .i64 h.f2, .int .i64 h.f3, .int .i64 h.f4, .int .i64 h.f5, .int .i64 h.f6, .int .i64 h.f7, .int .i64 h.f8, .slice A9 P.length c9, .slice A10 Q.length c10, .slice A11 A.length c11, .slice Aj L.length cj] : Array Value)[j]? := blk_cell c.b j
theorem Tab.job {g : Nat} (c : Tab W B M t h A9 c9 A10 c10 A11 c11 (some ⟨g, 0, none⟩) cj P Q A L) (n : Nat) (h1 : n < L.length) :
  (W.cell? ⟨g, n * 26 + 0, none⟩ = some (.int .u32 (rd_T58 L (n : Int)).f0) ∧ W.cell? ⟨g, n * 26 + 1, none⟩ = some (.int .u32 (rd_T58 L (n : Int)).f1) ∧ W.cell? ⟨g, n * 26 + 2, none⟩ = some (.int .i64 (rd_T58 L (n : Int)).f2) ∧ W.cell? ⟨g, n * 26 + 3, none⟩ = some (.string (rd_T58 L (n : Int)).f3.f0) ∧ W.cell? ⟨g, n * 26 + 6, none⟩ = some (.string (rd_T58 L (n : Int)).f3.f3) ∧ W.cell? ⟨g, n * 26 + 7, none⟩ = some (.int .i64 (rd_T58 L (n : Int)).f3.f4) ∧ W.cell? ⟨g, n * 26 + 18, none⟩ = some (.int .i64 (rd_T58 L (n : Int)).f4) ∧ W.cell? ⟨g, n * 26 + 19, none⟩ = some (.int .i64 (rd_T58 L (n : Int)).f5) ∧ W.cell? ⟨g, n * 26 + 20, none⟩ = some (.int .i64 (rd_T58 L (n : Int)).f6) ∧ W.cell? ⟨g, n * 26 + 21, none⟩ = some (.int .i64 (rd_T58 L (n : Int)).f7) ∧ W.cell? ⟨g, n * 26 + 22, none⟩ = some (.int .i64 (rd_T58 L (n : Int)).f8) ∧ W.cell? ⟨g, n * 26 + 23, none⟩ = some (.int .i64 (rd_T58 L (n : Int)).f9) ∧ W.cell? ⟨g, n * 26 + 24, none⟩ = some (.int .i64 (rd_T58 L (n : Int)).f10.f0) ∧ W.cell? ⟨g, n * 26 + 25, none⟩ = some (.int .i64 (rd_T58 L (n : Int)).f10.f1)) ∧ ∀ j, W.frozen? ⟨g, n * 26 + j, none⟩ = false := by
 obtain ⟨ce, hcl, hM, hcc, hfr⟩ := Kd.R_elem c.rj z58 (n : Int) (by omega) (by omega)
 obtain ⟨v9, v12, rfl, g9, g12⟩ := k58_openM hM
 exact ⟨⟨hcc 0 _ rfl, hcc 1 _ rfl, hcc 2 _ rfl, hcc 3 _ rfl, hcc 6 _ rfl, hcc 7 _ rfl, hcc 18 _ rfl, hcc 19 _ rfl, hcc 20 _ rfl, hcc 21 _ rfl, hcc 22 _ rfl, hcc 23 _ rfl, hcc 24 _ rfl, hcc 25 _ rfl⟩, hfr⟩
theorem Tab.put19 {g : Nat} (c : Tab W B M t h A9 c9 A10 c10 A11 c11 (some ⟨g, 0, none⟩) cj P Q A L) (n : Nat) (h1 : n < L.length) (x : Int) :
  Tab (W.setCell ⟨g, n * 26 + 19, none⟩ (.int .i64 x)) B M t h A9 c9 A10 c10 A11 c11 (some ⟨g, 0, none⟩) cj P Q A (L.set n (⟨(rd_T58 L (n : Int)).f0, (rd_T58 L (n : Int)).f1, (rd_T58 L (n : Int)).f2, (rd_T58 L (n : Int)).f3, (rd_T58 L (n : Int)).f4, x, (rd_T58 L (n : Int)).f6, (rd_T58 L (n : Int)).f7, (rd_T58 L (n : Int)).f8, (rd_T58 L (n : Int)).f9, ⟨(rd_T58 L (n : Int)).f10.f0, (rd_T58 L (n : Int)).f10.f1⟩⟩ : S58)) := by
 obtain ⟨ce, hcl, hM, hcc, hfr⟩ := Kd.R_elem c.rj z58 (n : Int) (by omega) (by omega)
 obtain ⟨v9, v12, rfl, g9, g12⟩ := k58_openM hM
 obtain ⟨cs, hcs⟩ := Kd.R_typed c.rj g (by simp [Value.ownBlock])
 have hne : t ≠ g := by
  intro e2
  have e3 := c.b
  rw [e2] at e3
  have := e3.symm.trans hcs
  simp at this
 have s0 := (Kd.R_seg c.rj (n : Int) (by omega) (by omega) (seg := [.int .i64 x]) (j := 19) hcl hcc (show 20 ≤ 26 from by decide) (x' := (⟨(rd_T58 L (n : Int)).f0, (rd_T58 L (n : Int)).f1, (rd_T58 L (n : Int)).f2, (rd_T58 L (n : Int)).f3, (rd_T58 L (n : Int)).f4, x, (rd_T58 L (n : Int)).f6, (rd_T58 L (n : Int)).f7, (rd_T58 L (n : Int)).f8, (rd_T58 L (n : Int)).f9, ⟨(rd_T58 L (n : Int)).f10.f0, (rd_T58 L (n : Int)).f10.f1⟩⟩ : S58)) (k58_mkM _ _ _ (⟨(rd_T58 L (n : Int)).f0, (rd_T58 L (n : Int)).f1, (rd_T58 L (n : Int)).f2, (rd_T58 L (n : Int)).f3, (rd_T58 L (n : Int)).f4, x, (rd_T58 L (n : Int)).f6, (rd_T58 L (n : Int)).f7, (rd_T58 L (n : Int)).f8, (rd_T58 L (n : Int)).f9, ⟨(rd_T58 L (n : Int)).f10.f0, (rd_T58 L (n : Int)).f10.f1⟩⟩ : S58) g9 g12) (fun _ hk => hk)).1
 exact ⟨c.mb, c.mt, by rw [List.length_set]; exact blk_far c.b (p := ⟨g, n * 26 + 19, none⟩) hne _, Kd.R_set c.r9 hcs (by decide) _ _, Kd.R_set c.r10 hcs (by decide) _ _, Kd.R_set c.r11 hcs (by decide) _ _, by rw [List.length_set]; exact s0⟩
theorem Tab.put20 {g : Nat} (c : Tab W B M t h A9 c9 A10 c10 A11 c11 (some ⟨g, 0, none⟩) cj P Q A L) (n : Nat) (h1 : n < L.length) (x : Int) :
  Tab (W.setCell ⟨g, n * 26 + 20, none⟩ (.int .i64 x)) B M t h A9 c9 A10 c10 A11 c11 (some ⟨g, 0, none⟩) cj P Q A (L.set n (⟨(rd_T58 L (n : Int)).f0, (rd_T58 L (n : Int)).f1, (rd_T58 L (n : Int)).f2, (rd_T58 L (n : Int)).f3, (rd_T58 L (n : Int)).f4, (rd_T58 L (n : Int)).f5, x, (rd_T58 L (n : Int)).f7, (rd_T58 L (n : Int)).f8, (rd_T58 L (n : Int)).f9, ⟨(rd_T58 L (n : Int)).f10.f0, (rd_T58 L (n : Int)).f10.f1⟩⟩ : S58)) := by
 obtain ⟨ce, hcl, hM, hcc, hfr⟩ := Kd.R_elem c.rj z58 (n : Int) (by omega) (by omega)
 obtain ⟨v9, v12, rfl, g9, g12⟩ := k58_openM hM
 obtain ⟨cs, hcs⟩ := Kd.R_typed c.rj g (by simp [Value.ownBlock])
 have hne : t ≠ g := by
  intro e2
  have e3 := c.b
  rw [e2] at e3
  have := e3.symm.trans hcs
  simp at this
 have s0 := (Kd.R_seg c.rj (n : Int) (by omega) (by omega) (seg := [.int .i64 x]) (j := 20) hcl hcc (show 21 ≤ 26 from by decide) (x' := (⟨(rd_T58 L (n : Int)).f0, (rd_T58 L (n : Int)).f1, (rd_T58 L (n : Int)).f2, (rd_T58 L (n : Int)).f3, (rd_T58 L (n : Int)).f4, (rd_T58 L (n : Int)).f5, x, (rd_T58 L (n : Int)).f7, (rd_T58 L (n : Int)).f8, (rd_T58 L (n : Int)).f9, ⟨(rd_T58 L (n : Int)).f10.f0, (rd_T58 L (n : Int)).f10.f1⟩⟩ : S58)) (k58_mkM _ _ _ (⟨(rd_T58 L (n : Int)).f0, (rd_T58 L (n : Int)).f1, (rd_T58 L (n : Int)).f2, (rd_T58 L (n : Int)).f3, (rd_T58 L (n : Int)).f4, (rd_T58 L (n : Int)).f5, x, (rd_T58 L (n : Int)).f7, (rd_T58 L (n : Int)).f8, (rd_T58 L (n : Int)).f9, ⟨(rd_T58 L (n : Int)).f10.f0, (rd_T58 L (n : Int)).f10.f1⟩⟩ : S58) g9 g12) (fun _ hk => hk)).1
 exact ⟨c.mb, c.mt, by rw [List.length_set]; exact blk_far c.b (p := ⟨g, n * 26 + 20, none⟩) hne _, Kd.R_set c.r9 hcs (by decide) _ _, Kd.R_set c.r10 hcs (by decide) _ _, Kd.R_set c.r11 hcs (by decide) _ _, by rw [List.length_set]; exact s0⟩
theorem Tab.put21 {g : Nat} (c : Tab W B M t h A9 c9 A10 c10 A11 c11 (some ⟨g, 0, none⟩) cj P Q A L) (n : Nat) (h1 : n < L.length) (x : Int) :
  Tab (W.setCell ⟨g, n * 26 + 21, none⟩ (.int .i64 x)) B M t h A9 c9 A10 c10 A11 c11 (some ⟨g, 0, none⟩) cj P Q A (L.set n (⟨(rd_T58 L (n : Int)).f0, (rd_T58 L (n : Int)).f1, (rd_T58 L (n : Int)).f2, (rd_T58 L (n : Int)).f3, (rd_T58 L (n : Int)).f4, (rd_T58 L (n : Int)).f5, (rd_T58 L (n : Int)).f6, x, (rd_T58 L (n : Int)).f8, (rd_T58 L (n : Int)).f9, ⟨(rd_T58 L (n : Int)).f10.f0, (rd_T58 L (n : Int)).f10.f1⟩⟩ : S58)) := by
 obtain ⟨ce, hcl, hM, hcc, hfr⟩ := Kd.R_elem c.rj z58 (n : Int) (by omega) (by omega)
 obtain ⟨v9, v12, rfl, g9, g12⟩ := k58_openM hM
 obtain ⟨cs, hcs⟩ := Kd.R_typed c.rj g (by simp [Value.ownBlock])
 have hne : t ≠ g := by
  intro e2
  have e3 := c.b
  rw [e2] at e3
  have := e3.symm.trans hcs
  simp at this
 have s0 := (Kd.R_seg c.rj (n : Int) (by omega) (by omega) (seg := [.int .i64 x]) (j := 21) hcl hcc (show 22 ≤ 26 from by decide) (x' := (⟨(rd_T58 L (n : Int)).f0, (rd_T58 L (n : Int)).f1, (rd_T58 L (n : Int)).f2, (rd_T58 L (n : Int)).f3, (rd_T58 L (n : Int)).f4, (rd_T58 L (n : Int)).f5, (rd_T58 L (n : Int)).f6, x, (rd_T58 L (n : Int)).f8, (rd_T58 L (n : Int)).f9, ⟨(rd_T58 L (n : Int)).f10.f0, (rd_T58 L (n : Int)).f10.f1⟩⟩ : S58)) (k58_mkM _ _ _ (⟨(rd_T58 L (n : Int)).f0, (rd_T58 L (n : Int)).f1, (rd_T58 L (n : Int)).f2, (rd_T58 L (n : Int)).f3, (rd_T58 L (n : Int)).f4, (rd_T58 L (n : Int)).f5, (rd_T58 L (n : Int)).f6, x, (rd_T58 L (n : Int)).f8, (rd_T58 L (n : Int)).f9, ⟨(rd_T58 L (n : Int)).f10.f0, (rd_T58 L (n : Int)).f10.f1⟩⟩ : S58) g9 g12) (fun _ hk => hk)).1
 exact ⟨c.mb, c.mt, by rw [List.length_set]; exact blk_far c.b (p := ⟨g, n * 26 + 21, none⟩) hne _, Kd.R_set c.r9 hcs (by decide) _ _, Kd.R_set c.r10 hcs (by decide) _ _, Kd.R_set c.r11 hcs (by decide) _ _, by rw [List.length_set]; exact s0⟩
theorem Tab.put22 {g : Nat} (c : Tab W B M t h A9 c9 A10 c10 A11 c11 (some ⟨g, 0, none⟩) cj P Q A L) (n : Nat) (h1 : n < L.length) (x : Int) :
  Tab (W.setCell ⟨g, n * 26 + 22, none⟩ (.int .i64 x)) B M t h A9 c9 A10 c10 A11 c11 (some ⟨g, 0, none⟩) cj P Q A (L.set n (⟨(rd_T58 L (n : Int)).f0, (rd_T58 L (n : Int)).f1, (rd_T58 L (n : Int)).f2, (rd_T58 L (n : Int)).f3, (rd_T58 L (n : Int)).f4, (rd_T58 L (n : Int)).f5, (rd_T58 L (n : Int)).f6, (rd_T58 L (n : Int)).f7, x, (rd_T58 L (n : Int)).f9, ⟨(rd_T58 L (n : Int)).f10.f0, (rd_T58 L (n : Int)).f10.f1⟩⟩ : S58)) := by
 obtain ⟨ce, hcl, hM, hcc, hfr⟩ := Kd.R_elem c.rj z58 (n : Int) (by omega) (by omega)
 obtain ⟨v9, v12, rfl, g9, g12⟩ := k58_openM hM
 obtain ⟨cs, hcs⟩ := Kd.R_typed c.rj g (by simp [Value.ownBlock])
 have hne : t ≠ g := by
  intro e2
  have e3 := c.b
  rw [e2] at e3
  have := e3.symm.trans hcs
  simp at this
 have s0 := (Kd.R_seg c.rj (n : Int) (by omega) (by omega) (seg := [.int .i64 x]) (j := 22) hcl hcc (show 23 ≤ 26 from by decide) (x' := (⟨(rd_T58 L (n : Int)).f0, (rd_T58 L (n : Int)).f1, (rd_T58 L (n : Int)).f2, (rd_T58 L (n : Int)).f3, (rd_T58 L (n : Int)).f4, (rd_T58 L (n : Int)).f5, (rd_T58 L (n : Int)).f6, (rd_T58 L (n : Int)).f7, x, (rd_T58 L (n : Int)).f9, ⟨(rd_T58 L (n : Int)).f10.f0, (rd_T58 L (n : Int)).f10.f1⟩⟩ : S58)) (k58_mkM _ _ _ (⟨(rd_T58 L (n : Int)).f0, (rd_T58 L (n : Int)).f1, (rd_T58 L (n : Int)).f2, (rd_T58 L (n : Int)).f3, (rd_T58 L (n : Int)).f4, (rd_T58 L (n : Int)).f5, (rd_T58 L (n : Int)).f6, (rd_T58 L (n : Int)).f7, x, (rd_T58 L (n : Int)).f9, ⟨(rd_T58 L (n : Int)).f10.f0, (rd_T58 L (n : Int)).f10.f1⟩⟩ : S58) g9 g12) (fun _ hk => hk)).1
 exact ⟨c.mb, c.mt, by rw [List.length_set]; exact blk_far c.b (p := ⟨g, n * 26 + 22, none⟩) hne _, Kd.R_set c.r9 hcs (by decide) _ _, Kd.R_set c.r10 hcs (by decide) _ _, Kd.R_set c.r11 hcs (by decide) _ _, by rw [List.length_set]; exact s0⟩
theorem Tab.put23 {g : Nat} (c : Tab W B M t h A9 c9 A10 c10 A11 c11 (some ⟨g, 0, none⟩) cj P Q A L) (n : Nat) (h1 : n < L.length) (x : Int) :
  Tab (W.setCell ⟨g, n * 26 + 23, none⟩ (.int .i64 x)) B M t h A9 c9 A10 c10 A11 c11 (some ⟨g, 0, none⟩) cj P Q A (L.set n (⟨(rd_T58 L (n : Int)).f0, (rd_T58 L (n : Int)).f1, (rd_T58 L (n : Int)).f2, (rd_T58 L (n : Int)).f3, (rd_T58 L (n : Int)).f4, (rd_T58 L (n : Int)).f5, (rd_T58 L (n : Int)).f6, (rd_T58 L (n : Int)).f7, (rd_T58 L (n : Int)).f8, x, ⟨(rd_T58 L (n : Int)).f10.f0, (rd_T58 L (n : Int)).f10.f1⟩⟩ : S58)) := by
 obtain ⟨ce, hcl, hM, hcc, hfr⟩ := Kd.R_elem c.rj z58 (n : Int) (by omega) (by omega)
 obtain ⟨v9, v12, rfl, g9, g12⟩ := k58_openM hM
 obtain ⟨cs, hcs⟩ := Kd.R_typed c.rj g (by simp [Value.ownBlock])
 have hne : t ≠ g := by
  intro e2
  have e3 := c.b
  rw [e2] at e3
  have := e3.symm.trans hcs
  simp at this
 have s0 := (Kd.R_seg c.rj (n : Int) (by omega) (by omega) (seg := [.int .i64 x]) (j := 23) hcl hcc (show 24 ≤ 26 from by decide) (x' := (⟨(rd_T58 L (n : Int)).f0, (rd_T58 L (n : Int)).f1, (rd_T58 L (n : Int)).f2, (rd_T58 L (n : Int)).f3, (rd_T58 L (n : Int)).f4, (rd_T58 L (n : Int)).f5, (rd_T58 L (n : Int)).f6, (rd_T58 L (n : Int)).f7, (rd_T58 L (n : Int)).f8, x, ⟨(rd_T58 L (n : Int)).f10.f0, (rd_T58 L (n : Int)).f10.f1⟩⟩ : S58)) (k58_mkM _ _ _ (⟨(rd_T58 L (n : Int)).f0, (rd_T58 L (n : Int)).f1, (rd_T58 L (n : Int)).f2, (rd_T58 L (n : Int)).f3, (rd_T58 L (n : Int)).f4, (rd_T58 L (n : Int)).f5, (rd_T58 L (n : Int)).f6, (rd_T58 L (n : Int)).f7, (rd_T58 L (n : Int)).f8, x, ⟨(rd_T58 L (n : Int)).f10.f0, (rd_T58 L (n : Int)).f10.f1⟩⟩ : S58) g9 g12) (fun _ hk => hk)).1
 exact ⟨c.mb, c.mt, by rw [List.length_set]; exact blk_far c.b (p := ⟨g, n * 26 + 23, none⟩) hne _, Kd.R_set c.r9 hcs (by decide) _ _, Kd.R_set c.r10 hcs (by decide) _ _, Kd.R_set c.r11 hcs (by decide) _ _, by rw [List.length_set]; exact s0⟩
theorem Tab.put24 {g : Nat} (c : Tab W B M t h A9 c9 A10 c10 A11 c11 (some ⟨g, 0, none⟩) cj P Q A L) (n : Nat) (h1 : n < L.length) (x : Int) :
  Tab (W.setCell ⟨g, n * 26 + 24, none⟩ (.int .i64 x)) B M t h A9 c9 A10 c10 A11 c11 (some ⟨g, 0, none⟩) cj P Q A (L.set n (⟨(rd_T58 L (n : Int)).f0, (rd_T58 L (n : Int)).f1, (rd_T58 L (n : Int)).f2, (rd_T58 L (n : Int)).f3, (rd_T58 L (n : Int)).f4, (rd_T58 L (n : Int)).f5, (rd_T58 L (n : Int)).f6, (rd_T58 L (n : Int)).f7, (rd_T58 L (n : Int)).f8, (rd_T58 L (n : Int)).f9, ⟨x, (rd_T58 L (n : Int)).f10.f1⟩⟩ : S58)) := by
 obtain ⟨ce, hcl, hM, hcc, hfr⟩ := Kd.R_elem c.rj z58 (n : Int) (by omega) (by omega)
 obtain ⟨v9, v12, rfl, g9, g12⟩ := k58_openM hM
 obtain ⟨cs, hcs⟩ := Kd.R_typed c.rj g (by simp [Value.ownBlock])
 have hne : t ≠ g := by
  intro e2
  have e3 := c.b
  rw [e2] at e3
  have := e3.symm.trans hcs
  simp at this
 have s0 := (Kd.R_seg c.rj (n : Int) (by omega) (by omega) (seg := [.int .i64 x]) (j := 24) hcl hcc (show 25 ≤ 26 from by decide) (x' := (⟨(rd_T58 L (n : Int)).f0, (rd_T58 L (n : Int)).f1, (rd_T58 L (n : Int)).f2, (rd_T58 L (n : Int)).f3, (rd_T58 L (n : Int)).f4, (rd_T58 L (n : Int)).f5, (rd_T58 L (n : Int)).f6, (rd_T58 L (n : Int)).f7, (rd_T58 L (n : Int)).f8, (rd_T58 L (n : Int)).f9, ⟨x, (rd_T58 L (n : Int)).f10.f1⟩⟩ : S58)) (k58_mkM _ _ _ (⟨(rd_T58 L (n : Int)).f0, (rd_T58 L (n : Int)).f1, (rd_T58 L (n : Int)).f2, (rd_T58 L (n : Int)).f3, (rd_T58 L (n : Int)).f4, (rd_T58 L (n : Int)).f5, (rd_T58 L (n : Int)).f6, (rd_T58 L (n : Int)).f7, (rd_T58 L (n : Int)).f8, (rd_T58 L (n : Int)).f9, ⟨x, (rd_T58 L (n : Int)).f10.f1⟩⟩ : S58) g9 g12) (fun _ hk => hk)).1
 exact ⟨c.mb, c.mt, by rw [List.length_set]; exact blk_far c.b (p := ⟨g, n * 26 + 24, none⟩) hne _, Kd.R_set c.r9 hcs (by decide) _ _, Kd.R_set c.r10 hcs (by decide) _ _, Kd.R_set c.r11 hcs (by decide) _ _, by rw [List.length_set]; exact s0⟩
theorem Tab.put25 {g : Nat} (c : Tab W B M t h A9 c9 A10 c10 A11 c11 (some ⟨g, 0, none⟩) cj P Q A L) (n : Nat) (h1 : n < L.length) (x : Int) :
  Tab (W.setCell ⟨g, n * 26 + 25, none⟩ (.int .i64 x)) B M t h A9 c9 A10 c10 A11 c11 (some ⟨g, 0, none⟩) cj P Q A (L.set n (⟨(rd_T58 L (n : Int)).f0, (rd_T58 L (n : Int)).f1, (rd_T58 L (n : Int)).f2, (rd_T58 L (n : Int)).f3, (rd_T58 L (n : Int)).f4, (rd_T58 L (n : Int)).f5, (rd_T58 L (n : Int)).f6, (rd_T58 L (n : Int)).f7, (rd_T58 L (n : Int)).f8, (rd_T58 L (n : Int)).f9, ⟨(rd_T58 L (n : Int)).f10.f0, x⟩⟩ : S58)) := by
 obtain ⟨ce, hcl, hM, hcc, hfr⟩ := Kd.R_elem c.rj z58 (n : Int) (by omega) (by omega)
 obtain ⟨v9, v12, rfl, g9, g12⟩ := k58_openM hM
 obtain ⟨cs, hcs⟩ := Kd.R_typed c.rj g (by simp [Value.ownBlock])
 have hne : t ≠ g := by
  intro e2
  have e3 := c.b
  rw [e2] at e3
  have := e3.symm.trans hcs
  simp at this
 have s0 := (Kd.R_seg c.rj (n : Int) (by omega) (by omega) (seg := [.int .i64 x]) (j := 25) hcl hcc (show 26 ≤ 26 from by decide) (x' := (⟨(rd_T58 L (n : Int)).f0, (rd_T58 L (n : Int)).f1, (rd_T58 L (n : Int)).f2, (rd_T58 L (n : Int)).f3, (rd_T58 L (n : Int)).f4, (rd_T58 L (n : Int)).f5, (rd_T58 L (n : Int)).f6, (rd_T58 L (n : Int)).f7, (rd_T58 L (n : Int)).f8, (rd_T58 L (n : Int)).f9, ⟨(rd_T58 L (n : Int)).f10.f0, x⟩⟩ : S58)) (k58_mkM _ _ _ (⟨(rd_T58 L (n : Int)).f0, (rd_T58 L (n : Int)).f1, (rd_T58 L (n : Int)).f2, (rd_T58 L (n : Int)).f3, (rd_T58 L (n : Int)).f4, (rd_T58 L (n : Int)).f5, (rd_T58 L (n : Int)).f6, (rd_T58 L (n : Int)).f7, (rd_T58 L (n : Int)).f8, (rd_T58 L (n : Int)).f9, ⟨(rd_T58 L (n : Int)).f10.f0, x⟩⟩ : S58) g9 g12) (fun _ hk => hk)).1
 exact ⟨c.mb, c.mt, by rw [List.length_set]; exact blk_far c.b (p := ⟨g, n * 26 + 25, none⟩) hne _, Kd.R_set c.r9 hcs (by decide) _ _, Kd.R_set c.r10 hcs (by decide) _ _, Kd.R_set c.r11 hcs (by decide) _ _, by rw [List.length_set]; exact s0⟩
end
end Go.Proofs.YtgkedamhicemiaaDoor.P
