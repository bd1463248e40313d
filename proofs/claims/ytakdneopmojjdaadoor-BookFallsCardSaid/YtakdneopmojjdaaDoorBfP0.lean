/- cut to what one law reaches -/
import Derived.Test.YtakdneopmojjdaaDoorBfShort
import Derived.Test.YtakdneopmojjdaaDoorProg
import Derived.Test.YtakdneopmojjdaaDoorBfShelf
import Derived.Laws.RangeAny
import Derived.Lib.AppendIntMem
import Derived.Lib.RuneCountTail
import Derived.Lib.SliceRun
import Derived.BigRegion
import Derived.Deep.RegionLaw
import Derived.Deep.WholeRow
import Derived.Lib.OthersKept
import Derived.Carry
import Derived.Deep.QuietTactic
import Derived.Deep.RegionHeld3
import Derived.Deep.AppendLies
import Derived.Below
import Derived.Deep.Draws
import Derived.Maps.AppendAt
import Derived.OwnWalk
import Derived.Laws.BytesArg
import Derived.Laws.MakeOwn
import Derived.Laws.OwnMore
import Derived.Deep.OwnRows
import Derived.Tactics
import Derived.Lib.ConvBytes
import Derived.Laws.Slices
import Derived.WalkKit
import Derived.KernelRfl
import Derived.RowKit3
import Derived.Deep.LoopGhost
import Derived.BigQuiet
import Derived.WideLaws
import Derived.Deep.DeepCutAuto
import Derived.Deep.CutBlock
import Derived.Laws.Rows
import Derived.Lib.AppendStr
import Derived.ArgAppend
import Derived.Laws.IdiomCopy
import Derived.OrdersHeld
import Derived.Laws.BitsLemmas
import Derived.RowKit
import Derived.Test.YtakdneopmojjdaaDoorBfWWords
import Derived.Test.YtakdneopmojjdaaDoorBfWLast
import Derived.Test.YtakdneopmojjdaaDoorBfWTab
import Derived.Test.YtakdneopmojjdaaDoorBfWApart
import Derived.Test.YtakdneopmojjdaaDoorBfWFoot
import Derived.Test.YtakdneopmojjdaaDoorBfWKept
import Derived.Test.YtakdneopmojjdaaDoorBfWShare
import Derived.Test.YtakdneopmojjdaaDoorBfWN
import Derived.Test.YtakdneopmojjdaaDoorBfWEqStruct
import Derived.Test.YtakdneopmojjdaaDoorBfWRepsOne
import Derived.Test.YtakdneopmojjdaaDoorBfWGuard
import Derived.Test.YtakdneopmojjdaaDoorBfWMore
namespace Go.Proofs.YtakdneopmojjdaaDoor.P
open Go.RowKit Go.Proofs.YtakdneopmojjdaaDoorW.PrintWords Go.Proofs.YtakdneopmojjdaaDoorW.PrintLast Go.Proofs.YtakdneopmojjdaaDoorW.PrintMore
attribute [local go_sem] max2_int min2_int max_two min_two max_three min_three max_four min_four   -- for this text's walks alone
set_option linter.unusedVariables false
set_option linter.unusedSimpArgs false
def errW : Option Int→Value
 | none=>.nilIface
 | some c=>.iface 0 (.int .i64 c)
theorem errW_none : errW none = .nilIface:=rfl
theorem errW_some (c : Int) : errW (some c) = .iface 0 (.int .i64 c):=rfl
theorem isSome_setCell (w : World) (p : Addr) (x : Value) (q : Addr) : ((w.setCell p x).cell? q).isSome = (w.cell? q).isSome:=by
 by_cases e : p = q
 rotate_left
 ·rw [World.cell?_setCell_other w p q x e]
 subst e
 cases h : w.cell? p with
 | some u=>rw [World.cell?_setCell_same w p x h];rfl
 | none =>
  simp only [World.setCell,World.cell?,Array.getElem?_modify,if_true] at h ⊢
  cases hb : w.heap[p.block]? with
  | none=>simp
  | some o =>
   rw [hb] at h
   cases o <;> simp_all
theorem isE_ (l : List UInt8) : (l == []) = l.isEmpty:=by cases l <;> rfl
theorem run_ix50 (l : List ByteArray) (hl : l.length = 9) (i : Int) (h0 : 0≤i) (h9 : i < (9 : Int)) (w : World) : (Instr.index 50 (.agg (l.map Value.string).toArray) (.int .i64 i)).run Tryd.prog w = .ok (.string (rdOf ByteArray.empty l i)) w:=by
 have hi : i.toNat < l.length:=by omega
 have h : (l.map Value.string).toArray[i.toNat]? = some (.string (rdOf ByteArray.empty l i)):=by
  unfold rdOf
  simp [List.getD_eq_getElem?_getD,List.getElem?_eq_getElem hi]
 generalize hc : (l.map Value.string).toArray = cs at h ⊢
 have hs : cs.size = 9:=by rw [← hc];simpa using hl
 unfold Instr.index
 simp only [asIntOf,asInt,part,Result.andThen]
 simp [h0,h9,h,hs]
 exact (Array.getElem?_eq_some_iff.1 h).2
theorem size_lit1 (b : UInt8) : (⟨#[b]⟩ : ByteArray).size = 1:=rfl
theorem size_lit0 : (⟨#[]⟩ : ByteArray).size = 0:=rfl
theorem size_litA (l : Array UInt8) : (⟨l⟩ : ByteArray).size = l.size:=rfl
def Glob (w : World) : Prop:=(∃ m,w.cell? ⟨0,0,none⟩ = some (.int .i64 m))∧Lib.TabIs Tryd.prog w "internal/strconv.uint64pow10" .u64 Lib.pow10Tab∧Lib.Utf8Tabs 1 2 w
theorem Glob.below {w w' : World} (h : Glob w) (hb : Below w.heap.size w w') : Glob w':=by
 obtain ⟨⟨m,hm⟩,ht,hu⟩:=h
 refine ⟨⟨m,(hb.cell (wB w _ hm)).trans hm⟩,?_,Utf8Tabs_below hu hb⟩
 unfold Lib.TabIs at ht ⊢
 unfold World.var? at ht ⊢
 cases hg : Tryd.prog.globalNamed "internal/strconv.uint64pow10" with
 | none=>rw [hg] at ht;exact ht
 | some g =>
  rw [hg] at ht
  simp only [Option.bind_some] at ht ⊢
  have hlt : g < w.heap.size:=by
   rcases Nat.lt_or_ge g w.heap.size with h'|h'
   ·exact h'
   ·rw [Array.getElem?_eq_none h'] at ht;simp at ht
  rw [hb.block g hlt]
  exact ht
theorem Glob.maxlen {w : World} (h : Glob w) : ∃ m,w.cell? ⟨0,0,none⟩ = some (.int .i64 m):=h.1
theorem Glob.tab {w : World} (h : Glob w) : Lib.TabIs Tryd.prog w "internal/strconv.uint64pow10" .u64 Lib.pow10Tab:=h.2.1
theorem Glob.utf8 {w : World} (h : Glob w) : Lib.Utf8Tabs 1 2 w:=h.2.2
theorem info24 : (Tryd.prog.info? 24).map (fun i=>(i.zero,i.size,i.bytes)) = some (some (.agg #[(.int .u32 0),(.string ⟨#[]⟩),(.int .i64 0),(.int .i64 0),(.int .i64 0),(.int .i64 0)]),6,56):=by kernel_rfl
-- the values' own types
structure S24 where
 f0 : Int
 f1 : ByteArray
 f2 : Int
 f3 : Int
 f4 : Int
 f5 : Int
def z24 : S24:=⟨(0 : Int),(⟨#[]⟩ : ByteArray),(0 : Int),(0 : Int),(0 : Int),(0 : Int)⟩
def k24 : Kd S24:=Kd.iso (Kd.pair (Kd.int .u32) (Kd.pair Kd.string (Kd.pair (Kd.int .i64) (Kd.pair (Kd.int .i64) (Kd.pair (Kd.int .i64) (Kd.int .i64)))))) (fun x : S24=>(x.f0,x.f1,x.f2,x.f3,x.f4,x.f5))
theorem k24_open {w : World} {x : S24} {cs : List Value} (h : k24.K w x cs) : cs = [.int .u32 x.f0,.string x.f1,.int .i64 x.f2,.int .i64 x.f3,.int .i64 x.f4,.int .i64 x.f5]:=by
 obtain ⟨_,_,rfl,rfl,⟨_,_,rfl,rfl,⟨_,_,rfl,rfl,⟨_,_,rfl,rfl,⟨_,_,rfl,rfl,rfl⟩⟩⟩⟩⟩:=h
 exact rfl
theorem k24_mkM (w : World) (base : Nat) (ok : Nat→Prop) (x : S24)  : k24.M w base ok x [.int .u32 x.f0,.string x.f1,.int .i64 x.f2,.int .i64 x.f3,.int .i64 x.f4,.int .i64 x.f5]:=⟨[.int .u32 x.f0],[.string x.f1,.int .i64 x.f2,.int .i64 x.f3,.int .i64 x.f4,.int .i64 x.f5],rfl,rfl,⟨[.string x.f1],[.int .i64 x.f2,.int .i64 x.f3,.int .i64 x.f4,.int .i64 x.f5],rfl,rfl,⟨[.int .i64 x.f2],[.int .i64 x.f3,.int .i64 x.f4,.int .i64 x.f5],rfl,rfl,⟨[.int .i64 x.f3],[.int .i64 x.f4,.int .i64 x.f5],rfl,rfl,⟨[.int .i64 x.f4],[.int .i64 x.f5],rfl,rfl,rfl⟩⟩⟩⟩⟩
def rd_T24 (xs : List S24) (i : Int) : S24:=xs.getD i.toNat z24
theorem at_T24 {w : World} {A : Option Addr} {n : Nat} {xs : List S24} (h : Kd.C k24 w A n xs) (i : Int) (h0 : 0≤i) (h1 : i < n) : ∃ ad ,A = some ad∧w.cell? (ad.add (i.toNat * 6)) = some (.int .u32 (rd_T24 xs i).f0)∧w.cell? ⟨(ad.add (i.toNat * 6)).block,(ad.add (i.toNat * 6)).off + 1,none⟩ = some (.string (rd_T24 xs i).f1)∧w.cell? ⟨(ad.add (i.toNat * 6)).block,(ad.add (i.toNat * 6)).off + 2,none⟩ = some (.int .i64 (rd_T24 xs i).f2)∧w.cell? ⟨(ad.add (i.toNat * 6)).block,(ad.add (i.toNat * 6)).off + 3,none⟩ = some (.int .i64 (rd_T24 xs i).f3)∧w.cell? ⟨(ad.add (i.toNat * 6)).block,(ad.add (i.toNat * 6)).off + 4,none⟩ = some (.int .i64 (rd_T24 xs i).f4)∧w.cell? ⟨(ad.add (i.toNat * 6)).block,(ad.add (i.toNat * 6)).off + 5,none⟩ = some (.int .i64 (rd_T24 xs i).f5):=by
 obtain ⟨ad,c,e,_,hK,hc0⟩:=Kd.C_get h z24 i h0 h1
 have hc : ∀ j u,c[j]? = some u→w.cell? (ad.add (i.toNat * 6 + j)) = some u:=hc0
 obtain rfl:=k24_open hK
 exact ⟨ad,e,hc 0 _ rfl,by rw [← add_field _ _ 1 (by omega)];exact hc 1 _ rfl,by rw [← add_field _ _ 2 (by omega)];exact hc 2 _ rfl,by rw [← add_field _ _ 3 (by omega)];exact hc 3 _ rfl,by rw [← add_field _ _ 4 (by omega)];exact hc 4 _ rfl,by rw [← add_field _ _ 5 (by omega)];exact hc 5 _ rfl⟩
end Go.Proofs.YtakdneopmojjdaaDoor.P
