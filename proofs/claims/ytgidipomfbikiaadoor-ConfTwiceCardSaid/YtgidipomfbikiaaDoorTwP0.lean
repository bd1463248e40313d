/- cut to what one law reaches -/
import Derived.Test.YtgidipomfbikiaaDoorTwShort
import Derived.Test.YtgidipomfbikiaaDoorProg
import Derived.Test.YtgidipomfbikiaaDoorTwShelf
import Derived.Laws.RangeAny
import Derived.Lib.AppendIntMem
import Derived.Lib.SliceRun
import Derived.BigRegion
import Derived.Deep.RegionLaw
import Derived.Deep.WholeRow
import Derived.Lib.OthersKept
import Derived.Maps.Own
import Derived.Carry
import Derived.Maps.OwnIn
import Derived.Deep.QuietTactic
import Derived.Maps.OwnOps
import Derived.Maps.OwnSet
import Derived.Deep.RegionHeld3
import Derived.Deep.AppendLies
import Derived.Below
import Derived.Deep.Draws
import Derived.Maps.AppendAt
import Derived.OwnWalk
import Derived.Laws.BytesArg
import Derived.Laws.MakeOwn
import Derived.Laws.OwnMore
import Derived.Deep.OwnRows
import Derived.Tactics
import Derived.Lib.ConvBytes
import Derived.Laws.Slices
import Derived.WalkKit
import Derived.KernelRfl
import Derived.RowKit3
import Derived.Deep.LoopGhost
import Derived.BigQuiet
import Derived.WideLaws
import Derived.Deep.DeepCutAuto
import Derived.Deep.CutBlock
import Derived.Laws.Rows
import Derived.Lib.AppendStr
import Derived.ArgAppend
import Derived.Laws.IdiomCopy
import Derived.OrdersHeld
import Derived.Laws.BitsLemmas
import Derived.RowKit
import Derived.Test.YtgidipomfbikiaaDoorTwWWords
import Derived.Test.YtgidipomfbikiaaDoorTwWLast
import Derived.Test.YtgidipomfbikiaaDoorTwWTab
import Derived.Test.YtgidipomfbikiaaDoorTwWApart
import Derived.Test.YtgidipomfbikiaaDoorTwWFoot
import Derived.Test.YtgidipomfbikiaaDoorTwWKept
import Derived.Test.YtgidipomfbikiaaDoorTwWShare
import Derived.Test.YtgidipomfbikiaaDoorTwWN
import Derived.Test.YtgidipomfbikiaaDoorTwWEqStruct
import Derived.Test.YtgidipomfbikiaaDoorTwWRepsOne
import Derived.Test.YtgidipomfbikiaaDoorTwWInv
import Derived.Test.YtgidipomfbikiaaDoorTwWGuard
import Derived.Test.YtgidipomfbikiaaDoorTwWMore
namespace Go.Proofs.YtgidipomfbikiaaDoor.P
open Go.RowKit Go.Proofs.YtgidipomfbikiaaDoorW.PrintWords Go.Proofs.YtgidipomfbikiaaDoorW.PrintLast Go.Proofs.YtgidipomfbikiaaDoorW.PrintMore
attribute [local go_sem] max2_int min2_int max_two min_two max_three min_three max_four min_four   -- for this text's walks alone
set_option linter.unusedVariables false
set_option linter.unusedSimpArgs false
def errW : Option Int→Value
 | none=>.nilIface
 | some c=>.iface 0 (.int .i64 c)
theorem errW_none : errW none = .nilIface:=rfl
theorem errW_some (c : Int) : errW (some c) = .iface 0 (.int .i64 c):=rfl
theorem isSome_setCell (w : World) (p : Addr) (x : Value) (q : Addr) : ((w.setCell p x).cell? q).isSome = (w.cell? q).isSome:=by
 by_cases e : p = q
 rotate_left
 ·rw [World.cell?_setCell_other w p q x e]
 subst e
 cases h : w.cell? p with
 | some u=>rw [World.cell?_setCell_same w p x h];rfl
 | none =>
  simp only [World.setCell,World.cell?,Array.getElem?_modify,if_true] at h ⊢
  cases hb : w.heap[p.block]? with
  | none=>simp
  | some o =>
   rw [hb] at h
   cases o <;> simp_all
theorem isE_ (l : List UInt8) : (l == []) = l.isEmpty:=by cases l <;> rfl
theorem size_lit1 (b : UInt8) : (⟨#[b]⟩ : ByteArray).size = 1:=rfl
theorem size_lit0 : (⟨#[]⟩ : ByteArray).size = 0:=rfl
theorem size_litA (l : Array UInt8) : (⟨l⟩ : ByteArray).size = l.size:=rfl
def Glob (w : World) : Prop:=(∃ m,w.cell? ⟨0,0,none⟩ = some (.int .i64 m))∧Lib.TabIs Tryd.prog w "internal/strconv.uint64pow10" .u64 Lib.pow10Tab∧Lib.Utf8Tabs 2 3 w
theorem Glob.below {w w' : World} (h : Glob w) (hb : Below w.heap.size w w') : Glob w':=by
 obtain ⟨⟨m,hm⟩,ht,hu⟩:=h
 refine ⟨⟨m,(hb.cell (wB w _ hm)).trans hm⟩,?_,Utf8Tabs_below hu hb⟩
 unfold Lib.TabIs at ht ⊢
 unfold World.var? at ht ⊢
 cases hg : Tryd.prog.globalNamed "internal/strconv.uint64pow10" with
 | none=>rw [hg] at ht;exact ht
 | some g =>
  rw [hg] at ht
  simp only [Option.bind_some] at ht ⊢
  have hlt : g < w.heap.size:=by
   rcases Nat.lt_or_ge g w.heap.size with h'|h'
   ·exact h'
   ·rw [Array.getElem?_eq_none h'] at ht;simp at ht
  rw [hb.block g hlt]
  exact ht
theorem Glob.maxlen {w : World} (h : Glob w) : ∃ m,w.cell? ⟨0,0,none⟩ = some (.int .i64 m):=h.1
theorem Glob.tab {w : World} (h : Glob w) : Lib.TabIs Tryd.prog w "internal/strconv.uint64pow10" .u64 Lib.pow10Tab:=h.2.1
theorem Glob.utf8 {w : World} (h : Glob w) : Lib.Utf8Tabs 2 3 w:=h.2.2
theorem info3 : (Tryd.prog.info? 3).map (fun i=>(i.zero,i.size,i.bytes)) = some (some (.int .i64 0),1,8):=by kernel_rfl
theorem info9 : (Tryd.prog.info? 9).map (fun i=>(i.zero,i.size,i.bytes)) = some (some (.string ⟨#[]⟩),1,16):=by kernel_rfl
theorem info48 : (Tryd.prog.info? 48).map (fun i=>(i.zero,i.size,i.bytes)) = some (some (.agg #[(.string ⟨#[]⟩),(.string ⟨#[]⟩),(.int .i64 0)]),3,40):=by kernel_rfl
theorem info50 : (Tryd.prog.info? 50).map (fun i=>(i.zero,i.size,i.bytes)) = some (some (.agg #[(.string ⟨#[]⟩),(.int .i64 0),(.int .i64 0),(.int .i64 0)]),4,40):=by kernel_rfl
theorem info52 : (Tryd.prog.info? 52).map (fun i=>(i.zero,i.size,i.bytes)) = some (some (.agg #[(.string ⟨#[]⟩),(.int .i64 0),(.int .i64 0)]),3,32):=by kernel_rfl
-- the values' own types
structure S50 where
 f0 : ByteArray
 f1 : Int
 f2 : Int
 f3 : Int
def z50 : S50:=⟨(⟨#[]⟩ : ByteArray),(0 : Int),(0 : Int),(0 : Int)⟩
def k50 : Kd S50:=Kd.iso (Kd.pair Kd.string (Kd.pair (Kd.int .i64) (Kd.pair (Kd.int .i64) (Kd.int .i64)))) (fun x : S50=>(x.f0,x.f1,x.f2,x.f3))
theorem k50_open {w : World} {x : S50} {cs : List Value} (h : k50.K w x cs) : cs = [.string x.f0,.int .i64 x.f1,.int .i64 x.f2,.int .i64 x.f3]:=by
 obtain ⟨_,_,rfl,rfl,⟨_,_,rfl,rfl,⟨_,_,rfl,rfl,rfl⟩⟩⟩:=h
 exact rfl
theorem k50_mkM (w : World) (base : Nat) (ok : Nat→Prop) (x : S50)  : k50.M w base ok x [.string x.f0,.int .i64 x.f1,.int .i64 x.f2,.int .i64 x.f3]:=⟨[.string x.f0],[.int .i64 x.f1,.int .i64 x.f2,.int .i64 x.f3],rfl,rfl,⟨[.int .i64 x.f1],[.int .i64 x.f2,.int .i64 x.f3],rfl,rfl,⟨[.int .i64 x.f2],[.int .i64 x.f3],rfl,rfl,rfl⟩⟩⟩
def rd_T50 (xs : List S50) (i : Int) : S50:=xs.getD i.toNat z50
theorem at_T50 {w : World} {A : Option Addr} {n : Nat} {xs : List S50} (h : Kd.C k50 w A n xs) (i : Int) (h0 : 0≤i) (h1 : i < n) : ∃ ad ,A = some ad∧w.cell? (ad.add (i.toNat * 4)) = some (.string (rd_T50 xs i).f0)∧w.cell? ⟨(ad.add (i.toNat * 4)).block,(ad.add (i.toNat * 4)).off + 1,none⟩ = some (.int .i64 (rd_T50 xs i).f1)∧w.cell? ⟨(ad.add (i.toNat * 4)).block,(ad.add (i.toNat * 4)).off + 2,none⟩ = some (.int .i64 (rd_T50 xs i).f2)∧w.cell? ⟨(ad.add (i.toNat * 4)).block,(ad.add (i.toNat * 4)).off + 3,none⟩ = some (.int .i64 (rd_T50 xs i).f3):=by
 obtain ⟨ad,c,e,_,hK,hc0⟩:=Kd.C_get h z50 i h0 h1
 have hc : ∀ j u,c[j]? = some u→w.cell? (ad.add (i.toNat * 4 + j)) = some u:=hc0
 obtain rfl:=k50_open hK
 exact ⟨ad,e,hc 0 _ rfl,by rw [← add_field _ _ 1 (by omega)];exact hc 1 _ rfl,by rw [← add_field _ _ 2 (by omega)];exact hc 2 _ rfl,by rw [← add_field _ _ 3 (by omega)];exact hc 3 _ rfl⟩
structure S52 where
 f0 : ByteArray
 f1 : Int
 f2 : Int
def z52 : S52:=⟨(⟨#[]⟩ : ByteArray),(0 : Int),(0 : Int)⟩
def k52 : Kd S52:=Kd.iso (Kd.pair Kd.string (Kd.pair (Kd.int .i64) (Kd.int .i64))) (fun x : S52=>(x.f0,x.f1,x.f2))
theorem k52_open {w : World} {x : S52} {cs : List Value} (h : k52.K w x cs) : cs = [.string x.f0,.int .i64 x.f1,.int .i64 x.f2]:=by
 obtain ⟨_,_,rfl,rfl,⟨_,_,rfl,rfl,rfl⟩⟩:=h
 exact rfl
theorem k52_mkM (w : World) (base : Nat) (ok : Nat→Prop) (x : S52)  : k52.M w base ok x [.string x.f0,.int .i64 x.f1,.int .i64 x.f2]:=⟨[.string x.f0],[.int .i64 x.f1,.int .i64 x.f2],rfl,rfl,⟨[.int .i64 x.f1],[.int .i64 x.f2],rfl,rfl,rfl⟩⟩
def rd_T52 (xs : List S52) (i : Int) : S52:=xs.getD i.toNat z52
theorem at_T52 {w : World} {A : Option Addr} {n : Nat} {xs : List S52} (h : Kd.C k52 w A n xs) (i : Int) (h0 : 0≤i) (h1 : i < n) : ∃ ad ,A = some ad∧w.cell? (ad.add (i.toNat * 3)) = some (.string (rd_T52 xs i).f0)∧w.cell? ⟨(ad.add (i.toNat * 3)).block,(ad.add (i.toNat * 3)).off + 1,none⟩ = some (.int .i64 (rd_T52 xs i).f1)∧w.cell? ⟨(ad.add (i.toNat * 3)).block,(ad.add (i.toNat * 3)).off + 2,none⟩ = some (.int .i64 (rd_T52 xs i).f2):=by
 obtain ⟨ad,c,e,_,hK,hc0⟩:=Kd.C_get h z52 i h0 h1
 have hc : ∀ j u,c[j]? = some u→w.cell? (ad.add (i.toNat * 3 + j)) = some u:=hc0
 obtain rfl:=k52_open hK
 exact ⟨ad,e,hc 0 _ rfl,by rw [← add_field _ _ 1 (by omega)];exact hc 1 _ rfl,by rw [← add_field _ _ 2 (by omega)];exact hc 2 _ rfl⟩
structure S48 where
 f0 : ByteArray
 f1 : ByteArray
 f2 : Int
def z48 : S48:=⟨(⟨#[]⟩ : ByteArray),(⟨#[]⟩ : ByteArray),(0 : Int)⟩
def k48 : Kd S48:=Kd.iso (Kd.pair Kd.string (Kd.pair Kd.string (Kd.int .i64))) (fun x : S48=>(x.f0,x.f1,x.f2))
theorem k48_open {w : World} {x : S48} {cs : List Value} (h : k48.K w x cs) : cs = [.string x.f0,.string x.f1,.int .i64 x.f2]:=by
 obtain ⟨_,_,rfl,rfl,⟨_,_,rfl,rfl,rfl⟩⟩:=h
 exact rfl
theorem k48_openM {w : World} {base : Nat} {ok : Nat→Prop} {x : S48} {cs : List Value} (h : k48.M w base ok x cs) : cs = [.string x.f0,.string x.f1,.int .i64 x.f2]:=by
 obtain ⟨_,_,rfl,rfl,⟨_,_,rfl,rfl,rfl⟩⟩:=h
 exact rfl
theorem k48_mkM (w : World) (base : Nat) (ok : Nat→Prop) (x : S48)  : k48.M w base ok x [.string x.f0,.string x.f1,.int .i64 x.f2]:=⟨[.string x.f0],[.string x.f1,.int .i64 x.f2],rfl,rfl,⟨[.string x.f1],[.int .i64 x.f2],rfl,rfl,rfl⟩⟩
def rd_T48 (xs : List S48) (i : Int) : S48:=xs.getD i.toNat z48
theorem at_T48 {w : World} {A : Option Addr} {n : Nat} {xs : List S48} (h : Kd.C k48 w A n xs) (i : Int) (h0 : 0≤i) (h1 : i < n) : ∃ ad ,A = some ad∧w.cell? (ad.add (i.toNat * 3)) = some (.string (rd_T48 xs i).f0)∧w.cell? ⟨(ad.add (i.toNat * 3)).block,(ad.add (i.toNat * 3)).off + 1,none⟩ = some (.string (rd_T48 xs i).f1)∧w.cell? ⟨(ad.add (i.toNat * 3)).block,(ad.add (i.toNat * 3)).off + 2,none⟩ = some (.int .i64 (rd_T48 xs i).f2):=by
 obtain ⟨ad,c,e,_,hK,hc0⟩:=Kd.C_get h z48 i h0 h1
 have hc : ∀ j u,c[j]? = some u→w.cell? (ad.add (i.toNat * 3 + j)) = some u:=hc0
 obtain rfl:=k48_open hK
 exact ⟨ad,e,hc 0 _ rfl,by rw [← add_field _ _ 1 (by omega)];exact hc 1 _ rfl,by rw [← add_field _ _ 2 (by omega)];exact hc 2 _ rfl⟩
structure S23 where
 f0 : Int
 f1 : Int
 f2 : Int
 f3 : Int
 f4 : Int
def k23 : Kd S23:=Kd.iso (Kd.pair (Kd.int .i64) (Kd.pair (Kd.int .i64) (Kd.pair (Kd.int .i64) (Kd.pair (Kd.int .i64) (Kd.int .i64))))) (fun x : S23=>(x.f0,x.f1,x.f2,x.f3,x.f4))
theorem k23_open {w : World} {x : S23} {cs : List Value} (h : k23.K w x cs) : cs = [.int .i64 x.f0,.int .i64 x.f1,.int .i64 x.f2,.int .i64 x.f3,.int .i64 x.f4]:=by
 obtain ⟨_,_,rfl,rfl,⟨_,_,rfl,rfl,⟨_,_,rfl,rfl,⟨_,_,rfl,rfl,rfl⟩⟩⟩⟩:=h
 exact rfl
structure S28 where
 f0 : Int
 f1 : Int
 f2 : Int
 f3 : Int
 f4 : S23
 f5 : (List S50)
 f6 : (List S52)
 f7 : (List S48)
def k28 : Kd S28:=Kd.iso (Kd.pair (Kd.int .i64) (Kd.pair (Kd.int .i64) (Kd.pair (Kd.int .i64) (Kd.pair (Kd.int .i64) (Kd.pair k23 (Kd.pair (Kd.slice 50 k50) (Kd.pair (Kd.slice 52 k52) (Kd.slice 48 k48)))))))) (fun x : S28=>(x.f0,x.f1,x.f2,x.f3,x.f4,x.f5,x.f6,x.f7))
theorem k28_open {w : World} {x : S28} {cs : List Value} (h : k28.K w x cs) : ∃ A9 c9 A10 c10 A11 c11,cs = [.int .i64 x.f0,.int .i64 x.f1,.int .i64 x.f2,.int .i64 x.f3,.int .i64 x.f4.f0,.int .i64 x.f4.f1,.int .i64 x.f4.f2,.int .i64 x.f4.f3,.int .i64 x.f4.f4,.slice A9 x.f5.length c9,.slice A10 x.f6.length c10,.slice A11 x.f7.length c11]∧x.f5.length≤c9∧k50.C w A9 x.f5.length x.f5∧x.f6.length≤c10∧k52.C w A10 x.f6.length x.f6∧x.f7.length≤c11∧k48.C w A11 x.f7.length x.f7:=by
 obtain ⟨_,_,rfl,rfl,⟨_,_,rfl,rfl,⟨_,_,rfl,rfl,⟨_,_,rfl,rfl,⟨_,_,rfl,s4,⟨_,_,rfl,⟨A9,c9,rfl,l9,g9⟩,⟨_,_,rfl,⟨A10,c10,rfl,l10,g10⟩,⟨A11,c11,rfl,l11,g11⟩⟩⟩⟩⟩⟩⟩⟩:=h
 obtain rfl:=k23_open s4
 exact ⟨A9,c9,A10,c10,A11,c11,rfl,l9,g9,l10,g10,l11,g11⟩
end Go.Proofs.YtgidipomfbikiaaDoor.P
