/- cut to what one law reaches -/
import Derived.Shelf.Strings.Builder1
import Derived.Shelf.Strings.Builder2
import Derived.Shelf.Strings.OnBuilder
import Derived.Shelf.Small.Bits
import Derived.Shelf.Strings.BuilderF
import Derived.Shelf.Strings.BuilderK
import Derived.Shelf.Utf8.RuneCount
import Derived.Shelf.Strings.Builder2Cap
import Derived.Shelf.Strconv.Itoa0
import Derived.Shelf.Strconv.Itoa1
import Derived.Shelf.LaysM
import Derived.Shelf.Strconv.Itoa2
import Derived.Shelf.Strconv.Itoa3
import Derived.Shelf.Strings.Search1
import Derived.Shelf.Strings.Search2
import Derived.Shelf.Strings.Search3
import Derived.Shelf.Strings.Cut
import Derived.Shelf.Strings.Count
import Derived.Shelf.Strings.Shaped
import Derived.Shelf.Strings.Split
import Derived.Shelf.Strings.SplitShaped
import Derived.Shelf.Unicode.Decode
import Derived.Shelf.Strings.RuneCount
import Derived.Shelf.Strings.Explode
import Derived.Shelf.Bits.Mul64
import Derived.Shelf.Unicode.DecodeSlow
import Derived.Shelf.Unicode.DecodeAny
import Derived.Shelf.Strings.BuilderCap
import Derived.Shelf.Slices.Turned
import Derived.Test.YtakdneopmojjdaaDoorProg
namespace Go.Proofs
open Go.Shelf
def Tryd.lays156_ren : Go.Shelf.Ren:=⟨fun|156=>21|165=>35|166=>36|169=>37|240=>52|241=>53|276=>66|277=>67|n=>n,fun|31=>52|9=>9|3=>3|4=>4|0=>0|20=>20|72=>76|76=>80|70=>73|37=>74|75=>79|127=>94|164=>105|5=>5|80=>82|n=>n,fun|n=>n⟩
theorem Tryd.lays156 : Go.Proofs.Lays.n156 Tryd.prog Tryd.lays156_ren:={
  mixed:=by kernel_rfl
  f156:=Tryd.func21.trans (congrArg some (by kernel_rfl))
  f165:=Tryd.func35.trans (congrArg some (by kernel_rfl))
  f166:=Tryd.func36.trans (congrArg some (by kernel_rfl))
  f169:=Tryd.func37.trans (congrArg some (by kernel_rfl))
  f240:=Tryd.func52.trans (congrArg some (by kernel_rfl))
  f241:=Tryd.func53.trans (congrArg some (by kernel_rfl))
  f276:=Tryd.func66.trans (congrArg some (by kernel_rfl))
  f277:=Tryd.func67.trans (congrArg some (by kernel_rfl))
  t0:=Tryd.underlying0
  a0:=Tryd.isAgg0
  z0:=Tryd.sizeOf0
  v0:=Tryd.zeroValue0
  t3:=Tryd.underlying3
  a3:=Tryd.isAgg3
  z3:=Tryd.sizeOf3
  v3:=Tryd.zeroValue3
  t4:=Tryd.underlying4
  a4:=Tryd.isAgg4
  z4:=Tryd.sizeOf4
  v4:=Tryd.zeroValue4
  t9:=Tryd.underlying9
  a9:=Tryd.isAgg9
  z9:=Tryd.sizeOf9
  v9:=Tryd.zeroValue9
  t20:=Tryd.underlying20
  a20:=Tryd.isAgg20
  z20:=Tryd.sizeOf20
  v20:=Tryd.zeroValue20
  t31:=Tryd.underlying52
  a31:=Tryd.isAgg52
  z31:=Tryd.sizeOf52
  v31:=Tryd.zeroValue52
  t37:=Tryd.underlying74
  a37:=Tryd.isAgg74
  z37:=Tryd.sizeOf74
  v37:=Tryd.zeroValue74
  t70:=Tryd.underlying73
  a70:=Tryd.isAgg73
  z70:=Tryd.sizeOf73
  v70:=Tryd.zeroValue73
  t72:=Tryd.underlying76
  a72:=Tryd.isAgg76
  z72:=Tryd.sizeOf76
  v72:=Tryd.zeroValue76
  t75:=Tryd.underlying79
  a75:=Tryd.isAgg79
  z75:=Tryd.sizeOf79
  v75:=Tryd.zeroValue79
  t76:=Tryd.underlying80
  a76:=Tryd.isAgg80
  z76:=Tryd.sizeOf80
  v76:=Tryd.zeroValue80
  t127:=Tryd.underlying94
  a127:=Tryd.isAgg94
  z127:=Tryd.sizeOf94
  v127:=Tryd.zeroValue94
  t164:=Tryd.underlying105
  a164:=Tryd.isAgg105
  z164:=Tryd.sizeOf105
  v164:=Tryd.zeroValue105 }
theorem Tryd.Builder_Extra_156 : Builder.Extra Tryd.prog Tryd.lays156_ren:={
  sizeBuilder:=by kernel_rfl
  liesBuilder:=by kernel_rfl
  t5:=Tryd.underlying5
  a5:=Tryd.isAgg5
  z5:=Tryd.sizeOf5
  v5:=Tryd.zeroValue5
  infoByte:=by kernel_rfl
  cellsByte:=by kernel_rfl
  sizeByte:=by kernel_rfl
  neB5:=by decide }
open Go.RowKit in
/-- No element: the empty string; the world is as it was. (Whatever the slice's address and capacity: a nil slice too.) (LAID: no walk: one application.) -/
theorem Tryd.strings_Join_none (a : Option Addr) (c : Nat) (sep : ByteArray) (w : World) :
    Calls Tryd.prog 21 #[.slice a 0 c,.string sep] w fun e w'=>e = .returned (.string ⟨#[]⟩)∧w' = w:=Any.strings_Join_none Tryd.lays156 Tryd.Builder_Extra_156 a c sep w
open Go.RowKit in
/-- strings.Join: "Join concatenates the elements of its first argument to create a single string. The separator string sep is placed between elements in the resulting string.": HOWEVER MANY ELEMENTS. Below the heap's end the world is as it was. (LAID: no walk: one application.) -/
theorem Tryd.strings_Join (bk o c : Nat) (xs : List ByteArray) (sep : ByteArray) (w : World) (hcells : ∀ (j : Nat) x,xs[j]? = some x→w.cell? ⟨bk,o + j,none⟩ = some (.string x)) (hbk : bk < w.heap.size) (hN : xs.length≤140737488355328) (hcap : xs.length≤c) (hlen : (Lib.join (xs.map (·.data.toList)) sep.data.toList).length≤140737488355328) :
    Calls Tryd.prog 21 #[.slice (some ⟨bk,o,none⟩) xs.length c,.string sep] w fun e w'=>e = .returned (.string ⟨(Lib.join (xs.map (·.data.toList)) sep.data.toList).toArray⟩)∧Below w.heap.size w w':=Any.strings_Join Tryd.lays156 Tryd.Builder_Extra_156 bk o c xs sep w hcells hbk hN hcap hlen
def Tryd.lays134_ren : Go.Shelf.Ren:=⟨fun|134=>84|129=>78|n=>n,fun|53=>68|3=>3|4=>4|46=>35|5=>5|9=>9|n=>n,fun|n=>n⟩
theorem Tryd.lays134 : Go.Proofs.Lays.n134 Tryd.prog Tryd.lays134_ren:={
  mixed:=by kernel_rfl
  f129:=Tryd.func78.trans (congrArg some (by kernel_rfl))
  f134:=Tryd.func84.trans (congrArg some (by kernel_rfl))
  t3:=Tryd.underlying3
  a3:=Tryd.isAgg3
  z3:=Tryd.sizeOf3
  v3:=Tryd.zeroValue3
  t4:=Tryd.underlying4
  a4:=Tryd.isAgg4
  z4:=Tryd.sizeOf4
  v4:=Tryd.zeroValue4
  t5:=Tryd.underlying5
  a5:=Tryd.isAgg5
  z5:=Tryd.sizeOf5
  v5:=Tryd.zeroValue5
  t9:=Tryd.underlying9
  a9:=Tryd.isAgg9
  z9:=Tryd.sizeOf9
  v9:=Tryd.zeroValue9
  t46:=Tryd.underlying35
  a46:=Tryd.isAgg35
  z46:=Tryd.sizeOf35
  v46:=Tryd.zeroValue35
  t53:=Tryd.underlying68
  a53:=Tryd.isAgg68
  z53:=Tryd.sizeOf68
  v53:=Tryd.zeroValue68 }
/-- bits.LeadingZeros64: "LeadingZeros64 returns the number of leading zero bits in x; the result is 64 for x == 0.": IT RETURNS '64 - Lib.bitLen x'; the world is as it was. ITS CALLEE bits.Len64 IS MET BY ITS OWN CONTRACT OFF THE SHELF (lay that first): entered in place it sends the kernel out of memory. (LAID: no walk: one application.) -/
theorem Tryd.bits_LeadingZeros64 (x : Int) (w : World) (h0 : 0≤x) (h1 : x≤18446744073709551615) :
    Calls Tryd.prog 84 #[.int .u64 x] w fun e w'=>e = .returned (.int .i64 (64 - (Lib.bitLen x.toNat : Int)))∧w' = w:=Any.bits_LeadingZeros64 Tryd.lays134 x w h0 h1
def Tryd.lays195_ren : Go.Shelf.Ren:=⟨fun|195=>41|n=>n,fun|9=>9|3=>3|0=>0|4=>4|n=>n,fun|n=>n⟩
theorem Tryd.lays195 : Go.Proofs.Lays.n195 Tryd.prog Tryd.lays195_ren:={
  mixed:=by kernel_rfl
  f195:=Tryd.func41.trans (congrArg some (by kernel_rfl))
  t0:=Tryd.underlying0
  a0:=Tryd.isAgg0
  z0:=Tryd.sizeOf0
  v0:=Tryd.zeroValue0
  t3:=Tryd.underlying3
  a3:=Tryd.isAgg3
  z3:=Tryd.sizeOf3
  v3:=Tryd.zeroValue3
  t4:=Tryd.underlying4
  a4:=Tryd.isAgg4
  z4:=Tryd.sizeOf4
  v4:=Tryd.zeroValue4
  t9:=Tryd.underlying9
  a9:=Tryd.isAgg9
  z9:=Tryd.sizeOf9
  v9:=Tryd.zeroValue9 }
open Go.RowKit in
/-- unicode/utf8.RuneCountInString: "RuneCountInString is like RuneCount but its input is a string." ("RuneCount returns the number of runes in p. Erroneous and short encodings are treated as single runes of width 1 byte."): EVERY STRING, valid UTF-8 or not: 'Lib.runeCount s' (plain Lean over the model's own 'Utf8.decode'; 'Lib.runeCount_le': at most len(s); 'Lib.runeCount_ascii': on ASCII: len(s)). THE ONE CONDITION: len(s) below 2^63 - 1 (the counter does not wrap): the form's reach pays it. THE WORLD BEHIND THE CALL: ONE BLOCK MORE: the model's iterator over s, at its end: all else as it was. (LAID: no walk: one application.) -/
theorem Tryd.utf8_RuneCountInString (s : ByteArray) (w : World) (hs : s.size < 9223372036854775807) :
    Calls Tryd.prog 41 #[.string s] w fun e w'=>e = .returned (.int .i64 (Lib.runeCount s))∧∃ pos,w' = w.iter s pos:=Any.utf8_RuneCountInString Tryd.lays195 s w hs
def Tryd.lays129_ren : Go.Shelf.Ren:=⟨fun|129=>78|n=>n,fun|53=>68|3=>3|4=>4|46=>35|5=>5|9=>9|n=>n,fun|n=>n⟩
theorem Tryd.lays129 : Go.Proofs.Lays.n129 Tryd.prog Tryd.lays129_ren:={
  mixed:=by kernel_rfl
  f129:=Tryd.func78.trans (congrArg some (by kernel_rfl))
  t3:=Tryd.underlying3
  a3:=Tryd.isAgg3
  z3:=Tryd.sizeOf3
  v3:=Tryd.zeroValue3
  t4:=Tryd.underlying4
  a4:=Tryd.isAgg4
  z4:=Tryd.sizeOf4
  v4:=Tryd.zeroValue4
  t5:=Tryd.underlying5
  a5:=Tryd.isAgg5
  z5:=Tryd.sizeOf5
  v5:=Tryd.zeroValue5
  t9:=Tryd.underlying9
  a9:=Tryd.isAgg9
  z9:=Tryd.sizeOf9
  v9:=Tryd.zeroValue9
  t46:=Tryd.underlying35
  a46:=Tryd.isAgg35
  z46:=Tryd.sizeOf35
  v46:=Tryd.zeroValue35
  t53:=Tryd.underlying68
  a53:=Tryd.isAgg68
  z53:=Tryd.sizeOf68
  v53:=Tryd.zeroValue68 }
/-- bits.Len64: "Len64 returns the minimum number of bits required to represent x; the result is 0 for x == 0.": IT RETURNS 'Lib.bitLen x'; the world is as it was. ('h0', 'h1': x is a uint64.) (LAID: no walk: one application.) -/
theorem Tryd.bits_Len64 (x : Int) (w : World) (h0 : 0≤x) (h1 : x≤18446744073709551615) :
    Calls Tryd.prog 78 #[.int .u64 x] w fun e w'=>e = .returned (.int .i64 (Lib.bitLen x.toNat))∧w' = w:=Any.bits_Len64 Tryd.lays129 x w h0 h1
def Tryd.laysM171_ren : Go.Shelf.Ren:=⟨fun|171=>20|243=>34|246=>51|283=>62|284=>63|285=>64|286=>65|129=>78|317=>77|318=>79|319=>80|320=>81|337=>85|338=>86|n=>n,fun|3=>3|9=>9|2=>2|4=>4|171=>100|0=>0|53=>68|37=>74|5=>5|173=>103|212=>119|51=>22|20=>20|213=>120|46=>35|232=>127|233=>128|n=>n,fun|17=>3|18=>6|19=>7|n=>n⟩
theorem Tryd.laysM171 : Go.Proofs.LaysM.n171 Tryd.prog Tryd.laysM171_ren:={
  mixed:=by kernel_rfl
  f129:=Tryd.func78.trans (congrArg some (by kernel_rfl))
  f171:=Tryd.func20.trans (congrArg some (by kernel_rfl))
  f243:=Tryd.func34.trans (congrArg some (by kernel_rfl))
  f246:=Tryd.func51.trans (congrArg some (by kernel_rfl))
  f283:=Tryd.func62.trans (congrArg some (by kernel_rfl))
  f284:=Tryd.func63.trans (congrArg some (by kernel_rfl))
  f285:=Tryd.func64.trans (congrArg some (by kernel_rfl))
  f286:=Tryd.func65.trans (congrArg some (by kernel_rfl))
  f317:=Tryd.func77.trans (congrArg some (by kernel_rfl))
  f318:=Tryd.func79.trans (congrArg some (by kernel_rfl))
  f319:=Tryd.func80.trans (congrArg some (by kernel_rfl))
  f320:=Tryd.func81.trans (congrArg some (by kernel_rfl))
  f337:=Tryd.func85.trans (congrArg some (by kernel_rfl))
  f338:=Tryd.func86.trans (congrArg some (by kernel_rfl))
  t0:=Tryd.underlying0
  a0:=Tryd.isAgg0
  z0:=Tryd.sizeOf0
  v0:=Tryd.zeroValue0
  t2:=Tryd.underlying2
  a2:=Tryd.isAgg2
  z2:=Tryd.sizeOf2
  v2:=Tryd.zeroValue2
  t3:=Tryd.underlying3
  a3:=Tryd.isAgg3
  z3:=Tryd.sizeOf3
  v3:=Tryd.zeroValue3
  t4:=Tryd.underlying4
  a4:=Tryd.isAgg4
  z4:=Tryd.sizeOf4
  v4:=Tryd.zeroValue4
  t5:=Tryd.underlying5
  a5:=Tryd.isAgg5
  z5:=Tryd.sizeOf5
  v5:=Tryd.zeroValue5
  t9:=Tryd.underlying9
  a9:=Tryd.isAgg9
  z9:=Tryd.sizeOf9
  v9:=Tryd.zeroValue9
  t20:=Tryd.underlying20
  a20:=Tryd.isAgg20
  z20:=Tryd.sizeOf20
  v20:=Tryd.zeroValue20
  t37:=Tryd.underlying74
  a37:=Tryd.isAgg74
  z37:=Tryd.sizeOf74
  v37:=Tryd.zeroValue74
  t46:=Tryd.underlying35
  a46:=Tryd.isAgg35
  z46:=Tryd.sizeOf35
  v46:=Tryd.zeroValue35
  t51:=Tryd.underlying22
  a51:=Tryd.isAgg22
  z51:=Tryd.sizeOf22
  v51:=Tryd.zeroValue22
  t53:=Tryd.underlying68
  a53:=Tryd.isAgg68
  z53:=Tryd.sizeOf68
  v53:=Tryd.zeroValue68
  t171:=Tryd.underlying100
  a171:=Tryd.isAgg100
  z171:=Tryd.sizeOf100
  v171:=Tryd.zeroValue100
  t173:=Tryd.underlying103
  a173:=Tryd.isAgg103
  z173:=Tryd.sizeOf103
  v173:=Tryd.zeroValue103
  t212:=Tryd.underlying119
  a212:=Tryd.isAgg119
  z212:=Tryd.sizeOf119
  v212:=Tryd.zeroValue119
  t213:=Tryd.underlying120
  a213:=Tryd.isAgg120
  z213:=Tryd.sizeOf120
  t232:=Tryd.underlying127
  a232:=Tryd.isAgg127
  z232:=Tryd.sizeOf127
  v232:=Tryd.zeroValue127
  t233:=Tryd.underlying128
  a233:=Tryd.isAgg128
  z233:=Tryd.sizeOf128
  v233:=Tryd.zeroValue128
  g17:=by kernel_rfl
  g18:=by kernel_rfl
  g19:=by kernel_rfl
  i0:=by kernel_rfl
  i2:=by kernel_rfl
  i3:=by kernel_rfl
  i4:=by kernel_rfl
  i5:=by kernel_rfl
  i9:=by kernel_rfl
  i20:=by kernel_rfl
  i37:=by kernel_rfl
  i46:=by kernel_rfl
  i51:=by kernel_rfl
  i53:=by kernel_rfl
  i171:=by kernel_rfl
  i173:=by kernel_rfl
  i212:=by kernel_rfl
  i232:=by kernel_rfl
  i233:=by kernel_rfl
  m17:=by kernel_rfl
  m18:=by kernel_rfl
  m19:=by kernel_rfl }
open Go.RowKit Go.Sort Go.Lib in
/-- strconv.Itoa: "Itoa is equivalent to FormatInt(int64(i), 10).": i's DECIMAL NUMERAL ('Lib.itoa': a '-' where i is negative, then the digits), FOR EVERY int. The world behind the call: the world before it, new blocks behind the heap (the library's 'var a [24]byte'), draws. (LAID: no walk: one application.) -/
theorem Tryd.strconv_Itoa (n : Int) (h0 : -9223372036854775808 ≤ n) (h1 : n ≤ 9223372036854775807) (w : World) (htab : Lib.TabIs Tryd.prog w "internal/strconv.uint64pow10" .u64 Lib.pow10Tab) :
    Calls Tryd.prog 20 #[.int .i64 n] w fun e w'=>e = .returned (.string ⟨(Lib.itoa n).toArray⟩)∧∃ k os,w' = grow (w.drewN k) os:=Any.strconv_Itoa Tryd.laysM171 n h0 h1 w htab
def Tryd.lays145_ren : Go.Shelf.Ren:=⟨fun|145=>24|220=>39|219=>57|217=>69|225=>70|224=>71|267=>72|266=>82|314=>83|n=>n,fun|9=>9|4=>4|59=>54|3=>3|5=>5|46=>35|146=>123|51=>22|n=>n,fun|1=>0|n=>n⟩
theorem Tryd.lays145 : Go.Proofs.Lays.n145 Tryd.prog Tryd.lays145_ren:={
  mixed:=by kernel_rfl
  f145:=Tryd.func24.trans (congrArg some (by kernel_rfl))
  f217:=Tryd.func69.trans (congrArg some (by kernel_rfl))
  f219:=Tryd.func57.trans (congrArg some (by kernel_rfl))
  f220:=Tryd.func39.trans (congrArg some (by kernel_rfl))
  f224:=Tryd.func71.trans (congrArg some (by kernel_rfl))
  f225:=Tryd.func70.trans (congrArg some (by kernel_rfl))
  f266:=Tryd.func82.trans (congrArg some (by kernel_rfl))
  f267:=Tryd.func72.trans (congrArg some (by kernel_rfl))
  f314:=Tryd.func83.trans (congrArg some (by kernel_rfl))
  t3:=Tryd.underlying3
  a3:=Tryd.isAgg3
  z3:=Tryd.sizeOf3
  v3:=Tryd.zeroValue3
  t4:=Tryd.underlying4
  a4:=Tryd.isAgg4
  z4:=Tryd.sizeOf4
  v4:=Tryd.zeroValue4
  t5:=Tryd.underlying5
  a5:=Tryd.isAgg5
  z5:=Tryd.sizeOf5
  v5:=Tryd.zeroValue5
  t9:=Tryd.underlying9
  a9:=Tryd.isAgg9
  z9:=Tryd.sizeOf9
  v9:=Tryd.zeroValue9
  t46:=Tryd.underlying35
  a46:=Tryd.isAgg35
  z46:=Tryd.sizeOf35
  v46:=Tryd.zeroValue35
  t51:=Tryd.underlying22
  a51:=Tryd.isAgg22
  z51:=Tryd.sizeOf22
  v51:=Tryd.zeroValue22
  t59:=Tryd.underlying54
  a59:=Tryd.isAgg54
  z59:=Tryd.sizeOf54
  v59:=Tryd.zeroValue54
  t146:=Tryd.underlying123
  a146:=Tryd.isAgg123
  z146:=Tryd.sizeOf123
  v146:=Tryd.zeroValue123
  g1:=by kernel_rfl }
open Go.RowKit Go.Lib in
/-- strings.Cut: "Cut slices s around the first instance of sep, returning the text before and after sep. The found result reports whether sep appears in s. If sep does not appear in s, cut returns s, "", false.": IT RETURNS 'Lib.cut s sep'; the world is as it was but for the count of draws. (LAID: no walk: one application.) -/
theorem Tryd.strings_Cut (s sep : ByteArray) (m : Int) (w : World) (hs : s.size < 4294967281) (hm : w.cell? ⟨0,0,none⟩ = some (.int .i64 m)) :
    Calls Tryd.prog 24 #[.string s,.string sep] w fun e w'=>e = .returned (.tuple #[.string ⟨(Lib.cut s.data.toList sep.data.toList).1.toArray⟩,.string ⟨(Lib.cut s.data.toList sep.data.toList).2.1.toArray⟩,.bool (Lib.cut s.data.toList sep.data.toList).2.2])∧∃ n,w' = w.drewN n:=Any.strings_Cut Tryd.lays145 s sep m w hs hm
def Tryd.lays146_ren : Go.Shelf.Ren:=⟨fun|146=>23|221=>38|268=>54|138=>55|143=>56|195=>41|197=>40|218=>68|219=>57|260=>58|217=>69|225=>70|224=>71|267=>72|266=>82|314=>83|n=>n,fun|9=>9|31=>52|3=>3|4=>4|0=>0|105=>84|21=>21|5=>5|46=>35|119=>110|139=>113|138=>112|146=>123|51=>22|n=>n,fun|1=>0|3=>1|4=>2|n=>n⟩
theorem Tryd.lays146 : Go.Proofs.Lays.n146 Tryd.prog Tryd.lays146_ren:={
  mixed:=by kernel_rfl
  f138:=Tryd.func55.trans (congrArg some (by kernel_rfl))
  f143:=Tryd.func56.trans (congrArg some (by kernel_rfl))
  f146:=Tryd.func23.trans (congrArg some (by kernel_rfl))
  f195:=Tryd.func41.trans (congrArg some (by kernel_rfl))
  f197:=Tryd.func40.trans (congrArg some (by kernel_rfl))
  f217:=Tryd.func69.trans (congrArg some (by kernel_rfl))
  f218:=Tryd.func68.trans (congrArg some (by kernel_rfl))
  f219:=Tryd.func57.trans (congrArg some (by kernel_rfl))
  f221:=Tryd.func38.trans (congrArg some (by kernel_rfl))
  f224:=Tryd.func71.trans (congrArg some (by kernel_rfl))
  f225:=Tryd.func70.trans (congrArg some (by kernel_rfl))
  f260:=Tryd.func58.trans (congrArg some (by kernel_rfl))
  f266:=Tryd.func82.trans (congrArg some (by kernel_rfl))
  f267:=Tryd.func72.trans (congrArg some (by kernel_rfl))
  f268:=Tryd.func54.trans (congrArg some (by kernel_rfl))
  f314:=Tryd.func83.trans (congrArg some (by kernel_rfl))
  t0:=Tryd.underlying0
  a0:=Tryd.isAgg0
  z0:=Tryd.sizeOf0
  v0:=Tryd.zeroValue0
  t3:=Tryd.underlying3
  a3:=Tryd.isAgg3
  z3:=Tryd.sizeOf3
  v3:=Tryd.zeroValue3
  t4:=Tryd.underlying4
  a4:=Tryd.isAgg4
  z4:=Tryd.sizeOf4
  v4:=Tryd.zeroValue4
  t5:=Tryd.underlying5
  a5:=Tryd.isAgg5
  z5:=Tryd.sizeOf5
  v5:=Tryd.zeroValue5
  t9:=Tryd.underlying9
  a9:=Tryd.isAgg9
  z9:=Tryd.sizeOf9
  v9:=Tryd.zeroValue9
  t21:=Tryd.underlying21
  a21:=Tryd.isAgg21
  z21:=Tryd.sizeOf21
  v21:=Tryd.zeroValue21
  t31:=Tryd.underlying52
  a31:=Tryd.isAgg52
  z31:=Tryd.sizeOf52
  v31:=Tryd.zeroValue52
  t46:=Tryd.underlying35
  a46:=Tryd.isAgg35
  z46:=Tryd.sizeOf35
  v46:=Tryd.zeroValue35
  t51:=Tryd.underlying22
  a51:=Tryd.isAgg22
  z51:=Tryd.sizeOf22
  v51:=Tryd.zeroValue22
  t105:=Tryd.underlying84
  a105:=Tryd.isAgg84
  z105:=Tryd.sizeOf84
  v105:=Tryd.zeroValue84
  t119:=Tryd.underlying110
  a119:=Tryd.isAgg110
  z119:=Tryd.sizeOf110
  t138:=Tryd.underlying112
  a138:=Tryd.isAgg112
  z138:=Tryd.sizeOf112
  v138:=Tryd.zeroValue112
  t139:=Tryd.underlying113
  a139:=Tryd.isAgg113
  z139:=Tryd.sizeOf113
  v139:=Tryd.zeroValue113
  t146:=Tryd.underlying123
  a146:=Tryd.isAgg123
  z146:=Tryd.sizeOf123
  v146:=Tryd.zeroValue123
  g1:=by kernel_rfl
  g3:=by kernel_rfl
  g4:=by kernel_rfl }
open Go.RowKit Go.Lib in
/-- strings.Split. (LAID: no walk: one application.) -/
theorem Tryd.strings_Split (s sep : ByteArray) (m : Int) (w : World) (hs : s.size < 4294967281) (hm : w.cell? ⟨0,0,none⟩ = some (.int .i64 m)) (h1 : 1≤sep.size) :
    Calls Tryd.prog 23 #[.string s,.string sep] w fun e w' =>
      e = .returned (.slice (some ⟨w.heap.size,0,none⟩) (Lib.countB s sep + 1) (Lib.countB s sep + 1))∧w' = w.alloc (.cells ((Lib.splitB sep 0 (Lib.countB s sep) s).map Value.string).toArray 9):=Any.strings_Split Tryd.lays146 (by kernel_rfl) s sep m w hs hm h1
def Tryd.lays197_ren : Go.Shelf.Ren:=⟨fun|197=>40|260=>58|n=>n,fun|9=>9|21=>21|3=>3|4=>4|5=>5|105=>84|119=>110|0=>0|46=>35|139=>113|138=>112|n=>n,fun|3=>1|4=>2|n=>n⟩
theorem Tryd.lays197 : Go.Proofs.Lays.n197 Tryd.prog Tryd.lays197_ren:={
  mixed:=by kernel_rfl
  f197:=Tryd.func40.trans (congrArg some (by kernel_rfl))
  f260:=Tryd.func58.trans (congrArg some (by kernel_rfl))
  t0:=Tryd.underlying0
  a0:=Tryd.isAgg0
  z0:=Tryd.sizeOf0
  v0:=Tryd.zeroValue0
  t3:=Tryd.underlying3
  a3:=Tryd.isAgg3
  z3:=Tryd.sizeOf3
  v3:=Tryd.zeroValue3
  t4:=Tryd.underlying4
  a4:=Tryd.isAgg4
  z4:=Tryd.sizeOf4
  v4:=Tryd.zeroValue4
  t5:=Tryd.underlying5
  a5:=Tryd.isAgg5
  z5:=Tryd.sizeOf5
  v5:=Tryd.zeroValue5
  t9:=Tryd.underlying9
  a9:=Tryd.isAgg9
  z9:=Tryd.sizeOf9
  v9:=Tryd.zeroValue9
  t21:=Tryd.underlying21
  a21:=Tryd.isAgg21
  z21:=Tryd.sizeOf21
  v21:=Tryd.zeroValue21
  t46:=Tryd.underlying35
  a46:=Tryd.isAgg35
  z46:=Tryd.sizeOf35
  v46:=Tryd.zeroValue35
  t105:=Tryd.underlying84
  a105:=Tryd.isAgg84
  z105:=Tryd.sizeOf84
  v105:=Tryd.zeroValue84
  t119:=Tryd.underlying110
  a119:=Tryd.isAgg110
  z119:=Tryd.sizeOf110
  t138:=Tryd.underlying112
  a138:=Tryd.isAgg112
  z138:=Tryd.sizeOf112
  v138:=Tryd.zeroValue112
  t139:=Tryd.underlying113
  a139:=Tryd.isAgg113
  z139:=Tryd.sizeOf113
  v139:=Tryd.zeroValue113
  g3:=by kernel_rfl
  g4:=by kernel_rfl }
def Tryd.lays264_ren : Go.Shelf.Ren:=⟨fun|264=>74|n=>n,fun|53=>68|46=>35|n=>n,fun|n=>n⟩
theorem Tryd.lays264 : Go.Proofs.Lays.n264 Tryd.prog Tryd.lays264_ren:={
  mixed:=by kernel_rfl
  f264:=Tryd.func74.trans (congrArg some (by kernel_rfl))
  t46:=Tryd.underlying35
  a46:=Tryd.isAgg35
  z46:=Tryd.sizeOf35
  v46:=Tryd.zeroValue35
  t53:=Tryd.underlying68
  a53:=Tryd.isAgg68
  z53:=Tryd.sizeOf68
  v53:=Tryd.zeroValue68 }
open Go.RowKit Go.Lib in
theorem Tryd.bits_Mul64 (x y : Nat) (hx : x < 18446744073709551616) (hy : y < 18446744073709551616) (w : World) :
    Calls Tryd.prog 74 #[.int .u64 x,.int .u64 y] w fun e w'=>e = .returned (.tuple #[.int .u64 ((x * y / 18446744073709551616 : Nat) : Int),.int .u64 ((x * y % 18446744073709551616 : Nat) : Int)])∧w' = w:=Any.bits_Mul64 Tryd.lays264 x y hx hy w
def Tryd.lays260_ren : Go.Shelf.Ren:=⟨fun|260=>58|n=>n,fun|9=>9|21=>21|3=>3|4=>4|5=>5|119=>110|0=>0|46=>35|139=>113|138=>112|n=>n,fun|3=>1|4=>2|n=>n⟩
theorem Tryd.lays260 : Go.Proofs.Lays.n260 Tryd.prog Tryd.lays260_ren:={
  mixed:=by kernel_rfl
  f260:=Tryd.func58.trans (congrArg some (by kernel_rfl))
  t0:=Tryd.underlying0
  a0:=Tryd.isAgg0
  z0:=Tryd.sizeOf0
  v0:=Tryd.zeroValue0
  t3:=Tryd.underlying3
  a3:=Tryd.isAgg3
  z3:=Tryd.sizeOf3
  v3:=Tryd.zeroValue3
  t4:=Tryd.underlying4
  a4:=Tryd.isAgg4
  z4:=Tryd.sizeOf4
  v4:=Tryd.zeroValue4
  t5:=Tryd.underlying5
  a5:=Tryd.isAgg5
  z5:=Tryd.sizeOf5
  v5:=Tryd.zeroValue5
  t9:=Tryd.underlying9
  a9:=Tryd.isAgg9
  z9:=Tryd.sizeOf9
  v9:=Tryd.zeroValue9
  t21:=Tryd.underlying21
  a21:=Tryd.isAgg21
  z21:=Tryd.sizeOf21
  v21:=Tryd.zeroValue21
  t46:=Tryd.underlying35
  a46:=Tryd.isAgg35
  z46:=Tryd.sizeOf35
  v46:=Tryd.zeroValue35
  t119:=Tryd.underlying110
  a119:=Tryd.isAgg110
  z119:=Tryd.sizeOf110
  t138:=Tryd.underlying112
  a138:=Tryd.isAgg112
  z138:=Tryd.sizeOf112
  v138:=Tryd.zeroValue112
  t139:=Tryd.underlying113
  a139:=Tryd.isAgg113
  z139:=Tryd.sizeOf113
  v139:=Tryd.zeroValue113
  g3:=by kernel_rfl
  g4:=by kernel_rfl }
open Go.RowKit Go.Lib in
/-- **unicode/utf8.DecodeRuneInString AT EVERY STRING.** (LAID: no walk: one application.) -/
theorem Tryd.utf8_DecodeRuneInString (s : ByteArray) (w : World) (hT : Lib.Utf8Tabs 1 2 w) :
    Calls Tryd.prog 40 #[.string s] w fun e w'=>e = .returned (.tuple #[.int .i32 (Lib.decodeGo s).1,.int .i64 (Lib.decodeGo s).2])∧Below w.heap.size w w':=Any.utf8_DecodeRuneInString Tryd.lays197 s w hT
end Go.Proofs
