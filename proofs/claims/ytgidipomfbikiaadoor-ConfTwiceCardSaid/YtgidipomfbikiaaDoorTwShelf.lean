/- cut to what one law reaches -/
import Derived.Shelf.Strings.Builder1
import Derived.Shelf.Strings.Builder2
import Derived.Shelf.Strings.OnBuilder
import Derived.Shelf.Strings.BuilderF
import Derived.Shelf.Strings.BuilderK
import Derived.Shelf.Utf8.RuneCount
import Derived.Shelf.Strings.Builder2Cap
import Derived.Shelf.Strconv.Itoa0
import Derived.Shelf.Strconv.Itoa1
import Derived.Shelf.LaysM
import Derived.Shelf.Strconv.Itoa2
import Derived.Shelf.Strconv.Itoa3
import Derived.Shelf.Strings.Search1
import Derived.Shelf.Strings.Search2
import Derived.Shelf.Strings.Search3
import Derived.Shelf.Strings.Cut
import Derived.Shelf.Strings.Count
import Derived.Shelf.Strings.Shaped
import Derived.Shelf.Strings.Split
import Derived.Shelf.Strings.SplitShaped
import Derived.Shelf.Unicode.Decode
import Derived.Shelf.Strings.RuneCount
import Derived.Shelf.Strings.Explode
import Derived.Shelf.Unicode.DecodeSlow
import Derived.Shelf.Unicode.DecodeAny
import Derived.Shelf.Strings.BuilderCap
import Derived.Shelf.Slices.Turned
import Derived.Test.YtgidipomfbikiaaDoorProg
namespace Go.Proofs
open Go.Shelf
def Tryd.lays156_ren : Go.Shelf.Ren:=⟨fun|156=>41|165=>52|166=>53|169=>54|240=>61|241=>62|276=>73|277=>74|n=>n,fun|31=>58|9=>9|3=>3|4=>4|0=>0|20=>20|72=>91|76=>95|70=>89|37=>75|75=>94|127=>104|164=>114|5=>5|80=>60|n=>n,fun|n=>n⟩
theorem Tryd.lays156 : Go.Proofs.Lays.n156 Tryd.prog Tryd.lays156_ren:={
  mixed:=by kernel_rfl
  f156:=Tryd.func41.trans (congrArg some (by kernel_rfl))
  f165:=Tryd.func52.trans (congrArg some (by kernel_rfl))
  f166:=Tryd.func53.trans (congrArg some (by kernel_rfl))
  f169:=Tryd.func54.trans (congrArg some (by kernel_rfl))
  f240:=Tryd.func61.trans (congrArg some (by kernel_rfl))
  f241:=Tryd.func62.trans (congrArg some (by kernel_rfl))
  f276:=Tryd.func73.trans (congrArg some (by kernel_rfl))
  f277:=Tryd.func74.trans (congrArg some (by kernel_rfl))
  t0:=Tryd.underlying0
  a0:=Tryd.isAgg0
  z0:=Tryd.sizeOf0
  v0:=Tryd.zeroValue0
  t3:=Tryd.underlying3
  a3:=Tryd.isAgg3
  z3:=Tryd.sizeOf3
  v3:=Tryd.zeroValue3
  t4:=Tryd.underlying4
  a4:=Tryd.isAgg4
  z4:=Tryd.sizeOf4
  v4:=Tryd.zeroValue4
  t9:=Tryd.underlying9
  a9:=Tryd.isAgg9
  z9:=Tryd.sizeOf9
  v9:=Tryd.zeroValue9
  t20:=Tryd.underlying20
  a20:=Tryd.isAgg20
  z20:=Tryd.sizeOf20
  v20:=Tryd.zeroValue20
  t31:=Tryd.underlying58
  a31:=Tryd.isAgg58
  z31:=Tryd.sizeOf58
  v31:=Tryd.zeroValue58
  t37:=Tryd.underlying75
  a37:=Tryd.isAgg75
  z37:=Tryd.sizeOf75
  v37:=Tryd.zeroValue75
  t70:=Tryd.underlying89
  a70:=Tryd.isAgg89
  z70:=Tryd.sizeOf89
  v70:=Tryd.zeroValue89
  t72:=Tryd.underlying91
  a72:=Tryd.isAgg91
  z72:=Tryd.sizeOf91
  v72:=Tryd.zeroValue91
  t75:=Tryd.underlying94
  a75:=Tryd.isAgg94
  z75:=Tryd.sizeOf94
  v75:=Tryd.zeroValue94
  t76:=Tryd.underlying95
  a76:=Tryd.isAgg95
  z76:=Tryd.sizeOf95
  v76:=Tryd.zeroValue95
  t127:=Tryd.underlying104
  a127:=Tryd.isAgg104
  z127:=Tryd.sizeOf104
  v127:=Tryd.zeroValue104
  t164:=Tryd.underlying114
  a164:=Tryd.isAgg114
  z164:=Tryd.sizeOf114
  v164:=Tryd.zeroValue114 }
theorem Tryd.Builder_Extra_156 : Builder.Extra Tryd.prog Tryd.lays156_ren:={
  sizeBuilder:=by kernel_rfl
  liesBuilder:=by kernel_rfl
  t5:=Tryd.underlying5
  a5:=Tryd.isAgg5
  z5:=Tryd.sizeOf5
  v5:=Tryd.zeroValue5
  infoByte:=by kernel_rfl
  cellsByte:=by kernel_rfl
  sizeByte:=by kernel_rfl
  neB5:=by decide }
open Go.RowKit in
/-- No element: the empty string; the world is as it was. (Whatever the slice's address and capacity: a nil slice too.) (LAID: no walk: one application.) -/
theorem Tryd.strings_Join_none (a : Option Addr) (c : Nat) (sep : ByteArray) (w : World) :
    Calls Tryd.prog 41 #[.slice a 0 c,.string sep] w fun e w'=>e = .returned (.string ⟨#[]⟩)∧w' = w:=Any.strings_Join_none Tryd.lays156 Tryd.Builder_Extra_156 a c sep w
open Go.RowKit in
/-- strings.Join: "Join concatenates the elements of its first argument to create a single string. The separator string sep is placed between elements in the resulting string.": HOWEVER MANY ELEMENTS. Below the heap's end the world is as it was. (LAID: no walk: one application.) -/
theorem Tryd.strings_Join (bk o c : Nat) (xs : List ByteArray) (sep : ByteArray) (w : World) (hcells : ∀ (j : Nat) x,xs[j]? = some x→w.cell? ⟨bk,o + j,none⟩ = some (.string x)) (hbk : bk < w.heap.size) (hN : xs.length≤140737488355328) (hcap : xs.length≤c) (hlen : (Lib.join (xs.map (·.data.toList)) sep.data.toList).length≤140737488355328) :
    Calls Tryd.prog 41 #[.slice (some ⟨bk,o,none⟩) xs.length c,.string sep] w fun e w'=>e = .returned (.string ⟨(Lib.join (xs.map (·.data.toList)) sep.data.toList).toArray⟩)∧Below w.heap.size w w':=Any.strings_Join Tryd.lays156 Tryd.Builder_Extra_156 bk o c xs sep w hcells hbk hN hcap hlen
def Tryd.lays195_ren : Go.Shelf.Ren:=⟨fun|195=>60|n=>n,fun|9=>9|3=>3|0=>0|4=>4|n=>n,fun|n=>n⟩
theorem Tryd.lays195 : Go.Proofs.Lays.n195 Tryd.prog Tryd.lays195_ren:={
  mixed:=by kernel_rfl
  f195:=Tryd.func60.trans (congrArg some (by kernel_rfl))
  t0:=Tryd.underlying0
  a0:=Tryd.isAgg0
  z0:=Tryd.sizeOf0
  v0:=Tryd.zeroValue0
  t3:=Tryd.underlying3
  a3:=Tryd.isAgg3
  z3:=Tryd.sizeOf3
  v3:=Tryd.zeroValue3
  t4:=Tryd.underlying4
  a4:=Tryd.isAgg4
  z4:=Tryd.sizeOf4
  v4:=Tryd.zeroValue4
  t9:=Tryd.underlying9
  a9:=Tryd.isAgg9
  z9:=Tryd.sizeOf9
  v9:=Tryd.zeroValue9 }
open Go.RowKit in
/-- unicode/utf8.RuneCountInString: "RuneCountInString is like RuneCount but its input is a string." ("RuneCount returns the number of runes in p. Erroneous and short encodings are treated as single runes of width 1 byte."): EVERY STRING, valid UTF-8 or not: 'Lib.runeCount s' (plain Lean over the model's own 'Utf8.decode'; 'Lib.runeCount_le': at most len(s); 'Lib.runeCount_ascii': on ASCII: len(s)). THE ONE CONDITION: len(s) below 2^63 - 1 (the counter does not wrap): the form's reach pays it. THE WORLD BEHIND THE CALL: ONE BLOCK MORE: the model's iterator over s, at its end: all else as it was. (LAID: no walk: one application.) -/
theorem Tryd.utf8_RuneCountInString (s : ByteArray) (w : World) (hs : s.size < 9223372036854775807) :
    Calls Tryd.prog 60 #[.string s] w fun e w'=>e = .returned (.int .i64 (Lib.runeCount s))∧∃ pos,w' = w.iter s pos:=Any.utf8_RuneCountInString Tryd.lays195 s w hs
def Tryd.laysM171_ren : Go.Shelf.Ren:=⟨fun|171=>30|243=>42|246=>55|283=>63|284=>64|285=>65|286=>66|129=>76|317=>75|318=>77|319=>78|320=>79|337=>85|338=>86|n=>n,fun|3=>3|9=>9|2=>2|4=>4|171=>105|0=>0|53=>106|37=>75|5=>5|173=>109|212=>118|51=>119|20=>20|213=>120|46=>45|232=>131|233=>132|n=>n,fun|17=>1|18=>4|19=>5|n=>n⟩
theorem Tryd.laysM171 : Go.Proofs.LaysM.n171 Tryd.prog Tryd.laysM171_ren:={
  mixed:=by kernel_rfl
  f129:=Tryd.func76.trans (congrArg some (by kernel_rfl))
  f171:=Tryd.func30.trans (congrArg some (by kernel_rfl))
  f243:=Tryd.func42.trans (congrArg some (by kernel_rfl))
  f246:=Tryd.func55.trans (congrArg some (by kernel_rfl))
  f283:=Tryd.func63.trans (congrArg some (by kernel_rfl))
  f284:=Tryd.func64.trans (congrArg some (by kernel_rfl))
  f285:=Tryd.func65.trans (congrArg some (by kernel_rfl))
  f286:=Tryd.func66.trans (congrArg some (by kernel_rfl))
  f317:=Tryd.func75.trans (congrArg some (by kernel_rfl))
  f318:=Tryd.func77.trans (congrArg some (by kernel_rfl))
  f319:=Tryd.func78.trans (congrArg some (by kernel_rfl))
  f320:=Tryd.func79.trans (congrArg some (by kernel_rfl))
  f337:=Tryd.func85.trans (congrArg some (by kernel_rfl))
  f338:=Tryd.func86.trans (congrArg some (by kernel_rfl))
  t0:=Tryd.underlying0
  a0:=Tryd.isAgg0
  z0:=Tryd.sizeOf0
  v0:=Tryd.zeroValue0
  t2:=Tryd.underlying2
  a2:=Tryd.isAgg2
  z2:=Tryd.sizeOf2
  v2:=Tryd.zeroValue2
  t3:=Tryd.underlying3
  a3:=Tryd.isAgg3
  z3:=Tryd.sizeOf3
  v3:=Tryd.zeroValue3
  t4:=Tryd.underlying4
  a4:=Tryd.isAgg4
  z4:=Tryd.sizeOf4
  v4:=Tryd.zeroValue4
  t5:=Tryd.underlying5
  a5:=Tryd.isAgg5
  z5:=Tryd.sizeOf5
  v5:=Tryd.zeroValue5
  t9:=Tryd.underlying9
  a9:=Tryd.isAgg9
  z9:=Tryd.sizeOf9
  v9:=Tryd.zeroValue9
  t20:=Tryd.underlying20
  a20:=Tryd.isAgg20
  z20:=Tryd.sizeOf20
  v20:=Tryd.zeroValue20
  t37:=Tryd.underlying75
  a37:=Tryd.isAgg75
  z37:=Tryd.sizeOf75
  v37:=Tryd.zeroValue75
  t46:=Tryd.underlying45
  a46:=Tryd.isAgg45
  z46:=Tryd.sizeOf45
  v46:=Tryd.zeroValue45
  t51:=Tryd.underlying119
  a51:=Tryd.isAgg119
  z51:=Tryd.sizeOf119
  v51:=Tryd.zeroValue119
  t53:=Tryd.underlying106
  a53:=Tryd.isAgg106
  z53:=Tryd.sizeOf106
  v53:=Tryd.zeroValue106
  t171:=Tryd.underlying105
  a171:=Tryd.isAgg105
  z171:=Tryd.sizeOf105
  v171:=Tryd.zeroValue105
  t173:=Tryd.underlying109
  a173:=Tryd.isAgg109
  z173:=Tryd.sizeOf109
  v173:=Tryd.zeroValue109
  t212:=Tryd.underlying118
  a212:=Tryd.isAgg118
  z212:=Tryd.sizeOf118
  v212:=Tryd.zeroValue118
  t213:=Tryd.underlying120
  a213:=Tryd.isAgg120
  z213:=Tryd.sizeOf120
  t232:=Tryd.underlying131
  a232:=Tryd.isAgg131
  z232:=Tryd.sizeOf131
  v232:=Tryd.zeroValue131
  t233:=Tryd.underlying132
  a233:=Tryd.isAgg132
  z233:=Tryd.sizeOf132
  v233:=Tryd.zeroValue132
  g17:=by kernel_rfl
  g18:=by kernel_rfl
  g19:=by kernel_rfl
  i0:=by kernel_rfl
  i2:=by kernel_rfl
  i3:=by kernel_rfl
  i4:=by kernel_rfl
  i5:=by kernel_rfl
  i9:=by kernel_rfl
  i20:=by kernel_rfl
  i37:=by kernel_rfl
  i46:=by kernel_rfl
  i51:=by kernel_rfl
  i53:=by kernel_rfl
  i171:=by kernel_rfl
  i173:=by kernel_rfl
  i212:=by kernel_rfl
  i232:=by kernel_rfl
  i233:=by kernel_rfl
  m17:=by kernel_rfl
  m18:=by kernel_rfl
  m19:=by kernel_rfl }
open Go.RowKit Go.Sort Go.Lib in
/-- strconv.Itoa: "Itoa is equivalent to FormatInt(int64(i), 10).": i's DECIMAL NUMERAL ('Lib.itoa': a '-' where i is negative, then the digits), FOR EVERY int. The world behind the call: the world before it, new blocks behind the heap (the library's 'var a [24]byte'), draws. (LAID: no walk: one application.) -/
theorem Tryd.strconv_Itoa (n : Int) (h0 : -9223372036854775808 ≤ n) (h1 : n ≤ 9223372036854775807) (w : World) (htab : Lib.TabIs Tryd.prog w "internal/strconv.uint64pow10" .u64 Lib.pow10Tab) :
    Calls Tryd.prog 30 #[.int .i64 n] w fun e w'=>e = .returned (.string ⟨(Lib.itoa n).toArray⟩)∧∃ k os,w' = grow (w.drewN k) os:=Any.strconv_Itoa Tryd.laysM171 n h0 h1 w htab
def Tryd.lays145_ren : Go.Shelf.Ren:=⟨fun|145=>35|220=>43|219=>56|217=>67|225=>68|224=>69|267=>70|266=>80|314=>81|n=>n,fun|9=>9|4=>4|59=>70|3=>3|5=>5|46=>45|146=>123|51=>119|n=>n,fun|1=>0|n=>n⟩
theorem Tryd.lays145 : Go.Proofs.Lays.n145 Tryd.prog Tryd.lays145_ren:={
  mixed:=by kernel_rfl
  f145:=Tryd.func35.trans (congrArg some (by kernel_rfl))
  f217:=Tryd.func67.trans (congrArg some (by kernel_rfl))
  f219:=Tryd.func56.trans (congrArg some (by kernel_rfl))
  f220:=Tryd.func43.trans (congrArg some (by kernel_rfl))
  f224:=Tryd.func69.trans (congrArg some (by kernel_rfl))
  f225:=Tryd.func68.trans (congrArg some (by kernel_rfl))
  f266:=Tryd.func80.trans (congrArg some (by kernel_rfl))
  f267:=Tryd.func70.trans (congrArg some (by kernel_rfl))
  f314:=Tryd.func81.trans (congrArg some (by kernel_rfl))
  t3:=Tryd.underlying3
  a3:=Tryd.isAgg3
  z3:=Tryd.sizeOf3
  v3:=Tryd.zeroValue3
  t4:=Tryd.underlying4
  a4:=Tryd.isAgg4
  z4:=Tryd.sizeOf4
  v4:=Tryd.zeroValue4
  t5:=Tryd.underlying5
  a5:=Tryd.isAgg5
  z5:=Tryd.sizeOf5
  v5:=Tryd.zeroValue5
  t9:=Tryd.underlying9
  a9:=Tryd.isAgg9
  z9:=Tryd.sizeOf9
  v9:=Tryd.zeroValue9
  t46:=Tryd.underlying45
  a46:=Tryd.isAgg45
  z46:=Tryd.sizeOf45
  v46:=Tryd.zeroValue45
  t51:=Tryd.underlying119
  a51:=Tryd.isAgg119
  z51:=Tryd.sizeOf119
  v51:=Tryd.zeroValue119
  t59:=Tryd.underlying70
  a59:=Tryd.isAgg70
  z59:=Tryd.sizeOf70
  v59:=Tryd.zeroValue70
  t146:=Tryd.underlying123
  a146:=Tryd.isAgg123
  z146:=Tryd.sizeOf123
  v146:=Tryd.zeroValue123
  g1:=by kernel_rfl }
open Go.RowKit Go.Lib in
/-- strings.Cut: "Cut slices s around the first instance of sep, returning the text before and after sep. The found result reports whether sep appears in s. If sep does not appear in s, cut returns s, "", false.": IT RETURNS 'Lib.cut s sep'; the world is as it was but for the count of draws. (LAID: no walk: one application.) -/
theorem Tryd.strings_Cut (s sep : ByteArray) (m : Int) (w : World) (hs : s.size < 4294967281) (hm : w.cell? ⟨0,0,none⟩ = some (.int .i64 m)) :
    Calls Tryd.prog 35 #[.string s,.string sep] w fun e w'=>e = .returned (.tuple #[.string ⟨(Lib.cut s.data.toList sep.data.toList).1.toArray⟩,.string ⟨(Lib.cut s.data.toList sep.data.toList).2.1.toArray⟩,.bool (Lib.cut s.data.toList sep.data.toList).2.2])∧∃ n,w' = w.drewN n:=Any.strings_Cut Tryd.lays145 s sep m w hs hm
def Tryd.lays146_ren : Go.Shelf.Ren:=⟨fun|146=>57|221=>71|268=>82|138=>83|143=>84|195=>60|197=>59|218=>87|219=>56|260=>72|217=>67|225=>68|224=>69|267=>70|266=>80|314=>81|n=>n,fun|9=>9|31=>58|3=>3|4=>4|0=>0|105=>101|21=>21|5=>5|46=>45|119=>126|139=>129|138=>128|146=>123|51=>119|n=>n,fun|1=>0|3=>2|4=>3|n=>n⟩
theorem Tryd.lays146 : Go.Proofs.Lays.n146 Tryd.prog Tryd.lays146_ren:={
  mixed:=by kernel_rfl
  f138:=Tryd.func83.trans (congrArg some (by kernel_rfl))
  f143:=Tryd.func84.trans (congrArg some (by kernel_rfl))
  f146:=Tryd.func57.trans (congrArg some (by kernel_rfl))
  f195:=Tryd.func60.trans (congrArg some (by kernel_rfl))
  f197:=Tryd.func59.trans (congrArg some (by kernel_rfl))
  f217:=Tryd.func67.trans (congrArg some (by kernel_rfl))
  f218:=Tryd.func87.trans (congrArg some (by kernel_rfl))
  f219:=Tryd.func56.trans (congrArg some (by kernel_rfl))
  f221:=Tryd.func71.trans (congrArg some (by kernel_rfl))
  f224:=Tryd.func69.trans (congrArg some (by kernel_rfl))
  f225:=Tryd.func68.trans (congrArg some (by kernel_rfl))
  f260:=Tryd.func72.trans (congrArg some (by kernel_rfl))
  f266:=Tryd.func80.trans (congrArg some (by kernel_rfl))
  f267:=Tryd.func70.trans (congrArg some (by kernel_rfl))
  f268:=Tryd.func82.trans (congrArg some (by kernel_rfl))
  f314:=Tryd.func81.trans (congrArg some (by kernel_rfl))
  t0:=Tryd.underlying0
  a0:=Tryd.isAgg0
  z0:=Tryd.sizeOf0
  v0:=Tryd.zeroValue0
  t3:=Tryd.underlying3
  a3:=Tryd.isAgg3
  z3:=Tryd.sizeOf3
  v3:=Tryd.zeroValue3
  t4:=Tryd.underlying4
  a4:=Tryd.isAgg4
  z4:=Tryd.sizeOf4
  v4:=Tryd.zeroValue4
  t5:=Tryd.underlying5
  a5:=Tryd.isAgg5
  z5:=Tryd.sizeOf5
  v5:=Tryd.zeroValue5
  t9:=Tryd.underlying9
  a9:=Tryd.isAgg9
  z9:=Tryd.sizeOf9
  v9:=Tryd.zeroValue9
  t21:=Tryd.underlying21
  a21:=Tryd.isAgg21
  z21:=Tryd.sizeOf21
  v21:=Tryd.zeroValue21
  t31:=Tryd.underlying58
  a31:=Tryd.isAgg58
  z31:=Tryd.sizeOf58
  v31:=Tryd.zeroValue58
  t46:=Tryd.underlying45
  a46:=Tryd.isAgg45
  z46:=Tryd.sizeOf45
  v46:=Tryd.zeroValue45
  t51:=Tryd.underlying119
  a51:=Tryd.isAgg119
  z51:=Tryd.sizeOf119
  v51:=Tryd.zeroValue119
  t105:=Tryd.underlying101
  a105:=Tryd.isAgg101
  z105:=Tryd.sizeOf101
  v105:=Tryd.zeroValue101
  t119:=Tryd.underlying126
  a119:=Tryd.isAgg126
  z119:=Tryd.sizeOf126
  t138:=Tryd.underlying128
  a138:=Tryd.isAgg128
  z138:=Tryd.sizeOf128
  v138:=Tryd.zeroValue128
  t139:=Tryd.underlying129
  a139:=Tryd.isAgg129
  z139:=Tryd.sizeOf129
  v139:=Tryd.zeroValue129
  t146:=Tryd.underlying123
  a146:=Tryd.isAgg123
  z146:=Tryd.sizeOf123
  v146:=Tryd.zeroValue123
  g1:=by kernel_rfl
  g3:=by kernel_rfl
  g4:=by kernel_rfl }
open Go.RowKit Go.Lib in
/-- strings.Split. (LAID: no walk: one application.) -/
theorem Tryd.strings_Split (s sep : ByteArray) (m : Int) (w : World) (hs : s.size < 4294967281) (hm : w.cell? ⟨0,0,none⟩ = some (.int .i64 m)) (h1 : 1≤sep.size) :
    Calls Tryd.prog 57 #[.string s,.string sep] w fun e w' =>
      e = .returned (.slice (some ⟨w.heap.size,0,none⟩) (Lib.countB s sep + 1) (Lib.countB s sep + 1))∧w' = w.alloc (.cells ((Lib.splitB sep 0 (Lib.countB s sep) s).map Value.string).toArray 9):=Any.strings_Split Tryd.lays146 (by kernel_rfl) s sep m w hs hm h1
def Tryd.lays197_ren : Go.Shelf.Ren:=⟨fun|197=>59|260=>72|n=>n,fun|9=>9|21=>21|3=>3|4=>4|5=>5|105=>101|119=>126|0=>0|46=>45|139=>129|138=>128|n=>n,fun|3=>2|4=>3|n=>n⟩
theorem Tryd.lays197 : Go.Proofs.Lays.n197 Tryd.prog Tryd.lays197_ren:={
  mixed:=by kernel_rfl
  f197:=Tryd.func59.trans (congrArg some (by kernel_rfl))
  f260:=Tryd.func72.trans (congrArg some (by kernel_rfl))
  t0:=Tryd.underlying0
  a0:=Tryd.isAgg0
  z0:=Tryd.sizeOf0
  v0:=Tryd.zeroValue0
  t3:=Tryd.underlying3
  a3:=Tryd.isAgg3
  z3:=Tryd.sizeOf3
  v3:=Tryd.zeroValue3
  t4:=Tryd.underlying4
  a4:=Tryd.isAgg4
  z4:=Tryd.sizeOf4
  v4:=Tryd.zeroValue4
  t5:=Tryd.underlying5
  a5:=Tryd.isAgg5
  z5:=Tryd.sizeOf5
  v5:=Tryd.zeroValue5
  t9:=Tryd.underlying9
  a9:=Tryd.isAgg9
  z9:=Tryd.sizeOf9
  v9:=Tryd.zeroValue9
  t21:=Tryd.underlying21
  a21:=Tryd.isAgg21
  z21:=Tryd.sizeOf21
  v21:=Tryd.zeroValue21
  t46:=Tryd.underlying45
  a46:=Tryd.isAgg45
  z46:=Tryd.sizeOf45
  v46:=Tryd.zeroValue45
  t105:=Tryd.underlying101
  a105:=Tryd.isAgg101
  z105:=Tryd.sizeOf101
  v105:=Tryd.zeroValue101
  t119:=Tryd.underlying126
  a119:=Tryd.isAgg126
  z119:=Tryd.sizeOf126
  t138:=Tryd.underlying128
  a138:=Tryd.isAgg128
  z138:=Tryd.sizeOf128
  v138:=Tryd.zeroValue128
  t139:=Tryd.underlying129
  a139:=Tryd.isAgg129
  z139:=Tryd.sizeOf129
  v139:=Tryd.zeroValue129
  g3:=by kernel_rfl
  g4:=by kernel_rfl }
def Tryd.lays260_ren : Go.Shelf.Ren:=⟨fun|260=>72|n=>n,fun|9=>9|21=>21|3=>3|4=>4|5=>5|119=>126|0=>0|46=>45|139=>129|138=>128|n=>n,fun|3=>2|4=>3|n=>n⟩
theorem Tryd.lays260 : Go.Proofs.Lays.n260 Tryd.prog Tryd.lays260_ren:={
  mixed:=by kernel_rfl
  f260:=Tryd.func72.trans (congrArg some (by kernel_rfl))
  t0:=Tryd.underlying0
  a0:=Tryd.isAgg0
  z0:=Tryd.sizeOf0
  v0:=Tryd.zeroValue0
  t3:=Tryd.underlying3
  a3:=Tryd.isAgg3
  z3:=Tryd.sizeOf3
  v3:=Tryd.zeroValue3
  t4:=Tryd.underlying4
  a4:=Tryd.isAgg4
  z4:=Tryd.sizeOf4
  v4:=Tryd.zeroValue4
  t5:=Tryd.underlying5
  a5:=Tryd.isAgg5
  z5:=Tryd.sizeOf5
  v5:=Tryd.zeroValue5
  t9:=Tryd.underlying9
  a9:=Tryd.isAgg9
  z9:=Tryd.sizeOf9
  v9:=Tryd.zeroValue9
  t21:=Tryd.underlying21
  a21:=Tryd.isAgg21
  z21:=Tryd.sizeOf21
  v21:=Tryd.zeroValue21
  t46:=Tryd.underlying45
  a46:=Tryd.isAgg45
  z46:=Tryd.sizeOf45
  v46:=Tryd.zeroValue45
  t119:=Tryd.underlying126
  a119:=Tryd.isAgg126
  z119:=Tryd.sizeOf126
  t138:=Tryd.underlying128
  a138:=Tryd.isAgg128
  z138:=Tryd.sizeOf128
  v138:=Tryd.zeroValue128
  t139:=Tryd.underlying129
  a139:=Tryd.isAgg129
  z139:=Tryd.sizeOf129
  v139:=Tryd.zeroValue129
  g3:=by kernel_rfl
  g4:=by kernel_rfl }
open Go.RowKit Go.Lib in
/-- **unicode/utf8.DecodeRuneInString AT EVERY STRING.** (LAID: no walk: one application.) -/
theorem Tryd.utf8_DecodeRuneInString (s : ByteArray) (w : World) (hT : Lib.Utf8Tabs 2 3 w) :
    Calls Tryd.prog 59 #[.string s] w fun e w'=>e = .returned (.tuple #[.int .i32 (Lib.decodeGo s).1,.int .i64 (Lib.decodeGo s).2])∧Below w.heap.size w w':=Any.utf8_DecodeRuneInString Tryd.lays197 s w hT
end Go.Proofs
