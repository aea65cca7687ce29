/- Contracts of the library functions that the program calls. -/
import Derived.Shelf.SlSortCmp.WholeK
import Derived.Shelf.SlSortCmp.NoneTotal
import Derived.Ground.SlsfProg
import Derived.Ground.GgzProg
import Derived.Shelf.SlLaysZ
import Derived.Shelf.Strings.Builder1
import Derived.Shelf.Strings.Builder2
import Derived.Shelf.Strings.OnBuilder
import Derived.Shelf.Small.Utf8
import Derived.Shelf.Small.Bits
import Derived.Shelf.Small.Strs
import Derived.Shelf.Small.Wraps
import Derived.Shelf.Strings.BuilderF
import Derived.Shelf.Strings.BuilderK
import Derived.Shelf.Utf8.RuneCount
import Derived.Shelf.Strings.Builder2Cap
import Derived.Shelf.Strconv.Itoa0
import Derived.Shelf.Strconv.Itoa1
import Derived.Shelf.LaysM
import Derived.Shelf.Strconv.Itoa2
import Derived.Shelf.Strconv.Itoa3
import Derived.Shelf.Strings.Search1
import Derived.Shelf.Strings.Search2
import Derived.Shelf.Strings.Search3
import Derived.Shelf.Strings.Cut
import Derived.Shelf.Strings.Count
import Derived.Shelf.Strings.Shaped
import Derived.Shelf.Sort.Plain
import Derived.Shelf.Strings.LastIndex
import Derived.Shelf.Strings.Prefix
import Derived.Shelf.Strings.Split
import Derived.Shelf.Strings.SplitShaped
import Derived.Shelf.Unicode.Decode
import Derived.Shelf.Strings.Runes
import Derived.Shelf.Strings.RuneCount
import Derived.Shelf.Strings.IndexAny
import Derived.Shelf.Strings.AsciiSet
import Derived.Shelf.Strings.IndexAnyAll
import Derived.Shelf.Strings.Explode
import Derived.Shelf.Bits.Mul64
import Derived.Shelf.Strings.Repeat
import Derived.Shelf.Unicode.DecodeSlow
import Derived.Shelf.Unicode.DecodeAny
import Derived.Shelf.Strings.BuilderCap
import Derived.Shelf.Slices.Turned
import Derived.Shelf.Slices.Equal
import Derived.Ground.Names2Prog
import Derived.Shelf.Slices.ReverseS
import Derived.Shelf.Slices.Clone
import Derived.Shelf.Slices.CompactI
import Derived.Shelf.Slices.SearchI
import Derived.Shelf.Slices.Cells
import Derived.Shelf.Slices.In.SortNone
import Derived.Shelf.Slices.Empties2
import Derived.Ground.SlsfProg
import Derived.Shelf.SlSortCmp.Insertion
import Derived.Shelf.SlSortCmp.SiftDown1
import Derived.Shelf.SlSortCmp.HeapSort1
import Derived.Shelf.SlSortCmp.Insertion1
import Derived.Shelf.SlSortCmp.Median1
import Derived.Shelf.SlSortCmp.Pivot1
import Derived.Shelf.SlSortCmp.ReverseRange1
import Derived.Shelf.SlSortCmp.PartialInsertion1
import Derived.Shelf.SlSortCmp.PartitionEqual1
import Derived.Shelf.SlSortCmp.Partition1
import Derived.Shelf.SlSortCmp.Pdq1
import Derived.Shelf.SlSortCmp.Whole1
import Derived.Shelf.SlSortCmp.NoneTotal
import Derived.Ground.PaProg
import Derived.Shelf.Path.Small
import Derived.Test.YtfnpcdbnoggloaaGreatDoorProg
namespace Go.Proofs
open Go.Shelf
def Tryz.lays119_ren:Go.Shelf.Ren:=⟨fun|119=>366|n=>n, fun|21=>21|4=>4|n=>n, fun|n=>n⟩
theorem Tryz.lays119:Go.Proofs.Lays.n119 Tryz.prog Tryz.lays119_ren:={
  mixed:=by kernel_rfl
  f119:=Tryz.func366.trans (congrArg some (by kernel_rfl))
  t4:=Tryz.underlying4
  a4:=Tryz.isAgg4
  z4:=Tryz.sizeOf4
  v4:=Tryz.zeroValue4
  t21:=Tryz.underlying21
  a21:=Tryz.isAgg21
  z21:=Tryz.sizeOf21
  v21:=Tryz.zeroValue21 }
theorem Tryz.utf8_ValidRune (r : Int) (w : World) :
    Calls Tryz.prog 366 #[.int .i32 r] w fun e w'=>e=.returned (.bool (Lib.validRune r))∧w'=w:=Any.utf8_ValidRune Tryz.lays119 r w
def Tryz.lays106_ren:Go.Shelf.Ren:=⟨fun|106=>249|213=>296|265=>335|n=>n, fun|9=>9|3=>3|n=>n, fun|n=>n⟩
theorem Tryz.lays106:Go.Proofs.Lays.n106 Tryz.prog Tryz.lays106_ren:={
  mixed:=by kernel_rfl
  f106:=Tryz.func249.trans (congrArg some (by kernel_rfl))
  f213:=Tryz.func296.trans (congrArg some (by kernel_rfl))
  f265:=Tryz.func335.trans (congrArg some (by kernel_rfl))
  t3:=Tryz.underlying3
  a3:=Tryz.isAgg3
  z3:=Tryz.sizeOf3
  v3:=Tryz.zeroValue3
  t9:=Tryz.underlying9
  a9:=Tryz.isAgg9
  z9:=Tryz.sizeOf9
  v9:=Tryz.zeroValue9 }
open Go.RowKit in
theorem Tryz.strings_Compare (a b : ByteArray) (w : World) :
    Calls Tryz.prog 249 #[.string a, .string b] w fun e w'=>e=.returned (.int .i64 (Lib.compareBytes a.data.toList b.data.toList))∧w'=w:=Any.strings_Compare Tryz.lays106 a b w
def Tryz.lays137_ren:Go.Shelf.Ren:=⟨fun|137=>365|217=>305|266=>347|n=>n, fun|9=>9|5=>5|3=>3|n=>n, fun|n=>n⟩
theorem Tryz.lays137:Go.Proofs.Lays.n137 Tryz.prog Tryz.lays137_ren:={
  mixed:=by kernel_rfl
  f137:=Tryz.func365.trans (congrArg some (by kernel_rfl))
  f217:=Tryz.func305.trans (congrArg some (by kernel_rfl))
  f266:=Tryz.func347.trans (congrArg some (by kernel_rfl))
  t3:=Tryz.underlying3
  a3:=Tryz.isAgg3
  z3:=Tryz.sizeOf3
  v3:=Tryz.zeroValue3
  t5:=Tryz.underlying5
  a5:=Tryz.isAgg5
  z5:=Tryz.sizeOf5
  v5:=Tryz.zeroValue5
  t9:=Tryz.underlying9
  a9:=Tryz.isAgg9
  z9:=Tryz.sizeOf9
  v9:=Tryz.zeroValue9 }
open Go.RowKit in
theorem Tryz.strings_IndexByte (s : ByteArray) (c : Int) (w : World) :
    Calls Tryz.prog 365 #[.string s, .int .u8 c] w fun e w'=>e=.returned (.int .i64 (Lib.indexByte s.data.toList c.toNat.toUInt8))∧w'=w:=Any.strings_IndexByte Tryz.lays137 s c w
def Tryz.lays171_ren:Go.Shelf.Ren:=⟨fun|171=>226|243=>276|246=>318|283=>357|284=>358|285=>359|286=>360|129=>123|317=>374|318=>375|319=>376|320=>377|337=>389|338=>390|n=>n, fun|3=>3|9=>9|2=>2|4=>4|171=>412|0=>0|53=>190|37=>162|5=>5|173=>414|212=>423|51=>188|20=>20|213=>424|46=>49|232=>434|233=>435|n=>n, fun|17=>3|18=>4|19=>5|n=>n⟩
theorem Tryz.lays171:Go.Proofs.Lays.n171 Tryz.prog Tryz.lays171_ren:={
  mixed:=by kernel_rfl
  f129:=Tryz.func123.trans (congrArg some (by kernel_rfl))
  f171:=Tryz.func226.trans (congrArg some (by kernel_rfl))
  f243:=Tryz.func276.trans (congrArg some (by kernel_rfl))
  f246:=Tryz.func318.trans (congrArg some (by kernel_rfl))
  f283:=Tryz.func357.trans (congrArg some (by kernel_rfl))
  f284:=Tryz.func358.trans (congrArg some (by kernel_rfl))
  f285:=Tryz.func359.trans (congrArg some (by kernel_rfl))
  f286:=Tryz.func360.trans (congrArg some (by kernel_rfl))
  f317:=Tryz.func374.trans (congrArg some (by kernel_rfl))
  f318:=Tryz.func375.trans (congrArg some (by kernel_rfl))
  f319:=Tryz.func376.trans (congrArg some (by kernel_rfl))
  f320:=Tryz.func377.trans (congrArg some (by kernel_rfl))
  f337:=Tryz.func389.trans (congrArg some (by kernel_rfl))
  f338:=Tryz.func390.trans (congrArg some (by kernel_rfl))
  t0:=Tryz.underlying0
  a0:=Tryz.isAgg0
  z0:=Tryz.sizeOf0
  v0:=Tryz.zeroValue0
  t2:=Tryz.underlying2
  a2:=Tryz.isAgg2
  z2:=Tryz.sizeOf2
  v2:=Tryz.zeroValue2
  t3:=Tryz.underlying3
  a3:=Tryz.isAgg3
  z3:=Tryz.sizeOf3
  v3:=Tryz.zeroValue3
  t4:=Tryz.underlying4
  a4:=Tryz.isAgg4
  z4:=Tryz.sizeOf4
  v4:=Tryz.zeroValue4
  t5:=Tryz.underlying5
  a5:=Tryz.isAgg5
  z5:=Tryz.sizeOf5
  v5:=Tryz.zeroValue5
  t9:=Tryz.underlying9
  a9:=Tryz.isAgg9
  z9:=Tryz.sizeOf9
  v9:=Tryz.zeroValue9
  t20:=Tryz.underlying20
  a20:=Tryz.isAgg20
  z20:=Tryz.sizeOf20
  v20:=Tryz.zeroValue20
  t37:=Tryz.underlying162
  a37:=Tryz.isAgg162
  z37:=Tryz.sizeOf162
  v37:=Tryz.zeroValue162
  t46:=Tryz.underlying49
  a46:=Tryz.isAgg49
  z46:=Tryz.sizeOf49
  v46:=Tryz.zeroValue49
  t51:=Tryz.underlying188
  a51:=Tryz.isAgg188
  z51:=Tryz.sizeOf188
  v51:=Tryz.zeroValue188
  t53:=Tryz.underlying190
  a53:=Tryz.isAgg190
  z53:=Tryz.sizeOf190
  v53:=Tryz.zeroValue190
  t171:=Tryz.underlying412
  a171:=Tryz.isAgg412
  z171:=Tryz.sizeOf412
  v171:=Tryz.zeroValue412
  t173:=Tryz.underlying414
  a173:=Tryz.isAgg414
  z173:=Tryz.sizeOf414
  v173:=Tryz.zeroValue414
  t212:=Tryz.underlying423
  a212:=Tryz.isAgg423
  z212:=Tryz.sizeOf423
  v212:=Tryz.zeroValue423
  t213:=Tryz.underlying424
  a213:=Tryz.isAgg424
  z213:=Tryz.sizeOf424
  t232:=Tryz.underlying434
  a232:=Tryz.isAgg434
  z232:=Tryz.sizeOf434
  v232:=Tryz.zeroValue434
  t233:=Tryz.underlying435
  a233:=Tryz.isAgg435
  z233:=Tryz.sizeOf435
  v233:=Tryz.zeroValue435
  g17:=by kernel_rfl
  g18:=by kernel_rfl
  g19:=by kernel_rfl }
open Go.RowKit Go.Sort Go.Lib in
theorem Tryz.strconv_Itoa_small (i : Nat) (hi : i < 100) (w : World) :
    Calls Tryz.prog 226 #[.int .i64 i] w fun e w'=>e=.returned (.string ⟨(Lib.decDigits i).toArray⟩)∧w'=w:=Any.strconv_Itoa_small Tryz.lays171 i hi w
def Tryz.lays144_ren:Go.Shelf.Ren:=⟨fun|144=>259|143=>198|219=>262|217=>305|225=>306|224=>307|267=>308|266=>347|314=>348|n=>n, fun|9=>9|4=>4|3=>3|5=>5|46=>49|146=>210|51=>188|n=>n, fun|1=>0|n=>n⟩
theorem Tryz.lays144:Go.Proofs.Lays.n144 Tryz.prog Tryz.lays144_ren:={
  mixed:=by kernel_rfl
  f143:=Tryz.func198.trans (congrArg some (by kernel_rfl))
  f144:=Tryz.func259.trans (congrArg some (by kernel_rfl))
  f217:=Tryz.func305.trans (congrArg some (by kernel_rfl))
  f219:=Tryz.func262.trans (congrArg some (by kernel_rfl))
  f224:=Tryz.func307.trans (congrArg some (by kernel_rfl))
  f225:=Tryz.func306.trans (congrArg some (by kernel_rfl))
  f266:=Tryz.func347.trans (congrArg some (by kernel_rfl))
  f267:=Tryz.func308.trans (congrArg some (by kernel_rfl))
  f314:=Tryz.func348.trans (congrArg some (by kernel_rfl))
  t3:=Tryz.underlying3
  a3:=Tryz.isAgg3
  z3:=Tryz.sizeOf3
  v3:=Tryz.zeroValue3
  t4:=Tryz.underlying4
  a4:=Tryz.isAgg4
  z4:=Tryz.sizeOf4
  v4:=Tryz.zeroValue4
  t5:=Tryz.underlying5
  a5:=Tryz.isAgg5
  z5:=Tryz.sizeOf5
  v5:=Tryz.zeroValue5
  t9:=Tryz.underlying9
  a9:=Tryz.isAgg9
  z9:=Tryz.sizeOf9
  v9:=Tryz.zeroValue9
  t46:=Tryz.underlying49
  a46:=Tryz.isAgg49
  z46:=Tryz.sizeOf49
  v46:=Tryz.zeroValue49
  t51:=Tryz.underlying188
  a51:=Tryz.isAgg188
  z51:=Tryz.sizeOf188
  v51:=Tryz.zeroValue188
  t146:=Tryz.underlying210
  a146:=Tryz.isAgg210
  z146:=Tryz.sizeOf210
  v146:=Tryz.zeroValue210
  g1:=by kernel_rfl }
open Go.RowKit Go.Lib in
theorem Tryz.strings_Contains_one (s : ByteArray) (c : UInt8) (w : World) :
    Calls Tryz.prog 259 #[.string s, .string ⟨#[c]⟩] w fun e w'=>e=.returned (.bool (decide (0≤Lib.indexByte s.data.toList c)))∧w'=w:=Any.strings_Contains_one Tryz.lays144 s c w
def Tryz.lays145_ren:Go.Shelf.Ren:=⟨fun|145=>295|220=>334|219=>262|217=>305|225=>306|224=>307|267=>308|266=>347|314=>348|n=>n, fun|9=>9|4=>4|59=>373|3=>3|5=>5|46=>49|146=>210|51=>188|n=>n, fun|1=>0|n=>n⟩
theorem Tryz.lays145:Go.Proofs.Lays.n145 Tryz.prog Tryz.lays145_ren:={
  mixed:=by kernel_rfl
  f145:=Tryz.func295.trans (congrArg some (by kernel_rfl))
  f217:=Tryz.func305.trans (congrArg some (by kernel_rfl))
  f219:=Tryz.func262.trans (congrArg some (by kernel_rfl))
  f220:=Tryz.func334.trans (congrArg some (by kernel_rfl))
  f224:=Tryz.func307.trans (congrArg some (by kernel_rfl))
  f225:=Tryz.func306.trans (congrArg some (by kernel_rfl))
  f266:=Tryz.func347.trans (congrArg some (by kernel_rfl))
  f267:=Tryz.func308.trans (congrArg some (by kernel_rfl))
  f314:=Tryz.func348.trans (congrArg some (by kernel_rfl))
  t3:=Tryz.underlying3
  a3:=Tryz.isAgg3
  z3:=Tryz.sizeOf3
  v3:=Tryz.zeroValue3
  t4:=Tryz.underlying4
  a4:=Tryz.isAgg4
  z4:=Tryz.sizeOf4
  v4:=Tryz.zeroValue4
  t5:=Tryz.underlying5
  a5:=Tryz.isAgg5
  z5:=Tryz.sizeOf5
  v5:=Tryz.zeroValue5
  t9:=Tryz.underlying9
  a9:=Tryz.isAgg9
  z9:=Tryz.sizeOf9
  v9:=Tryz.zeroValue9
  t46:=Tryz.underlying49
  a46:=Tryz.isAgg49
  z46:=Tryz.sizeOf49
  v46:=Tryz.zeroValue49
  t51:=Tryz.underlying188
  a51:=Tryz.isAgg188
  z51:=Tryz.sizeOf188
  v51:=Tryz.zeroValue188
  t59:=Tryz.underlying373
  a59:=Tryz.isAgg373
  z59:=Tryz.sizeOf373
  v59:=Tryz.zeroValue373
  t146:=Tryz.underlying210
  a146:=Tryz.isAgg210
  z146:=Tryz.sizeOf210
  v146:=Tryz.zeroValue210
  g1:=by kernel_rfl }
open Go.RowKit Go.Lib in
theorem Tryz.strings_Cut (s sep : ByteArray) (m : Int) (w : World) (hs : s.size < 4294967281) (hm : w.cell? ⟨0, 0, none⟩ = some (.int .i64 m)) :
    Calls Tryz.prog 295 #[.string s, .string sep] w fun e w'=>e=.returned (.tuple #[.string ⟨(Lib.cut s.data.toList sep.data.toList).1.toArray⟩, .string ⟨(Lib.cut s.data.toList sep.data.toList).2.1.toArray⟩, .bool (Lib.cut s.data.toList sep.data.toList).2.2])∧∃ n, w'=w.drewN n:=Any.strings_Cut Tryz.lays145 s sep m w hs hm
def Tryz.lays189_ren:Go.Shelf.Ren:=⟨fun|189=>49|125=>81|257=>80|128=>122|129=>123|294=>113|295=>114|296=>115|297=>116|298=>117|299=>118|216=>119|300=>120|301=>121|328=>185|329=>186|330=>187|331=>188|332=>189|215=>190|343=>258|n=>n, fun|28=>24|3=>3|46=>49|0=>0|51=>188|53=>190|4=>4|183=>181|182=>180|131=>185|5=>5|9=>9|218=>275|222=>279|228=>339|229=>340|n=>n, fun|n=>n⟩
theorem Tryz.lays189:Go.Proofs.Lays.n189 Tryz.prog Tryz.lays189_ren:={
  mixed:=by kernel_rfl
  f125:=Tryz.func81.trans (congrArg some (by kernel_rfl))
  f128:=Tryz.func122.trans (congrArg some (by kernel_rfl))
  f129:=Tryz.func123.trans (congrArg some (by kernel_rfl))
  f189:=Tryz.func49.trans (congrArg some (by kernel_rfl))
  f215:=Tryz.func190.trans (congrArg some (by kernel_rfl))
  f216:=Tryz.func119.trans (congrArg some (by kernel_rfl))
  f257:=Tryz.func80.trans (congrArg some (by kernel_rfl))
  f294:=Tryz.func113.trans (congrArg some (by kernel_rfl))
  f295:=Tryz.func114.trans (congrArg some (by kernel_rfl))
  f296:=Tryz.func115.trans (congrArg some (by kernel_rfl))
  f297:=Tryz.func116.trans (congrArg some (by kernel_rfl))
  f298:=Tryz.func117.trans (congrArg some (by kernel_rfl))
  f299:=Tryz.func118.trans (congrArg some (by kernel_rfl))
  f300:=Tryz.func120.trans (congrArg some (by kernel_rfl))
  f301:=Tryz.func121.trans (congrArg some (by kernel_rfl))
  f328:=Tryz.func185.trans (congrArg some (by kernel_rfl))
  f329:=Tryz.func186.trans (congrArg some (by kernel_rfl))
  f330:=Tryz.func187.trans (congrArg some (by kernel_rfl))
  f331:=Tryz.func188.trans (congrArg some (by kernel_rfl))
  f332:=Tryz.func189.trans (congrArg some (by kernel_rfl))
  f343:=Tryz.func258.trans (congrArg some (by kernel_rfl))
  t0:=Tryz.underlying0
  a0:=Tryz.isAgg0
  z0:=Tryz.sizeOf0
  v0:=Tryz.zeroValue0
  t3:=Tryz.underlying3
  a3:=Tryz.isAgg3
  z3:=Tryz.sizeOf3
  v3:=Tryz.zeroValue3
  t4:=Tryz.underlying4
  a4:=Tryz.isAgg4
  z4:=Tryz.sizeOf4
  v4:=Tryz.zeroValue4
  t5:=Tryz.underlying5
  a5:=Tryz.isAgg5
  z5:=Tryz.sizeOf5
  v5:=Tryz.zeroValue5
  t9:=Tryz.underlying9
  a9:=Tryz.isAgg9
  z9:=Tryz.sizeOf9
  v9:=Tryz.zeroValue9
  t28:=Tryz.underlying24
  a28:=Tryz.isAgg24
  z28:=Tryz.sizeOf24
  v28:=Tryz.zeroValue24
  t46:=Tryz.underlying49
  a46:=Tryz.isAgg49
  z46:=Tryz.sizeOf49
  v46:=Tryz.zeroValue49
  t51:=Tryz.underlying188
  a51:=Tryz.isAgg188
  z51:=Tryz.sizeOf188
  v51:=Tryz.zeroValue188
  t53:=Tryz.underlying190
  a53:=Tryz.isAgg190
  z53:=Tryz.sizeOf190
  v53:=Tryz.zeroValue190
  t131:=Tryz.underlying185
  a131:=Tryz.isAgg185
  z131:=Tryz.sizeOf185
  v131:=Tryz.zeroValue185
  t182:=Tryz.underlying180
  a182:=Tryz.isAgg180
  z182:=Tryz.sizeOf180
  v182:=Tryz.zeroValue180
  t183:=Tryz.underlying181
  a183:=Tryz.isAgg181
  z183:=Tryz.sizeOf181
  v183:=Tryz.zeroValue181
  t218:=Tryz.underlying275
  a218:=Tryz.isAgg275
  z218:=Tryz.sizeOf275
  v218:=Tryz.zeroValue275
  t222:=Tryz.underlying279
  a222:=Tryz.isAgg279
  z222:=Tryz.sizeOf279
  v222:=Tryz.zeroValue279
  t228:=Tryz.underlying339
  a228:=Tryz.isAgg339
  z228:=Tryz.sizeOf339
  v228:=Tryz.zeroValue339
  t229:=Tryz.underlying340
  a229:=Tryz.isAgg340
  z229:=Tryz.sizeOf340
  v229:=Tryz.zeroValue340 }
open Go.Sort Go.RowKit in
theorem Tryz.slices_Sort_int (blk off cap : Nat) (zs : List Int) (w : World) (hH : Holds (Value.int .i64) w blk off zs.toArray) (hblk : blk < w.heap.size) (hsz : zs.length < 4611686018427387904) :
    Calls Tryz.prog 49 #[.slice (some ⟨blk, off, none⟩) zs.length cap] w fun e w' =>
      e=.returned (.tuple #[])∧∃ n os, w'=grow (putRow (Value.int .i64) (Sort.ahead w n) blk off (zs.mergeSort fun x y=>decide (x≤y)).toArray) os:=Any.slices_Sort_int Tryz.lays189 blk off cap zs w hH hblk hsz
def Tryz.lays190_ren:Go.Shelf.Ren:=⟨fun|190=>92|125=>81|258=>138|128=>122|129=>123|302=>199|303=>200|304=>201|305=>202|306=>203|307=>204|308=>205|309=>206|310=>207|333=>263|329=>186|330=>187|334=>264|335=>265|336=>266|344=>309|n=>n, fun|31=>59|9=>9|3=>3|46=>49|0=>0|51=>188|53=>190|4=>4|183=>181|182=>180|131=>185|5=>5|218=>275|222=>279|228=>339|229=>340|n=>n, fun|n=>n⟩
theorem Tryz.lays190:Go.Proofs.Lays.n190 Tryz.prog Tryz.lays190_ren:={
  mixed:=by kernel_rfl
  f125:=Tryz.func81.trans (congrArg some (by kernel_rfl))
  f128:=Tryz.func122.trans (congrArg some (by kernel_rfl))
  f129:=Tryz.func123.trans (congrArg some (by kernel_rfl))
  f190:=Tryz.func92.trans (congrArg some (by kernel_rfl))
  f258:=Tryz.func138.trans (congrArg some (by kernel_rfl))
  f302:=Tryz.func199.trans (congrArg some (by kernel_rfl))
  f303:=Tryz.func200.trans (congrArg some (by kernel_rfl))
  f304:=Tryz.func201.trans (congrArg some (by kernel_rfl))
  f305:=Tryz.func202.trans (congrArg some (by kernel_rfl))
  f306:=Tryz.func203.trans (congrArg some (by kernel_rfl))
  f307:=Tryz.func204.trans (congrArg some (by kernel_rfl))
  f308:=Tryz.func205.trans (congrArg some (by kernel_rfl))
  f309:=Tryz.func206.trans (congrArg some (by kernel_rfl))
  f310:=Tryz.func207.trans (congrArg some (by kernel_rfl))
  f329:=Tryz.func186.trans (congrArg some (by kernel_rfl))
  f330:=Tryz.func187.trans (congrArg some (by kernel_rfl))
  f333:=Tryz.func263.trans (congrArg some (by kernel_rfl))
  f334:=Tryz.func264.trans (congrArg some (by kernel_rfl))
  f335:=Tryz.func265.trans (congrArg some (by kernel_rfl))
  f336:=Tryz.func266.trans (congrArg some (by kernel_rfl))
  f344:=Tryz.func309.trans (congrArg some (by kernel_rfl))
  t0:=Tryz.underlying0
  a0:=Tryz.isAgg0
  z0:=Tryz.sizeOf0
  v0:=Tryz.zeroValue0
  t3:=Tryz.underlying3
  a3:=Tryz.isAgg3
  z3:=Tryz.sizeOf3
  v3:=Tryz.zeroValue3
  t4:=Tryz.underlying4
  a4:=Tryz.isAgg4
  z4:=Tryz.sizeOf4
  v4:=Tryz.zeroValue4
  t5:=Tryz.underlying5
  a5:=Tryz.isAgg5
  z5:=Tryz.sizeOf5
  v5:=Tryz.zeroValue5
  t9:=Tryz.underlying9
  a9:=Tryz.isAgg9
  z9:=Tryz.sizeOf9
  v9:=Tryz.zeroValue9
  t31:=Tryz.underlying59
  a31:=Tryz.isAgg59
  z31:=Tryz.sizeOf59
  v31:=Tryz.zeroValue59
  t46:=Tryz.underlying49
  a46:=Tryz.isAgg49
  z46:=Tryz.sizeOf49
  v46:=Tryz.zeroValue49
  t51:=Tryz.underlying188
  a51:=Tryz.isAgg188
  z51:=Tryz.sizeOf188
  v51:=Tryz.zeroValue188
  t53:=Tryz.underlying190
  a53:=Tryz.isAgg190
  z53:=Tryz.sizeOf190
  v53:=Tryz.zeroValue190
  t131:=Tryz.underlying185
  a131:=Tryz.isAgg185
  z131:=Tryz.sizeOf185
  v131:=Tryz.zeroValue185
  t182:=Tryz.underlying180
  a182:=Tryz.isAgg180
  z182:=Tryz.sizeOf180
  v182:=Tryz.zeroValue180
  t183:=Tryz.underlying181
  a183:=Tryz.isAgg181
  z183:=Tryz.sizeOf181
  v183:=Tryz.zeroValue181
  t218:=Tryz.underlying275
  a218:=Tryz.isAgg275
  z218:=Tryz.sizeOf275
  v218:=Tryz.zeroValue275
  t222:=Tryz.underlying279
  a222:=Tryz.isAgg279
  z222:=Tryz.sizeOf279
  v222:=Tryz.zeroValue279
  t228:=Tryz.underlying339
  a228:=Tryz.isAgg339
  z228:=Tryz.sizeOf339
  v228:=Tryz.zeroValue339
  t229:=Tryz.underlying340
  a229:=Tryz.isAgg340
  z229:=Tryz.sizeOf340
  v229:=Tryz.zeroValue340 }
open Go.Sort Go.RowKit in
theorem Tryz.slices_Sort_string (blk off cap : Nat) (ss : List (List UInt8)) (w : World) (hH : Holds encStr w blk off ss.toArray) (hblk : blk < w.heap.size) (hsz : ss.length < 4611686018427387904) :
    Calls Tryz.prog 92 #[.slice (some ⟨blk, off, none⟩) ss.length cap] w fun e w' =>
      e=.returned (.tuple #[])∧∃ n os, w'=grow (putRow encStr (Sort.ahead w n) blk off (ss.mergeSort fun x y=>decide (x≤y)).toArray) os:=Any.slices_Sort_string Tryz.lays190 blk off cap ss w hH hblk hsz
def Tryz.lays149_ren:Go.Shelf.Ren:=⟨fun|149=>24|222=>70|n=>n, fun|9=>9|5=>5|3=>3|4=>4|n=>n, fun|n=>n⟩
theorem Tryz.lays149:Go.Proofs.Lays.n149 Tryz.prog Tryz.lays149_ren:={
  mixed:=by kernel_rfl
  f149:=Tryz.func24.trans (congrArg some (by kernel_rfl))
  f222:=Tryz.func70.trans (congrArg some (by kernel_rfl))
  t3:=Tryz.underlying3
  a3:=Tryz.isAgg3
  z3:=Tryz.sizeOf3
  v3:=Tryz.zeroValue3
  t4:=Tryz.underlying4
  a4:=Tryz.isAgg4
  z4:=Tryz.sizeOf4
  v4:=Tryz.zeroValue4
  t5:=Tryz.underlying5
  a5:=Tryz.isAgg5
  z5:=Tryz.sizeOf5
  v5:=Tryz.zeroValue5
  t9:=Tryz.underlying9
  a9:=Tryz.isAgg9
  z9:=Tryz.sizeOf9
  v9:=Tryz.zeroValue9 }
open Go.RowKit Go.Lib in
theorem Tryz.strings_LastIndexByte (s : ByteArray) (c : Int) (hs : s.size < 4611686018427387904) (w : World) :
    Calls Tryz.prog 24 #[.string s, .int .u8 c] w fun e w'=>e=.returned (.int .i64 (Lib.lastIndexByte s c))∧w'=w:=Any.strings_LastIndexByte Tryz.lays149 s c hs w
def Tryz.lays101_ren:Go.Shelf.Ren:=⟨fun|101=>260|208=>303|206=>153|n=>n, fun|9=>9|4=>4|3=>3|n=>n, fun|n=>n⟩
theorem Tryz.lays101:Go.Proofs.Lays.n101 Tryz.prog Tryz.lays101_ren:={
  mixed:=by kernel_rfl
  f101:=Tryz.func260.trans (congrArg some (by kernel_rfl))
  f206:=Tryz.func153.trans (congrArg some (by kernel_rfl))
  f208:=Tryz.func303.trans (congrArg some (by kernel_rfl))
  t3:=Tryz.underlying3
  a3:=Tryz.isAgg3
  z3:=Tryz.sizeOf3
  v3:=Tryz.zeroValue3
  t4:=Tryz.underlying4
  a4:=Tryz.isAgg4
  z4:=Tryz.sizeOf4
  v4:=Tryz.zeroValue4
  t9:=Tryz.underlying9
  a9:=Tryz.isAgg9
  z9:=Tryz.sizeOf9
  v9:=Tryz.zeroValue9 }
open Go.RowKit Go.Lib in
theorem Tryz.strings_TrimPrefix (s p : ByteArray) (w : World) :
    Calls Tryz.prog 260 #[.string s, .string p] w fun e w'=>e=.returned (.string ⟨(Lib.trimPrefix s.data.toList p.data.toList).toArray⟩)∧w'=w:=Any.strings_TrimPrefix Tryz.lays101 s p w
def Tryz.lays102_ren:Go.Shelf.Ren:=⟨fun|102=>346|209=>372|207=>380|n=>n, fun|9=>9|4=>4|3=>3|n=>n, fun|n=>n⟩
theorem Tryz.lays102:Go.Proofs.Lays.n102 Tryz.prog Tryz.lays102_ren:={
  mixed:=by kernel_rfl
  f102:=Tryz.func346.trans (congrArg some (by kernel_rfl))
  f207:=Tryz.func380.trans (congrArg some (by kernel_rfl))
  f209:=Tryz.func372.trans (congrArg some (by kernel_rfl))
  t3:=Tryz.underlying3
  a3:=Tryz.isAgg3
  z3:=Tryz.sizeOf3
  v3:=Tryz.zeroValue3
  t4:=Tryz.underlying4
  a4:=Tryz.isAgg4
  z4:=Tryz.sizeOf4
  v4:=Tryz.zeroValue4
  t9:=Tryz.underlying9
  a9:=Tryz.isAgg9
  z9:=Tryz.sizeOf9
  v9:=Tryz.zeroValue9 }
open Go.RowKit Go.Lib in
theorem Tryz.strings_TrimSuffix (s p : ByteArray) (w : World) (hs : s.size ≤ 9223372036854775807) :
    Calls Tryz.prog 346 #[.string s, .string p] w fun e w'=>e=.returned (.string ⟨(Lib.trimSuffix s.data.toList p.data.toList).toArray⟩)∧w'=w:=Any.strings_TrimSuffix Tryz.lays102 s p w hs
def Tryz.lays146_ren:Go.Shelf.Ren:=⟨fun|146=>83|221=>135|268=>197|138=>168|143=>198|195=>237|197=>261|218=>238|219=>262|260=>304|217=>305|225=>306|224=>307|267=>308|266=>347|314=>348|n=>n, fun|9=>9|31=>59|3=>3|4=>4|0=>0|105=>343|21=>21|5=>5|46=>49|119=>402|139=>405|138=>404|146=>210|51=>188|n=>n, fun|1=>0|3=>1|4=>2|n=>n⟩
theorem Tryz.lays146:Go.Proofs.Lays.n146 Tryz.prog Tryz.lays146_ren:={
  mixed:=by kernel_rfl
  f138:=Tryz.func168.trans (congrArg some (by kernel_rfl))
  f143:=Tryz.func198.trans (congrArg some (by kernel_rfl))
  f146:=Tryz.func83.trans (congrArg some (by kernel_rfl))
  f195:=Tryz.func237.trans (congrArg some (by kernel_rfl))
  f197:=Tryz.func261.trans (congrArg some (by kernel_rfl))
  f217:=Tryz.func305.trans (congrArg some (by kernel_rfl))
  f218:=Tryz.func238.trans (congrArg some (by kernel_rfl))
  f219:=Tryz.func262.trans (congrArg some (by kernel_rfl))
  f221:=Tryz.func135.trans (congrArg some (by kernel_rfl))
  f224:=Tryz.func307.trans (congrArg some (by kernel_rfl))
  f225:=Tryz.func306.trans (congrArg some (by kernel_rfl))
  f260:=Tryz.func304.trans (congrArg some (by kernel_rfl))
  f266:=Tryz.func347.trans (congrArg some (by kernel_rfl))
  f267:=Tryz.func308.trans (congrArg some (by kernel_rfl))
  f268:=Tryz.func197.trans (congrArg some (by kernel_rfl))
  f314:=Tryz.func348.trans (congrArg some (by kernel_rfl))
  t0:=Tryz.underlying0
  a0:=Tryz.isAgg0
  z0:=Tryz.sizeOf0
  v0:=Tryz.zeroValue0
  t3:=Tryz.underlying3
  a3:=Tryz.isAgg3
  z3:=Tryz.sizeOf3
  v3:=Tryz.zeroValue3
  t4:=Tryz.underlying4
  a4:=Tryz.isAgg4
  z4:=Tryz.sizeOf4
  v4:=Tryz.zeroValue4
  t5:=Tryz.underlying5
  a5:=Tryz.isAgg5
  z5:=Tryz.sizeOf5
  v5:=Tryz.zeroValue5
  t9:=Tryz.underlying9
  a9:=Tryz.isAgg9
  z9:=Tryz.sizeOf9
  v9:=Tryz.zeroValue9
  t21:=Tryz.underlying21
  a21:=Tryz.isAgg21
  z21:=Tryz.sizeOf21
  v21:=Tryz.zeroValue21
  t31:=Tryz.underlying59
  a31:=Tryz.isAgg59
  z31:=Tryz.sizeOf59
  v31:=Tryz.zeroValue59
  t46:=Tryz.underlying49
  a46:=Tryz.isAgg49
  z46:=Tryz.sizeOf49
  v46:=Tryz.zeroValue49
  t51:=Tryz.underlying188
  a51:=Tryz.isAgg188
  z51:=Tryz.sizeOf188
  v51:=Tryz.zeroValue188
  t105:=Tryz.underlying343
  a105:=Tryz.isAgg343
  z105:=Tryz.sizeOf343
  v105:=Tryz.zeroValue343
  t119:=Tryz.underlying402
  a119:=Tryz.isAgg402
  z119:=Tryz.sizeOf402
  t138:=Tryz.underlying404
  a138:=Tryz.isAgg404
  z138:=Tryz.sizeOf404
  v138:=Tryz.zeroValue404
  t139:=Tryz.underlying405
  a139:=Tryz.isAgg405
  z139:=Tryz.sizeOf405
  v139:=Tryz.zeroValue405
  t146:=Tryz.underlying210
  a146:=Tryz.isAgg210
  z146:=Tryz.sizeOf210
  v146:=Tryz.zeroValue210
  g1:=by kernel_rfl
  g3:=by kernel_rfl
  g4:=by kernel_rfl }
open Go.RowKit Go.Lib in
theorem Tryz.strings_Split (s sep : ByteArray) (m : Int) (w : World) (hs : s.size < 4294967281) (hm : w.cell? ⟨0, 0, none⟩ = some (.int .i64 m)) (h1 : 1 ≤ sep.size) :
    Calls Tryz.prog 83 #[.string s, .string sep] w fun e w' =>
      e=.returned (.slice (some ⟨w.heap.size, 0, none⟩) (Lib.countB s sep+1) (Lib.countB s sep+1))∧w'=w.alloc (.cells ((Lib.splitB sep 0 (Lib.countB s sep) s).map Value.string).toArray 9):=Any.strings_Split Tryz.lays146 (by kernel_rfl) s sep m w hs hm h1
def Tryz.lays197_ren:Go.Shelf.Ren:=⟨fun|197=>261|260=>304|n=>n, fun|9=>9|21=>21|3=>3|4=>4|5=>5|105=>343|119=>402|0=>0|46=>49|139=>405|138=>404|n=>n, fun|3=>1|4=>2|n=>n⟩
theorem Tryz.lays197:Go.Proofs.Lays.n197 Tryz.prog Tryz.lays197_ren:={
  mixed:=by kernel_rfl
  f197:=Tryz.func261.trans (congrArg some (by kernel_rfl))
  f260:=Tryz.func304.trans (congrArg some (by kernel_rfl))
  t0:=Tryz.underlying0
  a0:=Tryz.isAgg0
  z0:=Tryz.sizeOf0
  v0:=Tryz.zeroValue0
  t3:=Tryz.underlying3
  a3:=Tryz.isAgg3
  z3:=Tryz.sizeOf3
  v3:=Tryz.zeroValue3
  t4:=Tryz.underlying4
  a4:=Tryz.isAgg4
  z4:=Tryz.sizeOf4
  v4:=Tryz.zeroValue4
  t5:=Tryz.underlying5
  a5:=Tryz.isAgg5
  z5:=Tryz.sizeOf5
  v5:=Tryz.zeroValue5
  t9:=Tryz.underlying9
  a9:=Tryz.isAgg9
  z9:=Tryz.sizeOf9
  v9:=Tryz.zeroValue9
  t21:=Tryz.underlying21
  a21:=Tryz.isAgg21
  z21:=Tryz.sizeOf21
  v21:=Tryz.zeroValue21
  t46:=Tryz.underlying49
  a46:=Tryz.isAgg49
  z46:=Tryz.sizeOf49
  v46:=Tryz.zeroValue49
  t105:=Tryz.underlying343
  a105:=Tryz.isAgg343
  z105:=Tryz.sizeOf343
  v105:=Tryz.zeroValue343
  t119:=Tryz.underlying402
  a119:=Tryz.isAgg402
  z119:=Tryz.sizeOf402
  t138:=Tryz.underlying404
  a138:=Tryz.isAgg404
  z138:=Tryz.sizeOf404
  v138:=Tryz.zeroValue404
  t139:=Tryz.underlying405
  a139:=Tryz.isAgg405
  z139:=Tryz.sizeOf405
  v139:=Tryz.zeroValue405
  g3:=by kernel_rfl
  g4:=by kernel_rfl }
def Tryz.lays151_ren:Go.Shelf.Ren:=⟨fun|151=>344|152=>330|137=>365|119=>366|224=>307|225=>306|217=>305|266=>347|n=>n, fun|9=>9|21=>21|4=>4|3=>3|5=>5|0=>0|46=>49|n=>n, fun|n=>n⟩
theorem Tryz.lays151:Go.Proofs.Lays.n151 Tryz.prog Tryz.lays151_ren:={
  mixed:=by kernel_rfl
  f119:=Tryz.func366.trans (congrArg some (by kernel_rfl))
  f137:=Tryz.func365.trans (congrArg some (by kernel_rfl))
  f151:=Tryz.func344.trans (congrArg some (by kernel_rfl))
  f152:=Tryz.func330.trans (congrArg some (by kernel_rfl))
  f217:=Tryz.func305.trans (congrArg some (by kernel_rfl))
  f224:=Tryz.func307.trans (congrArg some (by kernel_rfl))
  f225:=Tryz.func306.trans (congrArg some (by kernel_rfl))
  f266:=Tryz.func347.trans (congrArg some (by kernel_rfl))
  t0:=Tryz.underlying0
  a0:=Tryz.isAgg0
  z0:=Tryz.sizeOf0
  v0:=Tryz.zeroValue0
  t3:=Tryz.underlying3
  a3:=Tryz.isAgg3
  z3:=Tryz.sizeOf3
  v3:=Tryz.zeroValue3
  t4:=Tryz.underlying4
  a4:=Tryz.isAgg4
  z4:=Tryz.sizeOf4
  v4:=Tryz.zeroValue4
  t5:=Tryz.underlying5
  a5:=Tryz.isAgg5
  z5:=Tryz.sizeOf5
  v5:=Tryz.zeroValue5
  t9:=Tryz.underlying9
  a9:=Tryz.isAgg9
  z9:=Tryz.sizeOf9
  v9:=Tryz.zeroValue9
  t21:=Tryz.underlying21
  a21:=Tryz.isAgg21
  z21:=Tryz.sizeOf21
  v21:=Tryz.zeroValue21
  t46:=Tryz.underlying49
  a46:=Tryz.isAgg49
  z46:=Tryz.sizeOf49
  v46:=Tryz.zeroValue49 }
open Go.RowKit Go.Lib in
theorem Tryz.strings_ContainsRune_ascii (s : ByteArray) (r : Int) (w : World) (h0 : 0 ≤ r) (h1 : r < 128) :
    Calls Tryz.prog 344 #[.string s, .int .i32 r] w fun e w'=>e=.returned (.bool (decide (0≤Lib.indexByte s.data.toList r.toNat.toUInt8)))∧w'=w:=Any.strings_ContainsRune_ascii Tryz.lays151 s r w h0 h1
def Tryz.lays105_ren:Go.Shelf.Ren:=⟨fun|105=>74|212=>102|99=>103|165=>104|166=>105|170=>106|169=>107|263=>151|264=>152|206=>153|240=>154|241=>155|276=>218|277=>219|n=>n, fun|9=>9|3=>3|4=>4|20=>20|0=>0|46=>49|109=>158|5=>5|72=>164|76=>168|51=>188|146=>210|53=>190|148=>212|70=>161|37=>162|75=>167|127=>214|164=>300|80=>171|n=>n, fun|n=>n⟩
theorem Tryz.lays105:Go.Proofs.Lays.n105 Tryz.prog Tryz.lays105_ren:={
  mixed:=by kernel_rfl
  f99:=Tryz.func103.trans (congrArg some (by kernel_rfl))
  f105:=Tryz.func74.trans (congrArg some (by kernel_rfl))
  f165:=Tryz.func104.trans (congrArg some (by kernel_rfl))
  f166:=Tryz.func105.trans (congrArg some (by kernel_rfl))
  f169:=Tryz.func107.trans (congrArg some (by kernel_rfl))
  f170:=Tryz.func106.trans (congrArg some (by kernel_rfl))
  f206:=Tryz.func153.trans (congrArg some (by kernel_rfl))
  f212:=Tryz.func102.trans (congrArg some (by kernel_rfl))
  f240:=Tryz.func154.trans (congrArg some (by kernel_rfl))
  f241:=Tryz.func155.trans (congrArg some (by kernel_rfl))
  f263:=Tryz.func151.trans (congrArg some (by kernel_rfl))
  f264:=Tryz.func152.trans (congrArg some (by kernel_rfl))
  f276:=Tryz.func218.trans (congrArg some (by kernel_rfl))
  f277:=Tryz.func219.trans (congrArg some (by kernel_rfl))
  t0:=Tryz.underlying0
  a0:=Tryz.isAgg0
  z0:=Tryz.sizeOf0
  v0:=Tryz.zeroValue0
  t3:=Tryz.underlying3
  a3:=Tryz.isAgg3
  z3:=Tryz.sizeOf3
  v3:=Tryz.zeroValue3
  t4:=Tryz.underlying4
  a4:=Tryz.isAgg4
  z4:=Tryz.sizeOf4
  v4:=Tryz.zeroValue4
  t5:=Tryz.underlying5
  a5:=Tryz.isAgg5
  z5:=Tryz.sizeOf5
  v5:=Tryz.zeroValue5
  t9:=Tryz.underlying9
  a9:=Tryz.isAgg9
  z9:=Tryz.sizeOf9
  v9:=Tryz.zeroValue9
  t20:=Tryz.underlying20
  a20:=Tryz.isAgg20
  z20:=Tryz.sizeOf20
  v20:=Tryz.zeroValue20
  t37:=Tryz.underlying162
  a37:=Tryz.isAgg162
  z37:=Tryz.sizeOf162
  v37:=Tryz.zeroValue162
  t46:=Tryz.underlying49
  a46:=Tryz.isAgg49
  z46:=Tryz.sizeOf49
  v46:=Tryz.zeroValue49
  t51:=Tryz.underlying188
  a51:=Tryz.isAgg188
  z51:=Tryz.sizeOf188
  v51:=Tryz.zeroValue188
  t53:=Tryz.underlying190
  a53:=Tryz.isAgg190
  z53:=Tryz.sizeOf190
  v53:=Tryz.zeroValue190
  t70:=Tryz.underlying161
  a70:=Tryz.isAgg161
  z70:=Tryz.sizeOf161
  v70:=Tryz.zeroValue161
  t72:=Tryz.underlying164
  a72:=Tryz.isAgg164
  z72:=Tryz.sizeOf164
  v72:=Tryz.zeroValue164
  t75:=Tryz.underlying167
  a75:=Tryz.isAgg167
  z75:=Tryz.sizeOf167
  v75:=Tryz.zeroValue167
  t76:=Tryz.underlying168
  a76:=Tryz.isAgg168
  z76:=Tryz.sizeOf168
  v76:=Tryz.zeroValue168
  t109:=Tryz.underlying158
  a109:=Tryz.isAgg158
  z109:=Tryz.sizeOf158
  v109:=Tryz.zeroValue158
  t127:=Tryz.underlying214
  a127:=Tryz.isAgg214
  z127:=Tryz.sizeOf214
  v127:=Tryz.zeroValue214
  t146:=Tryz.underlying210
  a146:=Tryz.isAgg210
  z146:=Tryz.sizeOf210
  v146:=Tryz.zeroValue210
  t148:=Tryz.underlying212
  a148:=Tryz.isAgg212
  z148:=Tryz.sizeOf212
  v148:=Tryz.zeroValue212
  t164:=Tryz.underlying300
  a164:=Tryz.isAgg300
  z164:=Tryz.sizeOf300
  v164:=Tryz.zeroValue300 }
theorem Tryz.Builder_Extra_105:Builder.Extra Tryz.prog Tryz.lays105_ren:={
  sizeBuilder:=by kernel_rfl
  liesBuilder:=by kernel_rfl
  t5:=Tryz.underlying5
  a5:=Tryz.isAgg5
  z5:=Tryz.sizeOf5
  v5:=Tryz.zeroValue5
  infoByte:=by kernel_rfl
  cellsByte:=by kernel_rfl
  sizeByte:=by kernel_rfl
  neB5:=by decide }
open Go.RowKit Go.Lib in
theorem Tryz.strings_Repeat (s : ByteArray) (c : Nat) (w : World) (hc : c ≤ 9223372036854775807) (hlen : s.size * c ≤ 140737488355328) :
    Calls Tryz.prog 74 #[.string s, .int .i64 c] w fun e w'=>e=.returned (.string ⟨(Lib.repeatL s.data.toList c).toArray⟩)∧Below w.heap.size w w':=Any.strings_Repeat Tryz.lays105 Tryz.Builder_Extra_105 s c w hc hlen
def Tryz.lays260_ren:Go.Shelf.Ren:=⟨fun|260=>304|n=>n, fun|9=>9|21=>21|3=>3|4=>4|5=>5|119=>402|0=>0|46=>49|139=>405|138=>404|n=>n, fun|3=>1|4=>2|n=>n⟩
theorem Tryz.lays260:Go.Proofs.Lays.n260 Tryz.prog Tryz.lays260_ren:={
  mixed:=by kernel_rfl
  f260:=Tryz.func304.trans (congrArg some (by kernel_rfl))
  t0:=Tryz.underlying0
  a0:=Tryz.isAgg0
  z0:=Tryz.sizeOf0
  v0:=Tryz.zeroValue0
  t3:=Tryz.underlying3
  a3:=Tryz.isAgg3
  z3:=Tryz.sizeOf3
  v3:=Tryz.zeroValue3
  t4:=Tryz.underlying4
  a4:=Tryz.isAgg4
  z4:=Tryz.sizeOf4
  v4:=Tryz.zeroValue4
  t5:=Tryz.underlying5
  a5:=Tryz.isAgg5
  z5:=Tryz.sizeOf5
  v5:=Tryz.zeroValue5
  t9:=Tryz.underlying9
  a9:=Tryz.isAgg9
  z9:=Tryz.sizeOf9
  v9:=Tryz.zeroValue9
  t21:=Tryz.underlying21
  a21:=Tryz.isAgg21
  z21:=Tryz.sizeOf21
  v21:=Tryz.zeroValue21
  t46:=Tryz.underlying49
  a46:=Tryz.isAgg49
  z46:=Tryz.sizeOf49
  v46:=Tryz.zeroValue49
  t119:=Tryz.underlying402
  a119:=Tryz.isAgg402
  z119:=Tryz.sizeOf402
  t138:=Tryz.underlying404
  a138:=Tryz.isAgg404
  z138:=Tryz.sizeOf404
  v138:=Tryz.zeroValue404
  t139:=Tryz.underlying405
  a139:=Tryz.isAgg405
  z139:=Tryz.sizeOf405
  v139:=Tryz.zeroValue405
  g3:=by kernel_rfl
  g4:=by kernel_rfl }
open Go.RowKit Go.Lib in
theorem Tryz.utf8_DecodeRuneInString (s : ByteArray) (w : World) (hT : Lib.Utf8Tabs 1 2 w) :
    Calls Tryz.prog 261 #[.string s] w fun e w'=>e=.returned (.tuple #[.int .i32 (Lib.decodeGo s).1, .int .i64 (Lib.decodeGo s).2])∧Below w.heap.size w w':=Any.utf8_DecodeRuneInString Tryz.lays197 s w hT
def Tryz.laysNm220_ren:Go.Shelf.Ren:=⟨fun|20=>50|n=>n, fun|22=>24|3=>3|4=>4|0=>0|n=>n, fun|n=>n⟩
theorem Tryz.laysNm220:Go.Proofs.Lays2.n20 Tryz.prog Tryz.laysNm220_ren:={
  mixed:=by kernel_rfl
  f20:=Tryz.func50.trans (congrArg some (by kernel_rfl))
  t0:=Tryz.underlying0
  a0:=Tryz.isAgg0
  z0:=Tryz.sizeOf0
  v0:=Tryz.zeroValue0
  t3:=Tryz.underlying3
  a3:=Tryz.isAgg3
  z3:=Tryz.sizeOf3
  v3:=Tryz.zeroValue3
  t4:=Tryz.underlying4
  a4:=Tryz.isAgg4
  z4:=Tryz.sizeOf4
  v4:=Tryz.zeroValue4
  t22:=Tryz.underlying24
  a22:=Tryz.isAgg24
  z22:=Tryz.sizeOf24
  v22:=Tryz.zeroValue24
  i3:=by kernel_rfl }
open Go.RowKit Go.Lib Go.Sort in
theorem Tryz.slices_Compact_int (blk off cap : Nat) (zs : List Int) (w : World) (hH : Holds (Value.int .i64) w blk off zs.toArray) (hsz : zs.length ≤ 9223372036854775807) (hcap : zs.length ≤ cap) :
    Calls Tryz.prog 50 #[.slice (some ⟨blk, off, none⟩) zs.length cap] w fun e w'=>e=.returned (.slice (some ⟨blk, off, none⟩) (Lib.compact zs).length cap)∧∃ q, w'=putRow (Value.int .i64) (Sort.ahead w q) blk off (Lib.compact zs++List.replicate (zs.length-(Lib.compact zs).length) 0).toArray:=Any.slices_Compact_int Tryz.laysNm220 blk off cap zs w hH hsz hcap
open Go.RowKit Go.Lib Go.Sort in
theorem Tryz.slices_Compact_int_empty (a : Option Addr) (cap : Nat) (w : World) :
    Calls Tryz.prog 50 #[.slice a 0 cap] w fun e w'=>e=.returned (.slice a 0 cap)∧w'=w:=Any.slices_Compact_int_empty Tryz.laysNm220 a cap w
open Go.RowKit Go.Sort in
theorem Tryz.slices_Sort_int_none (p : Option Addr) (cap : Nat) (w : World) :
    Calls Tryz.prog 49 #[.slice p 0 cap] w fun e w'=>e=.returned (.tuple #[])∧w'=w:=Any.slices_Sort_int_none Tryz.lays189 p cap w
def Tryz.laysSlF6_f253_ren:Go.Shelf.Ren:=⟨fun|6=>253|15=>81|14=>297|28=>122|29=>123|20=>336|21=>337|22=>338|23=>339|24=>340|25=>341|26=>342|27=>343|46=>367|47=>186|48=>187|49=>368|50=>369|57=>379|n=>n, fun|22=>24|24=>3|25=>262|3=>3|39=>49|0=>0|53=>188|55=>190|4=>4|46=>181|45=>180|50=>185|5=>5|9=>9|66=>275|70=>279|76=>339|77=>340|n=>n, fun|n=>n⟩
theorem Tryz.laysSlF6_f253:Go.Proofs.SlLaysF.n6 Tryz.prog Tryz.laysSlF6_f253_ren:={
  mixed:=by kernel_rfl
  f6:=⟨Tryz.f253.name, by decide, Tryz.func253.trans (congrArg some (by kernel_rfl))⟩
  f14:=⟨Tryz.f297.name, by decide, Tryz.func297.trans (congrArg some (by kernel_rfl))⟩
  f15:=Tryz.func81.trans (congrArg some (by kernel_rfl))
  f20:=⟨Tryz.f336.name, by decide, Tryz.func336.trans (congrArg some (by kernel_rfl))⟩
  f21:=⟨Tryz.f337.name, by decide, Tryz.func337.trans (congrArg some (by kernel_rfl))⟩
  f22:=⟨Tryz.f338.name, by decide, Tryz.func338.trans (congrArg some (by kernel_rfl))⟩
  f23:=⟨Tryz.f339.name, by decide, Tryz.func339.trans (congrArg some (by kernel_rfl))⟩
  f24:=⟨Tryz.f340.name, by decide, Tryz.func340.trans (congrArg some (by kernel_rfl))⟩
  f25:=⟨Tryz.f341.name, by decide, Tryz.func341.trans (congrArg some (by kernel_rfl))⟩
  f26:=⟨Tryz.f342.name, by decide, Tryz.func342.trans (congrArg some (by kernel_rfl))⟩
  f27:=⟨Tryz.f343.name, by decide, Tryz.func343.trans (congrArg some (by kernel_rfl))⟩
  f28:=Tryz.func122.trans (congrArg some (by kernel_rfl))
  f29:=Tryz.func123.trans (congrArg some (by kernel_rfl))
  f46:=⟨Tryz.f367.name, by decide, Tryz.func367.trans (congrArg some (by kernel_rfl))⟩
  f47:=Tryz.func186.trans (congrArg some (by kernel_rfl))
  f48:=Tryz.func187.trans (congrArg some (by kernel_rfl))
  f49:=⟨Tryz.f368.name, by decide, Tryz.func368.trans (congrArg some (by kernel_rfl))⟩
  f50:=⟨Tryz.f369.name, by decide, Tryz.func369.trans (congrArg some (by kernel_rfl))⟩
  f57:=⟨Tryz.f379.name, by decide, Tryz.func379.trans (congrArg some (by kernel_rfl))⟩
  t0:=Tryz.underlying0
  a0:=Tryz.isAgg0
  z0:=Tryz.sizeOf0
  v0:=Tryz.zeroValue0
  t3:=Tryz.underlying3
  a3:=Tryz.isAgg3
  z3:=Tryz.sizeOf3
  v3:=Tryz.zeroValue3
  t4:=Tryz.underlying4
  a4:=Tryz.isAgg4
  z4:=Tryz.sizeOf4
  v4:=Tryz.zeroValue4
  t5:=Tryz.underlying5
  a5:=Tryz.isAgg5
  z5:=Tryz.sizeOf5
  v5:=Tryz.zeroValue5
  t9:=Tryz.underlying9
  a9:=Tryz.isAgg9
  z9:=Tryz.sizeOf9
  v9:=Tryz.zeroValue9
  t22:=Tryz.underlying24
  a22:=Tryz.isAgg24
  z22:=Tryz.sizeOf24
  v22:=Tryz.zeroValue24
  a24:=Tryz.isAgg3
  z24:=Tryz.sizeOf3
  t25:=Tryz.underlying262
  a25:=Tryz.isAgg262
  z25:=Tryz.sizeOf262
  v25:=Tryz.zeroValue262
  t39:=Tryz.underlying49
  a39:=Tryz.isAgg49
  z39:=Tryz.sizeOf49
  v39:=Tryz.zeroValue49
  t45:=Tryz.underlying180
  a45:=Tryz.isAgg180
  z45:=Tryz.sizeOf180
  v45:=Tryz.zeroValue180
  t46:=Tryz.underlying181
  a46:=Tryz.isAgg181
  z46:=Tryz.sizeOf181
  v46:=Tryz.zeroValue181
  t50:=Tryz.underlying185
  a50:=Tryz.isAgg185
  z50:=Tryz.sizeOf185
  v50:=Tryz.zeroValue185
  t53:=Tryz.underlying188
  a53:=Tryz.isAgg188
  z53:=Tryz.sizeOf188
  v53:=Tryz.zeroValue188
  t55:=Tryz.underlying190
  a55:=Tryz.isAgg190
  z55:=Tryz.sizeOf190
  v55:=Tryz.zeroValue190
  t66:=Tryz.underlying275
  a66:=Tryz.isAgg275
  z66:=Tryz.sizeOf275
  v66:=Tryz.zeroValue275
  t70:=Tryz.underlying279
  a70:=Tryz.isAgg279
  z70:=Tryz.sizeOf279
  v70:=Tryz.zeroValue279
  t76:=Tryz.underlying339
  a76:=Tryz.isAgg339
  z76:=Tryz.sizeOf339
  v76:=Tryz.zeroValue339
  t77:=Tryz.underlying340
  a77:=Tryz.isAgg340
  z77:=Tryz.sizeOf340
  v77:=Tryz.zeroValue340 }
open Go.RowKit Go.Lib Go.Sort in
theorem Tryz.slices_SortFunc {α : Type} [Inhabited α] (enc : α → Value) (h1 : OneCell enc) (cf : α → α → Int) (hO : SWO (ltOf cf)) (g : Nat) (cb : Array Value) (blk off cap : Nat) (d : Array α) (w : World) (eg : ∀ args w, (callFunc g args).run Tryz.prog w = .ok (.enter g args) w) (hcmp : CmpLays1 Tryz.prog g cb enc cf blk off d.size w) (hH : Holds enc w blk off d) (hblk : blk < w.heap.size) (hsz : d.size < 4611686018427387904) :
    Calls Tryz.prog 253 #[.slice (some ⟨blk, off, none⟩) d.size cap, .func (.func g) #[] cb] w fun e w' =>
      e=.returned (.tuple #[])∧∃ d' n os, PermIn 0 d.size d d'∧SortedIn (ltOf cf) 0 d.size d'∧w'=sortWorld enc w blk off n d' os:=Any.slices_SortFunc Tryz.laysSlF6_f253 enc h1 cf hO g cb blk off cap d w eg hcmp hH hblk hsz
def Tryz.laysSlF06_f253_ren:Go.Shelf.Ren:=⟨fun|6=>253|15=>81|14=>297|28=>122|29=>123|20=>336|21=>337|22=>338|23=>339|24=>340|25=>341|26=>342|27=>343|46=>367|47=>186|48=>187|49=>368|50=>369|57=>379|n=>n, fun|22=>24|24=>3|25=>262|3=>3|39=>49|0=>0|53=>188|55=>190|4=>4|46=>181|45=>180|50=>185|5=>5|9=>9|66=>275|70=>279|76=>339|77=>340|n=>n, fun|n=>n⟩
theorem Tryz.laysSlF06_f253:Go.Proofs.SlLaysF0.n6 Tryz.prog Tryz.laysSlF06_f253_ren:={
  mixed:=by kernel_rfl
  f6:=⟨Tryz.f253.name, by decide, Tryz.func253.trans (congrArg some (by kernel_rfl))⟩
  f14:=⟨Tryz.f297.name, by decide, Tryz.func297.trans (congrArg some (by kernel_rfl))⟩
  f15:=Tryz.func81.trans (congrArg some (by kernel_rfl))
  f20:=⟨Tryz.f336.name, by decide, Tryz.func336.trans (congrArg some (by kernel_rfl))⟩
  f21:=⟨Tryz.f337.name, by decide, Tryz.func337.trans (congrArg some (by kernel_rfl))⟩
  f22:=⟨Tryz.f338.name, by decide, Tryz.func338.trans (congrArg some (by kernel_rfl))⟩
  f23:=⟨Tryz.f339.name, by decide, Tryz.func339.trans (congrArg some (by kernel_rfl))⟩
  f24:=⟨Tryz.f340.name, by decide, Tryz.func340.trans (congrArg some (by kernel_rfl))⟩
  f25:=⟨Tryz.f341.name, by decide, Tryz.func341.trans (congrArg some (by kernel_rfl))⟩
  f26:=⟨Tryz.f342.name, by decide, Tryz.func342.trans (congrArg some (by kernel_rfl))⟩
  f27:=⟨Tryz.f343.name, by decide, Tryz.func343.trans (congrArg some (by kernel_rfl))⟩
  f28:=Tryz.func122.trans (congrArg some (by kernel_rfl))
  f29:=Tryz.func123.trans (congrArg some (by kernel_rfl))
  f46:=⟨Tryz.f367.name, by decide, Tryz.func367.trans (congrArg some (by kernel_rfl))⟩
  f47:=Tryz.func186.trans (congrArg some (by kernel_rfl))
  f48:=Tryz.func187.trans (congrArg some (by kernel_rfl))
  f49:=⟨Tryz.f368.name, by decide, Tryz.func368.trans (congrArg some (by kernel_rfl))⟩
  f50:=⟨Tryz.f369.name, by decide, Tryz.func369.trans (congrArg some (by kernel_rfl))⟩
  f57:=⟨Tryz.f379.name, by decide, Tryz.func379.trans (congrArg some (by kernel_rfl))⟩
  t0:=Tryz.underlying0
  a0:=Tryz.isAgg0
  z0:=Tryz.sizeOf0
  v0:=Tryz.zeroValue0
  t3:=Tryz.underlying3
  a3:=Tryz.isAgg3
  z3:=Tryz.sizeOf3
  v3:=Tryz.zeroValue3
  t4:=Tryz.underlying4
  a4:=Tryz.isAgg4
  z4:=Tryz.sizeOf4
  v4:=Tryz.zeroValue4
  t5:=Tryz.underlying5
  a5:=Tryz.isAgg5
  z5:=Tryz.sizeOf5
  v5:=Tryz.zeroValue5
  t9:=Tryz.underlying9
  a9:=Tryz.isAgg9
  z9:=Tryz.sizeOf9
  v9:=Tryz.zeroValue9
  t22:=Tryz.underlying24
  a22:=Tryz.isAgg24
  z22:=Tryz.sizeOf24
  v22:=Tryz.zeroValue24
  t25:=Tryz.underlying262
  a25:=Tryz.isAgg262
  z25:=Tryz.sizeOf262
  v25:=Tryz.zeroValue262
  t39:=Tryz.underlying49
  a39:=Tryz.isAgg49
  z39:=Tryz.sizeOf49
  v39:=Tryz.zeroValue49
  t45:=Tryz.underlying180
  a45:=Tryz.isAgg180
  z45:=Tryz.sizeOf180
  v45:=Tryz.zeroValue180
  t46:=Tryz.underlying181
  a46:=Tryz.isAgg181
  z46:=Tryz.sizeOf181
  v46:=Tryz.zeroValue181
  t50:=Tryz.underlying185
  a50:=Tryz.isAgg185
  z50:=Tryz.sizeOf185
  v50:=Tryz.zeroValue185
  t53:=Tryz.underlying188
  a53:=Tryz.isAgg188
  z53:=Tryz.sizeOf188
  v53:=Tryz.zeroValue188
  t55:=Tryz.underlying190
  a55:=Tryz.isAgg190
  z55:=Tryz.sizeOf190
  v55:=Tryz.zeroValue190
  t66:=Tryz.underlying275
  a66:=Tryz.isAgg275
  z66:=Tryz.sizeOf275
  v66:=Tryz.zeroValue275
  t70:=Tryz.underlying279
  a70:=Tryz.isAgg279
  z70:=Tryz.sizeOf279
  v70:=Tryz.zeroValue279
  t76:=Tryz.underlying339
  a76:=Tryz.isAgg339
  z76:=Tryz.sizeOf339
  v76:=Tryz.zeroValue339
  t77:=Tryz.underlying340
  a77:=Tryz.isAgg340
  z77:=Tryz.sizeOf340
  v77:=Tryz.zeroValue340 }
open Go.RowKit Go.Lib Go.Sort in
theorem Tryz.slices_SortFunc_none {α : Type} [Inhabited α] (p : Option Addr) (cap : Nat) (fv : Value) (w : World) :
    Calls Tryz.prog 253 #[.slice p 0 cap, fv] w fun e w'=>e=.returned (.tuple #[])∧w'=w:=AnyF.slices_SortFunc_none Tryz.laysSlF06_f253 p cap fv w
def Tryz.laysCol_ren:Go.Shelf.Ren:=⟨fun|8=>91|11=>137|n=>n, fun|26=>9|28=>109|24=>59|0=>0|33=>152|4=>4|n=>n, fun|n=>n⟩
theorem Tryz.laysCol:Go.Proofs.SlLaysZ.n8 Tryz.prog Tryz.laysCol_ren:={
  mixed:=by kernel_rfl
  f8:=⟨Tryz.f91.name, by decide, Tryz.func91.trans (congrArg some (by kernel_rfl))⟩
  f11:=⟨Tryz.f137.name, by decide, Tryz.func137.trans (congrArg some (by kernel_rfl))⟩
  t0:=Tryz.underlying0
  a0:=Tryz.isAgg0
  z0:=Tryz.sizeOf0
  v0:=Tryz.zeroValue0
  t24:=Tryz.underlying59
  a24:=Tryz.isAgg59
  z24:=Tryz.sizeOf59
  v24:=Tryz.zeroValue59
  t26:=Tryz.underlying9
  a26:=Tryz.isAgg9
  z26:=Tryz.sizeOf9
  v26:=Tryz.zeroValue9
  t28:=Tryz.underlying109
  a28:=Tryz.isAgg109
  z28:=Tryz.sizeOf109
  v28:=Tryz.zeroValue109
  i26:=by kernel_rfl }
def Tryz.laysSlF0_f350_ren:Go.Shelf.Ren:=⟨fun|6=>350|15=>81|14=>373|28=>122|29=>123|20=>381|21=>382|22=>383|23=>384|24=>385|25=>386|26=>387|27=>388|46=>392|47=>186|48=>187|49=>393|50=>394|57=>395|n=>n, fun|22=>41|24=>44|25=>409|3=>3|39=>49|0=>0|53=>188|55=>190|4=>4|46=>181|45=>180|50=>185|5=>5|9=>9|66=>275|70=>279|76=>339|77=>340|n=>n, fun|n=>n⟩
theorem Tryz.laysSlF0_f350:Go.Proofs.SlLaysF0.n6 Tryz.prog Tryz.laysSlF0_f350_ren:={
  mixed:=by kernel_rfl
  f6:=⟨Tryz.f350.name, by decide, Tryz.func350.trans (congrArg some (by kernel_rfl))⟩
  f14:=⟨Tryz.f373.name, by decide, Tryz.func373.trans (congrArg some (by kernel_rfl))⟩
  f15:=Tryz.func81.trans (congrArg some (by kernel_rfl))
  f20:=⟨Tryz.f381.name, by decide, Tryz.func381.trans (congrArg some (by kernel_rfl))⟩
  f21:=⟨Tryz.f382.name, by decide, Tryz.func382.trans (congrArg some (by kernel_rfl))⟩
  f22:=⟨Tryz.f383.name, by decide, Tryz.func383.trans (congrArg some (by kernel_rfl))⟩
  f23:=⟨Tryz.f384.name, by decide, Tryz.func384.trans (congrArg some (by kernel_rfl))⟩
  f24:=⟨Tryz.f385.name, by decide, Tryz.func385.trans (congrArg some (by kernel_rfl))⟩
  f25:=⟨Tryz.f386.name, by decide, Tryz.func386.trans (congrArg some (by kernel_rfl))⟩
  f26:=⟨Tryz.f387.name, by decide, Tryz.func387.trans (congrArg some (by kernel_rfl))⟩
  f27:=⟨Tryz.f388.name, by decide, Tryz.func388.trans (congrArg some (by kernel_rfl))⟩
  f28:=Tryz.func122.trans (congrArg some (by kernel_rfl))
  f29:=Tryz.func123.trans (congrArg some (by kernel_rfl))
  f46:=⟨Tryz.f392.name, by decide, Tryz.func392.trans (congrArg some (by kernel_rfl))⟩
  f47:=Tryz.func186.trans (congrArg some (by kernel_rfl))
  f48:=Tryz.func187.trans (congrArg some (by kernel_rfl))
  f49:=⟨Tryz.f393.name, by decide, Tryz.func393.trans (congrArg some (by kernel_rfl))⟩
  f50:=⟨Tryz.f394.name, by decide, Tryz.func394.trans (congrArg some (by kernel_rfl))⟩
  f57:=⟨Tryz.f395.name, by decide, Tryz.func395.trans (congrArg some (by kernel_rfl))⟩
  t0:=Tryz.underlying0
  a0:=Tryz.isAgg0
  z0:=Tryz.sizeOf0
  v0:=Tryz.zeroValue0
  t3:=Tryz.underlying3
  a3:=Tryz.isAgg3
  z3:=Tryz.sizeOf3
  v3:=Tryz.zeroValue3
  t4:=Tryz.underlying4
  a4:=Tryz.isAgg4
  z4:=Tryz.sizeOf4
  v4:=Tryz.zeroValue4
  t5:=Tryz.underlying5
  a5:=Tryz.isAgg5
  z5:=Tryz.sizeOf5
  v5:=Tryz.zeroValue5
  t9:=Tryz.underlying9
  a9:=Tryz.isAgg9
  z9:=Tryz.sizeOf9
  v9:=Tryz.zeroValue9
  t22:=Tryz.underlying41
  a22:=Tryz.isAgg41
  z22:=Tryz.sizeOf41
  v22:=Tryz.zeroValue41
  t25:=Tryz.underlying409
  a25:=Tryz.isAgg409
  z25:=Tryz.sizeOf409
  v25:=Tryz.zeroValue409
  t39:=Tryz.underlying49
  a39:=Tryz.isAgg49
  z39:=Tryz.sizeOf49
  v39:=Tryz.zeroValue49
  t45:=Tryz.underlying180
  a45:=Tryz.isAgg180
  z45:=Tryz.sizeOf180
  v45:=Tryz.zeroValue180
  t46:=Tryz.underlying181
  a46:=Tryz.isAgg181
  z46:=Tryz.sizeOf181
  v46:=Tryz.zeroValue181
  t50:=Tryz.underlying185
  a50:=Tryz.isAgg185
  z50:=Tryz.sizeOf185
  v50:=Tryz.zeroValue185
  t53:=Tryz.underlying188
  a53:=Tryz.isAgg188
  z53:=Tryz.sizeOf188
  v53:=Tryz.zeroValue188
  t55:=Tryz.underlying190
  a55:=Tryz.isAgg190
  z55:=Tryz.sizeOf190
  v55:=Tryz.zeroValue190
  t66:=Tryz.underlying275
  a66:=Tryz.isAgg275
  z66:=Tryz.sizeOf275
  v66:=Tryz.zeroValue275
  t70:=Tryz.underlying279
  a70:=Tryz.isAgg279
  z70:=Tryz.sizeOf279
  v70:=Tryz.zeroValue279
  t76:=Tryz.underlying339
  a76:=Tryz.isAgg339
  z76:=Tryz.sizeOf339
  v76:=Tryz.zeroValue339
  t77:=Tryz.underlying340
  a77:=Tryz.isAgg340
  z77:=Tryz.sizeOf340
  v77:=Tryz.zeroValue340 }
def Tryz.laysSlF0_f253_ren:Go.Shelf.Ren:=⟨fun|6=>253|15=>81|14=>297|28=>122|29=>123|20=>336|21=>337|22=>338|23=>339|24=>340|25=>341|26=>342|27=>343|46=>367|47=>186|48=>187|49=>368|50=>369|57=>379|n=>n, fun|22=>24|24=>3|25=>262|3=>3|39=>49|0=>0|53=>188|55=>190|4=>4|46=>181|45=>180|50=>185|5=>5|9=>9|66=>275|70=>279|76=>339|77=>340|n=>n, fun|n=>n⟩
theorem Tryz.laysSlF0_f253:Go.Proofs.SlLaysF0.n6 Tryz.prog Tryz.laysSlF0_f253_ren:={
  mixed:=by kernel_rfl
  f6:=⟨Tryz.f253.name, by decide, Tryz.func253.trans (congrArg some (by kernel_rfl))⟩
  f14:=⟨Tryz.f297.name, by decide, Tryz.func297.trans (congrArg some (by kernel_rfl))⟩
  f15:=Tryz.func81.trans (congrArg some (by kernel_rfl))
  f20:=⟨Tryz.f336.name, by decide, Tryz.func336.trans (congrArg some (by kernel_rfl))⟩
  f21:=⟨Tryz.f337.name, by decide, Tryz.func337.trans (congrArg some (by kernel_rfl))⟩
  f22:=⟨Tryz.f338.name, by decide, Tryz.func338.trans (congrArg some (by kernel_rfl))⟩
  f23:=⟨Tryz.f339.name, by decide, Tryz.func339.trans (congrArg some (by kernel_rfl))⟩
  f24:=⟨Tryz.f340.name, by decide, Tryz.func340.trans (congrArg some (by kernel_rfl))⟩
  f25:=⟨Tryz.f341.name, by decide, Tryz.func341.trans (congrArg some (by kernel_rfl))⟩
  f26:=⟨Tryz.f342.name, by decide, Tryz.func342.trans (congrArg some (by kernel_rfl))⟩
  f27:=⟨Tryz.f343.name, by decide, Tryz.func343.trans (congrArg some (by kernel_rfl))⟩
  f28:=Tryz.func122.trans (congrArg some (by kernel_rfl))
  f29:=Tryz.func123.trans (congrArg some (by kernel_rfl))
  f46:=⟨Tryz.f367.name, by decide, Tryz.func367.trans (congrArg some (by kernel_rfl))⟩
  f47:=Tryz.func186.trans (congrArg some (by kernel_rfl))
  f48:=Tryz.func187.trans (congrArg some (by kernel_rfl))
  f49:=⟨Tryz.f368.name, by decide, Tryz.func368.trans (congrArg some (by kernel_rfl))⟩
  f50:=⟨Tryz.f369.name, by decide, Tryz.func369.trans (congrArg some (by kernel_rfl))⟩
  f57:=⟨Tryz.f379.name, by decide, Tryz.func379.trans (congrArg some (by kernel_rfl))⟩
  t0:=Tryz.underlying0
  a0:=Tryz.isAgg0
  z0:=Tryz.sizeOf0
  v0:=Tryz.zeroValue0
  t3:=Tryz.underlying3
  a3:=Tryz.isAgg3
  z3:=Tryz.sizeOf3
  v3:=Tryz.zeroValue3
  t4:=Tryz.underlying4
  a4:=Tryz.isAgg4
  z4:=Tryz.sizeOf4
  v4:=Tryz.zeroValue4
  t5:=Tryz.underlying5
  a5:=Tryz.isAgg5
  z5:=Tryz.sizeOf5
  v5:=Tryz.zeroValue5
  t9:=Tryz.underlying9
  a9:=Tryz.isAgg9
  z9:=Tryz.sizeOf9
  v9:=Tryz.zeroValue9
  t22:=Tryz.underlying24
  a22:=Tryz.isAgg24
  z22:=Tryz.sizeOf24
  v22:=Tryz.zeroValue24
  t25:=Tryz.underlying262
  a25:=Tryz.isAgg262
  z25:=Tryz.sizeOf262
  v25:=Tryz.zeroValue262
  t39:=Tryz.underlying49
  a39:=Tryz.isAgg49
  z39:=Tryz.sizeOf49
  v39:=Tryz.zeroValue49
  t45:=Tryz.underlying180
  a45:=Tryz.isAgg180
  z45:=Tryz.sizeOf180
  v45:=Tryz.zeroValue180
  t46:=Tryz.underlying181
  a46:=Tryz.isAgg181
  z46:=Tryz.sizeOf181
  v46:=Tryz.zeroValue181
  t50:=Tryz.underlying185
  a50:=Tryz.isAgg185
  z50:=Tryz.sizeOf185
  v50:=Tryz.zeroValue185
  t53:=Tryz.underlying188
  a53:=Tryz.isAgg188
  z53:=Tryz.sizeOf188
  v53:=Tryz.zeroValue188
  t55:=Tryz.underlying190
  a55:=Tryz.isAgg190
  z55:=Tryz.sizeOf190
  v55:=Tryz.zeroValue190
  t66:=Tryz.underlying275
  a66:=Tryz.isAgg275
  z66:=Tryz.sizeOf275
  v66:=Tryz.zeroValue275
  t70:=Tryz.underlying279
  a70:=Tryz.isAgg279
  z70:=Tryz.sizeOf279
  v70:=Tryz.zeroValue279
  t76:=Tryz.underlying339
  a76:=Tryz.isAgg339
  z76:=Tryz.sizeOf339
  v76:=Tryz.zeroValue339
  t77:=Tryz.underlying340
  a77:=Tryz.isAgg340
  z77:=Tryz.sizeOf340
  v77:=Tryz.zeroValue340 }
end Go.Proofs
