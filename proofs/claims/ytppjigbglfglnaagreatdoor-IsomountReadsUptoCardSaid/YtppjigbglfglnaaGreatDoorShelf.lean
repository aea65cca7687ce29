/- Contracts of the library functions that the program calls. -/
import Derived.Shelf.Strings.Builder1
import Derived.Shelf.Strings.Builder2
import Derived.Shelf.Small.Utf8
import Derived.Shelf.Small.Strs
import Derived.Shelf.Strings.BuilderF
import Derived.Shelf.Strings.BuilderK
import Derived.Shelf.Utf8.RuneCount
import Derived.Shelf.Strings.Builder2Cap
import Derived.Shelf.Strconv.Atoi
import Derived.Shelf.Strconv.Itoa0
import Derived.Shelf.Strconv.Itoa1
import Derived.Shelf.LaysM
import Derived.Shelf.Strconv.Itoa2
import Derived.Shelf.Strconv.Itoa3
import Derived.Shelf.Strings.Search1
import Derived.Shelf.Strings.Search2
import Derived.Shelf.Strings.Search3
import Derived.Shelf.Strings.Cut
import Derived.Shelf.Strings.Count
import Derived.Shelf.Strings.Shaped
import Derived.Shelf.Strings.Prefix
import Derived.Shelf.Strings.Split
import Derived.Shelf.Strings.SplitShaped
import Derived.Shelf.Strings.Runes
import Derived.Shelf.Strings.IndexAny
import Derived.Shelf.Strings.AsciiSet
import Derived.Shelf.Strings.IndexAnyAll
import Derived.Shelf.Unicode.DecodeSlow
import Derived.Shelf.Unicode.DecodeAny
import Derived.Shelf.Strings.BuilderCap
import Derived.Test.YtppjigbglfglnaaGreatDoorProg
namespace Go.Proofs
open Go.Shelf
def Tryz.lays170_ren:Go.Shelf.Ren:=⟨fun|170=>63|n=>n, fun|70=>127|3=>3|0=>0|72=>130|37=>128|5=>5|n=>n, fun|n=>n⟩
theorem Tryz.lays170:Go.Proofs.Lays.n170 Tryz.prog Tryz.lays170_ren:={
  mixed:=by kernel_rfl
  f170:=Tryz.func63.trans (congrArg some (by kernel_rfl))
  t0:=Tryz.underlying0
  a0:=Tryz.isAgg0
  z0:=Tryz.sizeOf0
  v0:=Tryz.zeroValue0
  t3:=Tryz.underlying3
  a3:=Tryz.isAgg3
  z3:=Tryz.sizeOf3
  v3:=Tryz.zeroValue3
  t37:=Tryz.underlying128
  a37:=Tryz.isAgg128
  z37:=Tryz.sizeOf128
  v37:=Tryz.zeroValue128
  t70:=Tryz.underlying127
  a70:=Tryz.isAgg127
  z70:=Tryz.sizeOf127
  v70:=Tryz.zeroValue127
  t72:=Tryz.underlying130
  a72:=Tryz.isAgg130
  z72:=Tryz.sizeOf130
  v72:=Tryz.zeroValue130 }
def Tryz.lays169_ren:Go.Shelf.Ren:=⟨fun|169=>65|n=>n, fun|70=>127|9=>9|0=>0|72=>130|37=>128|127=>241|3=>3|5=>5|n=>n, fun|n=>n⟩
theorem Tryz.lays169:Go.Proofs.Lays.n169 Tryz.prog Tryz.lays169_ren:={
  mixed:=by kernel_rfl
  f169:=Tryz.func65.trans (congrArg some (by kernel_rfl))
  t0:=Tryz.underlying0
  a0:=Tryz.isAgg0
  z0:=Tryz.sizeOf0
  v0:=Tryz.zeroValue0
  t3:=Tryz.underlying3
  a3:=Tryz.isAgg3
  z3:=Tryz.sizeOf3
  v3:=Tryz.zeroValue3
  t9:=Tryz.underlying9
  a9:=Tryz.isAgg9
  z9:=Tryz.sizeOf9
  v9:=Tryz.zeroValue9
  t37:=Tryz.underlying128
  a37:=Tryz.isAgg128
  z37:=Tryz.sizeOf128
  v37:=Tryz.zeroValue128
  t70:=Tryz.underlying127
  a70:=Tryz.isAgg127
  z70:=Tryz.sizeOf127
  v70:=Tryz.zeroValue127
  t72:=Tryz.underlying130
  a72:=Tryz.isAgg130
  z72:=Tryz.sizeOf130
  v72:=Tryz.zeroValue130
  t127:=Tryz.underlying241
  a127:=Tryz.isAgg241
  z127:=Tryz.sizeOf241
  v127:=Tryz.zeroValue241 }
theorem Tryz.Builder_Extra_169:Builder.Extra Tryz.prog Tryz.lays169_ren:={
  sizeBuilder:=by kernel_rfl
  liesBuilder:=by kernel_rfl
  t5:=Tryz.underlying5
  a5:=Tryz.isAgg5
  z5:=Tryz.sizeOf5
  v5:=Tryz.zeroValue5
  infoByte:=by kernel_rfl
  cellsByte:=by kernel_rfl
  sizeByte:=by kernel_rfl
  neB5:=by decide }
def Tryz.lays106_ren:Go.Shelf.Ren:=⟨fun|106=>212|213=>292|265=>352|n=>n, fun|9=>9|3=>3|n=>n, fun|n=>n⟩
theorem Tryz.lays106:Go.Proofs.Lays.n106 Tryz.prog Tryz.lays106_ren:={
  mixed:=by kernel_rfl
  f106:=Tryz.func212.trans (congrArg some (by kernel_rfl))
  f213:=Tryz.func292.trans (congrArg some (by kernel_rfl))
  f265:=Tryz.func352.trans (congrArg some (by kernel_rfl))
  t3:=Tryz.underlying3
  a3:=Tryz.isAgg3
  z3:=Tryz.sizeOf3
  v3:=Tryz.zeroValue3
  t9:=Tryz.underlying9
  a9:=Tryz.isAgg9
  z9:=Tryz.sizeOf9
  v9:=Tryz.zeroValue9 }
open Go.RowKit in
theorem Tryz.strings_Compare (a b : ByteArray) (w : World) :
    Calls Tryz.prog 212 #[.string a, .string b] w fun e w'=>e=.returned (.int .i64 (Lib.compareBytes a.data.toList b.data.toList))∧w'=w:=Any.strings_Compare Tryz.lays106 a b w
def Tryz.lays137_ren:Go.Shelf.Ren:=⟨fun|137=>197|217=>256|266=>320|n=>n, fun|9=>9|5=>5|3=>3|n=>n, fun|n=>n⟩
theorem Tryz.lays137:Go.Proofs.Lays.n137 Tryz.prog Tryz.lays137_ren:={
  mixed:=by kernel_rfl
  f137:=Tryz.func197.trans (congrArg some (by kernel_rfl))
  f217:=Tryz.func256.trans (congrArg some (by kernel_rfl))
  f266:=Tryz.func320.trans (congrArg some (by kernel_rfl))
  t3:=Tryz.underlying3
  a3:=Tryz.isAgg3
  z3:=Tryz.sizeOf3
  v3:=Tryz.zeroValue3
  t5:=Tryz.underlying5
  a5:=Tryz.isAgg5
  z5:=Tryz.sizeOf5
  v5:=Tryz.zeroValue5
  t9:=Tryz.underlying9
  a9:=Tryz.isAgg9
  z9:=Tryz.sizeOf9
  v9:=Tryz.zeroValue9 }
open Go.RowKit in
theorem Tryz.strings_IndexByte (s : ByteArray) (c : Int) (w : World) :
    Calls Tryz.prog 197 #[.string s, .int .u8 c] w fun e w'=>e=.returned (.int .i64 (Lib.indexByte s.data.toList c.toNat.toUInt8))∧w'=w:=Any.strings_IndexByte Tryz.lays137 s c w
open Go.RowKit in
theorem Tryz.Builder_Len_f (B b : Nat) (bs : List Value) (w : World) (h : Lib.IsBuilderF 130 5 B b bs w) :
    Calls Tryz.prog 63 #[.pointer (some ⟨b, 0, none⟩)] w fun e w'=>e=.returned (.int .i64 bs.length)∧w'=w:=Any.Builder_Len_f Tryz.lays170 B b bs w h
open Go.RowKit in
theorem Tryz.Builder_String_any_f (B b : Nat) (l : List UInt8) (w : World) (h : Lib.IsBuilderF 130 5 B b (Lib.byteCells l) w) (hBw : B ≤ w.heap.size) :
    Calls Tryz.prog 65 #[.pointer (some ⟨b, 0, none⟩)] w fun e w'=>e=.returned (.string ⟨l.toArray⟩)∧(Lib.IsBuilderF 130 5 B b (Lib.byteCells l) w'∧Below B w w'):=Any.Builder_String_any_f Tryz.lays169 Tryz.Builder_Extra_169 B b l w h hBw
def Tryz.lays172_ren:Go.Shelf.Ren:=⟨fun|172=>264|244=>326|245=>327|247=>366|279=>367|280=>368|281=>369|282=>370|287=>397|316=>398|171=>380|205=>399|321=>410|322=>411|243=>401|246=>412|283=>415|284=>416|285=>417|286=>418|129=>420|317=>419|318=>421|319=>422|320=>423|337=>424|338=>425|n=>n, fun|9=>9|3=>3|75=>133|76=>134|4=>4|5=>5|167=>411|37=>128|0=>0|85=>412|2=>2|168=>414|53=>385|175=>426|46=>322|210=>429|127=>241|145=>441|143=>439|21=>21|171=>446|173=>449|212=>452|51=>420|20=>20|213=>453|232=>456|233=>457|80=>136|n=>n, fun|15=>1|16=>2|17=>5|18=>6|19=>7|n=>n⟩
theorem Tryz.lays172:Go.Proofs.Lays.n172 Tryz.prog Tryz.lays172_ren:={
  mixed:=by kernel_rfl
  f129:=Tryz.func420.trans (congrArg some (by kernel_rfl))
  f171:=Tryz.func380.trans (congrArg some (by kernel_rfl))
  f172:=Tryz.func264.trans (congrArg some (by kernel_rfl))
  f205:=Tryz.func399.trans (congrArg some (by kernel_rfl))
  f243:=Tryz.func401.trans (congrArg some (by kernel_rfl))
  f244:=Tryz.func326.trans (congrArg some (by kernel_rfl))
  f245:=Tryz.func327.trans (congrArg some (by kernel_rfl))
  f246:=Tryz.func412.trans (congrArg some (by kernel_rfl))
  f247:=Tryz.func366.trans (congrArg some (by kernel_rfl))
  f279:=Tryz.func367.trans (congrArg some (by kernel_rfl))
  f280:=Tryz.func368.trans (congrArg some (by kernel_rfl))
  f281:=Tryz.func369.trans (congrArg some (by kernel_rfl))
  f282:=Tryz.func370.trans (congrArg some (by kernel_rfl))
  f283:=Tryz.func415.trans (congrArg some (by kernel_rfl))
  f284:=Tryz.func416.trans (congrArg some (by kernel_rfl))
  f285:=Tryz.func417.trans (congrArg some (by kernel_rfl))
  f286:=Tryz.func418.trans (congrArg some (by kernel_rfl))
  f287:=Tryz.func397.trans (congrArg some (by kernel_rfl))
  f316:=Tryz.func398.trans (congrArg some (by kernel_rfl))
  f317:=Tryz.func419.trans (congrArg some (by kernel_rfl))
  f318:=Tryz.func421.trans (congrArg some (by kernel_rfl))
  f319:=Tryz.func422.trans (congrArg some (by kernel_rfl))
  f320:=Tryz.func423.trans (congrArg some (by kernel_rfl))
  f321:=Tryz.func410.trans (congrArg some (by kernel_rfl))
  f322:=Tryz.func411.trans (congrArg some (by kernel_rfl))
  f337:=Tryz.func424.trans (congrArg some (by kernel_rfl))
  f338:=Tryz.func425.trans (congrArg some (by kernel_rfl))
  t0:=Tryz.underlying0
  a0:=Tryz.isAgg0
  z0:=Tryz.sizeOf0
  v0:=Tryz.zeroValue0
  t2:=Tryz.underlying2
  a2:=Tryz.isAgg2
  z2:=Tryz.sizeOf2
  v2:=Tryz.zeroValue2
  t3:=Tryz.underlying3
  a3:=Tryz.isAgg3
  z3:=Tryz.sizeOf3
  v3:=Tryz.zeroValue3
  t4:=Tryz.underlying4
  a4:=Tryz.isAgg4
  z4:=Tryz.sizeOf4
  v4:=Tryz.zeroValue4
  t5:=Tryz.underlying5
  a5:=Tryz.isAgg5
  z5:=Tryz.sizeOf5
  v5:=Tryz.zeroValue5
  t9:=Tryz.underlying9
  a9:=Tryz.isAgg9
  z9:=Tryz.sizeOf9
  v9:=Tryz.zeroValue9
  t20:=Tryz.underlying20
  a20:=Tryz.isAgg20
  z20:=Tryz.sizeOf20
  v20:=Tryz.zeroValue20
  t21:=Tryz.underlying21
  a21:=Tryz.isAgg21
  z21:=Tryz.sizeOf21
  v21:=Tryz.zeroValue21
  t37:=Tryz.underlying128
  a37:=Tryz.isAgg128
  z37:=Tryz.sizeOf128
  v37:=Tryz.zeroValue128
  t46:=Tryz.underlying322
  a46:=Tryz.isAgg322
  z46:=Tryz.sizeOf322
  v46:=Tryz.zeroValue322
  t51:=Tryz.underlying420
  a51:=Tryz.isAgg420
  z51:=Tryz.sizeOf420
  v51:=Tryz.zeroValue420
  t53:=Tryz.underlying385
  a53:=Tryz.isAgg385
  z53:=Tryz.sizeOf385
  v53:=Tryz.zeroValue385
  t75:=Tryz.underlying133
  a75:=Tryz.isAgg133
  z75:=Tryz.sizeOf133
  v75:=Tryz.zeroValue133
  t76:=Tryz.underlying134
  a76:=Tryz.isAgg134
  z76:=Tryz.sizeOf134
  v76:=Tryz.zeroValue134
  t85:=Tryz.underlying412
  a85:=Tryz.isAgg412
  z85:=Tryz.sizeOf412
  v85:=Tryz.zeroValue412
  t127:=Tryz.underlying241
  a127:=Tryz.isAgg241
  z127:=Tryz.sizeOf241
  v127:=Tryz.zeroValue241
  t143:=Tryz.underlying439
  a143:=Tryz.isAgg439
  z143:=Tryz.sizeOf439
  v143:=Tryz.zeroValue439
  t145:=Tryz.underlying441
  a145:=Tryz.isAgg441
  z145:=Tryz.sizeOf441
  v145:=Tryz.zeroValue441
  t167:=Tryz.underlying411
  a167:=Tryz.isAgg411
  z167:=Tryz.sizeOf411
  v167:=Tryz.zeroValue411
  t168:=Tryz.underlying414
  a168:=Tryz.isAgg414
  z168:=Tryz.sizeOf414
  v168:=Tryz.zeroValue414
  t171:=Tryz.underlying446
  a171:=Tryz.isAgg446
  z171:=Tryz.sizeOf446
  v171:=Tryz.zeroValue446
  t173:=Tryz.underlying449
  a173:=Tryz.isAgg449
  z173:=Tryz.sizeOf449
  v173:=Tryz.zeroValue449
  t175:=Tryz.underlying426
  a175:=Tryz.isAgg426
  z175:=Tryz.sizeOf426
  v175:=Tryz.zeroValue426
  t210:=Tryz.underlying429
  a210:=Tryz.isAgg429
  z210:=Tryz.sizeOf429
  v210:=Tryz.zeroValue429
  t212:=Tryz.underlying452
  a212:=Tryz.isAgg452
  z212:=Tryz.sizeOf452
  v212:=Tryz.zeroValue452
  t213:=Tryz.underlying453
  a213:=Tryz.isAgg453
  z213:=Tryz.sizeOf453
  t232:=Tryz.underlying456
  a232:=Tryz.isAgg456
  z232:=Tryz.sizeOf456
  v232:=Tryz.zeroValue456
  t233:=Tryz.underlying457
  a233:=Tryz.isAgg457
  z233:=Tryz.sizeOf457
  v233:=Tryz.zeroValue457
  g15:=by kernel_rfl
  g16:=by kernel_rfl
  g17:=by kernel_rfl
  g18:=by kernel_rfl
  g19:=by kernel_rfl }
open Go.RowKit in
theorem Tryz.strconv_Atoi (s : ByteArray) (n : Int) (hl : s.size ≤ 18) (h : Lib.atoi s.data.toList = some n) (w : World) :
    Calls Tryz.prog 264 #[.string s] w fun e w'=>e=.returned (.tuple #[.int .i64 n, .nilIface])∧∃ t, w'=Lib.bytesWorld w 5 t:=Any.strconv_Atoi Tryz.lays172 s n hl h w
def Tryz.laysM171_ren:Go.Shelf.Ren:=⟨fun|171=>380|243=>401|246=>412|283=>415|284=>416|285=>417|286=>418|129=>420|317=>419|318=>421|319=>422|320=>423|337=>424|338=>425|n=>n, fun|3=>3|9=>9|2=>2|4=>4|171=>446|0=>0|53=>385|37=>128|5=>5|173=>449|212=>452|51=>420|20=>20|213=>453|46=>322|232=>456|233=>457|n=>n, fun|17=>5|18=>6|19=>7|n=>n⟩
theorem Tryz.laysM171:Go.Proofs.LaysM.n171 Tryz.prog Tryz.laysM171_ren:={
  mixed:=by kernel_rfl
  f129:=Tryz.func420.trans (congrArg some (by kernel_rfl))
  f171:=Tryz.func380.trans (congrArg some (by kernel_rfl))
  f243:=Tryz.func401.trans (congrArg some (by kernel_rfl))
  f246:=Tryz.func412.trans (congrArg some (by kernel_rfl))
  f283:=Tryz.func415.trans (congrArg some (by kernel_rfl))
  f284:=Tryz.func416.trans (congrArg some (by kernel_rfl))
  f285:=Tryz.func417.trans (congrArg some (by kernel_rfl))
  f286:=Tryz.func418.trans (congrArg some (by kernel_rfl))
  f317:=Tryz.func419.trans (congrArg some (by kernel_rfl))
  f318:=Tryz.func421.trans (congrArg some (by kernel_rfl))
  f319:=Tryz.func422.trans (congrArg some (by kernel_rfl))
  f320:=Tryz.func423.trans (congrArg some (by kernel_rfl))
  f337:=Tryz.func424.trans (congrArg some (by kernel_rfl))
  f338:=Tryz.func425.trans (congrArg some (by kernel_rfl))
  t0:=Tryz.underlying0
  a0:=Tryz.isAgg0
  z0:=Tryz.sizeOf0
  v0:=Tryz.zeroValue0
  t2:=Tryz.underlying2
  a2:=Tryz.isAgg2
  z2:=Tryz.sizeOf2
  v2:=Tryz.zeroValue2
  t3:=Tryz.underlying3
  a3:=Tryz.isAgg3
  z3:=Tryz.sizeOf3
  v3:=Tryz.zeroValue3
  t4:=Tryz.underlying4
  a4:=Tryz.isAgg4
  z4:=Tryz.sizeOf4
  v4:=Tryz.zeroValue4
  t5:=Tryz.underlying5
  a5:=Tryz.isAgg5
  z5:=Tryz.sizeOf5
  v5:=Tryz.zeroValue5
  t9:=Tryz.underlying9
  a9:=Tryz.isAgg9
  z9:=Tryz.sizeOf9
  v9:=Tryz.zeroValue9
  t20:=Tryz.underlying20
  a20:=Tryz.isAgg20
  z20:=Tryz.sizeOf20
  v20:=Tryz.zeroValue20
  t37:=Tryz.underlying128
  a37:=Tryz.isAgg128
  z37:=Tryz.sizeOf128
  v37:=Tryz.zeroValue128
  t46:=Tryz.underlying322
  a46:=Tryz.isAgg322
  z46:=Tryz.sizeOf322
  v46:=Tryz.zeroValue322
  t51:=Tryz.underlying420
  a51:=Tryz.isAgg420
  z51:=Tryz.sizeOf420
  v51:=Tryz.zeroValue420
  t53:=Tryz.underlying385
  a53:=Tryz.isAgg385
  z53:=Tryz.sizeOf385
  v53:=Tryz.zeroValue385
  t171:=Tryz.underlying446
  a171:=Tryz.isAgg446
  z171:=Tryz.sizeOf446
  v171:=Tryz.zeroValue446
  t173:=Tryz.underlying449
  a173:=Tryz.isAgg449
  z173:=Tryz.sizeOf449
  v173:=Tryz.zeroValue449
  t212:=Tryz.underlying452
  a212:=Tryz.isAgg452
  z212:=Tryz.sizeOf452
  v212:=Tryz.zeroValue452
  t213:=Tryz.underlying453
  a213:=Tryz.isAgg453
  z213:=Tryz.sizeOf453
  t232:=Tryz.underlying456
  a232:=Tryz.isAgg456
  z232:=Tryz.sizeOf456
  v232:=Tryz.zeroValue456
  t233:=Tryz.underlying457
  a233:=Tryz.isAgg457
  z233:=Tryz.sizeOf457
  v233:=Tryz.zeroValue457
  g17:=by kernel_rfl
  g18:=by kernel_rfl
  g19:=by kernel_rfl
  i0:=by kernel_rfl
  i2:=by kernel_rfl
  i3:=by kernel_rfl
  i4:=by kernel_rfl
  i5:=by kernel_rfl
  i9:=by kernel_rfl
  i20:=by kernel_rfl
  i37:=by kernel_rfl
  i46:=by kernel_rfl
  i51:=by kernel_rfl
  i53:=by kernel_rfl
  i171:=by kernel_rfl
  i173:=by kernel_rfl
  i212:=by kernel_rfl
  i232:=by kernel_rfl
  i233:=by kernel_rfl
  m17:=by kernel_rfl
  m18:=by kernel_rfl
  m19:=by kernel_rfl }
open Go.RowKit Go.Sort Go.Lib in
theorem Tryz.strconv_Itoa (n : Int) (h0 : -9223372036854775808 ≤ n) (h1 : n ≤ 9223372036854775807) (w : World) (htab : Lib.TabIs Tryz.prog w "internal/strconv.uint64pow10" .u64 Lib.pow10Tab) :
    Calls Tryz.prog 380 #[.int .i64 n] w fun e w'=>e=.returned (.string ⟨(Lib.itoa n).toArray⟩)∧∃ k os, w'=grow (w.drewN k) os:=Any.strconv_Itoa Tryz.laysM171 n h0 h1 w htab
def Tryz.lays217_ren:Go.Shelf.Ren:=⟨fun|217=>256|266=>320|n=>n, fun|9=>9|5=>5|3=>3|n=>n, fun|n=>n⟩
theorem Tryz.lays217:Go.Proofs.Lays.n217 Tryz.prog Tryz.lays217_ren:={
  mixed:=by kernel_rfl
  f217:=Tryz.func256.trans (congrArg some (by kernel_rfl))
  f266:=Tryz.func320.trans (congrArg some (by kernel_rfl))
  t3:=Tryz.underlying3
  a3:=Tryz.isAgg3
  z3:=Tryz.sizeOf3
  v3:=Tryz.zeroValue3
  t5:=Tryz.underlying5
  a5:=Tryz.isAgg5
  z5:=Tryz.sizeOf5
  v5:=Tryz.zeroValue5
  t9:=Tryz.underlying9
  a9:=Tryz.isAgg9
  z9:=Tryz.sizeOf9
  v9:=Tryz.zeroValue9 }
open Go.RowKit Go.Lib in
theorem Tryz.stringslite_IndexByte (s : ByteArray) (c : Int) (w : World) :
    Calls Tryz.prog 256 #[.string s, .int .u8 c] w fun e w'=>e=.returned (.int .i64 (Lib.indexByte s.data.toList c.toNat.toUInt8))∧w'=w:=Any.stringslite_IndexByte Tryz.lays217 s c w
def Tryz.lays219_ren:Go.Shelf.Ren:=⟨fun|219=>385|217=>256|225=>402|224=>403|267=>404|266=>320|314=>413|n=>n, fun|9=>9|3=>3|4=>4|5=>5|46=>322|146=>443|51=>420|n=>n, fun|1=>0|n=>n⟩
theorem Tryz.lays219:Go.Proofs.Lays.n219 Tryz.prog Tryz.lays219_ren:={
  mixed:=by kernel_rfl
  f217:=Tryz.func256.trans (congrArg some (by kernel_rfl))
  f219:=Tryz.func385.trans (congrArg some (by kernel_rfl))
  f224:=Tryz.func403.trans (congrArg some (by kernel_rfl))
  f225:=Tryz.func402.trans (congrArg some (by kernel_rfl))
  f266:=Tryz.func320.trans (congrArg some (by kernel_rfl))
  f267:=Tryz.func404.trans (congrArg some (by kernel_rfl))
  f314:=Tryz.func413.trans (congrArg some (by kernel_rfl))
  t3:=Tryz.underlying3
  a3:=Tryz.isAgg3
  z3:=Tryz.sizeOf3
  v3:=Tryz.zeroValue3
  t4:=Tryz.underlying4
  a4:=Tryz.isAgg4
  z4:=Tryz.sizeOf4
  v4:=Tryz.zeroValue4
  t5:=Tryz.underlying5
  a5:=Tryz.isAgg5
  z5:=Tryz.sizeOf5
  v5:=Tryz.zeroValue5
  t9:=Tryz.underlying9
  a9:=Tryz.isAgg9
  z9:=Tryz.sizeOf9
  v9:=Tryz.zeroValue9
  t46:=Tryz.underlying322
  a46:=Tryz.isAgg322
  z46:=Tryz.sizeOf322
  v46:=Tryz.zeroValue322
  t51:=Tryz.underlying420
  a51:=Tryz.isAgg420
  z51:=Tryz.sizeOf420
  v51:=Tryz.zeroValue420
  t146:=Tryz.underlying443
  a146:=Tryz.isAgg443
  z146:=Tryz.sizeOf443
  v146:=Tryz.zeroValue443
  g1:=by kernel_rfl }
open Go.RowKit Go.Lib in
theorem Tryz.stringslite_Index (s sub : ByteArray) (m : Int) (w : World) (hs : s.size < 4294967281) (hm : w.cell? ⟨0, 0, none⟩ = some (.int .i64 m)) :
    Calls Tryz.prog 385 #[.string s, .string sub] w fun e w'=>e=.returned (.int .i64 (Lib.index s.data.toList sub.data.toList))∧w'=w:=Any.stringslite_Index Tryz.lays219 s sub m w hs hm
def Tryz.lays143_ren:Go.Shelf.Ren:=⟨fun|143=>354|219=>385|217=>256|225=>402|224=>403|267=>404|266=>320|314=>413|n=>n, fun|9=>9|3=>3|4=>4|5=>5|46=>322|146=>443|51=>420|n=>n, fun|1=>0|n=>n⟩
theorem Tryz.lays143:Go.Proofs.Lays.n143 Tryz.prog Tryz.lays143_ren:={
  mixed:=by kernel_rfl
  f143:=Tryz.func354.trans (congrArg some (by kernel_rfl))
  f217:=Tryz.func256.trans (congrArg some (by kernel_rfl))
  f219:=Tryz.func385.trans (congrArg some (by kernel_rfl))
  f224:=Tryz.func403.trans (congrArg some (by kernel_rfl))
  f225:=Tryz.func402.trans (congrArg some (by kernel_rfl))
  f266:=Tryz.func320.trans (congrArg some (by kernel_rfl))
  f267:=Tryz.func404.trans (congrArg some (by kernel_rfl))
  f314:=Tryz.func413.trans (congrArg some (by kernel_rfl))
  t3:=Tryz.underlying3
  a3:=Tryz.isAgg3
  z3:=Tryz.sizeOf3
  v3:=Tryz.zeroValue3
  t4:=Tryz.underlying4
  a4:=Tryz.isAgg4
  z4:=Tryz.sizeOf4
  v4:=Tryz.zeroValue4
  t5:=Tryz.underlying5
  a5:=Tryz.isAgg5
  z5:=Tryz.sizeOf5
  v5:=Tryz.zeroValue5
  t9:=Tryz.underlying9
  a9:=Tryz.isAgg9
  z9:=Tryz.sizeOf9
  v9:=Tryz.zeroValue9
  t46:=Tryz.underlying322
  a46:=Tryz.isAgg322
  z46:=Tryz.sizeOf322
  v46:=Tryz.zeroValue322
  t51:=Tryz.underlying420
  a51:=Tryz.isAgg420
  z51:=Tryz.sizeOf420
  v51:=Tryz.zeroValue420
  t146:=Tryz.underlying443
  a146:=Tryz.isAgg443
  z146:=Tryz.sizeOf443
  v146:=Tryz.zeroValue443
  g1:=by kernel_rfl }
open Go.RowKit Go.Lib in
theorem Tryz.strings_Index (s sub : ByteArray) (m : Int) (w : World) (hs : s.size < 4294967281) (hm : w.cell? ⟨0, 0, none⟩ = some (.int .i64 m)) :
    Calls Tryz.prog 354 #[.string s, .string sub] w fun e w'=>e=.returned (.int .i64 (Lib.index s.data.toList sub.data.toList))∧w'=w:=Any.strings_Index Tryz.lays143 s sub m w hs hm
def Tryz.lays144_ren:Go.Shelf.Ren:=⟨fun|144=>297|143=>354|219=>385|217=>256|225=>402|224=>403|267=>404|266=>320|314=>413|n=>n, fun|9=>9|4=>4|3=>3|5=>5|46=>322|146=>443|51=>420|n=>n, fun|1=>0|n=>n⟩
theorem Tryz.lays144:Go.Proofs.Lays.n144 Tryz.prog Tryz.lays144_ren:={
  mixed:=by kernel_rfl
  f143:=Tryz.func354.trans (congrArg some (by kernel_rfl))
  f144:=Tryz.func297.trans (congrArg some (by kernel_rfl))
  f217:=Tryz.func256.trans (congrArg some (by kernel_rfl))
  f219:=Tryz.func385.trans (congrArg some (by kernel_rfl))
  f224:=Tryz.func403.trans (congrArg some (by kernel_rfl))
  f225:=Tryz.func402.trans (congrArg some (by kernel_rfl))
  f266:=Tryz.func320.trans (congrArg some (by kernel_rfl))
  f267:=Tryz.func404.trans (congrArg some (by kernel_rfl))
  f314:=Tryz.func413.trans (congrArg some (by kernel_rfl))
  t3:=Tryz.underlying3
  a3:=Tryz.isAgg3
  z3:=Tryz.sizeOf3
  v3:=Tryz.zeroValue3
  t4:=Tryz.underlying4
  a4:=Tryz.isAgg4
  z4:=Tryz.sizeOf4
  v4:=Tryz.zeroValue4
  t5:=Tryz.underlying5
  a5:=Tryz.isAgg5
  z5:=Tryz.sizeOf5
  v5:=Tryz.zeroValue5
  t9:=Tryz.underlying9
  a9:=Tryz.isAgg9
  z9:=Tryz.sizeOf9
  v9:=Tryz.zeroValue9
  t46:=Tryz.underlying322
  a46:=Tryz.isAgg322
  z46:=Tryz.sizeOf322
  v46:=Tryz.zeroValue322
  t51:=Tryz.underlying420
  a51:=Tryz.isAgg420
  z51:=Tryz.sizeOf420
  v51:=Tryz.zeroValue420
  t146:=Tryz.underlying443
  a146:=Tryz.isAgg443
  z146:=Tryz.sizeOf443
  v146:=Tryz.zeroValue443
  g1:=by kernel_rfl }
open Go.RowKit Go.Lib in
theorem Tryz.strings_Contains_one (s : ByteArray) (c : UInt8) (w : World) :
    Calls Tryz.prog 297 #[.string s, .string ⟨#[c]⟩] w fun e w'=>e=.returned (.bool (decide (0≤Lib.indexByte s.data.toList c)))∧w'=w:=Any.strings_Contains_one Tryz.lays144 s c w
def Tryz.lays138_ren:Go.Shelf.Ren:=⟨fun|138=>392|195=>408|218=>409|143=>354|219=>385|217=>256|225=>402|224=>403|267=>404|266=>320|314=>413|n=>n, fun|9=>9|3=>3|4=>4|5=>5|0=>0|46=>322|146=>443|51=>420|n=>n, fun|1=>0|n=>n⟩
theorem Tryz.lays138:Go.Proofs.Lays.n138 Tryz.prog Tryz.lays138_ren:={
  mixed:=by kernel_rfl
  f138:=Tryz.func392.trans (congrArg some (by kernel_rfl))
  f143:=Tryz.func354.trans (congrArg some (by kernel_rfl))
  f195:=Tryz.func408.trans (congrArg some (by kernel_rfl))
  f217:=Tryz.func256.trans (congrArg some (by kernel_rfl))
  f218:=Tryz.func409.trans (congrArg some (by kernel_rfl))
  f219:=Tryz.func385.trans (congrArg some (by kernel_rfl))
  f224:=Tryz.func403.trans (congrArg some (by kernel_rfl))
  f225:=Tryz.func402.trans (congrArg some (by kernel_rfl))
  f266:=Tryz.func320.trans (congrArg some (by kernel_rfl))
  f267:=Tryz.func404.trans (congrArg some (by kernel_rfl))
  f314:=Tryz.func413.trans (congrArg some (by kernel_rfl))
  t0:=Tryz.underlying0
  a0:=Tryz.isAgg0
  z0:=Tryz.sizeOf0
  v0:=Tryz.zeroValue0
  t3:=Tryz.underlying3
  a3:=Tryz.isAgg3
  z3:=Tryz.sizeOf3
  v3:=Tryz.zeroValue3
  t4:=Tryz.underlying4
  a4:=Tryz.isAgg4
  z4:=Tryz.sizeOf4
  v4:=Tryz.zeroValue4
  t5:=Tryz.underlying5
  a5:=Tryz.isAgg5
  z5:=Tryz.sizeOf5
  v5:=Tryz.zeroValue5
  t9:=Tryz.underlying9
  a9:=Tryz.isAgg9
  z9:=Tryz.sizeOf9
  v9:=Tryz.zeroValue9
  t46:=Tryz.underlying322
  a46:=Tryz.isAgg322
  z46:=Tryz.sizeOf322
  v46:=Tryz.zeroValue322
  t51:=Tryz.underlying420
  a51:=Tryz.isAgg420
  z51:=Tryz.sizeOf420
  v51:=Tryz.zeroValue420
  t146:=Tryz.underlying443
  a146:=Tryz.isAgg443
  z146:=Tryz.sizeOf443
  v146:=Tryz.zeroValue443
  g1:=by kernel_rfl }
open Go.RowKit Go.Lib in
theorem Tryz.strings_Count_one (s : ByteArray) (c : UInt8) (w : World) :
    Calls Tryz.prog 392 #[.string s, .string ⟨#[c]⟩] w fun e w'=>e=.returned (.int .i64 (Lib.countByte s.data.toList c))∧w'=w:=Any.strings_Count_one Tryz.lays138 s c w
def Tryz.lays101_ren:Go.Shelf.Ren:=⟨fun|101=>300|208=>357|206=>393|n=>n, fun|9=>9|4=>4|3=>3|n=>n, fun|n=>n⟩
theorem Tryz.lays101:Go.Proofs.Lays.n101 Tryz.prog Tryz.lays101_ren:={
  mixed:=by kernel_rfl
  f101:=Tryz.func300.trans (congrArg some (by kernel_rfl))
  f206:=Tryz.func393.trans (congrArg some (by kernel_rfl))
  f208:=Tryz.func357.trans (congrArg some (by kernel_rfl))
  t3:=Tryz.underlying3
  a3:=Tryz.isAgg3
  z3:=Tryz.sizeOf3
  v3:=Tryz.zeroValue3
  t4:=Tryz.underlying4
  a4:=Tryz.isAgg4
  z4:=Tryz.sizeOf4
  v4:=Tryz.zeroValue4
  t9:=Tryz.underlying9
  a9:=Tryz.isAgg9
  z9:=Tryz.sizeOf9
  v9:=Tryz.zeroValue9 }
open Go.RowKit Go.Lib in
theorem Tryz.strings_TrimPrefix (s p : ByteArray) (w : World) :
    Calls Tryz.prog 300 #[.string s, .string p] w fun e w'=>e=.returned (.string ⟨(Lib.trimPrefix s.data.toList p.data.toList).toArray⟩)∧w'=w:=Any.strings_TrimPrefix Tryz.lays101 s p w
def Tryz.lays102_ren:Go.Shelf.Ren:=⟨fun|102=>273|209=>343|207=>325|n=>n, fun|9=>9|4=>4|3=>3|n=>n, fun|n=>n⟩
theorem Tryz.lays102:Go.Proofs.Lays.n102 Tryz.prog Tryz.lays102_ren:={
  mixed:=by kernel_rfl
  f102:=Tryz.func273.trans (congrArg some (by kernel_rfl))
  f207:=Tryz.func325.trans (congrArg some (by kernel_rfl))
  f209:=Tryz.func343.trans (congrArg some (by kernel_rfl))
  t3:=Tryz.underlying3
  a3:=Tryz.isAgg3
  z3:=Tryz.sizeOf3
  v3:=Tryz.zeroValue3
  t4:=Tryz.underlying4
  a4:=Tryz.isAgg4
  z4:=Tryz.sizeOf4
  v4:=Tryz.zeroValue4
  t9:=Tryz.underlying9
  a9:=Tryz.isAgg9
  z9:=Tryz.sizeOf9
  v9:=Tryz.zeroValue9 }
open Go.RowKit Go.Lib in
theorem Tryz.strings_TrimSuffix (s p : ByteArray) (w : World) (hs : s.size ≤ 9223372036854775807) :
    Calls Tryz.prog 273 #[.string s, .string p] w fun e w'=>e=.returned (.string ⟨(Lib.trimSuffix s.data.toList p.data.toList).toArray⟩)∧w'=w:=Any.strings_TrimSuffix Tryz.lays102 s p w hs
def Tryz.lays146_ren:Go.Shelf.Ren:=⟨fun|146=>299|221=>356|268=>391|138=>392|143=>354|195=>408|197=>355|218=>409|219=>385|260=>390|217=>256|225=>402|224=>403|267=>404|266=>320|314=>413|n=>n, fun|9=>9|31=>22|3=>3|4=>4|0=>0|105=>406|21=>21|5=>5|46=>322|119=>434|139=>437|138=>436|146=>443|51=>420|n=>n, fun|1=>0|3=>3|4=>4|n=>n⟩
theorem Tryz.lays146:Go.Proofs.Lays.n146 Tryz.prog Tryz.lays146_ren:={
  mixed:=by kernel_rfl
  f138:=Tryz.func392.trans (congrArg some (by kernel_rfl))
  f143:=Tryz.func354.trans (congrArg some (by kernel_rfl))
  f146:=Tryz.func299.trans (congrArg some (by kernel_rfl))
  f195:=Tryz.func408.trans (congrArg some (by kernel_rfl))
  f197:=Tryz.func355.trans (congrArg some (by kernel_rfl))
  f217:=Tryz.func256.trans (congrArg some (by kernel_rfl))
  f218:=Tryz.func409.trans (congrArg some (by kernel_rfl))
  f219:=Tryz.func385.trans (congrArg some (by kernel_rfl))
  f221:=Tryz.func356.trans (congrArg some (by kernel_rfl))
  f224:=Tryz.func403.trans (congrArg some (by kernel_rfl))
  f225:=Tryz.func402.trans (congrArg some (by kernel_rfl))
  f260:=Tryz.func390.trans (congrArg some (by kernel_rfl))
  f266:=Tryz.func320.trans (congrArg some (by kernel_rfl))
  f267:=Tryz.func404.trans (congrArg some (by kernel_rfl))
  f268:=Tryz.func391.trans (congrArg some (by kernel_rfl))
  f314:=Tryz.func413.trans (congrArg some (by kernel_rfl))
  t0:=Tryz.underlying0
  a0:=Tryz.isAgg0
  z0:=Tryz.sizeOf0
  v0:=Tryz.zeroValue0
  t3:=Tryz.underlying3
  a3:=Tryz.isAgg3
  z3:=Tryz.sizeOf3
  v3:=Tryz.zeroValue3
  t4:=Tryz.underlying4
  a4:=Tryz.isAgg4
  z4:=Tryz.sizeOf4
  v4:=Tryz.zeroValue4
  t5:=Tryz.underlying5
  a5:=Tryz.isAgg5
  z5:=Tryz.sizeOf5
  v5:=Tryz.zeroValue5
  t9:=Tryz.underlying9
  a9:=Tryz.isAgg9
  z9:=Tryz.sizeOf9
  v9:=Tryz.zeroValue9
  t21:=Tryz.underlying21
  a21:=Tryz.isAgg21
  z21:=Tryz.sizeOf21
  v21:=Tryz.zeroValue21
  t31:=Tryz.underlying22
  a31:=Tryz.isAgg22
  z31:=Tryz.sizeOf22
  v31:=Tryz.zeroValue22
  t46:=Tryz.underlying322
  a46:=Tryz.isAgg322
  z46:=Tryz.sizeOf322
  v46:=Tryz.zeroValue322
  t51:=Tryz.underlying420
  a51:=Tryz.isAgg420
  z51:=Tryz.sizeOf420
  v51:=Tryz.zeroValue420
  t105:=Tryz.underlying406
  a105:=Tryz.isAgg406
  z105:=Tryz.sizeOf406
  v105:=Tryz.zeroValue406
  t119:=Tryz.underlying434
  a119:=Tryz.isAgg434
  z119:=Tryz.sizeOf434
  t138:=Tryz.underlying436
  a138:=Tryz.isAgg436
  z138:=Tryz.sizeOf436
  v138:=Tryz.zeroValue436
  t139:=Tryz.underlying437
  a139:=Tryz.isAgg437
  z139:=Tryz.sizeOf437
  v139:=Tryz.zeroValue437
  t146:=Tryz.underlying443
  a146:=Tryz.isAgg443
  z146:=Tryz.sizeOf443
  v146:=Tryz.zeroValue443
  g1:=by kernel_rfl
  g3:=by kernel_rfl
  g4:=by kernel_rfl }
open Go.RowKit Go.Lib in
theorem Tryz.strings_Split (s sep : ByteArray) (m : Int) (w : World) (hs : s.size < 4294967281) (hm : w.cell? ⟨0, 0, none⟩ = some (.int .i64 m)) (h1 : 1 ≤ sep.size) :
    Calls Tryz.prog 299 #[.string s, .string sep] w fun e w' =>
      e=.returned (.slice (some ⟨w.heap.size, 0, none⟩) (Lib.countB s sep+1) (Lib.countB s sep+1))∧w'=w.alloc (.cells ((Lib.splitB sep 0 (Lib.countB s sep) s).map Value.string).toArray 9):=Any.strings_Split Tryz.lays146 (by kernel_rfl) s sep m w hs hm h1
def Tryz.lays260_ren:Go.Shelf.Ren:=⟨fun|260=>390|n=>n, fun|9=>9|21=>21|3=>3|4=>4|5=>5|119=>434|0=>0|46=>322|139=>437|138=>436|n=>n, fun|3=>3|4=>4|n=>n⟩
theorem Tryz.lays260:Go.Proofs.Lays.n260 Tryz.prog Tryz.lays260_ren:={
  mixed:=by kernel_rfl
  f260:=Tryz.func390.trans (congrArg some (by kernel_rfl))
  t0:=Tryz.underlying0
  a0:=Tryz.isAgg0
  z0:=Tryz.sizeOf0
  v0:=Tryz.zeroValue0
  t3:=Tryz.underlying3
  a3:=Tryz.isAgg3
  z3:=Tryz.sizeOf3
  v3:=Tryz.zeroValue3
  t4:=Tryz.underlying4
  a4:=Tryz.isAgg4
  z4:=Tryz.sizeOf4
  v4:=Tryz.zeroValue4
  t5:=Tryz.underlying5
  a5:=Tryz.isAgg5
  z5:=Tryz.sizeOf5
  v5:=Tryz.zeroValue5
  t9:=Tryz.underlying9
  a9:=Tryz.isAgg9
  z9:=Tryz.sizeOf9
  v9:=Tryz.zeroValue9
  t21:=Tryz.underlying21
  a21:=Tryz.isAgg21
  z21:=Tryz.sizeOf21
  v21:=Tryz.zeroValue21
  t46:=Tryz.underlying322
  a46:=Tryz.isAgg322
  z46:=Tryz.sizeOf322
  v46:=Tryz.zeroValue322
  t119:=Tryz.underlying434
  a119:=Tryz.isAgg434
  z119:=Tryz.sizeOf434
  t138:=Tryz.underlying436
  a138:=Tryz.isAgg436
  z138:=Tryz.sizeOf436
  v138:=Tryz.zeroValue436
  t139:=Tryz.underlying437
  a139:=Tryz.isAgg437
  z139:=Tryz.sizeOf437
  v139:=Tryz.zeroValue437
  g3:=by kernel_rfl
  g4:=by kernel_rfl }
def Tryz.lays197_ren:Go.Shelf.Ren:=⟨fun|197=>355|260=>390|n=>n, fun|9=>9|21=>21|3=>3|4=>4|5=>5|105=>406|119=>434|0=>0|46=>322|139=>437|138=>436|n=>n, fun|3=>3|4=>4|n=>n⟩
theorem Tryz.lays197:Go.Proofs.Lays.n197 Tryz.prog Tryz.lays197_ren:={
  mixed:=by kernel_rfl
  f197:=Tryz.func355.trans (congrArg some (by kernel_rfl))
  f260:=Tryz.func390.trans (congrArg some (by kernel_rfl))
  t0:=Tryz.underlying0
  a0:=Tryz.isAgg0
  z0:=Tryz.sizeOf0
  v0:=Tryz.zeroValue0
  t3:=Tryz.underlying3
  a3:=Tryz.isAgg3
  z3:=Tryz.sizeOf3
  v3:=Tryz.zeroValue3
  t4:=Tryz.underlying4
  a4:=Tryz.isAgg4
  z4:=Tryz.sizeOf4
  v4:=Tryz.zeroValue4
  t5:=Tryz.underlying5
  a5:=Tryz.isAgg5
  z5:=Tryz.sizeOf5
  v5:=Tryz.zeroValue5
  t9:=Tryz.underlying9
  a9:=Tryz.isAgg9
  z9:=Tryz.sizeOf9
  v9:=Tryz.zeroValue9
  t21:=Tryz.underlying21
  a21:=Tryz.isAgg21
  z21:=Tryz.sizeOf21
  v21:=Tryz.zeroValue21
  t46:=Tryz.underlying322
  a46:=Tryz.isAgg322
  z46:=Tryz.sizeOf322
  v46:=Tryz.zeroValue322
  t105:=Tryz.underlying406
  a105:=Tryz.isAgg406
  z105:=Tryz.sizeOf406
  v105:=Tryz.zeroValue406
  t119:=Tryz.underlying434
  a119:=Tryz.isAgg434
  z119:=Tryz.sizeOf434
  t138:=Tryz.underlying436
  a138:=Tryz.isAgg436
  z138:=Tryz.sizeOf436
  v138:=Tryz.zeroValue436
  t139:=Tryz.underlying437
  a139:=Tryz.isAgg437
  z139:=Tryz.sizeOf437
  v139:=Tryz.zeroValue437
  g3:=by kernel_rfl
  g4:=by kernel_rfl }
open Go.RowKit Go.Lib in
theorem Tryz.utf8_DecodeRuneInString (s : ByteArray) (w : World) (hT : Lib.Utf8Tabs 3 4 w) :
    Calls Tryz.prog 355 #[.string s] w fun e w'=>e=.returned (.tuple #[.int .i32 (Lib.decodeGo s).1, .int .i64 (Lib.decodeGo s).2])∧Below w.heap.size w w':=Any.utf8_DecodeRuneInString Tryz.lays197 s w hT
end Go.Proofs
