/- Contracts of the library functions that the program calls. -/
import Derived.Shelf.SlSortCmp.NoneTotal
import Derived.Shelf.SlLaysZ
import Derived.Shelf.Strings.OnBuilder
import Derived.Shelf.Small.Utf8
import Derived.Shelf.Small.Wraps
import Derived.Shelf.Utf8.RuneCount
import Derived.Shelf.Strconv.Itoa3
import Derived.Shelf.Strings.Shaped
import Derived.Shelf.Sort.Plain
import Derived.Shelf.Strings.LastIndex
import Derived.Shelf.Strings.SplitShaped
import Derived.Shelf.Strings.IndexAnyAll
import Derived.Shelf.Strings.Explode
import Derived.Shelf.Strings.Repeat
import Derived.Shelf.Unicode.DecodeAny
import Derived.Shelf.Strings.BuilderCap
import Derived.Shelf.Slices.Turned
import Derived.Shelf.Slices.Clone
import Derived.Shelf.Slices.SearchI
import Derived.Shelf.Slices.Cells
import Derived.Shelf.Slices.In.SortNone
import Derived.Shelf.Slices.Empties2
import Derived.Shelf.SlicesE.Clone
import Derived.Shelf.Path.Small
import Derived.Test.YtfnpcdbnoggloaaGreatDoorProg
namespace Go.Proofs
open Go.Shelf Tryz
theorem kR{p:Prop}(h:p:=by first|kernel_rfl|(intro _;kernel_rfl)):p:=h
def Tryz.lays156_ren:Go.Shelf.Ren:=⟨fun|156=>232|165=>104|166=>105|169=>107|240=>154|241=>155|276=>218|277=>219|n=>n,fun|31=>59|9=>9|3=>3|4=>4|0=>0|20=>20|72=>164|76=>168|70=>161|37=>162|75=>167|127=>214|164=>300|5=>5|80=>171|n=>n,fun|n=>n⟩
theorem Tryz.lays156:Go.Proofs.Lays.n156 Tryz.prog Tryz.lays156_ren:=⟨kR,kR,kR,kR,kR,kR,kR,kR,kR,kR,kR,kR,kR,kR,kR,kR,kR,kR,kR,kR,kR,kR,kR,kR,kR,kR,kR,kR,kR,kR,kR,kR,kR,kR,kR,kR,kR,kR,kR,kR,kR,kR,kR,kR,kR,kR,kR,kR,kR,kR,kR,kR,kR,kR,kR,kR,kR,kR,kR,kR,kR⟩
theorem Tryz.Builder_Extra_156:Builder.Extra Tryz.prog Tryz.lays156_ren:={
  sizeBuilder:=by kernel_rfl
  liesBuilder:=by kernel_rfl
  t5:=underlying5
  a5:=isAgg5
  z5:=sizeOf5
  v5:=zeroValue5
  infoByte:=by kernel_rfl
  cellsByte:=by kernel_rfl
  sizeByte:=by kernel_rfl
  neB5:=by decide }
open Go.RowKit in
theorem Tryz.strings_Join_none(a:Option Addr)(c:Nat)(sep:ByteArray)(w:World):
 Calls Tryz.prog 232 #[.slice a 0 c,.string sep] w λe w'=>e=.returned (.string ⟨#[]⟩)/\w'=w:=Any.strings_Join_none Tryz.lays156 Tryz.Builder_Extra_156 a c sep w
open Go.RowKit in
theorem Tryz.strings_Join(bk o c:Nat)(xs:List ByteArray)(sep:ByteArray)(w:World)(hcells:∀(j:Nat) x,xs[j]? = some x->w.cell? ⟨bk,o+j,none⟩=some (.string x))(hbk:bk<w.heap.size)(hN:xs.length<=140737488355328)(hcap:xs.length<=c)(hlen:(Lib.join (xs.map (·.data.toList)) sep.data.toList).length<=140737488355328):
 Calls Tryz.prog 232 #[.slice (some ⟨bk,o,none⟩) xs.length c,.string sep] w λe w'=>e=.returned (.string ⟨(Lib.join (xs.map (·.data.toList)) sep.data.toList).toArray⟩)/\Below w.heap.size w w':=Any.strings_Join Tryz.lays156 Tryz.Builder_Extra_156 bk o c xs sep w hcells hbk hN hcap hlen
def Tryz.lays119_ren:Go.Shelf.Ren:=⟨fun|119=>366|n=>n,fun|21=>21|4=>4|n=>n,fun|n=>n⟩
theorem Tryz.lays119:Go.Proofs.Lays.n119 Tryz.prog Tryz.lays119_ren:=⟨kR,kR,kR,kR,kR,kR,kR,kR,kR,kR⟩
theorem Tryz.utf8_ValidRune(r:Int)(w:World):
 Calls Tryz.prog 366 #[.int .i32 r] w λe w'=>e=.returned (.bool (Lib.validRune r))/\w'=w:=Any.utf8_ValidRune Tryz.lays119 r w
def Tryz.lays125_ren:Go.Shelf.Ren:=⟨fun|125=>81|128=>122|129=>123|n=>n,fun|46=>49|3=>3|51=>188|53=>190|4=>4|5=>5|9=>9|n=>n,fun|n=>n⟩
theorem Tryz.lays125:Go.Proofs.Lays.n125 Tryz.prog Tryz.lays125_ren:=⟨kR,kR,kR,kR,kR,kR,kR,kR,kR,kR,kR,kR,kR,kR,kR,kR,kR,kR,kR,kR,kR,kR,kR,kR,kR,kR,kR,kR,kR,kR,kR,kR⟩
theorem Tryz.bits_Len(x:Int)(w:World)(h0:0<=x)(h1:x<=18446744073709551615):
 Calls Tryz.prog 81 #[.int .u64 x] w λe w'=>e=.returned (.int .i64 (Lib.bitLen x.toNat))/\w'=w:=Any.bits_Len Tryz.lays125 x w h0 h1
def Tryz.lays106_ren:Go.Shelf.Ren:=⟨fun|106=>249|213=>296|265=>335|n=>n,fun|9=>9|3=>3|n=>n,fun|n=>n⟩
theorem Tryz.lays106:Go.Proofs.Lays.n106 Tryz.prog Tryz.lays106_ren:=⟨kR,kR,kR,kR,kR,kR,kR,kR,kR,kR,kR,kR⟩
open Go.RowKit in
theorem Tryz.strings_Compare(a b:ByteArray)(w:World):
 Calls Tryz.prog 249 #[.string a,.string b] w λe w'=>e=.returned (.int .i64 (Lib.compareBytes a.data.toList b.data.toList))/\w'=w:=Any.strings_Compare Tryz.lays106 a b w
def Tryz.lays137_ren:Go.Shelf.Ren:=⟨fun|137=>365|217=>305|266=>347|n=>n,fun|9=>9|5=>5|3=>3|n=>n,fun|n=>n⟩
theorem Tryz.lays137:Go.Proofs.Lays.n137 Tryz.prog Tryz.lays137_ren:=⟨kR,kR,kR,kR,kR,kR,kR,kR,kR,kR,kR,kR,kR,kR,kR,kR⟩
open Go.RowKit in
theorem Tryz.strings_IndexByte(s:ByteArray)(c:Int)(w:World):
 Calls Tryz.prog 365 #[.string s,.int .u8 c] w λe w'=>e=.returned (.int .i64 (Lib.indexByte s.data.toList c.toNat.toUInt8))/\w'=w:=Any.strings_IndexByte Tryz.lays137 s c w
def Tryz.lays103_ren:Go.Shelf.Ren:=⟨fun|103=>281|210=>325|206=>153|n=>n,fun|9=>9|4=>4|24=>57|3=>3|n=>n,fun|n=>n⟩
theorem Tryz.lays103:Go.Proofs.Lays.n103 Tryz.prog Tryz.lays103_ren:=⟨kR,kR,kR,kR,kR,kR,kR,kR,kR,kR,kR,kR,kR,kR,kR,kR,kR,kR,kR,kR⟩
open Go.RowKit in
theorem Tryz.strings_CutPrefix(s p:ByteArray)(w:World):
 Calls Tryz.prog 281 #[.string s,.string p] w λe w'=>e=.returned (.tuple #[.string ⟨(Lib.trimPrefix s.data.toList p.data.toList).toArray⟩,.bool (Lib.hasPrefix s.data.toList p.data.toList)])/\w'=w:=Any.strings_CutPrefix Tryz.lays103 s p w
def Tryz.lays171_ren:Go.Shelf.Ren:=⟨fun|171=>226|243=>276|246=>318|283=>357|284=>358|285=>359|286=>360|129=>123|317=>374|318=>375|319=>376|320=>377|337=>389|338=>390|n=>n,fun|3=>3|9=>9|2=>2|4=>4|171=>412|0=>0|53=>190|37=>162|5=>5|173=>414|212=>423|51=>188|20=>20|213=>424|46=>49|232=>434|233=>435|n=>n,fun|17=>3|18=>4|19=>5|n=>n⟩
theorem Tryz.lays171:Go.Proofs.Lays.n171 Tryz.prog Tryz.lays171_ren:=⟨kR,kR,kR,kR,kR,kR,kR,kR,kR,kR,kR,kR,kR,kR,kR,kR,kR,kR,kR,kR,kR,kR,kR,kR,kR,kR,kR,kR,kR,kR,kR,kR,kR,kR,kR,kR,kR,kR,kR,kR,kR,kR,kR,kR,kR,kR,kR,kR,kR,kR,kR,kR,kR,kR,kR,kR,kR,kR,kR,kR,kR,kR,kR,kR,kR,kR,kR,kR,kR,kR,kR,underlying424,isAgg424,sizeOf424,kR,kR,kR,kR,kR,kR,kR,kR,kR,kR,kR⟩
open Go.RowKit Go.Sort Go.Lib in
theorem Tryz.strconv_Itoa_small(i:Nat)(hi:i<100)(w:World):
 Calls Tryz.prog 226 #[.int .i64 i] w λe w'=>e=.returned (.string ⟨(Lib.decDigits i).toArray⟩)/\w'=w:=Any.strconv_Itoa_small Tryz.lays171 i hi w
def Tryz.lays144_ren:Go.Shelf.Ren:=⟨fun|144=>259|143=>198|219=>262|217=>305|225=>306|224=>307|267=>308|266=>347|314=>348|n=>n,fun|9=>9|4=>4|3=>3|5=>5|46=>49|146=>210|51=>188|n=>n,fun|1=>0|n=>n⟩
theorem Tryz.lays144:Go.Proofs.Lays.n144 Tryz.prog Tryz.lays144_ren:=⟨kR,kR,kR,kR,kR,kR,kR,kR,kR,kR,kR,kR,kR,kR,kR,kR,kR,kR,kR,kR,kR,kR,kR,kR,kR,kR,kR,kR,kR,kR,kR,kR,kR,kR,kR,kR,kR,kR,kR⟩
open Go.RowKit Go.Lib in
theorem Tryz.strings_Contains_one(s:ByteArray)(c:UInt8)(w:World):
 Calls Tryz.prog 259 #[.string s,.string ⟨#[c]⟩] w λe w'=>e=.returned (.bool (decide (0<=Lib.indexByte s.data.toList c)))/\w'=w:=Any.strings_Contains_one Tryz.lays144 s c w
def Tryz.lays145_ren:Go.Shelf.Ren:=⟨fun|145=>295|220=>334|219=>262|217=>305|225=>306|224=>307|267=>308|266=>347|314=>348|n=>n,fun|9=>9|4=>4|59=>373|3=>3|5=>5|46=>49|146=>210|51=>188|n=>n,fun|1=>0|n=>n⟩
theorem Tryz.lays145:Go.Proofs.Lays.n145 Tryz.prog Tryz.lays145_ren:=⟨kR,kR,kR,kR,kR,kR,kR,kR,kR,kR,kR,kR,kR,kR,kR,kR,kR,kR,kR,kR,kR,kR,kR,kR,kR,kR,kR,kR,kR,kR,kR,kR,kR,kR,kR,kR,kR,kR,kR,kR,kR,kR,kR⟩
open Go.RowKit Go.Lib in
theorem Tryz.strings_Cut(s sep:ByteArray)(m:Int)(w:World)(hs:s.size<4294967281)(hm:w.cell? ⟨0,0,none⟩=some (.int .i64 m)):
 Calls Tryz.prog 295 #[.string s,.string sep] w λe w'=>e=.returned (.tuple #[.string ⟨(Lib.cut s.data.toList sep.data.toList).1.toArray⟩,.string ⟨(Lib.cut s.data.toList sep.data.toList).2.1.toArray⟩,.bool (Lib.cut s.data.toList sep.data.toList).2.2])/\∃n,w'=w.drewN n:=Any.strings_Cut Tryz.lays145 s sep m w hs hm
def Tryz.lays138_ren:Go.Shelf.Ren:=⟨fun|138=>168|195=>237|218=>238|143=>198|219=>262|217=>305|225=>306|224=>307|267=>308|266=>347|314=>348|n=>n,fun|9=>9|3=>3|4=>4|5=>5|0=>0|46=>49|146=>210|51=>188|n=>n,fun|1=>0|n=>n⟩
theorem Tryz.lays138:Go.Proofs.Lays.n138 Tryz.prog Tryz.lays138_ren:=⟨kR,kR,kR,kR,kR,kR,kR,kR,kR,kR,kR,kR,kR,kR,kR,kR,kR,kR,kR,kR,kR,kR,kR,kR,kR,kR,kR,kR,kR,kR,kR,kR,kR,kR,kR,kR,kR,kR,kR,kR,kR,kR,kR,kR,kR⟩
open Go.RowKit Go.Lib in
theorem Tryz.strings_Count_one(s:ByteArray)(c:UInt8)(w:World):
 Calls Tryz.prog 168 #[.string s,.string ⟨#[c]⟩] w λe w'=>e=.returned (.int .i64 (Lib.countByte s.data.toList c))/\w'=w:=Any.strings_Count_one Tryz.lays138 s c w
def Tryz.lays189_ren:Go.Shelf.Ren:=⟨fun|189=>49|125=>81|257=>80|128=>122|129=>123|294=>113|295=>114|296=>115|297=>116|298=>117|299=>118|216=>119|300=>120|301=>121|328=>185|329=>186|330=>187|331=>188|332=>189|215=>190|343=>258|n=>n,fun|28=>24|3=>3|46=>49|0=>0|51=>188|53=>190|4=>4|183=>181|182=>180|131=>185|5=>5|9=>9|218=>275|222=>279|228=>339|229=>340|n=>n,fun|n=>n⟩
theorem Tryz.lays189:Go.Proofs.Lays.n189 Tryz.prog Tryz.lays189_ren:=⟨kR,kR,kR,kR,kR,kR,kR,kR,kR,kR,kR,kR,kR,kR,kR,kR,kR,kR,kR,kR,kR,kR,kR,kR,kR,kR,kR,kR,kR,kR,kR,kR,kR,kR,kR,kR,kR,kR,kR,kR,kR,kR,kR,kR,kR,kR,kR,kR,kR,kR,kR,kR,kR,kR,kR,kR,kR,kR,kR,kR,kR,kR,kR,kR,kR,kR,kR,kR,kR,kR,kR,kR,kR,kR,kR,kR,kR,kR,kR,kR,kR,kR,kR,kR,kR,kR⟩
open Go.Sort Go.RowKit in
theorem Tryz.slices_Sort_int(blk off cap:Nat)(zs:List Int)(w:World)(hH:Holds (Value.int .i64) w blk off zs.toArray)(hblk:blk<w.heap.size)(hsz:zs.length<4611686018427387904):
 Calls Tryz.prog 49 #[.slice (some ⟨blk,off,none⟩) zs.length cap] w λe w' =>
      e=.returned (.tuple #[])/\∃n os,w'=grow (putRow (Value.int .i64) (Sort.ahead w n) blk off (zs.mergeSort λx y=>decide (x<=y)).toArray) os:=Any.slices_Sort_int Tryz.lays189 blk off cap zs w hH hblk hsz
def Tryz.lays190_ren:Go.Shelf.Ren:=⟨fun|190=>92|125=>81|258=>138|128=>122|129=>123|302=>199|303=>200|304=>201|305=>202|306=>203|307=>204|308=>205|309=>206|310=>207|333=>263|329=>186|330=>187|334=>264|335=>265|336=>266|344=>309|n=>n,fun|31=>59|9=>9|3=>3|46=>49|0=>0|51=>188|53=>190|4=>4|183=>181|182=>180|131=>185|5=>5|218=>275|222=>279|228=>339|229=>340|n=>n,fun|n=>n⟩
theorem Tryz.lays190:Go.Proofs.Lays.n190 Tryz.prog Tryz.lays190_ren:=⟨kR,kR,kR,kR,kR,kR,kR,kR,kR,kR,kR,kR,kR,kR,kR,kR,kR,kR,kR,kR,kR,kR,kR,kR,kR,kR,kR,kR,kR,kR,kR,kR,kR,kR,kR,kR,kR,kR,kR,kR,kR,kR,kR,kR,kR,kR,kR,kR,kR,kR,kR,kR,kR,kR,kR,kR,kR,kR,kR,kR,kR,kR,kR,kR,kR,kR,kR,kR,kR,kR,kR,kR,kR,kR,kR,kR,kR,kR,kR,kR,kR,kR,kR,kR,kR,kR⟩
def Tryz.lays149_ren:Go.Shelf.Ren:=⟨fun|149=>24|222=>70|n=>n,fun|9=>9|5=>5|3=>3|4=>4|n=>n,fun|n=>n⟩
theorem Tryz.lays149:Go.Proofs.Lays.n149 Tryz.prog Tryz.lays149_ren:=⟨kR,kR,kR,kR,kR,kR,kR,kR,kR,kR,kR,kR,kR,kR,kR,kR,kR,kR,kR⟩
open Go.RowKit Go.Lib in
theorem Tryz.strings_LastIndexByte(s:ByteArray)(c:Int)(hs:s.size<4611686018427387904)(w:World):
 Calls Tryz.prog 24 #[.string s,.int .u8 c] w λe w'=>e=.returned (.int .i64 (Lib.lastIndexByte s c))/\w'=w:=Any.strings_LastIndexByte Tryz.lays149 s c hs w
def Tryz.lays101_ren:Go.Shelf.Ren:=⟨fun|101=>260|208=>303|206=>153|n=>n,fun|9=>9|4=>4|3=>3|n=>n,fun|n=>n⟩
theorem Tryz.lays101:Go.Proofs.Lays.n101 Tryz.prog Tryz.lays101_ren:=⟨kR,kR,kR,kR,kR,kR,kR,kR,kR,kR,kR,kR,kR,kR,kR,kR⟩
open Go.RowKit Go.Lib in
theorem Tryz.strings_TrimPrefix(s p:ByteArray)(w:World):
 Calls Tryz.prog 260 #[.string s,.string p] w λe w'=>e=.returned (.string ⟨(Lib.trimPrefix s.data.toList p.data.toList).toArray⟩)/\w'=w:=Any.strings_TrimPrefix Tryz.lays101 s p w
def Tryz.lays102_ren:Go.Shelf.Ren:=⟨fun|102=>346|209=>372|207=>380|n=>n,fun|9=>9|4=>4|3=>3|n=>n,fun|n=>n⟩
theorem Tryz.lays102:Go.Proofs.Lays.n102 Tryz.prog Tryz.lays102_ren:=⟨kR,kR,kR,kR,kR,kR,kR,kR,kR,kR,kR,kR,kR,kR,kR,kR⟩
open Go.RowKit Go.Lib in
theorem Tryz.strings_TrimSuffix(s p:ByteArray)(w:World)(hs:s.size<=9223372036854775807):
 Calls Tryz.prog 346 #[.string s,.string p] w λe w'=>e=.returned (.string ⟨(Lib.trimSuffix s.data.toList p.data.toList).toArray⟩)/\w'=w:=Any.strings_TrimSuffix Tryz.lays102 s p w hs
def Tryz.lays146_ren:Go.Shelf.Ren:=⟨fun|146=>83|221=>135|268=>197|138=>168|143=>198|195=>237|197=>261|218=>238|219=>262|260=>304|217=>305|225=>306|224=>307|267=>308|266=>347|314=>348|n=>n,fun|9=>9|31=>59|3=>3|4=>4|0=>0|105=>343|21=>21|5=>5|46=>49|119=>402|139=>405|138=>404|146=>210|51=>188|n=>n,fun|1=>0|3=>1|4=>2|n=>n⟩
theorem Tryz.lays146:Go.Proofs.Lays.n146 Tryz.prog Tryz.lays146_ren:=⟨kR,kR,kR,kR,kR,kR,kR,kR,kR,kR,kR,kR,kR,kR,kR,kR,kR,kR,kR,kR,kR,kR,kR,kR,kR,kR,kR,kR,kR,kR,kR,kR,kR,kR,kR,kR,kR,kR,kR,kR,kR,kR,kR,kR,kR,kR,kR,kR,kR,kR,kR,kR,kR,kR,kR,kR,kR,underlying402,isAgg402,sizeOf402,kR,kR,kR,kR,kR,kR,kR,kR,kR,kR,kR,kR,kR,kR,kR⟩
open Go.RowKit Go.Lib in
theorem Tryz.strings_Split(s sep:ByteArray)(m:Int)(w:World)(hs:s.size<4294967281)(hm:w.cell? ⟨0,0,none⟩=some (.int .i64 m))(h1:1<=sep.size):
 Calls Tryz.prog 83 #[.string s,.string sep] w λe w' =>
      e=.returned (.slice (some ⟨w.heap.size,0,none⟩) (Lib.countB s sep+1) (Lib.countB s sep+1))/\w'=w.alloc (.cells ((Lib.splitB sep 0 (Lib.countB s sep) s).map Value.string).toArray 9):=Any.strings_Split Tryz.lays146 (by kernel_rfl) s sep m w hs hm h1
def Tryz.lays197_ren:Go.Shelf.Ren:=⟨fun|197=>261|260=>304|n=>n,fun|9=>9|21=>21|3=>3|4=>4|5=>5|105=>343|119=>402|0=>0|46=>49|139=>405|138=>404|n=>n,fun|3=>1|4=>2|n=>n⟩
theorem Tryz.lays197:Go.Proofs.Lays.n197 Tryz.prog Tryz.lays197_ren:=⟨kR,kR,kR,kR,kR,kR,kR,kR,kR,kR,kR,kR,kR,kR,kR,kR,kR,kR,kR,kR,kR,kR,kR,kR,kR,kR,kR,kR,kR,kR,kR,kR,kR,kR,kR,underlying402,isAgg402,sizeOf402,kR,kR,kR,kR,kR,kR,kR,kR,kR,kR⟩
def Tryz.lays151_ren:Go.Shelf.Ren:=⟨fun|151=>344|152=>330|137=>365|119=>366|224=>307|225=>306|217=>305|266=>347|n=>n,fun|9=>9|21=>21|4=>4|3=>3|5=>5|0=>0|46=>49|n=>n,fun|n=>n⟩
theorem Tryz.lays151:Go.Proofs.Lays.n151 Tryz.prog Tryz.lays151_ren:=⟨kR,kR,kR,kR,kR,kR,kR,kR,kR,kR,kR,kR,kR,kR,kR,kR,kR,kR,kR,kR,kR,kR,kR,kR,kR,kR,kR,kR,kR,kR,kR,kR,kR,kR,kR,kR,kR⟩
open Go.RowKit Go.Lib in
theorem Tryz.strings_ContainsRune_ascii(s:ByteArray)(r:Int)(w:World)(h0:0<=r)(h1:r<128):
 Calls Tryz.prog 344 #[.string s,.int .i32 r] w λe w'=>e=.returned (.bool (decide (0<=Lib.indexByte s.data.toList r.toNat.toUInt8)))/\w'=w:=Any.strings_ContainsRune_ascii Tryz.lays151 s r w h0 h1
def Tryz.lays153_ren:Go.Shelf.Ren:=⟨fun|153=>294|152=>330|226=>331|227=>332|228=>333|137=>365|119=>366|224=>307|225=>306|217=>305|266=>347|n=>n,fun|9=>9|3=>3|4=>4|5=>5|21=>21|117=>394|116=>393|0=>0|46=>49|124=>417|n=>n,fun|n=>n⟩
theorem Tryz.lays153:Go.Proofs.Lays.n153 Tryz.prog Tryz.lays153_ren:=⟨kR,kR,kR,kR,kR,kR,kR,kR,kR,kR,kR,kR,kR,kR,kR,kR,kR,kR,kR,kR,kR,kR,kR,kR,kR,kR,kR,kR,kR,kR,kR,kR,kR,kR,kR,kR,kR,kR,kR,kR,underlying393,isAgg393,sizeOf393,kR,kR,kR,kR,kR,kR,kR,kR⟩
open Go.RowKit Go.Lib in
theorem Tryz.strings_IndexAny_laid(s chars:ByteArray)(w:World)(hs:s.size<4294967281)(hcs:chars.size<4294967281)(has:∀(j:Nat) b,s.data.toList[j]? = some b->b.toNat<128)(hac:∀(j:Nat) b,chars.data.toList[j]? = some b->b.toNat<128):
 Calls Tryz.prog 294 #[.string s,.string chars] w λe w'=>e=.returned (.int .i64 (Lib.indexAny s.data.toList chars.data.toList))/\Below w.heap.size w w':=Any.strings_IndexAny_laid Tryz.lays153 (by kernel_rfl) s chars w hs hcs has hac
def Tryz.lays105_ren:Go.Shelf.Ren:=⟨fun|105=>74|212=>102|99=>103|165=>104|166=>105|170=>106|169=>107|263=>151|264=>152|206=>153|240=>154|241=>155|276=>218|277=>219|n=>n,fun|9=>9|3=>3|4=>4|20=>20|0=>0|46=>49|109=>158|5=>5|72=>164|76=>168|51=>188|146=>210|53=>190|148=>212|70=>161|37=>162|75=>167|127=>214|164=>300|80=>171|n=>n,fun|n=>n⟩
theorem Tryz.lays105:Go.Proofs.Lays.n105 Tryz.prog Tryz.lays105_ren:=⟨kR,kR,kR,kR,kR,kR,kR,kR,kR,kR,kR,kR,kR,kR,kR,kR,kR,kR,kR,kR,kR,kR,kR,kR,kR,kR,kR,kR,kR,kR,kR,kR,kR,kR,kR,kR,kR,kR,kR,kR,kR,kR,kR,kR,kR,kR,kR,kR,kR,kR,kR,kR,kR,kR,kR,kR,kR,kR,kR,kR,kR,kR,kR,kR,kR,kR,kR,kR,kR,kR,kR,kR,kR,kR,kR,kR,kR,kR,kR,kR,kR,kR,kR,kR,kR,kR,kR,kR,kR,kR,kR⟩
theorem Tryz.Builder_Extra_105:Builder.Extra Tryz.prog Tryz.lays105_ren:={
  sizeBuilder:=by kernel_rfl
  liesBuilder:=by kernel_rfl
  t5:=underlying5
  a5:=isAgg5
  z5:=sizeOf5
  v5:=zeroValue5
  infoByte:=by kernel_rfl
  cellsByte:=by kernel_rfl
  sizeByte:=by kernel_rfl
  neB5:=by decide }
open Go.RowKit Go.Lib in
theorem Tryz.strings_Repeat(s:ByteArray)(c:Nat)(w:World)(hc:c<=9223372036854775807)(hlen:s.size*c<=140737488355328):
 Calls Tryz.prog 74 #[.string s,.int .i64 c] w λe w'=>e=.returned (.string ⟨(Lib.repeatL s.data.toList c).toArray⟩)/\Below w.heap.size w w':=Any.strings_Repeat Tryz.lays105 Tryz.Builder_Extra_105 s c w hc hlen
def Tryz.lays260_ren:Go.Shelf.Ren:=⟨fun|260=>304|n=>n,fun|9=>9|21=>21|3=>3|4=>4|5=>5|119=>402|0=>0|46=>49|139=>405|138=>404|n=>n,fun|3=>1|4=>2|n=>n⟩
theorem Tryz.lays260:Go.Proofs.Lays.n260 Tryz.prog Tryz.lays260_ren:=⟨kR,kR,kR,kR,kR,kR,kR,kR,kR,kR,kR,kR,kR,kR,kR,kR,kR,kR,kR,kR,kR,kR,kR,kR,kR,kR,kR,kR,kR,kR,underlying402,isAgg402,sizeOf402,kR,kR,kR,kR,kR,kR,kR,kR,kR,kR⟩
open Go.RowKit Go.Lib in
theorem Tryz.utf8_DecodeRuneInString(s:ByteArray)(w:World)(hT:Lib.Utf8Tabs 1 2 w):
 Calls Tryz.prog 261 #[.string s] w λe w'=>e=.returned (.tuple #[.int .i32 (Lib.decodeGo s).1,.int .i64 (Lib.decodeGo s).2])/\Below w.heap.size w w':=Any.utf8_DecodeRuneInString Tryz.lays197 s w hT
def Tryz.laysNm220_ren:Go.Shelf.Ren:=⟨fun|20=>50|n=>n,fun|22=>24|3=>3|4=>4|0=>0|n=>n,fun|n=>n⟩
theorem Tryz.laysNm220:Go.Proofs.Lays2.n20 Tryz.prog Tryz.laysNm220_ren:=⟨kR,kR,kR,kR,kR,kR,kR,kR,kR,kR,kR,kR,kR,kR,kR,kR,kR,kR,kR⟩
open Go.RowKit Go.Lib Go.Sort in
theorem Tryz.slices_Compact_int(blk off cap:Nat)(zs:List Int)(w:World)(hH:Holds (Value.int .i64) w blk off zs.toArray)(hsz:zs.length<=9223372036854775807)(hcap:zs.length<=cap):
 Calls Tryz.prog 50 #[.slice (some ⟨blk,off,none⟩) zs.length cap] w λe w'=>e=.returned (.slice (some ⟨blk,off,none⟩) (Lib.compact zs).length cap)/\∃q,w'=putRow (Value.int .i64) (Sort.ahead w q) blk off (Lib.compact zs++List.replicate (zs.length-(Lib.compact zs).length) 0).toArray:=Any.slices_Compact_int Tryz.laysNm220 blk off cap zs w hH hsz hcap
open Go.RowKit Go.Lib Go.Sort in
theorem Tryz.slices_Compact_int_empty(a:Option Addr)(cap:Nat)(w:World):
 Calls Tryz.prog 50 #[.slice a 0 cap] w λe w'=>e=.returned (.slice a 0 cap)/\w'=w:=Any.slices_Compact_int_empty Tryz.laysNm220 a cap w
open Go.RowKit Go.Sort in
theorem Tryz.slices_Sort_int_none(p:Option Addr)(cap:Nat)(w:World):
 Calls Tryz.prog 49 #[.slice p 0 cap] w λe w'=>e=.returned (.tuple #[])/\w'=w:=Any.slices_Sort_int_none Tryz.lays189 p cap w
def Tryz.laysSlF6_f253_ren:Go.Shelf.Ren:=⟨fun|6=>253|15=>81|14=>297|28=>122|29=>123|20=>336|21=>337|22=>338|23=>339|24=>340|25=>341|26=>342|27=>343|46=>367|47=>186|48=>187|49=>368|50=>369|57=>379|n=>n,fun|22=>24|24=>3|25=>262|3=>3|39=>49|0=>0|53=>188|55=>190|4=>4|46=>181|45=>180|50=>185|5=>5|9=>9|66=>275|70=>279|76=>339|77=>340|n=>n,fun|n=>n⟩
theorem Tryz.laysSlF6_f253:Go.Proofs.SlLaysF.n6 Tryz.prog Tryz.laysSlF6_f253_ren:=⟨kR,⟨Tryz.f253.name,by decide,kR⟩,⟨Tryz.f297.name,by decide,kR⟩,kR,⟨Tryz.f336.name,by decide,kR⟩,⟨Tryz.f337.name,by decide,kR⟩,⟨Tryz.f338.name,by decide,kR⟩,⟨Tryz.f339.name,by decide,kR⟩,⟨Tryz.f340.name,by decide,kR⟩,⟨Tryz.f341.name,by decide,kR⟩,⟨Tryz.f342.name,by decide,kR⟩,⟨Tryz.f343.name,by decide,kR⟩,kR,kR,⟨Tryz.f367.name,by decide,kR⟩,kR,kR,⟨Tryz.f368.name,by decide,kR⟩,⟨Tryz.f369.name,by decide,kR⟩,⟨Tryz.f379.name,by decide,kR⟩,kR,kR,kR,kR,kR,kR,kR,kR,kR,kR,kR,kR,kR,kR,kR,kR,kR,kR,kR,kR,kR,kR,kR,kR,isAgg3,sizeOf3,kR,kR,kR,kR,kR,kR,kR,kR,kR,kR,kR,kR,kR,kR,kR,kR,kR,kR,kR,kR,kR,kR,kR,kR,kR,kR,kR,kR,kR,kR,kR,kR,kR,kR,kR,kR,kR,kR,kR,kR,kR,kR,kR,kR⟩
open Go.RowKit Go.Lib Go.Sort in
theorem Tryz.slices_SortFunc{α:Type}[Inhabited α](enc:α->Value)(h1:OneCell enc)(cf:α->α->Int)(hO:SWO (ltOf cf))(g:Nat)(cb:Array Value)(blk off cap:Nat)(d:Array α)(w:World)(eg:∀args w,(callFunc g args).run Tryz.prog w=.ok (.enter g args) w)(hcmp:CmpLays1 Tryz.prog g cb enc cf blk off d.size w)(hH:Holds enc w blk off d)(hblk:blk<w.heap.size)(hsz:d.size<4611686018427387904):
 Calls Tryz.prog 253 #[.slice (some ⟨blk,off,none⟩) d.size cap,.func (.func g) #[] cb] w λe w' =>
      e=.returned (.tuple #[])/\∃d' n os,PermIn 0 d.size d d'/\SortedIn (ltOf cf) 0 d.size d'/\w'=sortWorld enc w blk off n d' os:=Any.slices_SortFunc Tryz.laysSlF6_f253 enc h1 cf hO g cb blk off cap d w eg hcmp hH hblk hsz
def Tryz.laysCol_ren:Go.Shelf.Ren:=⟨fun|8=>91|11=>137|n=>n,fun|26=>9|28=>109|24=>59|0=>0|33=>152|4=>4|n=>n,fun|n=>n⟩
theorem Tryz.laysCol:Go.Proofs.SlLaysZ.n8 Tryz.prog Tryz.laysCol_ren:=⟨kR,⟨Tryz.f91.name,by decide,kR⟩,⟨Tryz.f137.name,by decide,kR⟩,kR,kR,kR,kR,kR,kR,kR,kR,kR,kR,kR,kR,kR,kR,kR,kR,kR⟩
def Tryz.laysSlF0_f350_ren:Go.Shelf.Ren:=⟨fun|6=>350|15=>81|14=>373|28=>122|29=>123|20=>381|21=>382|22=>383|23=>384|24=>385|25=>386|26=>387|27=>388|46=>392|47=>186|48=>187|49=>393|50=>394|57=>395|n=>n,fun|22=>41|24=>44|25=>409|3=>3|39=>49|0=>0|53=>188|55=>190|4=>4|46=>181|45=>180|50=>185|5=>5|9=>9|66=>275|70=>279|76=>339|77=>340|n=>n,fun|n=>n⟩
theorem Tryz.laysSlF0_f350:Go.Proofs.SlLaysF0.n6 Tryz.prog Tryz.laysSlF0_f350_ren:=⟨kR,⟨Tryz.f350.name,by decide,kR⟩,⟨Tryz.f373.name,by decide,kR⟩,kR,⟨Tryz.f381.name,by decide,kR⟩,⟨Tryz.f382.name,by decide,kR⟩,⟨Tryz.f383.name,by decide,kR⟩,⟨Tryz.f384.name,by decide,kR⟩,⟨Tryz.f385.name,by decide,kR⟩,⟨Tryz.f386.name,by decide,kR⟩,⟨Tryz.f387.name,by decide,kR⟩,⟨Tryz.f388.name,by decide,kR⟩,kR,kR,⟨Tryz.f392.name,by decide,kR⟩,kR,kR,⟨Tryz.f393.name,by decide,kR⟩,⟨Tryz.f394.name,by decide,kR⟩,⟨Tryz.f395.name,by decide,kR⟩,kR,kR,kR,kR,kR,kR,kR,kR,kR,kR,kR,kR,kR,kR,kR,kR,kR,kR,kR,kR,kR,kR,kR,kR,kR,kR,kR,kR,kR,kR,kR,kR,kR,kR,kR,kR,kR,kR,kR,kR,kR,kR,kR,kR,kR,kR,kR,kR,kR,kR,kR,kR,kR,kR,kR,kR,kR,kR,kR,kR,kR,kR,kR,kR,kR,kR,kR,kR⟩
def Tryz.laysSlF0_f253_ren:Go.Shelf.Ren:=⟨fun|6=>253|15=>81|14=>297|28=>122|29=>123|20=>336|21=>337|22=>338|23=>339|24=>340|25=>341|26=>342|27=>343|46=>367|47=>186|48=>187|49=>368|50=>369|57=>379|n=>n,fun|22=>24|24=>3|25=>262|3=>3|39=>49|0=>0|53=>188|55=>190|4=>4|46=>181|45=>180|50=>185|5=>5|9=>9|66=>275|70=>279|76=>339|77=>340|n=>n,fun|n=>n⟩
theorem Tryz.laysSlF0_f253:Go.Proofs.SlLaysF0.n6 Tryz.prog Tryz.laysSlF0_f253_ren:=⟨kR,⟨Tryz.f253.name,by decide,kR⟩,⟨Tryz.f297.name,by decide,kR⟩,kR,⟨Tryz.f336.name,by decide,kR⟩,⟨Tryz.f337.name,by decide,kR⟩,⟨Tryz.f338.name,by decide,kR⟩,⟨Tryz.f339.name,by decide,kR⟩,⟨Tryz.f340.name,by decide,kR⟩,⟨Tryz.f341.name,by decide,kR⟩,⟨Tryz.f342.name,by decide,kR⟩,⟨Tryz.f343.name,by decide,kR⟩,kR,kR,⟨Tryz.f367.name,by decide,kR⟩,kR,kR,⟨Tryz.f368.name,by decide,kR⟩,⟨Tryz.f369.name,by decide,kR⟩,⟨Tryz.f379.name,by decide,kR⟩,kR,kR,kR,kR,kR,kR,kR,kR,kR,kR,kR,kR,kR,kR,kR,kR,kR,kR,kR,kR,kR,kR,kR,kR,kR,kR,kR,kR,kR,kR,kR,kR,kR,kR,kR,kR,kR,kR,kR,kR,kR,kR,kR,kR,kR,kR,kR,kR,kR,kR,kR,kR,kR,kR,kR,kR,kR,kR,kR,kR,kR,kR,kR,kR,kR,kR,kR,kR⟩
end Go.Proofs
