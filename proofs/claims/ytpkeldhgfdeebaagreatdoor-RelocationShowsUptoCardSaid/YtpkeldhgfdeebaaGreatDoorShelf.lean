/-
  DERIVED: THE SHELF's CONTRACTS AT THIS DUMP, IN PLAIN WORDS (tools/lay-plain.mjs out of 'TryzShelfAll.lean', which tools/lay-shelf.mjs wrote): THE SAME DECLARATIONS UNDER THE SAME NAMES: 'import', 'namespace', 'open', 'def', 'theorem' AND NOTHING ELSE: no command of the shelf's: FOR A HAND-IN. Each laying: the table of numbers ('.._ren') and one theorem, a field a fact of the dump's own or the kernel's comparison; each contract: ONE APPLICATION.
-/
import Derived.Shelf.SlSortCmp.WholeK
import Derived.Shelf.SlSortCmp.NoneTotal
import Derived.Ground.SlsfProg
import Derived.Shelf.Small.Utf8
import Derived.Shelf.Small.Bits
import Derived.Shelf.Small.Strs
import Derived.Shelf.Utf8.RuneCount
import Derived.Shelf.Strconv.Itoa0
import Derived.Shelf.Strconv.Itoa1
import Derived.Shelf.LaysM
import Derived.Shelf.Strconv.Itoa2
import Derived.Shelf.Strconv.Itoa3
import Derived.Shelf.Strings.Search1
import Derived.Shelf.Strings.Search2
import Derived.Shelf.Strings.Search3
import Derived.Shelf.Strings.Cut
import Derived.Shelf.Strings.Count
import Derived.Shelf.Strings.Shaped
import Derived.Shelf.Sort.Plain
import Derived.Shelf.Strings.LastIndex
import Derived.Shelf.Strings.Prefix
import Derived.Shelf.Strings.Split
import Derived.Shelf.Strings.SplitShaped
import Derived.Shelf.Unicode.Decode
import Derived.Shelf.Strings.Runes
import Derived.Shelf.Strings.RuneCount
import Derived.Shelf.Strings.IndexAny
import Derived.Shelf.Strings.AsciiSet
import Derived.Shelf.Strings.IndexAnyAll
import Derived.Shelf.Strings.Explode
import Derived.Shelf.Unicode.DecodeSlow
import Derived.Shelf.Unicode.DecodeAny
import Derived.Ground.Names2Prog
import Derived.Shelf.Slices.ReverseS
import Derived.Shelf.Slices.Clone
import Derived.Shelf.Slices.Delete
import Derived.Shelf.Slices.Cells
import Derived.Shelf.Slices.In.SortNone
import Derived.Shelf.Slices.Empties
import Derived.Ground.SlgnProg
import Derived.Shelf.SlicesE.Clone
import Derived.Ground.SlsfProg
import Derived.Shelf.SlSortCmp.Insertion
import Derived.Shelf.SlSortCmp.SiftDown1
import Derived.Shelf.SlSortCmp.HeapSort1
import Derived.Shelf.SlSortCmp.Insertion1
import Derived.Shelf.SlSortCmp.Median1
import Derived.Shelf.SlSortCmp.Pivot1
import Derived.Shelf.SlSortCmp.ReverseRange1
import Derived.Shelf.SlSortCmp.PartialInsertion1
import Derived.Shelf.SlSortCmp.PartitionEqual1
import Derived.Shelf.SlSortCmp.Partition1
import Derived.Shelf.SlSortCmp.Pdq1
import Derived.Shelf.SlSortCmp.Whole1
import Derived.Shelf.SlSortCmp.NoneTotal
import Derived.Test.YtpkeldhgfdeebaaGreatDoorProg
namespace Go.Proofs
open Go.Shelf
def Tryz.lays119_ren : Go.Shelf.Ren := ⟨fun | 119 => 220 | n => n, fun | 21 => 21 | 4 => 4 | n => n, fun | n => n⟩
theorem Tryz.lays119 : Go.Proofs.Lays.n119 Tryz.prog Tryz.lays119_ren := {
  mixed := by kernel_rfl
  f119 := Tryz.func220.trans (congrArg some (by kernel_rfl))
  t4 := Tryz.underlying4
  a4 := Tryz.isAgg4
  z4 := Tryz.sizeOf4
  v4 := Tryz.zeroValue4
  t21 := Tryz.underlying21
  a21 := Tryz.isAgg21
  z21 := Tryz.sizeOf21
  v21 := Tryz.zeroValue21 }
/-- utf8.ValidRune: "ValidRune reports whether r can be legally encoded as UTF-8. Code points that are out of range or a surrogate half are illegal.": IT RETURNS 'Lib.validRune r'; the world is as it was. (LAID: no walk: one application.) -/
theorem Tryz.utf8_ValidRune (r : Int) (w : World) :
    Calls Tryz.prog 220 #[.int .i32 r] w fun e w' => e = .returned (.bool (Lib.validRune r)) ∧ w' = w := Any.utf8_ValidRune Tryz.lays119 r w
def Tryz.lays106_ren : Go.Shelf.Ren := ⟨fun | 106 => 78 | 213 => 122 | 265 => 172 | n => n, fun | 9 => 9 | 3 => 3 | n => n, fun | n => n⟩
theorem Tryz.lays106 : Go.Proofs.Lays.n106 Tryz.prog Tryz.lays106_ren := {
  mixed := by kernel_rfl
  f106 := Tryz.func78.trans (congrArg some (by kernel_rfl))
  f213 := Tryz.func122.trans (congrArg some (by kernel_rfl))
  f265 := Tryz.func172.trans (congrArg some (by kernel_rfl))
  t3 := Tryz.underlying3
  a3 := Tryz.isAgg3
  z3 := Tryz.sizeOf3
  v3 := Tryz.zeroValue3
  t9 := Tryz.underlying9
  a9 := Tryz.isAgg9
  z9 := Tryz.sizeOf9
  v9 := Tryz.zeroValue9 }
open Go.RowKit in
/-- strings.Compare: "Compare returns an integer comparing two strings lexicographically. The result will be 0 if a == b, -1 if a < b, and +1 if a > b.": IT RETURNS 'Lib.compareBytes a b'; the world is as it was. (LAID: no walk: one application.) -/
theorem Tryz.strings_Compare (a b : ByteArray) (w : World) :
    Calls Tryz.prog 78 #[.string a, .string b] w fun e w' => e = .returned (.int .i64 (Lib.compareBytes a.data.toList b.data.toList)) ∧ w' = w := Any.strings_Compare Tryz.lays106 a b w
def Tryz.lays137_ren : Go.Shelf.Ren := ⟨fun | 137 => 219 | 217 => 199 | 266 => 234 | n => n, fun | 9 => 9 | 5 => 5 | 3 => 3 | n => n, fun | n => n⟩
theorem Tryz.lays137 : Go.Proofs.Lays.n137 Tryz.prog Tryz.lays137_ren := {
  mixed := by kernel_rfl
  f137 := Tryz.func219.trans (congrArg some (by kernel_rfl))
  f217 := Tryz.func199.trans (congrArg some (by kernel_rfl))
  f266 := Tryz.func234.trans (congrArg some (by kernel_rfl))
  t3 := Tryz.underlying3
  a3 := Tryz.isAgg3
  z3 := Tryz.sizeOf3
  v3 := Tryz.zeroValue3
  t5 := Tryz.underlying5
  a5 := Tryz.isAgg5
  z5 := Tryz.sizeOf5
  v5 := Tryz.zeroValue5
  t9 := Tryz.underlying9
  a9 := Tryz.isAgg9
  z9 := Tryz.sizeOf9
  v9 := Tryz.zeroValue9 }
open Go.RowKit in
/-- strings.IndexByte: "IndexByte returns the index of the first instance of c in s, or -1 if c is not present in s.": IT RETURNS 'Lib.indexByte s c'; the world is as it was. (LAID: no walk: one application.) -/
theorem Tryz.strings_IndexByte (s : ByteArray) (c : Int) (w : World) :
    Calls Tryz.prog 219 #[.string s, .int .u8 c] w fun e w' => e = .returned (.int .i64 (Lib.indexByte s.data.toList c.toNat.toUInt8)) ∧ w' = w := Any.strings_IndexByte Tryz.lays137 s c w
def Tryz.lays171_ren : Go.Shelf.Ren := ⟨fun | 171 => 90 | 243 => 133 | 246 => 192 | 283 => 226 | 284 => 227 | 285 => 228 | 286 => 229 | 129 => 154 | 317 => 248 | 318 => 249 | 319 => 250 | 320 => 251 | 337 => 260 | 338 => 261 | n => n, fun | 3 => 3 | 9 => 9 | 2 => 2 | 4 => 4 | 171 => 215 | 0 => 0 | 53 => 165 | 37 => 132 | 5 => 5 | 173 => 217 | 212 => 237 | 51 => 163 | 20 => 20 | 213 => 238 | 46 => 136 | 232 => 242 | 233 => 243 | n => n, fun | 17 => 3 | 18 => 4 | 19 => 5 | n => n⟩
theorem Tryz.lays171 : Go.Proofs.Lays.n171 Tryz.prog Tryz.lays171_ren := {
  mixed := by kernel_rfl
  f129 := Tryz.func154.trans (congrArg some (by kernel_rfl))
  f171 := Tryz.func90.trans (congrArg some (by kernel_rfl))
  f243 := Tryz.func133.trans (congrArg some (by kernel_rfl))
  f246 := Tryz.func192.trans (congrArg some (by kernel_rfl))
  f283 := Tryz.func226.trans (congrArg some (by kernel_rfl))
  f284 := Tryz.func227.trans (congrArg some (by kernel_rfl))
  f285 := Tryz.func228.trans (congrArg some (by kernel_rfl))
  f286 := Tryz.func229.trans (congrArg some (by kernel_rfl))
  f317 := Tryz.func248.trans (congrArg some (by kernel_rfl))
  f318 := Tryz.func249.trans (congrArg some (by kernel_rfl))
  f319 := Tryz.func250.trans (congrArg some (by kernel_rfl))
  f320 := Tryz.func251.trans (congrArg some (by kernel_rfl))
  f337 := Tryz.func260.trans (congrArg some (by kernel_rfl))
  f338 := Tryz.func261.trans (congrArg some (by kernel_rfl))
  t0 := Tryz.underlying0
  a0 := Tryz.isAgg0
  z0 := Tryz.sizeOf0
  v0 := Tryz.zeroValue0
  t2 := Tryz.underlying2
  a2 := Tryz.isAgg2
  z2 := Tryz.sizeOf2
  v2 := Tryz.zeroValue2
  t3 := Tryz.underlying3
  a3 := Tryz.isAgg3
  z3 := Tryz.sizeOf3
  v3 := Tryz.zeroValue3
  t4 := Tryz.underlying4
  a4 := Tryz.isAgg4
  z4 := Tryz.sizeOf4
  v4 := Tryz.zeroValue4
  t5 := Tryz.underlying5
  a5 := Tryz.isAgg5
  z5 := Tryz.sizeOf5
  v5 := Tryz.zeroValue5
  t9 := Tryz.underlying9
  a9 := Tryz.isAgg9
  z9 := Tryz.sizeOf9
  v9 := Tryz.zeroValue9
  t20 := Tryz.underlying20
  a20 := Tryz.isAgg20
  z20 := Tryz.sizeOf20
  v20 := Tryz.zeroValue20
  t37 := Tryz.underlying132
  a37 := Tryz.isAgg132
  z37 := Tryz.sizeOf132
  v37 := Tryz.zeroValue132
  t46 := Tryz.underlying136
  a46 := Tryz.isAgg136
  z46 := Tryz.sizeOf136
  v46 := Tryz.zeroValue136
  t51 := Tryz.underlying163
  a51 := Tryz.isAgg163
  z51 := Tryz.sizeOf163
  v51 := Tryz.zeroValue163
  t53 := Tryz.underlying165
  a53 := Tryz.isAgg165
  z53 := Tryz.sizeOf165
  v53 := Tryz.zeroValue165
  t171 := Tryz.underlying215
  a171 := Tryz.isAgg215
  z171 := Tryz.sizeOf215
  v171 := Tryz.zeroValue215
  t173 := Tryz.underlying217
  a173 := Tryz.isAgg217
  z173 := Tryz.sizeOf217
  v173 := Tryz.zeroValue217
  t212 := Tryz.underlying237
  a212 := Tryz.isAgg237
  z212 := Tryz.sizeOf237
  v212 := Tryz.zeroValue237
  t213 := Tryz.underlying238
  a213 := Tryz.isAgg238
  z213 := Tryz.sizeOf238
  t232 := Tryz.underlying242
  a232 := Tryz.isAgg242
  z232 := Tryz.sizeOf242
  v232 := Tryz.zeroValue242
  t233 := Tryz.underlying243
  a233 := Tryz.isAgg243
  z233 := Tryz.sizeOf243
  v233 := Tryz.zeroValue243
  g17 := by kernel_rfl
  g18 := by kernel_rfl
  g19 := by kernel_rfl }
open Go.RowKit Go.Sort Go.Lib in
/-- THE ROAD WITHOUT THE TABLE: 0 <= i < 100: NO PREMISE ON THE WORLD, AND THE WORLD IS AS IT WAS: a row that keeps its argument in that range need list no table ('laid = []'). (LAID: no walk: one application.) -/
theorem Tryz.strconv_Itoa_small (i : Nat) (hi : i < 100) (w : World) :
    Calls Tryz.prog 90 #[.int .i64 i] w fun e w' => e = .returned (.string ⟨(Lib.decDigits i).toArray⟩) ∧ w' = w := Any.strconv_Itoa_small Tryz.lays171 i hi w
def Tryz.lays144_ren : Go.Shelf.Ren := ⟨fun | 144 => 84 | 143 => 104 | 219 => 141 | 217 => 199 | 225 => 200 | 224 => 201 | 267 => 202 | 266 => 234 | 314 => 235 | n => n, fun | 9 => 9 | 4 => 4 | 3 => 3 | 5 => 5 | 46 => 136 | 146 => 199 | 51 => 163 | n => n, fun | 1 => 0 | n => n⟩
theorem Tryz.lays144 : Go.Proofs.Lays.n144 Tryz.prog Tryz.lays144_ren := {
  mixed := by kernel_rfl
  f143 := Tryz.func104.trans (congrArg some (by kernel_rfl))
  f144 := Tryz.func84.trans (congrArg some (by kernel_rfl))
  f217 := Tryz.func199.trans (congrArg some (by kernel_rfl))
  f219 := Tryz.func141.trans (congrArg some (by kernel_rfl))
  f224 := Tryz.func201.trans (congrArg some (by kernel_rfl))
  f225 := Tryz.func200.trans (congrArg some (by kernel_rfl))
  f266 := Tryz.func234.trans (congrArg some (by kernel_rfl))
  f267 := Tryz.func202.trans (congrArg some (by kernel_rfl))
  f314 := Tryz.func235.trans (congrArg some (by kernel_rfl))
  t3 := Tryz.underlying3
  a3 := Tryz.isAgg3
  z3 := Tryz.sizeOf3
  v3 := Tryz.zeroValue3
  t4 := Tryz.underlying4
  a4 := Tryz.isAgg4
  z4 := Tryz.sizeOf4
  v4 := Tryz.zeroValue4
  t5 := Tryz.underlying5
  a5 := Tryz.isAgg5
  z5 := Tryz.sizeOf5
  v5 := Tryz.zeroValue5
  t9 := Tryz.underlying9
  a9 := Tryz.isAgg9
  z9 := Tryz.sizeOf9
  v9 := Tryz.zeroValue9
  t46 := Tryz.underlying136
  a46 := Tryz.isAgg136
  z46 := Tryz.sizeOf136
  v46 := Tryz.zeroValue136
  t51 := Tryz.underlying163
  a51 := Tryz.isAgg163
  z51 := Tryz.sizeOf163
  v51 := Tryz.zeroValue163
  t146 := Tryz.underlying199
  a146 := Tryz.isAgg199
  z146 := Tryz.sizeOf199
  v146 := Tryz.zeroValue199
  g1 := by kernel_rfl }
open Go.RowKit Go.Lib in
/-- strings.Contains: "Contains reports whether substr is within s.": AT A substr OF ONE BYTE c: IT RETURNS 'decide (0 ≤ Lib.indexByte s c)'; the world is as it was. (LAID: no walk: one application.) -/
theorem Tryz.strings_Contains_one (s : ByteArray) (c : UInt8) (w : World) :
    Calls Tryz.prog 84 #[.string s, .string ⟨#[c]⟩] w fun e w' => e = .returned (.bool (decide (0 ≤ Lib.indexByte s.data.toList c))) ∧ w' = w := Any.strings_Contains_one Tryz.lays144 s c w
def Tryz.lays145_ren : Go.Shelf.Ren := ⟨fun | 145 => 81 | 220 => 127 | 219 => 141 | 217 => 199 | 225 => 200 | 224 => 201 | 267 => 202 | 266 => 234 | 314 => 235 | n => n, fun | 9 => 9 | 4 => 4 | 59 => 104 | 3 => 3 | 5 => 5 | 46 => 136 | 146 => 199 | 51 => 163 | n => n, fun | 1 => 0 | n => n⟩
theorem Tryz.lays145 : Go.Proofs.Lays.n145 Tryz.prog Tryz.lays145_ren := {
  mixed := by kernel_rfl
  f145 := Tryz.func81.trans (congrArg some (by kernel_rfl))
  f217 := Tryz.func199.trans (congrArg some (by kernel_rfl))
  f219 := Tryz.func141.trans (congrArg some (by kernel_rfl))
  f220 := Tryz.func127.trans (congrArg some (by kernel_rfl))
  f224 := Tryz.func201.trans (congrArg some (by kernel_rfl))
  f225 := Tryz.func200.trans (congrArg some (by kernel_rfl))
  f266 := Tryz.func234.trans (congrArg some (by kernel_rfl))
  f267 := Tryz.func202.trans (congrArg some (by kernel_rfl))
  f314 := Tryz.func235.trans (congrArg some (by kernel_rfl))
  t3 := Tryz.underlying3
  a3 := Tryz.isAgg3
  z3 := Tryz.sizeOf3
  v3 := Tryz.zeroValue3
  t4 := Tryz.underlying4
  a4 := Tryz.isAgg4
  z4 := Tryz.sizeOf4
  v4 := Tryz.zeroValue4
  t5 := Tryz.underlying5
  a5 := Tryz.isAgg5
  z5 := Tryz.sizeOf5
  v5 := Tryz.zeroValue5
  t9 := Tryz.underlying9
  a9 := Tryz.isAgg9
  z9 := Tryz.sizeOf9
  v9 := Tryz.zeroValue9
  t46 := Tryz.underlying136
  a46 := Tryz.isAgg136
  z46 := Tryz.sizeOf136
  v46 := Tryz.zeroValue136
  t51 := Tryz.underlying163
  a51 := Tryz.isAgg163
  z51 := Tryz.sizeOf163
  v51 := Tryz.zeroValue163
  t59 := Tryz.underlying104
  a59 := Tryz.isAgg104
  z59 := Tryz.sizeOf104
  v59 := Tryz.zeroValue104
  t146 := Tryz.underlying199
  a146 := Tryz.isAgg199
  z146 := Tryz.sizeOf199
  v146 := Tryz.zeroValue199
  g1 := by kernel_rfl }
open Go.RowKit Go.Lib in
/-- strings.Cut: "Cut slices s around the first instance of sep, returning the text before and after sep. The found result reports whether sep appears in s. If sep does not appear in s, cut returns s, "", false.": IT RETURNS 'Lib.cut s sep'; the world is as it was but for the count of draws. (LAID: no walk: one application.) -/
theorem Tryz.strings_Cut (s sep : ByteArray) (m : Int) (w : World) (hs : s.size < 4294967281) (hm : w.cell? ⟨0, 0, none⟩ = some (.int .i64 m)) :
    Calls Tryz.prog 81 #[.string s, .string sep] w fun e w' => e = .returned (.tuple #[.string ⟨(Lib.cut s.data.toList sep.data.toList).1.toArray⟩, .string ⟨(Lib.cut s.data.toList sep.data.toList).2.1.toArray⟩, .bool (Lib.cut s.data.toList sep.data.toList).2.2]) ∧ ∃ n, w' = w.drewN n := Any.strings_Cut Tryz.lays145 s sep m w hs hm
def Tryz.lays190_ren : Go.Shelf.Ren := ⟨fun | 190 => 56 | 125 => 111 | 258 => 110 | 128 => 153 | 129 => 154 | 302 => 144 | 303 => 145 | 304 => 146 | 305 => 147 | 306 => 148 | 307 => 149 | 308 => 150 | 309 => 151 | 310 => 152 | 333 => 204 | 329 => 205 | 330 => 206 | 334 => 207 | 335 => 208 | 336 => 209 | 344 => 236 | n => n, fun | 31 => 37 | 9 => 9 | 3 => 3 | 46 => 136 | 0 => 0 | 51 => 163 | 53 => 165 | 4 => 4 | 183 => 156 | 182 => 155 | 131 => 160 | 5 => 5 | 218 => 201 | 222 => 76 | 228 => 223 | 229 => 219 | n => n, fun | n => n⟩
theorem Tryz.lays190 : Go.Proofs.Lays.n190 Tryz.prog Tryz.lays190_ren := {
  mixed := by kernel_rfl
  f125 := Tryz.func111.trans (congrArg some (by kernel_rfl))
  f128 := Tryz.func153.trans (congrArg some (by kernel_rfl))
  f129 := Tryz.func154.trans (congrArg some (by kernel_rfl))
  f190 := Tryz.func56.trans (congrArg some (by kernel_rfl))
  f258 := Tryz.func110.trans (congrArg some (by kernel_rfl))
  f302 := Tryz.func144.trans (congrArg some (by kernel_rfl))
  f303 := Tryz.func145.trans (congrArg some (by kernel_rfl))
  f304 := Tryz.func146.trans (congrArg some (by kernel_rfl))
  f305 := Tryz.func147.trans (congrArg some (by kernel_rfl))
  f306 := Tryz.func148.trans (congrArg some (by kernel_rfl))
  f307 := Tryz.func149.trans (congrArg some (by kernel_rfl))
  f308 := Tryz.func150.trans (congrArg some (by kernel_rfl))
  f309 := Tryz.func151.trans (congrArg some (by kernel_rfl))
  f310 := Tryz.func152.trans (congrArg some (by kernel_rfl))
  f329 := Tryz.func205.trans (congrArg some (by kernel_rfl))
  f330 := Tryz.func206.trans (congrArg some (by kernel_rfl))
  f333 := Tryz.func204.trans (congrArg some (by kernel_rfl))
  f334 := Tryz.func207.trans (congrArg some (by kernel_rfl))
  f335 := Tryz.func208.trans (congrArg some (by kernel_rfl))
  f336 := Tryz.func209.trans (congrArg some (by kernel_rfl))
  f344 := Tryz.func236.trans (congrArg some (by kernel_rfl))
  t0 := Tryz.underlying0
  a0 := Tryz.isAgg0
  z0 := Tryz.sizeOf0
  v0 := Tryz.zeroValue0
  t3 := Tryz.underlying3
  a3 := Tryz.isAgg3
  z3 := Tryz.sizeOf3
  v3 := Tryz.zeroValue3
  t4 := Tryz.underlying4
  a4 := Tryz.isAgg4
  z4 := Tryz.sizeOf4
  v4 := Tryz.zeroValue4
  t5 := Tryz.underlying5
  a5 := Tryz.isAgg5
  z5 := Tryz.sizeOf5
  v5 := Tryz.zeroValue5
  t9 := Tryz.underlying9
  a9 := Tryz.isAgg9
  z9 := Tryz.sizeOf9
  v9 := Tryz.zeroValue9
  t31 := Tryz.underlying37
  a31 := Tryz.isAgg37
  z31 := Tryz.sizeOf37
  v31 := Tryz.zeroValue37
  t46 := Tryz.underlying136
  a46 := Tryz.isAgg136
  z46 := Tryz.sizeOf136
  v46 := Tryz.zeroValue136
  t51 := Tryz.underlying163
  a51 := Tryz.isAgg163
  z51 := Tryz.sizeOf163
  v51 := Tryz.zeroValue163
  t53 := Tryz.underlying165
  a53 := Tryz.isAgg165
  z53 := Tryz.sizeOf165
  v53 := Tryz.zeroValue165
  t131 := Tryz.underlying160
  a131 := Tryz.isAgg160
  z131 := Tryz.sizeOf160
  v131 := Tryz.zeroValue160
  t182 := Tryz.underlying155
  a182 := Tryz.isAgg155
  z182 := Tryz.sizeOf155
  v182 := Tryz.zeroValue155
  t183 := Tryz.underlying156
  a183 := Tryz.isAgg156
  z183 := Tryz.sizeOf156
  v183 := Tryz.zeroValue156
  t218 := Tryz.underlying201
  a218 := Tryz.isAgg201
  z218 := Tryz.sizeOf201
  v218 := Tryz.zeroValue201
  t222 := Tryz.underlying76
  a222 := Tryz.isAgg76
  z222 := Tryz.sizeOf76
  v222 := Tryz.zeroValue76
  t228 := Tryz.underlying223
  a228 := Tryz.isAgg223
  z228 := Tryz.sizeOf223
  v228 := Tryz.zeroValue223
  t229 := Tryz.underlying219
  a229 := Tryz.isAgg219
  z229 := Tryz.sizeOf219
  v229 := Tryz.zeroValue219 }
open Go.Sort Go.RowKit in
theorem Tryz.slices_Sort_string (blk off cap : Nat) (ss : List (List UInt8)) (w : World) (hH : Holds encStr w blk off ss.toArray) (hblk : blk < w.heap.size) (hsz : ss.length < 4611686018427387904) :
    Calls Tryz.prog 56 #[.slice (some ⟨blk, off, none⟩) ss.length cap] w fun e w' =>
      e = .returned (.tuple #[]) ∧ ∃ n os, w' = grow (putRow encStr (Sort.ahead w n) blk off (ss.mergeSort fun x y => decide (x ≤ y)).toArray) os := Any.slices_Sort_string Tryz.lays190 blk off cap ss w hH hblk hsz
def Tryz.lays149_ren : Go.Shelf.Ren := ⟨fun | 149 => 174 | 222 => 142 | n => n, fun | 9 => 9 | 5 => 5 | 3 => 3 | 4 => 4 | n => n, fun | n => n⟩
theorem Tryz.lays149 : Go.Proofs.Lays.n149 Tryz.prog Tryz.lays149_ren := {
  mixed := by kernel_rfl
  f149 := Tryz.func174.trans (congrArg some (by kernel_rfl))
  f222 := Tryz.func142.trans (congrArg some (by kernel_rfl))
  t3 := Tryz.underlying3
  a3 := Tryz.isAgg3
  z3 := Tryz.sizeOf3
  v3 := Tryz.zeroValue3
  t4 := Tryz.underlying4
  a4 := Tryz.isAgg4
  z4 := Tryz.sizeOf4
  v4 := Tryz.zeroValue4
  t5 := Tryz.underlying5
  a5 := Tryz.isAgg5
  z5 := Tryz.sizeOf5
  v5 := Tryz.zeroValue5
  t9 := Tryz.underlying9
  a9 := Tryz.isAgg9
  z9 := Tryz.sizeOf9
  v9 := Tryz.zeroValue9 }
open Go.RowKit Go.Lib in
/-- strings.LastIndexByte: "LastIndexByte returns the index of the last instance of c in s, or -1 if c is not present in s." (LAID: no walk: one application.) -/
theorem Tryz.strings_LastIndexByte (s : ByteArray) (c : Int) (hs : s.size < 4611686018427387904) (w : World) :
    Calls Tryz.prog 174 #[.string s, .int .u8 c] w fun e w' => e = .returned (.int .i64 (Lib.lastIndexByte s c)) ∧ w' = w := Any.strings_LastIndexByte Tryz.lays149 s c hs w
def Tryz.lays101_ren : Go.Shelf.Ren := ⟨fun | 101 => 247 | 208 => 259 | 206 => 263 | n => n, fun | 9 => 9 | 4 => 4 | 3 => 3 | n => n, fun | n => n⟩
theorem Tryz.lays101 : Go.Proofs.Lays.n101 Tryz.prog Tryz.lays101_ren := {
  mixed := by kernel_rfl
  f101 := Tryz.func247.trans (congrArg some (by kernel_rfl))
  f206 := Tryz.func263.trans (congrArg some (by kernel_rfl))
  f208 := Tryz.func259.trans (congrArg some (by kernel_rfl))
  t3 := Tryz.underlying3
  a3 := Tryz.isAgg3
  z3 := Tryz.sizeOf3
  v3 := Tryz.zeroValue3
  t4 := Tryz.underlying4
  a4 := Tryz.isAgg4
  z4 := Tryz.sizeOf4
  v4 := Tryz.zeroValue4
  t9 := Tryz.underlying9
  a9 := Tryz.isAgg9
  z9 := Tryz.sizeOf9
  v9 := Tryz.zeroValue9 }
open Go.RowKit Go.Lib in
/-- strings.TrimPrefix: "TrimPrefix returns s without the provided leading prefix string. If s doesn't start with prefix, s is returned unchanged.": IT RETURNS 'Lib.trimPrefix s prefix'; the world is as it was. (LAID: no walk: one application.) -/
theorem Tryz.strings_TrimPrefix (s p : ByteArray) (w : World) :
    Calls Tryz.prog 247 #[.string s, .string p] w fun e w' => e = .returned (.string ⟨(Lib.trimPrefix s.data.toList p.data.toList).toArray⟩) ∧ w' = w := Any.strings_TrimPrefix Tryz.lays101 s p w
def Tryz.lays102_ren : Go.Shelf.Ren := ⟨fun | 102 => 86 | 209 => 131 | 207 => 105 | n => n, fun | 9 => 9 | 4 => 4 | 3 => 3 | n => n, fun | n => n⟩
theorem Tryz.lays102 : Go.Proofs.Lays.n102 Tryz.prog Tryz.lays102_ren := {
  mixed := by kernel_rfl
  f102 := Tryz.func86.trans (congrArg some (by kernel_rfl))
  f207 := Tryz.func105.trans (congrArg some (by kernel_rfl))
  f209 := Tryz.func131.trans (congrArg some (by kernel_rfl))
  t3 := Tryz.underlying3
  a3 := Tryz.isAgg3
  z3 := Tryz.sizeOf3
  v3 := Tryz.zeroValue3
  t4 := Tryz.underlying4
  a4 := Tryz.isAgg4
  z4 := Tryz.sizeOf4
  v4 := Tryz.zeroValue4
  t9 := Tryz.underlying9
  a9 := Tryz.isAgg9
  z9 := Tryz.sizeOf9
  v9 := Tryz.zeroValue9 }
open Go.RowKit Go.Lib in
/-- strings.TrimSuffix: "TrimSuffix returns s without the provided trailing suffix string. If s doesn't end with suffix, s is returned unchanged.": IT RETURNS 'Lib.trimSuffix s suffix'; the world is as it was. (LAID: no walk: one application.) -/
theorem Tryz.strings_TrimSuffix (s p : ByteArray) (w : World) (hs : s.size ≤ 9223372036854775807) :
    Calls Tryz.prog 86 #[.string s, .string p] w fun e w' => e = .returned (.string ⟨(Lib.trimSuffix s.data.toList p.data.toList).toArray⟩) ∧ w' = w := Any.strings_TrimSuffix Tryz.lays102 s p w hs
def Tryz.lays146_ren : Go.Shelf.Ren := ⟨fun | 146 => 159 | 221 => 211 | 268 => 245 | 138 => 52 | 143 => 104 | 195 => 102 | 197 => 162 | 218 => 103 | 219 => 141 | 260 => 215 | 217 => 199 | 225 => 200 | 224 => 201 | 267 => 202 | 266 => 234 | 314 => 235 | n => n, fun | 9 => 9 | 31 => 37 | 3 => 3 | 4 => 4 | 0 => 0 | 105 => 172 | 21 => 21 | 5 => 5 | 46 => 136 | 119 => 231 | 139 => 234 | 138 => 233 | 146 => 199 | 51 => 163 | n => n, fun | 1 => 0 | 3 => 1 | 4 => 2 | n => n⟩
theorem Tryz.lays146 : Go.Proofs.Lays.n146 Tryz.prog Tryz.lays146_ren := {
  mixed := by kernel_rfl
  f138 := Tryz.func52.trans (congrArg some (by kernel_rfl))
  f143 := Tryz.func104.trans (congrArg some (by kernel_rfl))
  f146 := Tryz.func159.trans (congrArg some (by kernel_rfl))
  f195 := Tryz.func102.trans (congrArg some (by kernel_rfl))
  f197 := Tryz.func162.trans (congrArg some (by kernel_rfl))
  f217 := Tryz.func199.trans (congrArg some (by kernel_rfl))
  f218 := Tryz.func103.trans (congrArg some (by kernel_rfl))
  f219 := Tryz.func141.trans (congrArg some (by kernel_rfl))
  f221 := Tryz.func211.trans (congrArg some (by kernel_rfl))
  f224 := Tryz.func201.trans (congrArg some (by kernel_rfl))
  f225 := Tryz.func200.trans (congrArg some (by kernel_rfl))
  f260 := Tryz.func215.trans (congrArg some (by kernel_rfl))
  f266 := Tryz.func234.trans (congrArg some (by kernel_rfl))
  f267 := Tryz.func202.trans (congrArg some (by kernel_rfl))
  f268 := Tryz.func245.trans (congrArg some (by kernel_rfl))
  f314 := Tryz.func235.trans (congrArg some (by kernel_rfl))
  t0 := Tryz.underlying0
  a0 := Tryz.isAgg0
  z0 := Tryz.sizeOf0
  v0 := Tryz.zeroValue0
  t3 := Tryz.underlying3
  a3 := Tryz.isAgg3
  z3 := Tryz.sizeOf3
  v3 := Tryz.zeroValue3
  t4 := Tryz.underlying4
  a4 := Tryz.isAgg4
  z4 := Tryz.sizeOf4
  v4 := Tryz.zeroValue4
  t5 := Tryz.underlying5
  a5 := Tryz.isAgg5
  z5 := Tryz.sizeOf5
  v5 := Tryz.zeroValue5
  t9 := Tryz.underlying9
  a9 := Tryz.isAgg9
  z9 := Tryz.sizeOf9
  v9 := Tryz.zeroValue9
  t21 := Tryz.underlying21
  a21 := Tryz.isAgg21
  z21 := Tryz.sizeOf21
  v21 := Tryz.zeroValue21
  t31 := Tryz.underlying37
  a31 := Tryz.isAgg37
  z31 := Tryz.sizeOf37
  v31 := Tryz.zeroValue37
  t46 := Tryz.underlying136
  a46 := Tryz.isAgg136
  z46 := Tryz.sizeOf136
  v46 := Tryz.zeroValue136
  t51 := Tryz.underlying163
  a51 := Tryz.isAgg163
  z51 := Tryz.sizeOf163
  v51 := Tryz.zeroValue163
  t105 := Tryz.underlying172
  a105 := Tryz.isAgg172
  z105 := Tryz.sizeOf172
  v105 := Tryz.zeroValue172
  t119 := Tryz.underlying231
  a119 := Tryz.isAgg231
  z119 := Tryz.sizeOf231
  t138 := Tryz.underlying233
  a138 := Tryz.isAgg233
  z138 := Tryz.sizeOf233
  v138 := Tryz.zeroValue233
  t139 := Tryz.underlying234
  a139 := Tryz.isAgg234
  z139 := Tryz.sizeOf234
  v139 := Tryz.zeroValue234
  t146 := Tryz.underlying199
  a146 := Tryz.isAgg199
  z146 := Tryz.sizeOf199
  v146 := Tryz.zeroValue199
  g1 := by kernel_rfl
  g3 := by kernel_rfl
  g4 := by kernel_rfl }
open Go.RowKit Go.Lib in
/-- strings.Split. (LAID: no walk: one application.) -/
theorem Tryz.strings_Split (s sep : ByteArray) (m : Int) (w : World) (hs : s.size < 4294967281) (hm : w.cell? ⟨0, 0, none⟩ = some (.int .i64 m)) (h1 : 1 ≤ sep.size) :
    Calls Tryz.prog 159 #[.string s, .string sep] w fun e w' =>
      e = .returned (.slice (some ⟨w.heap.size, 0, none⟩) (Lib.countB s sep + 1) (Lib.countB s sep + 1)) ∧ w' = w.alloc (.cells ((Lib.splitB sep 0 (Lib.countB s sep) s).map Value.string).toArray 9) := Any.strings_Split Tryz.lays146 (by kernel_rfl) s sep m w hs hm h1
def Tryz.lays197_ren : Go.Shelf.Ren := ⟨fun | 197 => 162 | 260 => 215 | n => n, fun | 9 => 9 | 21 => 21 | 3 => 3 | 4 => 4 | 5 => 5 | 105 => 172 | 119 => 231 | 0 => 0 | 46 => 136 | 139 => 234 | 138 => 233 | n => n, fun | 3 => 1 | 4 => 2 | n => n⟩
theorem Tryz.lays197 : Go.Proofs.Lays.n197 Tryz.prog Tryz.lays197_ren := {
  mixed := by kernel_rfl
  f197 := Tryz.func162.trans (congrArg some (by kernel_rfl))
  f260 := Tryz.func215.trans (congrArg some (by kernel_rfl))
  t0 := Tryz.underlying0
  a0 := Tryz.isAgg0
  z0 := Tryz.sizeOf0
  v0 := Tryz.zeroValue0
  t3 := Tryz.underlying3
  a3 := Tryz.isAgg3
  z3 := Tryz.sizeOf3
  v3 := Tryz.zeroValue3
  t4 := Tryz.underlying4
  a4 := Tryz.isAgg4
  z4 := Tryz.sizeOf4
  v4 := Tryz.zeroValue4
  t5 := Tryz.underlying5
  a5 := Tryz.isAgg5
  z5 := Tryz.sizeOf5
  v5 := Tryz.zeroValue5
  t9 := Tryz.underlying9
  a9 := Tryz.isAgg9
  z9 := Tryz.sizeOf9
  v9 := Tryz.zeroValue9
  t21 := Tryz.underlying21
  a21 := Tryz.isAgg21
  z21 := Tryz.sizeOf21
  v21 := Tryz.zeroValue21
  t46 := Tryz.underlying136
  a46 := Tryz.isAgg136
  z46 := Tryz.sizeOf136
  v46 := Tryz.zeroValue136
  t105 := Tryz.underlying172
  a105 := Tryz.isAgg172
  z105 := Tryz.sizeOf172
  v105 := Tryz.zeroValue172
  t119 := Tryz.underlying231
  a119 := Tryz.isAgg231
  z119 := Tryz.sizeOf231
  t138 := Tryz.underlying233
  a138 := Tryz.isAgg233
  z138 := Tryz.sizeOf233
  v138 := Tryz.zeroValue233
  t139 := Tryz.underlying234
  a139 := Tryz.isAgg234
  z139 := Tryz.sizeOf234
  v139 := Tryz.zeroValue234
  g3 := by kernel_rfl
  g4 := by kernel_rfl }
def Tryz.lays151_ren : Go.Shelf.Ren := ⟨fun | 151 => 173 | 152 => 177 | 137 => 219 | 119 => 220 | 224 => 201 | 225 => 200 | 217 => 199 | 266 => 234 | n => n, fun | 9 => 9 | 21 => 21 | 4 => 4 | 3 => 3 | 5 => 5 | 0 => 0 | 46 => 136 | n => n, fun | n => n⟩
theorem Tryz.lays151 : Go.Proofs.Lays.n151 Tryz.prog Tryz.lays151_ren := {
  mixed := by kernel_rfl
  f119 := Tryz.func220.trans (congrArg some (by kernel_rfl))
  f137 := Tryz.func219.trans (congrArg some (by kernel_rfl))
  f151 := Tryz.func173.trans (congrArg some (by kernel_rfl))
  f152 := Tryz.func177.trans (congrArg some (by kernel_rfl))
  f217 := Tryz.func199.trans (congrArg some (by kernel_rfl))
  f224 := Tryz.func201.trans (congrArg some (by kernel_rfl))
  f225 := Tryz.func200.trans (congrArg some (by kernel_rfl))
  f266 := Tryz.func234.trans (congrArg some (by kernel_rfl))
  t0 := Tryz.underlying0
  a0 := Tryz.isAgg0
  z0 := Tryz.sizeOf0
  v0 := Tryz.zeroValue0
  t3 := Tryz.underlying3
  a3 := Tryz.isAgg3
  z3 := Tryz.sizeOf3
  v3 := Tryz.zeroValue3
  t4 := Tryz.underlying4
  a4 := Tryz.isAgg4
  z4 := Tryz.sizeOf4
  v4 := Tryz.zeroValue4
  t5 := Tryz.underlying5
  a5 := Tryz.isAgg5
  z5 := Tryz.sizeOf5
  v5 := Tryz.zeroValue5
  t9 := Tryz.underlying9
  a9 := Tryz.isAgg9
  z9 := Tryz.sizeOf9
  v9 := Tryz.zeroValue9
  t21 := Tryz.underlying21
  a21 := Tryz.isAgg21
  z21 := Tryz.sizeOf21
  v21 := Tryz.zeroValue21
  t46 := Tryz.underlying136
  a46 := Tryz.isAgg136
  z46 := Tryz.sizeOf136
  v46 := Tryz.zeroValue136 }
open Go.RowKit Go.Lib in
theorem Tryz.strings_ContainsRune_ascii (s : ByteArray) (r : Int) (w : World) (h0 : 0 ≤ r) (h1 : r < 128) :
    Calls Tryz.prog 173 #[.string s, .int .i32 r] w fun e w' => e = .returned (.bool (decide (0 ≤ Lib.indexByte s.data.toList r.toNat.toUInt8))) ∧ w' = w := Any.strings_ContainsRune_ascii Tryz.lays151 s r w h0 h1
def Tryz.lays260_ren : Go.Shelf.Ren := ⟨fun | 260 => 215 | n => n, fun | 9 => 9 | 21 => 21 | 3 => 3 | 4 => 4 | 5 => 5 | 119 => 231 | 0 => 0 | 46 => 136 | 139 => 234 | 138 => 233 | n => n, fun | 3 => 1 | 4 => 2 | n => n⟩
theorem Tryz.lays260 : Go.Proofs.Lays.n260 Tryz.prog Tryz.lays260_ren := {
  mixed := by kernel_rfl
  f260 := Tryz.func215.trans (congrArg some (by kernel_rfl))
  t0 := Tryz.underlying0
  a0 := Tryz.isAgg0
  z0 := Tryz.sizeOf0
  v0 := Tryz.zeroValue0
  t3 := Tryz.underlying3
  a3 := Tryz.isAgg3
  z3 := Tryz.sizeOf3
  v3 := Tryz.zeroValue3
  t4 := Tryz.underlying4
  a4 := Tryz.isAgg4
  z4 := Tryz.sizeOf4
  v4 := Tryz.zeroValue4
  t5 := Tryz.underlying5
  a5 := Tryz.isAgg5
  z5 := Tryz.sizeOf5
  v5 := Tryz.zeroValue5
  t9 := Tryz.underlying9
  a9 := Tryz.isAgg9
  z9 := Tryz.sizeOf9
  v9 := Tryz.zeroValue9
  t21 := Tryz.underlying21
  a21 := Tryz.isAgg21
  z21 := Tryz.sizeOf21
  v21 := Tryz.zeroValue21
  t46 := Tryz.underlying136
  a46 := Tryz.isAgg136
  z46 := Tryz.sizeOf136
  v46 := Tryz.zeroValue136
  t119 := Tryz.underlying231
  a119 := Tryz.isAgg231
  z119 := Tryz.sizeOf231
  t138 := Tryz.underlying233
  a138 := Tryz.isAgg233
  z138 := Tryz.sizeOf233
  v138 := Tryz.zeroValue233
  t139 := Tryz.underlying234
  a139 := Tryz.isAgg234
  z139 := Tryz.sizeOf234
  v139 := Tryz.zeroValue234
  g3 := by kernel_rfl
  g4 := by kernel_rfl }
open Go.RowKit Go.Lib in
/-- **unicode/utf8.DecodeRuneInString AT EVERY STRING.** (LAID: no walk: one application.) -/
theorem Tryz.utf8_DecodeRuneInString (s : ByteArray) (w : World) (hT : Lib.Utf8Tabs 1 2 w) :
    Calls Tryz.prog 162 #[.string s] w fun e w' => e = .returned (.tuple #[.int .i32 (Lib.decodeGo s).1, .int .i64 (Lib.decodeGo s).2]) ∧ Below w.heap.size w w' := Any.utf8_DecodeRuneInString Tryz.lays197 s w hT
open Go.RowKit Go.Sort in
/-- .. and plain. (LAID: no walk: one application.) -/
theorem Tryz.slices_Sort_string_none (p : Option Addr) (cap : Nat) (w : World) :
    Calls Tryz.prog 56 #[.slice p 0 cap] w fun e w' => e = .returned (.tuple #[]) ∧ w' = w := Any.slices_Sort_string_none Tryz.lays190 p cap w
def Tryz.laysSlF6_f76_ren : Go.Shelf.Ren := ⟨fun | 6 => 76 | 15 => 111 | 14 => 121 | 28 => 153 | 29 => 154 | 20 => 164 | 21 => 165 | 22 => 166 | 23 => 167 | 24 => 168 | 25 => 169 | 26 => 170 | 27 => 171 | 46 => 216 | 47 => 205 | 48 => 206 | 49 => 217 | 50 => 218 | 57 => 246 | n => n, fun | 22 => 71 | 24 => 3 | 25 => 98 | 3 => 3 | 39 => 136 | 0 => 0 | 53 => 163 | 55 => 165 | 4 => 4 | 46 => 156 | 45 => 155 | 50 => 160 | 5 => 5 | 9 => 9 | 66 => 201 | 70 => 76 | 76 => 223 | 77 => 219 | n => n, fun | n => n⟩
theorem Tryz.laysSlF6_f76 : Go.Proofs.SlLaysF.n6 Tryz.prog Tryz.laysSlF6_f76_ren := {
  mixed := by kernel_rfl
  f6 := ⟨Tryz.f76.name, by decide, Tryz.func76.trans (congrArg some (by kernel_rfl))⟩
  f14 := ⟨Tryz.f121.name, by decide, Tryz.func121.trans (congrArg some (by kernel_rfl))⟩
  f15 := Tryz.func111.trans (congrArg some (by kernel_rfl))
  f20 := ⟨Tryz.f164.name, by decide, Tryz.func164.trans (congrArg some (by kernel_rfl))⟩
  f21 := ⟨Tryz.f165.name, by decide, Tryz.func165.trans (congrArg some (by kernel_rfl))⟩
  f22 := ⟨Tryz.f166.name, by decide, Tryz.func166.trans (congrArg some (by kernel_rfl))⟩
  f23 := ⟨Tryz.f167.name, by decide, Tryz.func167.trans (congrArg some (by kernel_rfl))⟩
  f24 := ⟨Tryz.f168.name, by decide, Tryz.func168.trans (congrArg some (by kernel_rfl))⟩
  f25 := ⟨Tryz.f169.name, by decide, Tryz.func169.trans (congrArg some (by kernel_rfl))⟩
  f26 := ⟨Tryz.f170.name, by decide, Tryz.func170.trans (congrArg some (by kernel_rfl))⟩
  f27 := ⟨Tryz.f171.name, by decide, Tryz.func171.trans (congrArg some (by kernel_rfl))⟩
  f28 := Tryz.func153.trans (congrArg some (by kernel_rfl))
  f29 := Tryz.func154.trans (congrArg some (by kernel_rfl))
  f46 := ⟨Tryz.f216.name, by decide, Tryz.func216.trans (congrArg some (by kernel_rfl))⟩
  f47 := Tryz.func205.trans (congrArg some (by kernel_rfl))
  f48 := Tryz.func206.trans (congrArg some (by kernel_rfl))
  f49 := ⟨Tryz.f217.name, by decide, Tryz.func217.trans (congrArg some (by kernel_rfl))⟩
  f50 := ⟨Tryz.f218.name, by decide, Tryz.func218.trans (congrArg some (by kernel_rfl))⟩
  f57 := ⟨Tryz.f246.name, by decide, Tryz.func246.trans (congrArg some (by kernel_rfl))⟩
  t0 := Tryz.underlying0
  a0 := Tryz.isAgg0
  z0 := Tryz.sizeOf0
  v0 := Tryz.zeroValue0
  t3 := Tryz.underlying3
  a3 := Tryz.isAgg3
  z3 := Tryz.sizeOf3
  v3 := Tryz.zeroValue3
  t4 := Tryz.underlying4
  a4 := Tryz.isAgg4
  z4 := Tryz.sizeOf4
  v4 := Tryz.zeroValue4
  t5 := Tryz.underlying5
  a5 := Tryz.isAgg5
  z5 := Tryz.sizeOf5
  v5 := Tryz.zeroValue5
  t9 := Tryz.underlying9
  a9 := Tryz.isAgg9
  z9 := Tryz.sizeOf9
  v9 := Tryz.zeroValue9
  t22 := Tryz.underlying71
  a22 := Tryz.isAgg71
  z22 := Tryz.sizeOf71
  v22 := Tryz.zeroValue71
  a24 := Tryz.isAgg3
  z24 := Tryz.sizeOf3
  t25 := Tryz.underlying98
  a25 := Tryz.isAgg98
  z25 := Tryz.sizeOf98
  v25 := Tryz.zeroValue98
  t39 := Tryz.underlying136
  a39 := Tryz.isAgg136
  z39 := Tryz.sizeOf136
  v39 := Tryz.zeroValue136
  t45 := Tryz.underlying155
  a45 := Tryz.isAgg155
  z45 := Tryz.sizeOf155
  v45 := Tryz.zeroValue155
  t46 := Tryz.underlying156
  a46 := Tryz.isAgg156
  z46 := Tryz.sizeOf156
  v46 := Tryz.zeroValue156
  t50 := Tryz.underlying160
  a50 := Tryz.isAgg160
  z50 := Tryz.sizeOf160
  v50 := Tryz.zeroValue160
  t53 := Tryz.underlying163
  a53 := Tryz.isAgg163
  z53 := Tryz.sizeOf163
  v53 := Tryz.zeroValue163
  t55 := Tryz.underlying165
  a55 := Tryz.isAgg165
  z55 := Tryz.sizeOf165
  v55 := Tryz.zeroValue165
  t66 := Tryz.underlying201
  a66 := Tryz.isAgg201
  z66 := Tryz.sizeOf201
  v66 := Tryz.zeroValue201
  t70 := Tryz.underlying76
  a70 := Tryz.isAgg76
  z70 := Tryz.sizeOf76
  v70 := Tryz.zeroValue76
  t76 := Tryz.underlying223
  a76 := Tryz.isAgg223
  z76 := Tryz.sizeOf223
  v76 := Tryz.zeroValue223
  t77 := Tryz.underlying219
  a77 := Tryz.isAgg219
  z77 := Tryz.sizeOf219
  v77 := Tryz.zeroValue219 }
open Go.RowKit Go.Lib Go.Sort in
/-- **slices.SortFunc, IN THE DOCUMENTATION's OWN TERMS: A PERMUTATION OF WHAT THE ROW HELD, SORTED BY 'cmp(a, b) < 0'.** Which of two equals comes first is left open ("The sort is not guaranteed to be stable"). (LAID AT THE INSTANCE 'slices.SortFunc[[]int,int]': no walk: one application.) -/
theorem Tryz.slices_SortFunc {α : Type} [Inhabited α] (enc : α → Value) (h1 : OneCell enc) (cf : α → α → Int) (hO : SWO (ltOf cf)) (g : Nat) (cb : Array Value) (blk off cap : Nat) (d : Array α) (w : World) (eg : ∀ args w, (callFunc g args).run Tryz.prog w = .ok (.enter g args) w) (hcmp : CmpLays1 Tryz.prog g cb enc cf blk off d.size w) (hH : Holds enc w blk off d) (hblk : blk < w.heap.size) (hsz : d.size < 4611686018427387904) :
    Calls Tryz.prog 76 #[.slice (some ⟨blk, off, none⟩) d.size cap, .func (.func g) #[] cb] w fun e w' =>
      e = .returned (.tuple #[]) ∧ ∃ d' n os, PermIn 0 d.size d d' ∧ SortedIn (ltOf cf) 0 d.size d' ∧ w' = sortWorld enc w blk off n d' os := Any.slices_SortFunc Tryz.laysSlF6_f76 enc h1 cf hO g cb blk off cap d w eg hcmp hH hblk hsz
def Tryz.laysSlF06_f76_ren : Go.Shelf.Ren := ⟨fun | 6 => 76 | 15 => 111 | 14 => 121 | 28 => 153 | 29 => 154 | 20 => 164 | 21 => 165 | 22 => 166 | 23 => 167 | 24 => 168 | 25 => 169 | 26 => 170 | 27 => 171 | 46 => 216 | 47 => 205 | 48 => 206 | 49 => 217 | 50 => 218 | 57 => 246 | n => n, fun | 22 => 71 | 24 => 3 | 25 => 98 | 3 => 3 | 39 => 136 | 0 => 0 | 53 => 163 | 55 => 165 | 4 => 4 | 46 => 156 | 45 => 155 | 50 => 160 | 5 => 5 | 9 => 9 | 66 => 201 | 70 => 76 | 76 => 223 | 77 => 219 | n => n, fun | n => n⟩
theorem Tryz.laysSlF06_f76 : Go.Proofs.SlLaysF0.n6 Tryz.prog Tryz.laysSlF06_f76_ren := {
  mixed := by kernel_rfl
  f6 := ⟨Tryz.f76.name, by decide, Tryz.func76.trans (congrArg some (by kernel_rfl))⟩
  f14 := ⟨Tryz.f121.name, by decide, Tryz.func121.trans (congrArg some (by kernel_rfl))⟩
  f15 := Tryz.func111.trans (congrArg some (by kernel_rfl))
  f20 := ⟨Tryz.f164.name, by decide, Tryz.func164.trans (congrArg some (by kernel_rfl))⟩
  f21 := ⟨Tryz.f165.name, by decide, Tryz.func165.trans (congrArg some (by kernel_rfl))⟩
  f22 := ⟨Tryz.f166.name, by decide, Tryz.func166.trans (congrArg some (by kernel_rfl))⟩
  f23 := ⟨Tryz.f167.name, by decide, Tryz.func167.trans (congrArg some (by kernel_rfl))⟩
  f24 := ⟨Tryz.f168.name, by decide, Tryz.func168.trans (congrArg some (by kernel_rfl))⟩
  f25 := ⟨Tryz.f169.name, by decide, Tryz.func169.trans (congrArg some (by kernel_rfl))⟩
  f26 := ⟨Tryz.f170.name, by decide, Tryz.func170.trans (congrArg some (by kernel_rfl))⟩
  f27 := ⟨Tryz.f171.name, by decide, Tryz.func171.trans (congrArg some (by kernel_rfl))⟩
  f28 := Tryz.func153.trans (congrArg some (by kernel_rfl))
  f29 := Tryz.func154.trans (congrArg some (by kernel_rfl))
  f46 := ⟨Tryz.f216.name, by decide, Tryz.func216.trans (congrArg some (by kernel_rfl))⟩
  f47 := Tryz.func205.trans (congrArg some (by kernel_rfl))
  f48 := Tryz.func206.trans (congrArg some (by kernel_rfl))
  f49 := ⟨Tryz.f217.name, by decide, Tryz.func217.trans (congrArg some (by kernel_rfl))⟩
  f50 := ⟨Tryz.f218.name, by decide, Tryz.func218.trans (congrArg some (by kernel_rfl))⟩
  f57 := ⟨Tryz.f246.name, by decide, Tryz.func246.trans (congrArg some (by kernel_rfl))⟩
  t0 := Tryz.underlying0
  a0 := Tryz.isAgg0
  z0 := Tryz.sizeOf0
  v0 := Tryz.zeroValue0
  t3 := Tryz.underlying3
  a3 := Tryz.isAgg3
  z3 := Tryz.sizeOf3
  v3 := Tryz.zeroValue3
  t4 := Tryz.underlying4
  a4 := Tryz.isAgg4
  z4 := Tryz.sizeOf4
  v4 := Tryz.zeroValue4
  t5 := Tryz.underlying5
  a5 := Tryz.isAgg5
  z5 := Tryz.sizeOf5
  v5 := Tryz.zeroValue5
  t9 := Tryz.underlying9
  a9 := Tryz.isAgg9
  z9 := Tryz.sizeOf9
  v9 := Tryz.zeroValue9
  t22 := Tryz.underlying71
  a22 := Tryz.isAgg71
  z22 := Tryz.sizeOf71
  v22 := Tryz.zeroValue71
  t25 := Tryz.underlying98
  a25 := Tryz.isAgg98
  z25 := Tryz.sizeOf98
  v25 := Tryz.zeroValue98
  t39 := Tryz.underlying136
  a39 := Tryz.isAgg136
  z39 := Tryz.sizeOf136
  v39 := Tryz.zeroValue136
  t45 := Tryz.underlying155
  a45 := Tryz.isAgg155
  z45 := Tryz.sizeOf155
  v45 := Tryz.zeroValue155
  t46 := Tryz.underlying156
  a46 := Tryz.isAgg156
  z46 := Tryz.sizeOf156
  v46 := Tryz.zeroValue156
  t50 := Tryz.underlying160
  a50 := Tryz.isAgg160
  z50 := Tryz.sizeOf160
  v50 := Tryz.zeroValue160
  t53 := Tryz.underlying163
  a53 := Tryz.isAgg163
  z53 := Tryz.sizeOf163
  v53 := Tryz.zeroValue163
  t55 := Tryz.underlying165
  a55 := Tryz.isAgg165
  z55 := Tryz.sizeOf165
  v55 := Tryz.zeroValue165
  t66 := Tryz.underlying201
  a66 := Tryz.isAgg201
  z66 := Tryz.sizeOf201
  v66 := Tryz.zeroValue201
  t70 := Tryz.underlying76
  a70 := Tryz.isAgg76
  z70 := Tryz.sizeOf76
  v70 := Tryz.zeroValue76
  t76 := Tryz.underlying223
  a76 := Tryz.isAgg223
  z76 := Tryz.sizeOf223
  v76 := Tryz.zeroValue223
  t77 := Tryz.underlying219
  a77 := Tryz.isAgg219
  z77 := Tryz.sizeOf219
  v77 := Tryz.zeroValue219 }
open Go.RowKit Go.Lib Go.Sort in
/-- **slices.SortFunc AT NO ELEMENT, A nil SLICE TOO: nothing turns.** (LAID AT THE INSTANCE 'slices.SortFunc[[]int,int]': no walk: one application.) -/
theorem Tryz.slices_SortFunc_none {α : Type} [Inhabited α] (p : Option Addr) (cap : Nat) (fv : Value) (w : World) :
    Calls Tryz.prog 76 #[.slice p 0 cap, fv] w fun e w' => e = .returned (.tuple #[]) ∧ w' = w := AnyF.slices_SortFunc_none Tryz.laysSlF06_f76 p cap fv w
def Tryz.laysSlF0_f76_ren : Go.Shelf.Ren := ⟨fun | 6 => 76 | 15 => 111 | 14 => 121 | 28 => 153 | 29 => 154 | 20 => 164 | 21 => 165 | 22 => 166 | 23 => 167 | 24 => 168 | 25 => 169 | 26 => 170 | 27 => 171 | 46 => 216 | 47 => 205 | 48 => 206 | 49 => 217 | 50 => 218 | 57 => 246 | n => n, fun | 22 => 71 | 24 => 3 | 25 => 98 | 3 => 3 | 39 => 136 | 0 => 0 | 53 => 163 | 55 => 165 | 4 => 4 | 46 => 156 | 45 => 155 | 50 => 160 | 5 => 5 | 9 => 9 | 66 => 201 | 70 => 76 | 76 => 223 | 77 => 219 | n => n, fun | n => n⟩
theorem Tryz.laysSlF0_f76 : Go.Proofs.SlLaysF0.n6 Tryz.prog Tryz.laysSlF0_f76_ren := {
  mixed := by kernel_rfl
  f6 := ⟨Tryz.f76.name, by decide, Tryz.func76.trans (congrArg some (by kernel_rfl))⟩
  f14 := ⟨Tryz.f121.name, by decide, Tryz.func121.trans (congrArg some (by kernel_rfl))⟩
  f15 := Tryz.func111.trans (congrArg some (by kernel_rfl))
  f20 := ⟨Tryz.f164.name, by decide, Tryz.func164.trans (congrArg some (by kernel_rfl))⟩
  f21 := ⟨Tryz.f165.name, by decide, Tryz.func165.trans (congrArg some (by kernel_rfl))⟩
  f22 := ⟨Tryz.f166.name, by decide, Tryz.func166.trans (congrArg some (by kernel_rfl))⟩
  f23 := ⟨Tryz.f167.name, by decide, Tryz.func167.trans (congrArg some (by kernel_rfl))⟩
  f24 := ⟨Tryz.f168.name, by decide, Tryz.func168.trans (congrArg some (by kernel_rfl))⟩
  f25 := ⟨Tryz.f169.name, by decide, Tryz.func169.trans (congrArg some (by kernel_rfl))⟩
  f26 := ⟨Tryz.f170.name, by decide, Tryz.func170.trans (congrArg some (by kernel_rfl))⟩
  f27 := ⟨Tryz.f171.name, by decide, Tryz.func171.trans (congrArg some (by kernel_rfl))⟩
  f28 := Tryz.func153.trans (congrArg some (by kernel_rfl))
  f29 := Tryz.func154.trans (congrArg some (by kernel_rfl))
  f46 := ⟨Tryz.f216.name, by decide, Tryz.func216.trans (congrArg some (by kernel_rfl))⟩
  f47 := Tryz.func205.trans (congrArg some (by kernel_rfl))
  f48 := Tryz.func206.trans (congrArg some (by kernel_rfl))
  f49 := ⟨Tryz.f217.name, by decide, Tryz.func217.trans (congrArg some (by kernel_rfl))⟩
  f50 := ⟨Tryz.f218.name, by decide, Tryz.func218.trans (congrArg some (by kernel_rfl))⟩
  f57 := ⟨Tryz.f246.name, by decide, Tryz.func246.trans (congrArg some (by kernel_rfl))⟩
  t0 := Tryz.underlying0
  a0 := Tryz.isAgg0
  z0 := Tryz.sizeOf0
  v0 := Tryz.zeroValue0
  t3 := Tryz.underlying3
  a3 := Tryz.isAgg3
  z3 := Tryz.sizeOf3
  v3 := Tryz.zeroValue3
  t4 := Tryz.underlying4
  a4 := Tryz.isAgg4
  z4 := Tryz.sizeOf4
  v4 := Tryz.zeroValue4
  t5 := Tryz.underlying5
  a5 := Tryz.isAgg5
  z5 := Tryz.sizeOf5
  v5 := Tryz.zeroValue5
  t9 := Tryz.underlying9
  a9 := Tryz.isAgg9
  z9 := Tryz.sizeOf9
  v9 := Tryz.zeroValue9
  t22 := Tryz.underlying71
  a22 := Tryz.isAgg71
  z22 := Tryz.sizeOf71
  v22 := Tryz.zeroValue71
  t25 := Tryz.underlying98
  a25 := Tryz.isAgg98
  z25 := Tryz.sizeOf98
  v25 := Tryz.zeroValue98
  t39 := Tryz.underlying136
  a39 := Tryz.isAgg136
  z39 := Tryz.sizeOf136
  v39 := Tryz.zeroValue136
  t45 := Tryz.underlying155
  a45 := Tryz.isAgg155
  z45 := Tryz.sizeOf155
  v45 := Tryz.zeroValue155
  t46 := Tryz.underlying156
  a46 := Tryz.isAgg156
  z46 := Tryz.sizeOf156
  v46 := Tryz.zeroValue156
  t50 := Tryz.underlying160
  a50 := Tryz.isAgg160
  z50 := Tryz.sizeOf160
  v50 := Tryz.zeroValue160
  t53 := Tryz.underlying163
  a53 := Tryz.isAgg163
  z53 := Tryz.sizeOf163
  v53 := Tryz.zeroValue163
  t55 := Tryz.underlying165
  a55 := Tryz.isAgg165
  z55 := Tryz.sizeOf165
  v55 := Tryz.zeroValue165
  t66 := Tryz.underlying201
  a66 := Tryz.isAgg201
  z66 := Tryz.sizeOf201
  v66 := Tryz.zeroValue201
  t70 := Tryz.underlying76
  a70 := Tryz.isAgg76
  z70 := Tryz.sizeOf76
  v70 := Tryz.zeroValue76
  t76 := Tryz.underlying223
  a76 := Tryz.isAgg223
  z76 := Tryz.sizeOf223
  v76 := Tryz.zeroValue223
  t77 := Tryz.underlying219
  a77 := Tryz.isAgg219
  z77 := Tryz.sizeOf219
  v77 := Tryz.zeroValue219 }
end Go.Proofs
